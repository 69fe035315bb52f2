/- A table by digits: on the way down; how many nodes: plain Lean. -/
import Derived.Test.YtabjdjkkpbkpfaaRxP
namespace Go.Proofs.RxP
set_option linter.unusedVariables false
set_option linter.unusedSimpArgs false
structure Tab (st : St) (S : Sf) (b : Nat) : Prop where
  tree : Tree st S
  canon : Canon st S 0 0
  root : st.ad 0 0 = b
theorem Tab.new (b : Nat) : Tab (st0 b) (fun _ => none) b := ⟨tree0 b, canon0 b 0 0, rfl⟩
def setS (S : Sf) (n x : Int) : Sf := if 0 ≤ n ∧ n < 65536 then updS S n.toNat (some x) else S
def offS (S : Sf) (n : Int) : Sf := if 0 ≤ n ∧ n < 65536 then updS S n.toNat none else S
theorem setS_nat {S : Sf} {p : Nat} {x : Int} (h : p < 65536) : setS S p x = updS S p (some x) := by unfold setS; rw [if_pos (by omega)]; rfl
theorem setS_no {S : Sf} {n x : Int} (h : ¬ (0 ≤ n ∧ n < 65536)) : setS S n x = S := if_neg h
theorem offS_nat {S : Sf} {p : Nat} (h : p < 65536) : offS S p = updS S p none := by unfold offS; rw [if_pos (by omega)]; rfl
theorem offS_none {S : Sf} {n : Int} (h : gt S n = none) : offS S n = S := by
  unfold offS gt at *
  split
  · rename_i e; rw [if_pos e] at h; exact updS_same h
  · rfl
/-- On the way down to set a word. -/
structure Down (st : St) (S : Sf) (p b k : Nat) : Prop where
  tree : Tree st S
  canon : Canon st S p k
  root : st.ad 0 0 = b
  ex : st.ex k (pfx p k) = true
theorem Down.start {st : St} {S : Sf} {p b : Nat} (hp : p < 65536) (h : Tab st S b) : Down st S p b 0 := ⟨h.tree, h.canon.any p 0, h.root, by rw [pfx_0 hp]; exact h.tree.root⟩
/-- What stands behind making the node that is lacking. -/
def KidIn (st st2 : St) (k q c : Nat) : Prop := (st2 = st ∧ st.ex k q = true) ∨ (st2 = addK st k q c ∧ st.ex k q = false ∧ ∀ j r, st.ex j r = true → st.ad j r ≠ c)
theorem KidIn.ex {st st2 : St} {k q c : Nat} (h : KidIn st st2 k q c) : st2.ex k q = true := by
  rcases h with ⟨rfl, h⟩ | ⟨rfl, _⟩
  · exact h
  · unfold addK; simp
theorem KidIn.hs {st st2 : St} {k q c : Nat} (h : KidIn st st2 (k + 1) q c) (r : Nat) : st2.hs k r = st.hs k r := by
  rcases h with ⟨rfl, h⟩ | ⟨rfl, _⟩
  · rfl
  · unfold addK; dsimp only; rw [if_neg (by omega)]
theorem KidIn.ad {st st2 : St} {k q c : Nat} (h : KidIn st st2 (k + 1) q c) (r : Nat) : st2.ad k r = st.ad k r := by
  rcases h with ⟨rfl, h⟩ | ⟨rfl, _⟩
  · rfl
  · unfold addK; dsimp only; rw [if_neg (by omega)]
theorem Down.next {st st2 : St} {S : Sf} {p b k c : Nat} (hp : p < 65536) (hk : k < 3) (h : Down st S p b k) (h2 : KidIn st st2 (k + 1) (pfx p (k + 1)) c) : Down (setH st2 k (pfx p k) (btw (setB (fun d => st.ex (k + 1) (16 * pfx p k + d)) (dg p k) true))) S p b (k + 1) := by
  rcases h2 with ⟨rfl, he⟩ | ⟨rfl, hno, hc⟩
  · rw [h.tree.down_has hp hk h.ex he]
    exact ⟨h.tree, h.canon.step (fun j q h1 => .inl h1), h.root, he⟩
  · refine ⟨h.tree.down_new hp hk h.ex hno hc, h.canon.step (fun j q h1 => ?_), ?_, ?_⟩
    · have h1 : (if j = k + 1 ∧ q = pfx p (k + 1) then true else st.ex j q) = true := h1
      split at h1
      · rename_i e; exact .inr e
      · exact .inl h1
    · show (if 0 = k + 1 ∧ 0 = pfx p (k + 1) then c else st.ad 0 0) = b
      rw [if_neg (by omega)]; exact h.root
    · show (if k + 1 = k + 1 ∧ pfx p (k + 1) = pfx p (k + 1) then true else st.ex _ _) = true
      rw [if_pos ⟨rfl, rfl⟩]
theorem Down.done {st : St} {S : Sf} {p b : Nat} (hp : p < 65536) (h : Down st S p b 3) (x : Int) : Tab (setH (setW st p x) 3 (pfx p 3) (btw (setB (fun d => (S (16 * pfx p 3 + d)).isSome) (dg p 3) true))) (updS S p (some x)) b :=
  ⟨h.tree.put hp h.ex x, h.canon.put (fun _ _ => rfl) x 0 0, h.root⟩
/-- What dropping leaves, below a node of a level. -/
structure Dropped (st st' : St) (S : Sf) (p k : Nat) : Prop where
  tree : Tree st' (updS S p none)
  canon : Canon st' (updS S p none) p k
  old : ∀ j r, st'.ex j r = true → st.ex j r = true
  ad : ∀ j r, st'.ad j r = st.ad j r
  up : ∀ j r, j ≤ k → st'.ex j r = st.ex j r
theorem Dropped.last {st : St} {S : Sf} {p : Nat} (hp : p < 65536) (h : Tree st S) (hc : Canon st S p 3) (he : st.ex 3 (pfx p 3) = true) : Dropped st (setH (setW st p 0) 3 (pfx p 3) (btw (setB (fun d => (S (16 * pfx p 3 + d)).isSome) (dg p 3) false))) S p 3 :=
  ⟨h.off hp he, Canon.off h hc (fun _ _ => rfl), fun _ _ h => h, fun _ _ => rfl, fun _ _ _ => rfl⟩
theorem Dropped.stay {st st' : St} {S : Sf} {p k : Nat} (hp : p < 65536) (hk : k < 3) (h : Dropped st st' S p (k + 1)) (he : st.ex (k + 1) (pfx p (k + 1)) = true) (h0 : st'.hs (k + 1) (pfx p (k + 1)) ≠ 0) : Dropped st st' S p k :=
  ⟨h.tree, h.canon.stay h.tree hp hk (by rw [h.up _ _ (Nat.le_refl _)]; exact he) h0, h.old, h.ad, fun j r hj => h.up j r (by omega)⟩
theorem Dropped.cut {st st' : St} {S : Sf} {p k : Nat} (hp : p < 65536) (hk : k < 3) (h : Dropped st st' S p (k + 1)) (hek : st.ex k (pfx p k) = true) (he : st.ex (k + 1) (pfx p (k + 1)) = true) (h0 : st'.hs (k + 1) (pfx p (k + 1)) = 0) :
    Dropped st (setH (delK st' (k + 1) (pfx p (k + 1))) k (pfx p k) (btw (setB (fun d => st'.ex (k + 1) (16 * pfx p k + d)) (dg p k) false))) S p k := by
  refine ⟨h.tree.cut hp hk (by rw [h.up _ _ (by omega)]; exact hek) (by rw [h.up _ _ (Nat.le_refl _)]; exact he) h0, h.canon.cut _, fun j r h1 => ?_, h.ad, fun j r hj => ?_⟩
  · have h1 : (if j = k + 1 ∧ r = pfx p (k + 1) then false else st'.ex j r) = true := h1
    split at h1
    · cases h1
    · exact h.old j r h1
  · show (if j = k + 1 ∧ r = pfx p (k + 1) then false else st'.ex j r) = _
    rw [if_neg (by omega)]; exact h.up j r (by omega)
theorem Dropped.tab {st st' : St} {S : Sf} {p b : Nat} (h : Dropped st st' S p 0) (hr : st.ad 0 0 = b) : Tab st' (updS S p none) b := ⟨h.tree, fun k q h1 => by
  rcases h.canon k q h1 with h2 | h2
  · exact .inl h2
  · omega, by rw [h.ad]; exact hr⟩
end Go.Proofs.RxP
