/- A table by digits: on the way down; how many nodes: plain Lean. -/
import Derived.Test.YtabjdjkkpbkpfaaRxP
namespace Go.Proofs.RxP
set_option linter.unusedVariables false
set_option linter.unusedSimpArgs false
structure Tab (st : St) (S : Sf) (b : Nat) : Prop where
  tree : Tree st S
  canon : Canon st S 0 0
  root : st.ad 0 0 = b
theorem Tab.new (b : Nat) : Tab (st0 b) (fun _ => none) b := ⟨tree0 b, canon0 b 0 0, rfl⟩
def setS (S : Sf) (n x : Int) : Sf := if 0 ≤ n ∧ n < 65536 then updS S n.toNat (some x) else S
def offS (S : Sf) (n : Int) : Sf := if 0 ≤ n ∧ n < 65536 then updS S n.toNat none else S
theorem setS_nat {S : Sf} {p : Nat} {x : Int} (h : p < 65536) : setS S p x = updS S p (some x) := by unfold setS; rw [if_pos (by omega)]; rfl
theorem setS_no {S : Sf} {n x : Int} (h : ¬ (0 ≤ n ∧ n < 65536)) : setS S n x = S := if_neg h
theorem offS_nat {S : Sf} {p : Nat} (h : p < 65536) : offS S p = updS S p none := by unfold offS; rw [if_pos (by omega)]; rfl
theorem offS_no {S : Sf} {n : Int} (h : ¬ (0 ≤ n ∧ n < 65536)) : offS S n = S := if_neg h
theorem offS_none {S : Sf} {n : Int} (h : gt S n = none) : offS S n = S := by
  unfold offS gt at *
  split
  · rename_i e; rw [if_pos e] at h; exact updS_same h
  · rfl
/-- On the way down to set a word. -/
structure Down (st : St) (S : Sf) (p b k : Nat) : Prop where
  tree : Tree st S
  canon : Canon st S p k
  root : st.ad 0 0 = b
  ex : st.ex k (pfx p k) = true
theorem Down.start {st : St} {S : Sf} {p b : Nat} (hp : p < 65536) (h : Tab st S b) : Down st S p b 0 := ⟨h.tree, h.canon.any p 0, h.root, by rw [pfx_0 hp]; exact h.tree.root⟩
/-- What stands behind making the node that is lacking. -/
def KidIn (st st2 : St) (k q c : Nat) : Prop := (st2 = st ∧ st.ex k q = true) ∨ (st2 = addK st k q c ∧ st.ex k q = false ∧ ∀ j r, st.ex j r = true → st.ad j r ≠ c)
theorem KidIn.ex {st st2 : St} {k q c : Nat} (h : KidIn st st2 k q c) : st2.ex k q = true := by
  rcases h with ⟨rfl, h⟩ | ⟨rfl, _⟩
  · exact h
  · unfold addK; simp
theorem KidIn.hs {st st2 : St} {k q c : Nat} (h : KidIn st st2 (k + 1) q c) (r : Nat) : st2.hs k r = st.hs k r := by
  rcases h with ⟨rfl, h⟩ | ⟨rfl, _⟩
  · rfl
  · unfold addK; dsimp only; rw [if_neg (by omega)]
theorem KidIn.ad {st st2 : St} {k q c : Nat} (h : KidIn st st2 (k + 1) q c) (r : Nat) : st2.ad k r = st.ad k r := by
  rcases h with ⟨rfl, h⟩ | ⟨rfl, _⟩
  · rfl
  · unfold addK; dsimp only; rw [if_neg (by omega)]
theorem KidIn.old {st st2 : St} {k q c : Nat} (h : KidIn st st2 k q c) {j r : Nat} (he : st.ex j r = true) : st2.ex j r = true := by
  rcases h with ⟨rfl, h⟩ | ⟨rfl, _⟩
  · exact he
  · unfold addK; dsimp only; split; rfl; exact he
theorem Down.next {st st2 : St} {S : Sf} {p b k c : Nat} (hp : p < 65536) (hk : k < 3) (h : Down st S p b k) (h2 : KidIn st st2 (k + 1) (pfx p (k + 1)) c) : Down (setH st2 k (pfx p k) (btw (setB (fun d => st.ex (k + 1) (16 * pfx p k + d)) (dg p k) true))) S p b (k + 1) := by
  rcases h2 with ⟨rfl, he⟩ | ⟨rfl, hno, hc⟩
  · rw [h.tree.down_has hp hk h.ex he]
    exact ⟨h.tree, h.canon.step (fun j q h1 => .inl h1), h.root, he⟩
  · refine ⟨h.tree.down_new hp hk h.ex hno hc, h.canon.step (fun j q h1 => ?_), ?_, ?_⟩
    · have h1 : (if j = k + 1 ∧ q = pfx p (k + 1) then true else st.ex j q) = true := h1
      split at h1
      · rename_i e; exact .inr e
      · exact .inl h1
    · show (if 0 = k + 1 ∧ 0 = pfx p (k + 1) then c else st.ad 0 0) = b
      rw [if_neg (by omega)]; exact h.root
    · show (if k + 1 = k + 1 ∧ pfx p (k + 1) = pfx p (k + 1) then true else st.ex _ _) = true
      rw [if_pos ⟨rfl, rfl⟩]
theorem Down.done {st : St} {S : Sf} {p b : Nat} (hp : p < 65536) (h : Down st S p b 3) (x : Int) : Tab (setH (setW st p x) 3 (pfx p 3) (btw (setB (fun d => (S (16 * pfx p 3 + d)).isSome) (dg p 3) true))) (updS S p (some x)) b :=
  ⟨h.tree.put hp h.ex x, h.canon.put (fun _ _ => rfl) x 0 0, h.root⟩
/-- What dropping leaves, below a node of a level. -/
structure Dropped (st st' : St) (S : Sf) (p k : Nat) : Prop where
  tree : Tree st' (updS S p none)
  canon : Canon st' (updS S p none) p k
  old : ∀ j r, st'.ex j r = true → st.ex j r = true
  ad : ∀ j r, st'.ad j r = st.ad j r
  up : ∀ j r, j ≤ k → st'.ex j r = st.ex j r
theorem Dropped.last {st : St} {S : Sf} {p : Nat} (hp : p < 65536) (h : Tree st S) (hc : Canon st S p 3) (he : st.ex 3 (pfx p 3) = true) : Dropped st (setH (setW st p 0) 3 (pfx p 3) (btw (setB (fun d => (S (16 * pfx p 3 + d)).isSome) (dg p 3) false))) S p 3 :=
  ⟨h.off hp he, Canon.off h hc (fun _ _ => rfl), fun _ _ h => h, fun _ _ => rfl, fun _ _ _ => rfl⟩
theorem Dropped.stay {st st' : St} {S : Sf} {p k : Nat} (hp : p < 65536) (hk : k < 3) (h : Dropped st st' S p (k + 1)) (he : st.ex (k + 1) (pfx p (k + 1)) = true) (h0 : st'.hs (k + 1) (pfx p (k + 1)) ≠ 0) : Dropped st st' S p k :=
  ⟨h.tree, h.canon.stay h.tree hp hk (by rw [h.up _ _ (Nat.le_refl _)]; exact he) h0, h.old, h.ad, fun j r hj => h.up j r (by omega)⟩
theorem Dropped.cut {st st' : St} {S : Sf} {p k : Nat} (hp : p < 65536) (hk : k < 3) (h : Dropped st st' S p (k + 1)) (hek : st.ex k (pfx p k) = true) (he : st.ex (k + 1) (pfx p (k + 1)) = true) (h0 : st'.hs (k + 1) (pfx p (k + 1)) = 0) :
    Dropped st (setH (delK st' (k + 1) (pfx p (k + 1))) k (pfx p k) (btw (setB (fun d => st'.ex (k + 1) (16 * pfx p k + d)) (dg p k) false))) S p k := by
  refine ⟨h.tree.cut hp hk (by rw [h.up _ _ (by omega)]; exact hek) (by rw [h.up _ _ (Nat.le_refl _)]; exact he) h0, h.canon.cut _, fun j r h1 => ?_, h.ad, fun j r hj => ?_⟩
  · have h1 : (if j = k + 1 ∧ r = pfx p (k + 1) then false else st'.ex j r) = true := h1
    split at h1
    · cases h1
    · exact h.old j r h1
  · show (if j = k + 1 ∧ r = pfx p (k + 1) then false else st'.ex j r) = _
    rw [if_neg (by omega)]; exact h.up j r (by omega)
theorem Dropped.tab {st st' : St} {S : Sf} {p b : Nat} (h : Dropped st st' S p 0) (hr : st.ad 0 0 = b) : Tab st' (updS S p none) b := ⟨h.tree, fun k q h1 => by
  rcases h.canon k q h1 with h2 | h2
  · exact .inl h2
  · omega, by rw [h.ad]; exact hr⟩
/-! ## How many nodes -/
def smN (f : Nat → Nat) : Nat → Nat
  | 0 => 0
  | n + 1 => smN f n + f n
theorem smN_congr {f g : Nat → Nat} : ∀ n, (∀ i, i < n → f i = g i) → smN f n = smN g n
  | 0, _ => rfl
  | n + 1, h => by rw [smN, smN, smN_congr n (fun i hi => h i (by omega)), h n (by omega)]
theorem smN_add (f g : Nat → Nat) : ∀ n, smN (fun i => f i + g i) n = smN f n + smN g n
  | 0 => rfl
  | n + 1 => by rw [smN, smN, smN, smN_add f g n]; omega
theorem smN_split (f : Nat → Nat) (a : Nat) : ∀ n, smN f (a + n) = smN f a + smN (fun i => f (a + i)) n
  | 0 => rfl
  | n + 1 => by rw [← Nat.add_assoc, smN, smN_split f a n, smN]; omega
theorem smN_blocks (f : Nat → Nat) (b : Nat) : ∀ a, smN f (b * a) = smN (fun i => smN (fun j => f (b * i + j)) b) a
  | 0 => rfl
  | a + 1 => by rw [Nat.mul_succ, smN_split, smN_blocks f b a, smN]
theorem smN_zero {f : Nat → Nat} : ∀ n, (∀ i, i < n → f i = 0) → smN f n = 0
  | 0, _ => rfl
  | n + 1, h => by rw [smN, smN_zero n (fun i hi => h i (by omega)), h n (by omega)]
theorem smN_le {f : Nat → Nat} {c : Nat} : ∀ n, (∀ i, i < n → f i ≤ c) → smN f n ≤ n * c
  | 0, _ => Nat.zero_le _
  | n + 1, h => by
    have := smN_le n (fun i hi => h i (by omega))
    have := h n (by omega)
    rw [smN, Nat.succ_mul]; omega
def b2n (b : Bool) : Nat := if b then 1 else 0
/-- How many nodes from one on down. -/
def cnt (st : St) : Nat → Nat → Nat → Nat
  | 0, _, _ => 1
  | n + 1, k, p => 1 + smN (fun d => if st.ex (k + 1) (16 * p + d) then cnt st n (k + 1) (16 * p + d) else 0) 16
theorem cnt_le (st : St) : ∀ n k p, cnt st n k p ≤ 20 ^ n
  | 0, _, _ => Nat.le_refl _
  | n + 1, k, p => by
    rw [cnt]
    have h := smN_le (f := fun d => if st.ex (k + 1) (16 * p + d) then cnt st n (k + 1) (16 * p + d) else 0) (c := 20 ^ n) 16 (fun i _ => by
      (try dsimp only); split
      · exact cnt_le st n _ _
      · exact Nat.zero_le _)
    have := Nat.pow_pos (n := n) (show 0 < 20 by decide)
    rw [Nat.pow_succ]; omega
def lvl (st : St) (k n : Nat) : Nat := smN (fun q => b2n (st.ex k q)) n
theorem cnt_1 (st : St) (p : Nat) : cnt st 1 2 p = 1 + smN (fun d => b2n (st.ex 3 (16 * p + d))) 16 := by
  rw [cnt]; rfl
theorem cnt_2 {st : St} {S : Sf} (h : Tree st S) (p : Nat) : cnt st 2 1 p = 1 + smN (fun d => b2n (st.ex 2 (16 * p + d))) 16 + smN (fun d => b2n (st.ex 3 (256 * p + d))) 256 := by
  rw [cnt, show (256 : Nat) = 16 * 16 from rfl, smN_blocks, Nat.add_assoc, ← smN_add]
  congr 1
  apply smN_congr
  intro i hi
  (try dsimp only)
  cases e : st.ex 2 (16 * p + i)
  · rw [smN_zero]
    · rfl
    · intro j hj
      have := h.below_no e j hj
      rw [show 16 * (16 * p + i) + j = 16 * 16 * p + (16 * i + j) by omega] at this
      rw [this]; rfl
  · rw [if_pos rfl, cnt_1]
    congr 1
    apply smN_congr
    intro j _
    rw [show 16 * (16 * p + i) + j = 16 * 16 * p + (16 * i + j) by omega]
theorem cnt_3 {st : St} {S : Sf} (h : Tree st S) : cnt st 3 0 0 = 1 + lvl st 1 16 + lvl st 2 256 + lvl st 3 4096 := by
  unfold lvl
  rw [cnt, show (4096 : Nat) = 256 * 16 from rfl, smN_blocks _ 256, show (256 : Nat) = 16 * 16 from rfl, smN_blocks _ 16, Nat.add_assoc, Nat.add_assoc, ← smN_add, ← smN_add]
  congr 1
  apply smN_congr
  intro i hi
  (try dsimp only)
  simp only [Nat.mul_zero, Nat.zero_add]
  cases e : st.ex 1 i
  · rw [smN_zero, smN_zero]
    · rfl
    · intro j hj
      have h2 := h.below_no (k := 2) (q := 16 * i + j / 16) (by have := h.below_no e (j / 16) (by omega); exact this) (j % 16) (by omega)
      rw [show 16 * (16 * i + j / 16) + j % 16 = 16 * 16 * i + j by omega] at h2
      rw [h2]; rfl
    · intro j hj
      rw [h.below_no e j hj]; rfl
  · rw [if_pos rfl, cnt_2 h]
    show 1 + _ + _ = 1 + (_ + _)
    rw [Nat.add_assoc]
/-! ### Blocks of pages that have a word -/
/-- Is there one in a block? -/
def anyS (S : Sf) (a : Nat) : Nat → Bool
  | 0 => false
  | n + 1 => anyS S a n || (S (a + n)).isSome
theorem anyS_iff {S : Sf} {a : Nat} : ∀ n, anyS S a n = true ↔ ∃ p, a ≤ p ∧ p < a + n ∧ (S p).isSome = true
  | 0 => by simp [anyS]; omega
  | n + 1 => by
    rw [anyS, Bool.or_eq_true, anyS_iff n]
    constructor
    · rintro (⟨p, h1, h2, h3⟩ | h)
      · exact ⟨p, h1, by omega, h3⟩
      · exact ⟨a + n, by omega, by omega, h⟩
    · rintro ⟨p, h1, h2, h3⟩
      by_cases e : p = a + n
      · right; rw [← e]; exact h3
      · left; exact ⟨p, h1, by omega, h3⟩
/-- How many blocks have one. -/
def blks (S : Sf) (d n : Nat) : Nat := smN (fun q => b2n (anyS S (d * q) d)) n
theorem lvl_is {st : St} {S : Sf} {b : Nat} (h : Tab st S b) {k d : Nat} (hk : k < 3) (hd : ∀ p, pfx p (k + 1) = p / d) (hd0 : 0 < d) (n : Nat) : lvl st (k + 1) n = blks S d n := by
  unfold lvl blks
  apply smN_congr
  intro q _
  congr 1
  cases e : anyS S (d * q) d
  · cases e2 : st.ex (k + 1) q
    · rfl
    · rcases h.canon k q e2 with ⟨p, h1, h2⟩ | h2
      · rw [hd] at h2
        have : anyS S (d * q) d = true := (anyS_iff d).2 ⟨p, by rw [← h2]; exact Nat.mul_div_le _ _, by rw [← h2]; have := Nat.lt_mul_div_succ p hd0; rw [Nat.mul_succ] at this; exact this, h1⟩
        rw [e] at this; cases this
      · omega
  · obtain ⟨p, h1, h2, h3⟩ := (anyS_iff d).1 e
    have := h.tree.path h3 (k := k + 1) (by omega)
    rw [hd, show p / d = q from Nat.div_eq_of_lt_le (by rw [Nat.mul_comm]; exact h1) (by rw [Nat.mul_comm, Nat.mul_succ]; exact h2)] at this
    exact this
def nodes (S : Sf) : Nat := 1 + blks S 4096 16 + blks S 256 256 + blks S 16 4096
theorem nodes_is {st : St} {S : Sf} {b : Nat} (h : Tab st S b) : cnt st 3 0 0 = nodes S := by
  rw [cnt_3 h.tree, lvl_is h (k := 0) (d := 4096) (by decide) (fun _ => rfl) (by decide), lvl_is h (k := 1) (d := 256) (by decide) (fun _ => rfl) (by decide), lvl_is h (k := 2) (d := 16) (by decide) (fun _ => rfl) (by decide)]
  rfl
end Go.Proofs.RxP
