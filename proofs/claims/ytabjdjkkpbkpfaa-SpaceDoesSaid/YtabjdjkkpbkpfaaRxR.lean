/- A table in memory; its bits. -/
import Derived.Test.YtabjdjkkpbkpfaaHS
import Derived.Test.YtabjdjkkpbkpfaaRxP
import Derived.Test.YtabjdjkkpbkpfaaProg
import Derived.RowKit3
namespace Go.Proofs.Ytabjdjkkpbkpfaa.Pk
open Go Go.RowKit Go.Proofs.Ytabjdjkkpbkpfaa.HL Go.Proofs.Ytabjdjkkpbkpfaa.Ev Go.Proofs.YtabjdjkkpbkpfaaW.PrintWords Go.Proofs.RxP
set_option linter.unusedVariables false
set_option linter.unusedSimpArgs false

/-! ## A node, the nodes -/
def kidV (st : St) (k p d : Nat) : Option Addr := if kidE st k p d = true then some ⟨st.ad (k + 1) (16 * p + d), 0, none⟩ else none
def gN (st : St) (k p i : Nat) : Value := if i < 16 then .pointer (kidV st k p i) else if i < 32 then .int .u64 (wrd st k p (i - 16)) else .int .u16 (st.hs k p)
def nty (k : Nat) : TypeId := if k = 0 then 93 else 91
def nodeO (st : St) (k p : Nat) : Obj := .cells (rowA 33 (gN st k p)) (nty k) (0, 0)
def Rep (w : World) (st : St) : Prop := ∀ k p, st.ex k p = true → w.heap[st.ad k p]? = some (nodeO st k p)
def tabR (st : St) : Res := ⟨fun b => ∃ k p, st.ex k p = true ∧ st.ad k p = b, fun w => Rep w st, fun h hw k p he => (h _ ⟨k, p, he, rfl⟩).trans (hw k p he), fun {w} hw b ⟨k, p, he, e⟩ => e ▸ blk_lt (hw k p he)⟩
/-- All but one. -/
def tabX (st : St) (k0 p0 : Nat) : Res := ⟨fun b => ∃ k p, st.ex k p = true ∧ ¬ (k = k0 ∧ p = p0) ∧ st.ad k p = b, fun w => ∀ k p, st.ex k p = true → ¬ (k = k0 ∧ p = p0) → w.heap[st.ad k p]? = some (nodeO st k p), fun h hw k p he hn => (h _ ⟨k, p, he, hn, rfl⟩).trans (hw k p he hn), fun {w} hw b ⟨k, p, he, hn, e⟩ => e ▸ blk_lt (hw k p he hn)⟩
theorem Rep.below {W w : World} {st : St} (h : Rep W st) (hb : Below W.heap.size W w) : Rep w st := fun k p he => (hb.block _ (blk_lt (h k p he))).trans (h k p he)
theorem gN_kid (st : St) (k p : Nat) {d : Nat} (h : d < 16) : gN st k p d = .pointer (kidV st k p d) := if_pos h
theorem gN_wrd (st : St) (k p : Nat) {d : Nat} (h : d < 16) : gN st k p (16 + d) = .int .u64 (wrd st k p d) := by unfold gN; rw [if_neg (by omega), if_pos (by omega), Nat.add_sub_cancel_left]
theorem gN_has (st : St) (k p : Nat) : gN st k p 32 = .int .u16 (st.hs k p) := by unfold gN; rw [if_neg (by omega), if_neg (by omega)]
theorem kidV_yes {st : St} {k p d : Nat} (hk : k < 3) (h : st.ex (k + 1) (16 * p + d) = true) : kidV st k p d = some ⟨st.ad (k + 1) (16 * p + d), 0, none⟩ := by unfold kidV kidE; rw [h]; simp [hk]
theorem kidV_no {st : St} {k p d : Nat} (h : st.ex (k + 1) (16 * p + d) = false) : kidV st k p d = none := by unfold kidV kidE; rw [h]; simp
theorem kidV_ex {st : St} {k p d : Nat} (hk : k < 3) (h : (kidV st k p d).isNone = false) : st.ex (k + 1) (16 * p + d) = true := by
  cases e : st.ex (k + 1) (16 * p + d)
  · rw [kidV_no e] at h; cases h
  · rfl
theorem kidV_nx {st : St} {k p d : Nat} (hk : k < 3) (h : (kidV st k p d).isNone = true) : st.ex (k + 1) (16 * p + d) = false := by
  cases e : st.ex (k + 1) (16 * p + d)
  · rfl
  · rw [kidV_yes hk e] at h; cases h
section
variable {W0 w : World} {T : Nat → Prop} {H : List Res} {a b c r x : Res}
/-- A cell of a table that came in. -/
theorem Rep.cell {st : St} {k p i : Nat} {v : Value} (hR : Rep W0 st) (he : st.ex k p = true) (hi : i < 33) (hv : gN st k p i = v) (hT : ∀ k, ¬ T k) : ∀ w, Hp W0 T H w → w.cell? ⟨st.ad k p, i, none⟩ = some v := fun w h => by
  have h1 := hR k p he
  have h2 := (h.chg.block _ (blk_lt h1) (hT _)).trans h1
  rw [blk_cell h2, rowA_get hi, hv]
/-- A cell of one's own table. -/
theorem Hp.tabAt {st : St} {k p i : Nat} {v : Value} (hm : tabR st ∈ H) (he : st.ex k p = true) (hi : i < 33) (hv : gN st k p i = v) : ∀ w, Hp W0 T H w → w.cell? ⟨st.ad k p, i, none⟩ = some v := fun w h => by
  have h2 : w.heap[st.ad k p]? = _ := h.all _ hm k p he
  rw [blk_cell h2, rowA_get hi, hv]
theorem Hp.cut2 (h : Hp W0 T (r :: H) w) (ha : r.holds w → a.holds w) (hb : r.holds w → b.holds w) (fa : ∀ k, a.foot k → r.foot k) (fb : ∀ k, b.foot k → r.foot k) (hab : Apart a b) : Hp W0 T (a :: b :: H) w := by
  have h0 := h.all _ mem0
  have ho := h.own _ mem0
  have hp := h.apart
  rw [List.pairwise_cons] at hp
  refine ⟨h.chg, fun s hs => ?_, ?_, fun s hs => ?_⟩
  · rcases List.mem_cons.1 hs with rfl | hs
    · exact ha h0
    · rcases List.mem_cons.1 hs with rfl | hs
      · exact hb h0
      · exact h.all s (List.mem_cons_of_mem _ hs)
  · rw [List.pairwise_cons, List.pairwise_cons]
    refine ⟨fun s hs => ?_, fun s hs k hk => hp.1 s hs k (fb k hk), hp.2⟩
    rcases List.mem_cons.1 hs with rfl | hs
    · exact hab
    · exact fun k hk => hp.1 s hs k (fa k hk)
  · rcases List.mem_cons.1 hs with rfl | hs
    · exact fun k hk => ho k (fa k hk)
    · rcases List.mem_cons.1 hs with rfl | hs
      · exact fun k hk => ho k (fb k hk)
      · exact h.own s (List.mem_cons_of_mem _ hs)
theorem Hp.join2 (h : Hp W0 T (a :: b :: H) w) (hr : a.holds w → b.holds w → r.holds w) (fr : ∀ k, r.foot k → a.foot k ∨ b.foot k) : Hp W0 T (r :: H) w := by
  have hp := h.apart
  rw [List.pairwise_cons, List.pairwise_cons] at hp
  refine ⟨h.chg, fun s hs => ?_, ?_, fun s hs => ?_⟩
  · rcases List.mem_cons.1 hs with rfl | hs
    · exact hr (h.all _ mem0) (h.all _ mem1)
    · exact h.all s (List.mem_cons_of_mem _ (List.mem_cons_of_mem _ hs))
  · rw [List.pairwise_cons]
    refine ⟨fun s hs k hk => ?_, hp.2.2⟩
    rcases fr k hk with h1 | h1
    · exact hp.1 s (List.mem_cons_of_mem _ hs) k h1
    · exact hp.2.1 s hs k h1
  · rcases List.mem_cons.1 hs with rfl | hs
    · intro k hk
      rcases fr k hk with h1 | h1
      · exact h.own _ mem0 k h1
      · exact h.own _ mem1 k h1
    · exact h.own s (List.mem_cons_of_mem _ (List.mem_cons_of_mem _ hs))
/-- One node by itself, and the rest. -/
theorem Hp.focus {st : St} {S : Sf} {k p : Nat} (hT : Tree st S) (he : st.ex k p = true) (h : Hp W0 T (tabR st :: H) w) : Hp W0 T (blk (st.ad k p) (.cells (rowA 33 (gN st k p)) (nty k) (0, 0)) :: tabX st k p :: H) w :=
  Hp.cut2 h (fun hr => hr k p he) (fun hr j q h1 _ => hr j q h1) (fun j hj => ⟨k, p, he, hj.symm⟩) (fun j ⟨k', p', h1, _, h3⟩ => ⟨k', p', h1, h3⟩) (fun j hj ⟨k', p', h1, h2, h3⟩ => h2 (hT.inj _ _ _ _ h1 he (h3.trans hj)))
theorem rowA_eq {n : Nat} {f g : Nat → Value} (h : ∀ i, i < n → f i = g i) : rowA n f = rowA n g := by
  apply Array.ext
  · rw [rowA_size, rowA_size]
  · intro j h1 h2
    have hj : j < n := by rwa [rowA_size] at h1
    have e1 := rowA_get (g := f) hj
    have e2 := rowA_get (g := g) hj
    rw [Array.getElem?_eq_getElem h1] at e1
    rw [Array.getElem?_eq_getElem h2] at e2
    rw [Option.some.inj e1, Option.some.inj e2, h j hj]
theorem Hp.unfocus {st st' : St} {k p : Nat} {g : Nat → Value} (had : st'.ad k p = st.ad k p) (hg : ∀ i, i < 33 → gN st' k p i = g i) (ho : ∀ j q, st'.ex j q = true → ¬ (j = k ∧ q = p) → st.ex j q = true ∧ st'.ad j q = st.ad j q ∧ ∀ i, i < 33 → gN st' j q i = gN st j q i)
    (h : Hp W0 T (blk (st.ad k p) (.cells (rowA 33 g) (nty k) (0, 0)) :: tabX st k p :: H) w) : Hp W0 T (tabR st' :: H) w := by
  refine Hp.join2 h (fun h1 h2 j q he => ?_) (fun b ⟨j, q, he, hb⟩ => ?_)
  · by_cases e : j = k ∧ q = p
    · obtain ⟨rfl, rfl⟩ := e
      rw [had]
      refine Eq.trans h1 ?_
      unfold nodeO
      rw [rowA_eq hg]
    · obtain ⟨h3, h4, h5⟩ := ho j q he e
      rw [h4, show nodeO st' j q = nodeO st j q by unfold nodeO; rw [rowA_eq h5]]
      exact h2 j q h3 e
  · by_cases e : j = k ∧ q = p
    · left; obtain ⟨rfl, rfl⟩ := e; show b = _; rw [← hb, had]
    · right
      obtain ⟨h3, h4, _⟩ := ho j q he e
      exact ⟨j, q, h3, e, by rw [← h4]; exact hb⟩
def z0 (i : Nat) : Value := if i < 16 then .pointer none else if i < 32 then .int .u64 0 else .int .u16 0
theorem gN_add_self {st : St} {k p d c : Nat} (hk : k < 3) (hd : d < 16) : ∀ i, i < 33 → gN (addK st (k + 1) (16 * p + d) c) k p i = upV (gN st k p) d (.pointer (some ⟨c, 0, none⟩)) i := fun i hi => by
  unfold upV
  by_cases e : i = d
  · subst e
    rw [if_pos rfl, gN_kid _ _ _ hd]
    unfold kidV kidE addK
    simp [hk]
  · rw [if_neg e]
    unfold gN
    by_cases h1 : i < 16
    · rw [if_pos h1, if_pos h1]
      unfold kidV kidE addK
      have : ¬ (16 * p + i = 16 * p + d) := by omega
      simp [this, e]
    · rw [if_neg h1, if_neg h1]
      by_cases h2 : i < 32
      · rw [if_pos h2, if_pos h2]
        unfold wrd
        rw [if_neg (by omega), if_neg (by omega)]
      · rw [if_neg h2, if_neg h2]
        unfold addK
        simp
theorem gN_add_new {st : St} {k q c : Nat} (hk : 0 < k) (hn : k < 3 → ∀ i, i < 16 → st.ex (k + 1) (16 * q + i) = false) : ∀ i, i < 33 → gN (addK st k q c) k q i = z0 i := fun i hi => by
  unfold gN z0
  by_cases h1 : i < 16
  · rw [if_pos h1, if_pos h1]
    have : kidV (addK st k q c) k q i = none := by
      unfold kidV kidE addK
      by_cases h3 : k < 3
      · simp [h3, hn h3 i h1]
      · simp [h3]
    rw [this]
  · rw [if_neg h1, if_neg h1]
    by_cases h2 : i < 32
    · rw [if_pos h2, if_pos h2]
      have : wrd (addK st k q c) k q (i - 16) = 0 := by
        unfold wrd addK
        split
        · rename_i e; subst e; dsimp only; rw [if_pos ⟨rfl, by omega⟩]
        · rfl
      rw [this]
    · rw [if_neg h2, if_neg h2]
      unfold addK
      simp
theorem gN_add_old {st : St} {k q c j r : Nat} (h1 : ¬ (j + 1 = k ∧ r = q / 16)) (h2 : ¬ (j = k ∧ r = q)) : ∀ i, i < 33 → gN (addK st k q c) j r i = gN st j r i := fun i hi => by
  unfold gN
  by_cases h3 : i < 16
  · rw [if_pos h3, if_pos h3]
    have : ¬ (j + 1 = k ∧ 16 * r + i = q) := fun ⟨e1, e2⟩ => h1 ⟨e1, by omega⟩
    unfold kidV kidE addK
    simp only [if_neg this]
  · rw [if_neg h3, if_neg h3]
    by_cases h4 : i < 32
    · rw [if_pos h4, if_pos h4]
      unfold wrd addK
      split
      · rename_i e
        dsimp only
        rw [if_neg]
        rintro ⟨e1, e2⟩
        exact h2 ⟨by omega, by omega⟩
      · rfl
    · rw [if_neg h4, if_neg h4]
      unfold addK
      dsimp only
      rw [if_neg h2]
theorem gN_H_self (st : St) (k p : Nat) (y : Int) : ∀ i, i < 33 → gN (setH st k p y) k p i = upV (gN st k p) 32 (.int .u16 y) i := fun i hi => by
  unfold upV
  by_cases e : i = 32
  · subst e; rw [if_pos rfl, gN_has]; unfold setH; simp
  · rw [if_neg e]
    unfold gN
    by_cases h1 : i < 16
    · rw [if_pos h1, if_pos h1]; rfl
    · rw [if_neg h1, if_neg h1, if_pos (by omega), if_pos (by omega)]; rfl
theorem gN_H_old {st : St} {k p : Nat} {y : Int} {j r : Nat} (h : ¬ (j = k ∧ r = p)) : ∀ i, gN (setH st k p y) j r i = gN st j r i := fun i => by
  unfold gN
  by_cases h1 : i < 16
  · rw [if_pos h1, if_pos h1]; rfl
  · rw [if_neg h1, if_neg h1]
    by_cases h2 : i < 32
    · rw [if_pos h2, if_pos h2]; rfl
    · rw [if_neg h2, if_neg h2]; unfold setH; dsimp only; rw [if_neg h]
theorem gN_W_self (st : St) (p d : Nat) (hd : d < 16) (x : Int) : ∀ i, i < 33 → gN (setW st (16 * p + d) x) 3 p i = upV (gN st 3 p) (16 + d) (.int .u64 x) i := fun i hi => by
  unfold upV
  by_cases e : i = 16 + d
  · subst e; rw [if_pos rfl, gN_wrd _ _ _ hd]; unfold setW wrd; simp
  · rw [if_neg e]
    unfold gN
    by_cases h1 : i < 16
    · rw [if_pos h1, if_pos h1]; rfl
    · rw [if_neg h1, if_neg h1]
      by_cases h2 : i < 32
      · rw [if_pos h2, if_pos h2]
        unfold wrd setW
        dsimp only
        rw [if_pos rfl, if_pos rfl, if_neg (by omega)]
      · rw [if_neg h2, if_neg h2]; rfl
theorem gN_W_old {st : St} {q : Nat} {x : Int} {j r : Nat} (h : ¬ (j = 3 ∧ r = q / 16)) : ∀ i, gN (setW st q x) j r i = gN st j r i := fun i => by
  unfold gN
  by_cases h1 : i < 16
  · rw [if_pos h1, if_pos h1]; rfl
  · rw [if_neg h1, if_neg h1]
    by_cases h2 : i < 32
    · rw [if_pos h2, if_pos h2]
      unfold wrd setW
      dsimp only
      split
      · rw [if_neg]; intro e; exact h ⟨by assumption, by omega⟩
      · rfl
    · rw [if_neg h2, if_neg h2]; rfl
theorem gN_D_self (st : St) (k p d : Nat) (hd : d < 16) : ∀ i, i < 33 → gN (delK st (k + 1) (16 * p + d)) k p i = upV (gN st k p) d (.pointer none) i := fun i hi => by
  unfold upV
  by_cases e : i = d
  · subst e
    rw [if_pos rfl, gN_kid _ _ _ hd]
    unfold kidV kidE delK
    simp
  · rw [if_neg e]
    unfold gN
    by_cases h1 : i < 16
    · rw [if_pos h1, if_pos h1]
      have : ¬ (16 * p + i = 16 * p + d) := by omega
      unfold kidV kidE delK
      simp [this, e]
    · rw [if_neg h1, if_neg h1]; rfl
theorem gN_D_old {st : St} {k q j r : Nat} (h : ¬ (j + 1 = k ∧ r = q / 16)) : ∀ i, i < 33 → gN (delK st k q) j r i = gN st j r i := fun i hi => by
  unfold gN
  by_cases h1 : i < 16
  · rw [if_pos h1, if_pos h1]
    have : ¬ (j + 1 = k ∧ 16 * r + i = q) := fun ⟨e1, e2⟩ => h ⟨e1, by omega⟩
    unfold kidV kidE delK
    simp only [if_neg this]
  · rw [if_neg h1, if_neg h1]; rfl
/-- A new node among the rest. -/
theorem Hp.addX {st : St} {k p d c : Nat} {o : Obj} (hd : d < 16) (hn : k + 1 < 3 → ∀ i, i < 16 → st.ex (k + 1 + 1) (16 * (16 * p + d) + i) = false)
    (h : Hp W0 T (blk c (.cells (rowA 33 z0) 91 (0, 0)) :: blk (st.ad k p) o :: tabX st k p :: H) w) : Hp W0 T (blk (st.ad k p) o :: tabX (addK st (k + 1) (16 * p + d) c) k p :: H) w := by
  refine Hp.swap (Hp.join2 (Hp.out1 (Hp.swap h)) (fun h1 h2 j r he hne => ?_) (fun b ⟨j, r, he, hne, hb⟩ => ?_))
  · by_cases e : j = k + 1 ∧ r = 16 * p + d
    · obtain ⟨rfl, rfl⟩ := e
      have e1 : (addK st (k + 1) (16 * p + d) c).ad (k + 1) (16 * p + d) = c := by unfold addK; simp
      rw [e1]
      refine Eq.trans h1 ?_
      unfold nodeO nty
      rw [if_neg (by omega), rowA_eq (gN_add_new (by omega) hn)]
    · have e1 : (addK st (k + 1) (16 * p + d) c).ad j r = st.ad j r := by unfold addK; dsimp only; rw [if_neg e]
      have e2 : st.ex j r = true := by unfold addK at he; dsimp only at he; rwa [if_neg e] at he
      rw [e1, show nodeO (addK st (k + 1) (16 * p + d) c) j r = nodeO st j r by unfold nodeO; rw [rowA_eq (gN_add_old (fun e3 => hne ⟨by omega, by omega⟩) e)]]
      exact h2 j r e2 hne
  · by_cases e : j = k + 1 ∧ r = 16 * p + d
    · left
      obtain ⟨rfl, rfl⟩ := e
      have e1 : (addK st (k + 1) (16 * p + d) c).ad (k + 1) (16 * p + d) = c := by unfold addK; simp
      rw [e1] at hb; exact hb.symm
    · right
      have e1 : (addK st (k + 1) (16 * p + d) c).ad j r = st.ad j r := by unfold addK; dsimp only; rw [if_neg e]
      have e2 : st.ex j r = true := by unfold addK at he; dsimp only at he; rwa [if_neg e] at he
      exact ⟨j, r, e2, hne, by rw [← e1]; exact hb⟩
/-- What is new is none of those there. -/
theorem Hp.fresh {st : St} {k p c : Nat} {o o' : Obj} (h : Hp W0 T (blk c o :: blk (st.ad k p) o' :: tabX st k p :: H) w) : ∀ j r, st.ex j r = true → st.ad j r ≠ c := fun j r he e => by
  have hp := h.apart
  rw [List.pairwise_cons] at hp
  by_cases e2 : j = k ∧ r = p
  · obtain ⟨rfl, rfl⟩ := e2
    exact hp.1 _ mem0 c rfl e.symm
  · exact hp.1 _ mem1 c rfl ⟨j, r, he, e2, e⟩
/-- An empty table. -/
theorem tab_new {b : Nat} (h : w.heap[b]? = some (.cells (rowA 33 z0) 93 (0, 0))) : (tabR (st0 b)).holds w := fun k p he => by
  have he : (decide (k = 0) && decide (p = 0)) = true := he
  simp at he
  obtain ⟨rfl, rfl⟩ := he
  refine Eq.trans h ?_
  unfold nodeO
  rw [rowA_eq (f := gN (st0 b) 0 0) (g := z0)]
  · rfl
  · intro i hi
    unfold gN z0
    by_cases h1 : i < 16
    · rw [if_pos h1, if_pos h1, kidV_no (by rfl)]
    · rw [if_neg h1, if_neg h1]; rfl
theorem foot_new {b k : Nat} (h : (tabR (st0 b)).foot k) : k = b := by
  obtain ⟨j, q, _, e⟩ := h; exact e.symm
end
/-! ## Bits of a half-word -/
theorem u16w (n : Int) : IntKind.u16.wrap n = n % 65536 := by simp [IntKind.wrap, IntKind.bits, IntKind.signed]
theorem pow16i {d : Nat} (hd : d < 16) : (2 : Nat) ^ d < 65536 := by
  have : ∀ i : Fin 16, (2 : Nat) ^ i.val < 65536 := by decide
  exact this ⟨d, hd⟩
theorem shl16 {d : Nat} (hd : d < 16) : IntKind.u16.wrap (1 * 2 ^ min ((d : Int)).toNat IntKind.u16.bits) = ((2 ^ d : Nat) : Int) := by
  have hp := pow16i hd
  have h2 : (1 : Int) * 2 ^ d = ((2 ^ d : Nat) : Int) := by rw [Int.one_mul]; push_cast; rfl
  rw [Int.toNat_natCast, show min d IntKind.u16.bits = d from Nat.min_eq_left (show d ≤ 16 by omega), h2, u16w]
  generalize (2 : Nat) ^ d = z at hp ⊢
  omega
theorem w16 (n : Int) (h0 : 0 ≤ n) (h1 : n < 2 ^ 16) : IntKind.u16.wrap n = n := by rw [u16w]; omega
theorem or16 (f : Nat → Bool) {d : Nat} (hd : d < 16) : Go.bits .or .u16 (btw f) ((2 ^ d : Nat) : Int) = btw (setB f d true) := by
  have h := (bits_nat .u16 16 (by decide) w16 (wdN f 16) (2 ^ d) (wdN_lt f 16) (pow16i hd)).2
  show Go.bits .or .u16 ((wdN f 16 : Nat) : Int) _ = _
  rw [h, wdN_or f d hd]; rfl
theorem and16 (f : Nat → Bool) {d : Nat} (hd : d < 16) : Go.bits .and .u16 (btw f / 2 ^ min ((d : Int)).toNat IntKind.u16.bits) 1 = if f d then 1 else 0 := by
  have hb := btw_bd f
  rw [Int.toNat_natCast, show min d IntKind.u16.bits = d from Nat.min_eq_left (show d ≤ 16 by omega)]
  have e1 : btw f / 2 ^ d = ((wdN f 16 / 2 ^ d : Nat) : Int) := by unfold btw; push_cast; rfl
  have hl : wdN f 16 / 2 ^ d < 65536 := Nat.lt_of_le_of_lt (Nat.div_le_self _ _) (wdN_lt f 16)
  have hbit := wdN_bit f d hd
  rw [e1]
  generalize wdN f 16 / 2 ^ d = z at hl hbit ⊢
  have h := Go.bits_mask .u16 16 (by decide) w16 1 (by decide) (z : Int) (by omega) (by omega)
  rw [show (1 : Int) = 2 ^ 1 - 1 from rfl, h, show (2 : Int) ^ 1 = 2 from rfl]
  cases e : f d
  · rw [e] at hbit; simp at hbit ⊢; omega
  · rw [e] at hbit; simp at hbit ⊢; omega
theorem off16 (f : Nat → Bool) {d : Nat} (hd : d < 16) : Go.bits .andNot .u16 (btw f) ((2 ^ d : Nat) : Int) = btw (setB f d false) := by
  have hp := pow16i hd
  have h1 := wdN_lt f 16
  have e : (BitVec.ofNat 16 (wdN f 16) &&& ~~~ BitVec.ofNat 16 (2 ^ d)).toNat = wdN (setB f d false) 16 := by
    rw [BitVec.toNat_and, BitVec.toNat_not, BitVec.toNat_ofNat, BitVec.toNat_ofNat, Nat.mod_eq_of_lt h1, Nat.mod_eq_of_lt (by omega), ← wdN_off f d hd]
  unfold btw
  simp only [Go.bits, BitVec.ofInt_natCast, Int.toNat_natCast]
  show IntKind.u16.wrap ((BitVec.ofNat 16 (wdN f 16) &&& ~~~ BitVec.ofNat 16 (2 ^ d)).toNat : Int) = _
  rw [e]
  have := wdN_lt (setB f d false) 16
  exact w16 _ (by omega) (by omega)
theorem andI (x : Int) (h0 : 0 ≤ x) (h1 : x < 9223372036854775808) : Go.bits .and .i64 x 15 = x % 16 :=
  Go.bits_mask .i64 63 (by decide) (fun n h0 h1 => by rw [IntKind.wrap_i64]; omega) 4 (by decide) x h0 (by omega)
theorem dig_is {p lv : Nat} (hp : p < 65536) (hl : lv ≤ 3) : Go.bits .and .i64 ((p : Int) / 2 ^ min (4 * (3 - (lv : Int))).toNat IntKind.i64.bits) 15 = (dg p lv : Int) := by
  rcases (by omega : lv = 0 ∨ lv = 1 ∨ lv = 2 ∨ lv = 3) with rfl | rfl | rfl | rfl
  · show Go.bits .and .i64 ((p : Int) / 4096) 15 = ((p / 4096 % 16 : Nat) : Int)
    rw [andI _ (by omega) (by omega)]; omega
  · show Go.bits .and .i64 ((p : Int) / 256) 15 = ((p / 256 % 16 : Nat) : Int)
    rw [andI _ (by omega) (by omega)]; omega
  · show Go.bits .and .i64 ((p : Int) / 16) 15 = ((p / 16 % 16 : Nat) : Int)
    rw [andI _ (by omega) (by omega)]; omega
  · show Go.bits .and .i64 ((p : Int) / 1) 15 = ((p % 16 : Nat) : Int)
    rw [andI _ (by omega) (by omega)]; omega
theorem orI {a d : Nat} (ha : a < 65536) (hd : d < 16) : Go.bits .or .i64 (16 * (a : Int)) (d : Int) = ((16 * a + d : Nat) : Int) := by
  have h := (bits_nat .i64 63 (by decide) (fun n h0 h1 => by rw [IntKind.wrap_i64]; omega) (16 * a) d (by omega) (by omega)).2
  have e : 16 * a ||| d = 16 * a + d := (Nat.two_pow_add_eq_or_of_lt (i := 4) hd a).symm
  have h2 : Go.bits .or .i64 ((16 * a : Nat) : Int) (d : Int) = ((16 * a ||| d : Nat) : Int) := by first | exact h | exact h.1
  rw [e] at h2
  exact_mod_cast h2
end Go.Proofs.Ytabjdjkkpbkpfaa.Pk
