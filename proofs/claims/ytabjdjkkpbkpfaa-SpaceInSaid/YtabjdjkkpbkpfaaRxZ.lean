/- A table by digits: what the laws say: plain Lean. -/
import Derived.Test.YtabjdjkkpbkpfaaRxF
namespace Go.Proofs.Ytabjdjkkpbkpfaa.Pk
open Go.Proofs.RxP
set_option linter.unusedVariables false
set_option linter.unusedSimpArgs false
theorem ents_empty : ∀ n, ents (fun _ => none) n = []
  | 0 => rfl
  | n + 1 => by rw [ents, ents_empty n, entA_no rfl]; rfl
theorem segs_empty (a : Nat) : ∀ n, segs (fun _ => none) a n = []
  | 0 => rfl
  | n + 1 => by rw [segs, segs_empty a n, entA_no rfl]; rfl
theorem rk_empty (n : Nat) : rk (fun _ => none) n = 0 := by unfold rk; rw [ents_empty]; rfl
attribute [local irreducible] ents
/-! ## Acts -/
abbrev Ac := Int × Int × Bool
def stS (f : Nat → Ac) : Nat → Sf
  | 0 => fun _ => none
  | i + 1 => setS (stS f i) (f i).1 (f i).2.1
def stM (f : Nat → Ac) : Nat → Sf
  | 0 => fun _ => none
  | i + 1 => if (f i).2.2 = true then offS (stM f i) (f i).1 else setS (stM f i) (f i).1 (f i).2.1
/-! ## Stretches -/
theorem pagesL_mem {S : Sf} {x : Int} : x ∈ pagesL S ↔ (gt S x).isSome = true := by
  unfold pagesL
  rw [List.mem_map]
  constructor
  · rintro ⟨e, he, rfl⟩
    obtain ⟨p, h1, h2, h3⟩ := (ents_mem 65536 e).1 he
    rw [h3, gt_nat h1, h2]; rfl
  · intro h
    unfold gt at h
    split at h
    · rename_i hr
      obtain ⟨y, hy⟩ := Option.isSome_iff_exists.1 h
      exact ⟨((x.toNat : Nat), y), (ents_mem 65536 _).2 ⟨x.toNat, by omega, hy, rfl⟩, by show ((x.toNat : Nat) : Int) = x; omega⟩
    · cases h
theorem walkL_mem {S : Sf} {a b x : Int} : x ∈ walkL S a b ↔ (gt S x).isSome = true ∧ a ≤ x ∧ x < b := by
  unfold walkL
  rw [List.mem_filter, pagesL_mem]
  unfold inW
  simp
theorem walkL_len (S : Sf) (a b : Int) : (walkL S a b).length ≤ 65536 := by
  unfold walkL
  exact Nat.le_trans (List.length_filter_le _ _) (by rw [pagesL_len]; exact rk_le S 65536)
theorem pagesL_rise (S : Sf) : (pagesL S).Pairwise (· < ·) := by
  rw [← pgs_all]
  unfold pgs
  rw [List.pairwise_map]
  refine List.Pairwise.imp_of_mem ?_ (List.pairwise_lt_range (n := rk S 65536))
  intro i j hi hj hij
  exact nth_lt hij (List.mem_range.1 hj)
theorem walkL_rise (S : Sf) (a b : Int) : (walkL S a b).Pairwise (· < ·) := (pagesL_rise S).sublist List.filter_sublist
theorem filt_parts {l : List Int} (h : l.Pairwise (· < ·)) {a c b : Int} (h1 : a ≤ c) (h2 : c ≤ b) : l.filter (inW a b) = l.filter (inW a c) ++ l.filter (inW c b) := by
  induction l with
  | nil => rfl
  | cons x l ih =>
    rw [List.pairwise_cons] at h
    have ih := ih h.2
    by_cases e : x < c
    · have e2 : inW c b x = false := by unfold inW; simp; omega
      have e3 : inW a b x = inW a c x := by unfold inW; rw [Bool.eq_iff_iff]; simp; omega
      rw [List.filter_cons, List.filter_cons, List.filter_cons, e2, e3, ih]
      cases inW a c x <;> rfl
    · have hl : ∀ y ∈ x :: l, inW a c y = false := fun y hy => by
        rcases List.mem_cons.1 hy with rfl | hy
        · unfold inW; simp; omega
        · have := h.1 y hy; unfold inW; simp; omega
      rw [show (x :: l).filter (inW a c) = [] from List.filter_eq_nil_iff.2 (fun y hy => by rw [hl y hy]; decide), List.nil_append]
      apply List.filter_congr
      intro y hy
      have hc : c ≤ y := by
        rcases List.mem_cons.1 hy with rfl | hy2
        · omega
        · have := h.1 y hy2; omega
      unfold inW
      rw [Bool.eq_iff_iff]; simp; omega
theorem walk_parts (S : Sf) {a c b : Int} (h1 : a ≤ c) (h2 : c ≤ b) : walkL S a b = walkL S a c ++ walkL S c b := filt_parts (pagesL_rise S) h1 h2
def gI (l : List Int) (i : Nat) : Int := (l[i]?).getD 0
theorem gI_get {l : List Int} {i : Nat} (h : i < l.length) : l[i]? = some (gI l i) := by unfold gI; rw [List.getElem?_eq_getElem h]; rfl
theorem gI_mem {l : List Int} {i : Nat} (h : i < l.length) : gI l i ∈ l := List.mem_of_getElem? (gI_get h)
theorem gI_lt {l : List Int} (hp : l.Pairwise (· < ·)) {i j : Nat} (hij : i < j) (hj : j < l.length) : gI l i < gI l j := by
  have := List.pairwise_iff_getElem.1 hp i j (by omega) hj hij
  unfold gI
  rw [List.getElem?_eq_getElem (by omega), List.getElem?_eq_getElem hj]; exact this
theorem walk_all (S : Sf) (hS : ∀ p, 65536 ≤ p → S p = none) : walkL S 0 65536 = pagesL S := by
  unfold walkL
  rw [List.filter_eq_self]
  intro x hx
  have h := pagesL_mem.1 hx
  unfold gt at h
  split at h
  · rename_i hr; unfold inW; simp; exact hr
  · cases h
/-! ## All dropped -/
def dpS (S : Sf) (L : List Int) (i : Nat) : Sf := fun p => if (p : Int) ∈ L.take i then none else S p
theorem dpS_0 (S : Sf) (L : List Int) : dpS S L 0 = S := by funext p; unfold dpS; simp
theorem dpS_succ {S : Sf} {L : List Int} {i : Nat} (hi : i < L.length) (h : 0 ≤ gI L i ∧ gI L i < 65536) : offS (dpS S L i) (gI L i) = dpS S L (i + 1) := by
  obtain ⟨q, hq⟩ := Int.eq_ofNat_of_zero_le h.1
  rw [hq, offS_nat (by omega)]
  funext p
  unfold updS dpS
  have ht : L.take (i + 1) = L.take i ++ [gI L i] := by rw [List.take_add_one, gI_get hi]; rfl
  have hm : (p : Int) ∈ L.take (i + 1) ↔ ((p : Int) ∈ L.take i ∨ p = q) := by rw [ht, List.mem_append, List.mem_singleton, hq]; exact ⟨fun h => h.imp id (fun h => by omega), fun h => h.imp id (fun h => by omega)⟩
  by_cases e : p = q
  · rw [if_pos e, if_pos (hm.2 (.inr e))]
  · rw [if_neg e]
    by_cases e2 : (p : Int) ∈ L.take i
    · rw [if_pos e2, if_pos (hm.2 (.inl e2))]
    · rw [if_neg e2, if_neg (fun h => by rcases hm.1 h with h | h; exact e2 h; exact e h)]
theorem dpS_all {S : Sf} (hS : ∀ p, 65536 ≤ p → S p = none) : dpS S (walkL S 0 65536) (walkL S 0 65536).length = fun _ => none := by
  funext p
  unfold dpS
  rw [List.take_length]
  split
  · rfl
  · rename_i h
    cases e : S p with
    | none => rfl
    | some x =>
      exfalso
      have hp : p < 65536 := by
        rcases Nat.lt_or_ge p 65536 with h1 | h1
        · exact h1
        · rw [hS p h1] at e; cases e
      exact h (walkL_mem.2 ⟨by rw [gt_nat hp, e]; rfl, by omega, by omega⟩)
/-! ## In whatever order -/
def Dst (f : Nat → Ac) (m : Nat) : Prop := ∀ i j, i < j → j < m → (f i).1 ≠ (f j).1
theorem stS_no {f : Nat → Ac} {p : Nat} : ∀ m, (∀ i, i < m → (f i).1 ≠ (p : Int)) → stS f m p = none
  | 0, _ => rfl
  | m + 1, h => by
    have h1 := stS_no m (fun i hi => h i (by omega))
    have h2 := h m (by omega)
    rw [stS]
    unfold setS
    split
    · rw [updS_ne (by omega)]; exact h1
    · exact h1
theorem stS_yes {f : Nat → Ac} {p : Nat} (hp : p < 65536) : ∀ m i, i < m → (f i).1 = (p : Int) → (∀ j, i < j → j < m → (f j).1 ≠ (p : Int)) → stS f m p = some (f i).2.1
  | 0, i, h, _, _ => by omega
  | m + 1, i, h, h1, h2 => by
    rw [stS]
    by_cases e : i = m
    · subst e; rw [h1, setS_nat hp, updS_at]
    · have h3 := stS_yes hp m i (by omega) h1 (fun j hj hj2 => h2 j hj (by omega))
      have h4 := h2 m (by omega) (by omega)
      unfold setS
      split
      · rw [updS_ne (by omega)]; exact h3
      · exact h3
theorem stS_out {f : Nat → Ac} {p : Nat} (hp : 65536 ≤ p) : ∀ m, stS f m p = none
  | 0 => rfl
  | m + 1 => by
    rw [stS]
    unfold setS
    split
    · rw [updS_ne (by omega)]; exact stS_out hp m
    · exact stS_out hp m
theorem stS_rev {f g : Nat → Ac} {m : Nat} (hd : Dst f m) (hg : ∀ i, i < m → g i = f (m - 1 - i)) : stS g m = stS f m := by
  funext p
  rcases Nat.lt_or_ge p 65536 with hp | hp
  · by_cases h : ∃ i, i < m ∧ (f i).1 = (p : Int)
    · obtain ⟨i, hi, he⟩ := h
      rw [stS_yes hp m i hi he (fun j hj hj2 e => hd i j hj hj2 (he.trans e.symm))]
      rw [stS_yes hp m (m - 1 - i) (by omega) (by rw [hg _ (by omega), show m - 1 - (m - 1 - i) = i by omega]; exact he) (fun j hj hj2 e => by
        rw [hg j hj2] at e
        exact hd (m - 1 - j) i (by omega) hi (e.trans he.symm)), hg _ (by omega), show m - 1 - (m - 1 - i) = i by omega]
    · rw [stS_no m (fun i hi e => h ⟨i, hi, e⟩), stS_no m (fun i hi e => h ⟨m - 1 - i, by omega, by rw [hg i hi] at e; exact e⟩)]
  · rw [stS_out hp, stS_out hp]
end Go.Proofs.Ytabjdjkkpbkpfaa.Pk
