/- A table by digits: what the laws say: plain Lean. -/
import Derived.Test.YtabjdjkkpbkpfaaRxF
namespace Go.Proofs.Ytabjdjkkpbkpfaa.Pk
open Go.Proofs.RxP
set_option linter.unusedVariables false
set_option linter.unusedSimpArgs false
theorem ents_empty : ∀ n, ents (fun _ => none) n = []
  | 0 => rfl
  | n + 1 => by rw [ents, ents_empty n, entA_no rfl]; rfl
attribute [local irreducible] ents
/-! ## Stretches -/
theorem pagesL_mem {S : Sf} {x : Int} : x ∈ pagesL S ↔ (gt S x).isSome = true := by
  unfold pagesL
  rw [List.mem_map]
  constructor
  · rintro ⟨e, he, rfl⟩
    obtain ⟨p, h1, h2, h3⟩ := (ents_mem 65536 e).1 he
    rw [h3, gt_nat h1, h2]; rfl
  · intro h
    unfold gt at h
    split at h
    · rename_i hr
      obtain ⟨y, hy⟩ := Option.isSome_iff_exists.1 h
      exact ⟨((x.toNat : Nat), y), (ents_mem 65536 _).2 ⟨x.toNat, by omega, hy, rfl⟩, by show ((x.toNat : Nat) : Int) = x; omega⟩
    · cases h
theorem walkL_mem {S : Sf} {a b x : Int} : x ∈ walkL S a b ↔ (gt S x).isSome = true ∧ a ≤ x ∧ x < b := by
  unfold walkL
  rw [List.mem_filter, pagesL_mem]
  unfold inW
  simp
theorem walkL_len (S : Sf) (a b : Int) : (walkL S a b).length ≤ 65536 := by
  unfold walkL
  exact Nat.le_trans (List.length_filter_le _ _) (by rw [pagesL_len]; exact rk_le S 65536)
theorem pagesL_rise (S : Sf) : (pagesL S).Pairwise (· < ·) := by
  rw [← pgs_all]
  unfold pgs
  rw [List.pairwise_map]
  refine List.Pairwise.imp_of_mem ?_ (List.pairwise_lt_range (n := rk S 65536))
  intro i j hi hj hij
  exact nth_lt hij (List.mem_range.1 hj)
theorem walkL_rise (S : Sf) (a b : Int) : (walkL S a b).Pairwise (· < ·) := (pagesL_rise S).sublist List.filter_sublist
def gI (l : List Int) (i : Nat) : Int := (l[i]?).getD 0
theorem gI_get {l : List Int} {i : Nat} (h : i < l.length) : l[i]? = some (gI l i) := by unfold gI; rw [List.getElem?_eq_getElem h]; rfl
theorem gI_mem {l : List Int} {i : Nat} (h : i < l.length) : gI l i ∈ l := List.mem_of_getElem? (gI_get h)
end Go.Proofs.Ytabjdjkkpbkpfaa.Pk
