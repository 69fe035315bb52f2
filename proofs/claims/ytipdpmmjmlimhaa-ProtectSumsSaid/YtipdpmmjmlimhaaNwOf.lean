/- Groups that came in, as the contracts have them. -/
import Derived.Test.YtipdpmmjmlimhaaOpen
import Derived.Test.YtipdpmmjmlimhaaPrW
namespace Go.Proofs.Ytipdpmmjmlimhaa.Pk
open Go Go.RowKit Go.Proofs.Ytipdpmmjmlimhaa.HL Go.Proofs.Ytipdpmmjmlimhaa.Open Go.Proofs.PrP
theorem flat_len (l : List E38) : (l.flatMap E38.cells).length = l.length * 3 := by
  induction l with
  | nil => rfl
  | cons x l ih => rw [List.flatMap_cons, List.length_append, ih]; simp [E38.cells]; omega
theorem Nw_of (l : List E38) : l.flatMap E38.cells = Nw l.length (fun j => ((l.getD j ⟨0, 0, 0⟩).f0, (l.getD j ⟨0, 0, 0⟩).f1, (l.getD j ⟨0, 0, 0⟩).f2)) := by
  apply List.ext_getElem?
  intro j
  rcases Nat.lt_or_ge j (l.length * 3) with h | h
  · have h1 : j / 3 < l.length := by omega
    have e : j = j / 3 * 3 + j % 3 := by omega
    have hd : l.getD (j / 3) ⟨0, 0, 0⟩ = l[j / 3]'h1 := by simp [List.getD_eq_getElem?_getD, h1]
    rw [e, Nw_get _ _ _ _ h1 (by omega)]
    rcases (by omega : j % 3 = 0 ∨ j % 3 = 1 ∨ j % 3 = 2) with e1 | e1 | e1
    · rw [e1, at38_0 l _ h1]; show _ = some (Value.int .i64 (l.getD (j / 3) ⟨0, 0, 0⟩).f0); rw [hd]
    · rw [e1, at38_1 l _ h1]; show _ = some (Value.int .i64 (l.getD (j / 3) ⟨0, 0, 0⟩).f1); rw [hd]
    · rw [e1, at38_2 l _ h1]; show _ = some (Value.int .i64 (l.getD (j / 3) ⟨0, 0, 0⟩).f2); rw [hd]
  · rw [List.getElem?_eq_none (by rw [flat_len]; exact h), List.getElem?_eq_none (by rw [Nw_length]; exact h)]
end Go.Proofs.Ytipdpmmjmlimhaa.Pk
