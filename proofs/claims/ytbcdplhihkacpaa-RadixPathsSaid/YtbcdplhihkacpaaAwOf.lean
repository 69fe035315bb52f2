/- Acts that came in, as the contracts have them. -/
import Derived.Test.YtbcdplhihkacpaaOpen
import Derived.Test.YtbcdplhihkacpaaRxW
namespace Go.Proofs.Ytbcdplhihkacpaa.Pk
open Go Go.RowKit Go.Proofs.Ytbcdplhihkacpaa.HL Go.Proofs.Ytbcdplhihkacpaa.Open Go.Proofs.RxP
theorem flat_len (l : List E30) : (l.flatMap E30.cells).length = l.length * 3 := by
  induction l with
  | nil => rfl
  | cons x l ih => rw [List.flatMap_cons, List.length_append, ih]; simp [E30.cells]; omega
theorem Aw_of (l : List E30) : l.flatMap E30.cells = Aw l.length (fun j => ((l.getD j ⟨0, 0, false⟩).f0, (l.getD j ⟨0, 0, false⟩).f1, (l.getD j ⟨0, 0, false⟩).f2)) := by
  apply List.ext_getElem?
  intro j
  rcases Nat.lt_or_ge j (l.length * 3) with h | h
  · have h1 : j / 3 < l.length := by omega
    have e : j = j / 3 * 3 + j % 3 := by omega
    have hd : l.getD (j / 3) ⟨0, 0, false⟩ = l[j / 3]'h1 := by simp [List.getD_eq_getElem?_getD, h1]
    rw [e, Aw_get _ _ _ _ h1 (by omega)]
    rcases (by omega : j % 3 = 0 ∨ j % 3 = 1 ∨ j % 3 = 2) with e1 | e1 | e1
    · rw [e1, at30_0 l _ h1]; show _ = some (Value.int .i64 (l.getD (j / 3) ⟨0, 0, false⟩).f0); rw [hd]
    · rw [e1, at30_1 l _ h1]; show _ = some (Value.int .u64 (l.getD (j / 3) ⟨0, 0, false⟩).f1); rw [hd]
    · rw [e1, at30_2 l _ h1]; show _ = some (Value.bool (l.getD (j / 3) ⟨0, 0, false⟩).f2); rw [hd]
  · rw [List.getElem?_eq_none (by rw [flat_len]; exact h), List.getElem?_eq_none (by rw [Aw_length]; exact h)]
end Go.Proofs.Ytbcdplhihkacpaa.Pk
