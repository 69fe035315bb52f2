/- The table of math/bits, as the row lays it, is what the walks read. -/
import Derived.Test.YtafcmeoidcgmdaaDoorBitsC
import Derived.Test.YtafcmeoidcgmdaaDoorRows
import Derived.ProofKit
import Derived.LaidMore
import Derived.OpenShut
import Derived.Stop.Joined
namespace Go.Proofs.YtafcmeoidcgmdaaDoor.Tab
open Go.ChangeShapes Go.WideShapes Go.ChangeAt Go.RowKit Go.Proofs.YtafcmeoidcgmdaaDoor.Pk Go.Proofs.YtafcmeoidcgmdaaDoor.BM
set_option linter.unusedVariables false
theorem gTab : Tryd.prog.globalNamed "math/bits.deBruijn64tab" = some 0 := by kernel_rfl
theorem tTab : (Tryd.prog.globals[0]?).map (·.type) = some 61 := by kernel_rfl
def laidL : List (String × DataW Unit) := [("math/bits.deBruijn64tab", Rows.laid_math_bits_deBruijn64tab)]
theorem tab_of_laid {W : World} (h : laidMetH Tryd.prog laidL W) : TabOK W := by
  rw [MakeChecks.laidMetH_plain _ _ _ (by kernel_rfl)] at h
  obtain ⟨ps, ⟨g0, t0, cs0, f0, p0, q0, hg0, ht0, hv0, hd0, _, _⟩, _, _⟩ := h
  obtain rfl := Option.some.inj (gTab.symm.trans hg0)
  obtain rfl := Option.some.inj (tTab.symm.trans ht0)
  obtain ⟨xs, m1, rfl, hx1, hlen, hn3, hel⟩ := DataW.trod_array Tryd.underlying61 hd0
  intro j hj
  have hj' := hel j hj
  obtain ⟨x, hx⟩ : ∃ x, xs[j]? = some x := ⟨xs[j]'(by omega), List.getElem?_eq_getElem _⟩
  rw [hx] at hj'
  obtain ⟨k, e1, e2, _⟩ := DataW.trod_int Tryd.underlying5 hj'
  have hl : Rows.laid_math_bits_deBruijn64tab (H := Unit) = .agg (tabT.map fun (n : Nat) => .lit (.int .u8 (n : Int))) := rfl
  rw [hl] at hx1
  simp only [Prod.mk.injEq, DataW.agg.injEq] at hx1
  have hk : (tabT.map fun (n : Nat) => (DataW.lit (.int .u8 (n : Int)) : DataW Unit))[j]? = some x.1 := by rw [hx1.1, List.getElem?_map, hx]; rfl
  rw [List.getElem?_map, List.getElem?_eq_getElem (show j < tabT.length from hj), e2] at hk
  have hk2 : ((tabT.getD j 0 : Nat) : Int) = k := by
    rw [List.getD_eq_getElem?_getD, List.getElem?_eq_getElem (show j < tabT.length from hj)]
    injection hk with hk
    injection hk with hk
    injection hk
  have c5 : Tryd.prog.cellsOf 5 = 1 := by kernel_rfl
  rw [c5, Nat.mul_one] at e1
  have hc : cs0.toList[j]? = some (.int .u8 k) := by
    have h2 : (cs0.toList.drop j).take 1 = [Value.int .u8 k] := e1
    have h3 : ((cs0.toList.drop j).take 1)[0]? = some (Value.int .u8 k) := by rw [h2]; rfl
    rw [List.getElem?_take, if_pos (by decide), List.getElem?_drop] at h3
    exact h3
  rw [World.var?_cell hg0 hv0 j, ← Array.getElem?_toList, hc, ← hk2]
end Go.Proofs.YtafcmeoidcgmdaaDoor.Tab
