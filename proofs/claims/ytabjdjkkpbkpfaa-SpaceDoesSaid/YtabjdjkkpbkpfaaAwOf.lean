/- Acts that came in, as the contracts have them. -/
import Derived.Test.YtabjdjkkpbkpfaaOpen
import Derived.Test.YtabjdjkkpbkpfaaSpW
namespace Go.Proofs.Ytabjdjkkpbkpfaa.Pk
open Go Go.RowKit Go.Proofs.Ytabjdjkkpbkpfaa.HL Go.Proofs.Ytabjdjkkpbkpfaa.Open Go.Proofs.RgP Go.Proofs.RxP Go.Proofs.Ytabjdjkkpbkpfaa.BM
def toA (y : E32) : A18 := ⟨y.f0, ⟨y.f1, y.f2, y.f3, y.f4, y.f5, y.f6⟩, ⟨y.f7, y.f8, y.f9, y.f10⟩, y.f11, y.f12⟩
theorem Aw_of {W : World} {a : Option Addr} {l : List E32} (h : Sl W a (l.flatMap E32.cells)) : Sl W a (Aw (l.map toA)) := by
  have e : Aw (l.map toA) = l.flatMap E32.cells := by unfold Aw; rw [List.flatMap_map]; rfl
  rw [e]; exact h
theorem len_of (l : List E32) : l.length = (l.map toA).length := (List.length_map ..).symm
theorem lit_bd {x : Int} (h : (Lit.int .i64 x).wf = true) : -9223372036854775808 ≤ x ∧ x ≤ 9223372036854775807 := by
  simp only [Lit.wf, Bool.and_eq_true, decide_eq_true_eq] at h
  exact ⟨h.1, h.2⟩
theorem wf_of {l : List E32} (h : ∀ x ∈ l, wf32 x) : ∀ i, i < (l.map toA).length → wfI (vsE (atA (l.map toA) i).e) := fun i hi => by
  have hm : atA (l.map toA) i ∈ l.map toA := List.mem_of_getElem? (atA_get hi)
  obtain ⟨y, hy, e⟩ := List.mem_map.1 hm
  rw [← e]
  obtain ⟨_, _, _, _, _, _, h7, h8, _⟩ := h y hy
  have b7 := lit_bd h7
  have b8 := lit_bd h8
  intro x hx
  have b9 := bI_cases y.f9
  have b10 := bI_cases y.f10
  simp only [vsE, toA, List.mem_cons, List.not_mem_nil, or_false] at hx
  rcases hx with rfl | rfl | rfl | rfl
  · exact b7
  · exact b8
  · omega
  · omega
end Go.Proofs.Ytabjdjkkpbkpfaa.Pk
