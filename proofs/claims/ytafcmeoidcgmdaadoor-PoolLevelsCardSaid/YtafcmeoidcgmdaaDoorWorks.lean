/- The document's examples. -/
import Derived.Test.YtafcmeoidcgmdaaDoorPoolB
import Derived.Test.YtafcmeoidcgmdaaDoorOpen
import Derived.Test.YtafcmeoidcgmdaaDoorProg
import Derived.RowKit3
namespace Go.Proofs.YtafcmeoidcgmdaaDoor.Pk
open Go Go.RowKit Go.Proofs.YtafcmeoidcgmdaaDoor.HL Go.Proofs.YtafcmeoidcgmdaaDoor.Ev Go.Proofs.YtafcmeoidcgmdaaDoorW.PrintWords Go.Proofs.YtafcmeoidcgmdaaDoor.BM
set_option linter.unusedVariables false
set_option linter.unusedSimpArgs false
section
variable {W0 w : World} {T : Nat → Prop} {H : List Res} {p b g c n : Nat} {f : Nat → Bool}
theorem poolR_map (h : (poolR p b g n f).holds w) : (mapR b g n f).holds w := by unfold poolR at h; exact h.2.1
theorem poolR_cell (hm : poolR p b g n f ∈ H) : ∀ w, Hp W0 T H w → w.cell? ⟨p, 0, none⟩ = some (.pointer (some ⟨b, 0, none⟩)) := fun w h => by
  have h1 := h.all _ hm
  unfold poolR at h1
  rw [blk_cell (show w.heap[p]? = some (poolO b) from h1.1)]; rfl
theorem rpoolR_cell (hm : rpoolR p c n f ∈ H) : ∀ w, Hp W0 T H w → w.cell? ⟨p, 0, none⟩ = some (.slice (some ⟨c, 0, none⟩) n n) := fun w h => by
  have h1 := h.all _ hm
  unfold rpoolR at h1
  rw [blk_cell (show w.heap[p]? = some (rpO c n) from h1.1.1)]; rfl
theorem rpoolR_row {j : Nat} (hm : rpoolR p c n f ∈ H) (hj : j < n) : ∀ w, Hp W0 T H w → w.cell? ⟨c, j, none⟩ = some (.bool (f j)) := fun w h => by
  have h1 := h.all _ hm
  unfold rpoolR rowR at h1
  rw [blk_cell (show w.heap[c]? = some (.cells (rowA n (fun j => .bool (f j))) _ (0, 0)) from h1.1.2.1), rowA_get hj]
theorem poolR_n (hm : poolR p b g n f ∈ H) : ∀ w, Hp W0 T H w → n ≤ 65536 ∧ ∀ p, n ≤ p → f p = false := fun w h => poolR_facts (h.all _ hm)
end
attribute [local irreducible] rowA mapR rowR poolR rpoolR
set_option maxRecDepth 100000 in
set_option maxHeartbeats 2000000 in
theorem k_works (W : World) (hT : TabOK W) : Calls Tryd.prog 9 #[] W fun e w' => e = .returned (.bool true) ∧ Below W.heap.size W w' := by
  have hM : Hp W (fun _ => False) [] W := Hp.start
  refine TC.enter (n := 92) Tryd.func9 rfl rfl rfl hM ?_
  refine TC.seq ?_
  refine TC.region ?_
  refine' TL.y rfl rfl rfl ?hy1 ?_
  case hy1 => exact Yl.assign rfl rfl
  refine TL.nil ?_
  refine TE.next ?_
  refine TC.seq ?_
  refine TC.region ?_
  refine' TL.c rfl rfl rfl ?hy2 ?_
  case hy2 => exact Yc.call rfl Tryd.func10 (by kernel_rfl) rfl rfl (Hp.makes (k_pnew 3))
  intro ⟨p, b, g⟩
  rw [show newN (min 3 1024) = 3 from by decide]
  refine' TL.y rfl rfl rfl ?hy3 ?_
  case hy3 => exact Yl.assign rfl rfl
  refine TL.nil ?_
  refine TE.next ?_
  refine TC.seq ?_
  refine TC.seq ?_
  refine TC.region ?_
  refine' TL.y rfl rfl rfl ?hy4 ?_
  case hy4 => exact Yl.move rfl rfl
  refine' TL.y rfl rfl rfl ?hy5 ?_
  case hy5 => exact Yl.bin rfl rfl rfl (Bin.eqlP _ _ _ Tryd.underlying24)
  refine TL.nil ?_
  refine TE.next ?_
  refine TC.no rfl (rfl) ?_
  refine TC.skip ?_
  refine TE.next ?_
  refine TC.seq ?_
  refine TC.region ?_
  refine' TL.y rfl rfl rfl ?hy6 ?_
  case hy6 => exact Yl.move rfl rfl
  refine' TL.c rfl rfl rfl ?hy7 ?_
  case hy7 => exact Yc.call rfl Tryd.func12 (by kernel_rfl) rfl rfl (Hp.turnT (fun w hw => hT.below hw.below) mem0 foc0 k_take)
  intro _
  rw [show runA (fun _ => false) 3 1 = (0, 0) from by decide]
  obtain ⟨F1, hF1⟩ : ∃ F, runF (fun _ => false) 3 1 = F := ⟨_, rfl⟩
  rw [hF1]
  refine' TL.y rfl rfl rfl ?hy8 ?_
  case hy8 => exact Yl.move rfl rfl
  refine' TL.y rfl rfl rfl ?hy9 ?_
  case hy9 => exact Yl.extract rfl rfl rfl
  refine' TL.y rfl rfl rfl ?hy10 ?_
  case hy10 => exact Yl.extract rfl rfl rfl
  refine' TL.y rfl rfl rfl ?hy11 ?_
  case hy11 => exact Yl.assign rfl rfl
  refine' TL.y rfl rfl rfl ?hy12 ?_
  case hy12 => exact Yl.assign rfl rfl
  refine TL.nil ?_
  refine TE.next ?_
  refine TC.seq ?_
  refine TC.region ?_
  refine' TL.y rfl rfl rfl ?hy13 ?_
  case hy13 => exact Yl.move rfl rfl
  refine' TL.c rfl rfl rfl ?hy14 ?_
  case hy14 => exact Yc.call rfl Tryd.func12 (by kernel_rfl) rfl rfl (Hp.turnT (fun w hw => hT.below hw.below) mem0 foc0 k_take)
  intro _
  rw [show runA F1 3 1 = (1, 0) from by subst_vars; decide]
  obtain ⟨F2, hF2⟩ : ∃ F, runF F1 3 1 = F := ⟨_, rfl⟩
  rw [hF2]
  refine' TL.y rfl rfl rfl ?hy15 ?_
  case hy15 => exact Yl.move rfl rfl
  refine' TL.y rfl rfl rfl ?hy16 ?_
  case hy16 => exact Yl.extract rfl rfl rfl
  refine' TL.y rfl rfl rfl ?hy17 ?_
  case hy17 => exact Yl.extract rfl rfl rfl
  refine' TL.y rfl rfl rfl ?hy18 ?_
  case hy18 => exact Yl.assign rfl rfl
  refine' TL.y rfl rfl rfl ?hy19 ?_
  case hy19 => exact Yl.assign rfl rfl
  refine TL.nil ?_
  refine TE.next ?_
  refine TC.seq ?_
  refine TC.region ?_
  refine' TL.y rfl rfl rfl ?hy20 ?_
  case hy20 => exact Yl.move rfl rfl
  refine' TL.c rfl rfl rfl ?hy21 ?_
  case hy21 => exact Yc.call rfl Tryd.func14 (by kernel_rfl) rfl rfl (Hp.turnT (fun w hw => hT.below hw.below) mem0 foc0 (k_give 0))
  intro _
  rw [show giveA F2 3 0 = 0 from by subst_vars; decide]
  obtain ⟨F3, hF3⟩ : ∃ F, giveF F2 3 0 = F := ⟨_, rfl⟩
  rw [hF3]
  refine' TL.y rfl rfl rfl ?hy22 ?_
  case hy22 => exact Yl.assign rfl rfl
  refine TL.nil ?_
  refine TE.next ?_
  refine TC.seq ?_
  refine TC.region ?_
  refine' TL.y rfl rfl rfl ?hy23 ?_
  case hy23 => exact Yl.move rfl rfl
  refine' TL.c rfl rfl rfl ?hy24 ?_
  case hy24 => exact Yc.call rfl Tryd.func16 (by kernel_rfl) rfl rfl (Hp.turnT (fun w hw => hT.below hw.below) mem0 foc0 (k_run 2 (by decide)))
  intro _
  rw [show runA F3 3 2 = (-1, 3) from by subst_vars; decide]
  rw [show runF F3 3 2 = F3 from by simp only [runF]; rw [if_neg (by decide), if_pos (by subst_vars; decide)]]
  refine' TL.y rfl rfl rfl ?hy25 ?_
  case hy25 => exact Yl.move rfl rfl
  refine' TL.y rfl rfl rfl ?hy26 ?_
  case hy26 => exact Yl.extract rfl rfl rfl
  refine' TL.y rfl rfl rfl ?hy27 ?_
  case hy27 => exact Yl.extract rfl rfl rfl
  refine' TL.y rfl rfl rfl ?hy28 ?_
  case hy28 => exact Yl.assign rfl rfl
  refine' TL.y rfl rfl rfl ?hy29 ?_
  case hy29 => exact Yl.assign rfl rfl
  refine TL.nil ?_
  refine TE.next ?_
  refine TC.seq ?_
  refine TC.region ?_
  refine' TL.y rfl rfl rfl ?hy30 ?_
  case hy30 => exact Yl.move rfl rfl
  refine' TL.c rfl rfl rfl ?hy31 ?_
  case hy31 => exact Yc.call rfl Tryd.func12 (by kernel_rfl) rfl rfl (Hp.turnT (fun w hw => hT.below hw.below) mem0 foc0 k_take)
  intro _
  rw [show runA F3 3 1 = (0, 0) from by subst_vars; decide]
  obtain ⟨F4, hF4⟩ : ∃ F, runF F3 3 1 = F := ⟨_, rfl⟩
  rw [hF4]
  refine' TL.y rfl rfl rfl ?hy32 ?_
  case hy32 => exact Yl.move rfl rfl
  refine' TL.y rfl rfl rfl ?hy33 ?_
  case hy33 => exact Yl.extract rfl rfl rfl
  refine' TL.y rfl rfl rfl ?hy34 ?_
  case hy34 => exact Yl.extract rfl rfl rfl
  refine' TL.y rfl rfl rfl ?hy35 ?_
  case hy35 => exact Yl.assign rfl rfl
  refine' TL.y rfl rfl rfl ?hy36 ?_
  case hy36 => exact Yl.assign rfl rfl
  refine TL.nil ?_
  refine TE.next ?_
  refine TC.seq ?_
  refine TC.region ?_
  refine' TL.y rfl rfl rfl ?hy37 ?_
  case hy37 => exact Yl.move rfl rfl
  refine' TL.y rfl rfl rfl ?hy38 ?_
  case hy38 => exact Yl.bin rfl rfl rfl (Bin.eql _ _ _ _)
  refine' TL.y rfl rfl rfl ?hy39 ?_
  case hy39 => exact Yl.move rfl rfl
  refine TL.re (i := 38) (v' := .bool true) rfl (congrArg Value.bool (by first | rfl | decide)) ?_
  refine' TL.y rfl rfl rfl ?hy40 ?_
  case hy40 => exact Yl.move rfl rfl
  refine' TL.y rfl rfl rfl ?hy41 ?_
  case hy41 => exact Yl.bin rfl rfl rfl (Bin.eql _ _ _ _)
  refine' TL.y rfl rfl rfl ?hy42 ?_
  case hy42 => exact Yl.pickT rfl rfl rfl
  refine' TL.y rfl rfl rfl ?hy43 ?_
  case hy43 => exact Yl.move rfl rfl
  refine TL.re (i := 42) (v' := .bool true) rfl (congrArg Value.bool (by first | rfl | decide)) ?_
  refine' TL.y rfl rfl rfl ?hy44 ?_
  case hy44 => exact Yl.move rfl rfl
  refine' TL.y rfl rfl rfl ?hy45 ?_
  case hy45 => exact Yl.bin rfl rfl rfl (Bin.eql _ _ _ _)
  refine' TL.y rfl rfl rfl ?hy46 ?_
  case hy46 => exact Yl.pickT rfl rfl rfl
  refine' TL.y rfl rfl rfl ?hy47 ?_
  case hy47 => exact Yl.move rfl rfl
  refine TL.re (i := 46) (v' := .bool true) rfl (congrArg Value.bool (by first | rfl | decide)) ?_
  refine' TL.y rfl rfl rfl ?hy48 ?_
  case hy48 => exact Yl.move rfl rfl
  refine' TL.y rfl rfl rfl ?hy49 ?_
  case hy49 => exact Yl.bin rfl rfl rfl (Bin.eql _ _ _ _)
  refine' TL.y rfl rfl rfl ?hy50 ?_
  case hy50 => exact Yl.pickT rfl rfl rfl
  refine' TL.y rfl rfl rfl ?hy51 ?_
  case hy51 => exact Yl.move rfl rfl
  refine TL.re (i := 50) (v' := .bool true) rfl (congrArg Value.bool (by first | rfl | decide)) ?_
  refine' TL.y rfl rfl rfl ?hy52 ?_
  case hy52 => exact Yl.move rfl rfl
  refine' TL.y rfl rfl rfl ?hy53 ?_
  case hy53 => exact Yl.bin rfl rfl rfl (Bin.eql _ _ _ _)
  refine' TL.y rfl rfl rfl ?hy54 ?_
  case hy54 => exact Yl.pickT rfl rfl rfl
  refine' TL.y rfl rfl rfl ?hy55 ?_
  case hy55 => exact Yl.move rfl rfl
  refine TL.re (i := 54) (v' := .bool true) rfl (congrArg Value.bool (by first | rfl | decide)) ?_
  refine' TL.y rfl rfl rfl ?hy56 ?_
  case hy56 => exact Yl.move rfl rfl
  refine' TL.y rfl rfl rfl ?hy57 ?_
  case hy57 => exact Yl.bin rfl rfl rfl (Bin.eql _ _ _ _)
  refine' TL.y rfl rfl rfl ?hy58 ?_
  case hy58 => exact Yl.pickT rfl rfl rfl
  refine' TL.y rfl rfl rfl ?hy59 ?_
  case hy59 => exact Yl.move rfl rfl
  refine TL.re (i := 58) (v' := .bool true) rfl (congrArg Value.bool (by first | rfl | decide)) ?_
  refine' TL.y rfl rfl rfl ?hy60 ?_
  case hy60 => exact Yl.move rfl rfl
  refine' TL.y rfl rfl rfl ?hy61 ?_
  case hy61 => exact Yl.bin rfl rfl rfl (Bin.eql _ _ _ _)
  refine' TL.y rfl rfl rfl ?hy62 ?_
  case hy62 => exact Yl.pickT rfl rfl rfl
  refine' TL.y rfl rfl rfl ?hy63 ?_
  case hy63 => exact Yl.move rfl rfl
  refine TL.re (i := 62) (v' := .bool true) rfl (congrArg Value.bool (by first | rfl | decide)) ?_
  refine' TL.y rfl rfl rfl ?hy64 ?_
  case hy64 => exact Yl.move rfl rfl
  refine' TL.y rfl rfl rfl ?hy65 ?_
  case hy65 => exact Yl.bin rfl rfl rfl (Bin.eql _ _ _ _)
  refine' TL.y rfl rfl rfl ?hy66 ?_
  case hy66 => exact Yl.pickT rfl rfl rfl
  refine' TL.y rfl rfl rfl ?hy67 ?_
  case hy67 => exact Yl.move rfl rfl
  refine TL.re (i := 66) (v' := .bool true) rfl (congrArg Value.bool (by first | rfl | decide)) ?_
  refine' TL.y rfl rfl rfl ?hy68 ?_
  case hy68 => exact Yl.move rfl rfl
  refine' TL.y rfl rfl rfl ?hy69 ?_
  case hy69 => exact Yl.bin rfl rfl rfl (Bin.eql _ _ _ _)
  refine' TL.y rfl rfl rfl ?hy70 ?_
  case hy70 => exact Yl.pickT rfl rfl rfl
  refine' TL.y rfl rfl rfl ?hy71 ?_
  case hy71 => exact Yl.move rfl rfl
  refine TL.re (i := 70) (v' := .bool true) rfl (congrArg Value.bool (by first | rfl | decide)) ?_
  refine' TL.y rfl rfl rfl ?hy72 ?_
  case hy72 => exact Yl.move rfl rfl
  refine' TL.c rfl rfl rfl ?hy73 ?_
  case hy73 => exact Yc.call rfl Tryd.func18 (by kernel_rfl) rfl rfl (Hp.calls (fun w h => k_free w (h.all _ mem0)))
  intro _
  rw [show ((3 : Nat) : Int) - cntB F4 3 = 1 from by subst_vars; decide]
  refine' TL.y rfl rfl rfl ?hy74 ?_
  case hy74 => exact Yl.bin rfl rfl rfl (Bin.eql _ _ _ _)
  refine' TL.y rfl rfl rfl ?hy75 ?_
  case hy75 => exact Yl.pickT rfl rfl rfl
  refine' TL.y rfl rfl rfl ?hy76 ?_
  case hy76 => exact Yl.move rfl rfl
  refine TL.re (i := 75) (v' := .bool true) rfl (congrArg Value.bool (by first | rfl | decide)) ?_
  refine' TL.y rfl rfl rfl ?hy77 ?_
  case hy77 => exact Yl.move rfl rfl
  refine' TL.y rfl rfl rfl ?hy78 ?_
  case hy78 => exact Yl.nilCheck rfl rfl
  refine' TL.y rfl rfl rfl ?hy79 ?_
  case hy79 => first | exact Yl.field0 (k := 0) 0 rfl rfl Tryd.underlying43 rfl (by kernel_rfl) rfl | exact Yl.field (k := 0) 0 rfl rfl Tryd.underlying43 rfl (by kernel_rfl) rfl
  refine' TL.y rfl rfl rfl ?hy80 ?_
  case hy80 => first | exact Yl.load rfl rfl (by kernel_rfl) (poolR_cell mem0) | exact Yl.load rfl rfl (by kernel_rfl) (Hp.cell mem0 rfl) | exact Yl.load rfl rfl (by kernel_rfl) (Hp.cell mem1 rfl) | exact Yl.load rfl rfl (by kernel_rfl) (Hp.rowAt mem0 (by omega) rfl) | exact Yl.load rfl rfl (by kernel_rfl) (Hp.rowAt mem1 (by omega) rfl)
  refine' TL.c rfl rfl rfl ?hy81 ?_
  case hy81 => exact Yc.call rfl Tryd.func23 (by kernel_rfl) rfl rfl (Hp.calls (fun w h => k_len w (poolR_map (h.all _ mem0))))
  intro _
  refine' TL.y rfl rfl rfl ?hy82 ?_
  case hy82 => exact Yl.bin rfl rfl rfl (Bin.eql _ _ _ _)
  refine' TL.y rfl rfl rfl ?hy83 ?_
  case hy83 => exact Yl.pickT rfl rfl rfl
  refine' TL.y rfl rfl rfl ?hy84 ?_
  case hy84 => exact Yl.move rfl rfl
  refine TL.re (i := 83) (v' := .bool true) rfl (congrArg Value.bool (by first | rfl | decide)) ?_
  refine' TL.y rfl rfl rfl ?hy85 ?_
  case hy85 => exact Yl.move rfl rfl
  refine' TL.c rfl rfl rfl ?hy86 ?_
  case hy86 => exact Yc.call rfl Tryd.func20 (by kernel_rfl) rfl rfl (Hp.calls (fun w h => k_taken w (h.all _ mem0) 1))
  intro _
  rw [show getB F4 3 1 = true from by subst_vars; decide]
  refine' TL.y rfl rfl rfl ?hy87 ?_
  case hy87 => exact Yl.pickT rfl rfl rfl
  refine' TL.y rfl rfl rfl ?hy88 ?_
  case hy88 => exact Yl.move rfl rfl
  refine' TL.y rfl rfl rfl ?hy89 ?_
  case hy89 => exact Yl.move rfl rfl
  refine' TL.c rfl rfl rfl ?hy90 ?_
  case hy90 => exact Yc.call rfl Tryd.func21 (by kernel_rfl) rfl rfl (Hp.calls (fun w h => k_level w (h.all _ mem0) 1 2))
  intro _
  rw [show levelV (((3 : Nat) : Int) - cntB F4 3) 1 2 = 1 from by subst_vars; decide]
  refine' TL.y rfl rfl rfl ?hy91 ?_
  case hy91 => exact Yl.bin rfl rfl rfl (Bin.eql _ _ _ _)
  refine' TL.y rfl rfl rfl ?hy92 ?_
  case hy92 => exact Yl.pickT rfl rfl rfl
  refine' TL.y rfl rfl rfl ?hy93 ?_
  case hy93 => exact Yl.assign rfl rfl
  refine TL.nil ?_
  refine TE.next ?_
  refine TC.ret ?_
  refine TE.ret1 rfl rfl ?_
  exact fun w h => ⟨congrArg (fun b => Ending.returned (Value.bool b)) (by decide : _ = true), h.below⟩
end Go.Proofs.YtafcmeoidcgmdaaDoor.Pk
