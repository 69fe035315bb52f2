/- The document's examples. -/
import Derived.Test.YtjampfcibocnlaaDoorBitsC
import Derived.Test.YtjampfcibocnlaaDoorProg
import Derived.RowKit3
namespace Go.Proofs.YtjampfcibocnlaaDoor.Pk
open Go Go.RowKit Go.Proofs.YtjampfcibocnlaaDoor.HL Go.Proofs.YtjampfcibocnlaaDoor.BM
set_option linter.unusedVariables false
set_option linter.unusedSimpArgs false
attribute [local irreducible] rowA
set_option maxRecDepth 100000 in
set_option maxHeartbeats 2000000 in
theorem k_works (W : World) (hT : TabOK W) : Calls Tryd.prog 11 #[] W fun e w' => e = .returned (.bool true) ∧ Below W.heap.size W w' := by
  have hM : Hp W (fun _ => False) [] W := Hp.start
  refine TC.enter (n := 85) Tryd.func11 rfl rfl rfl hM ?_
  refine TC.seq ?_
  refine TC.region ?_
  refine' TL.y rfl rfl rfl ?hy1 ?_
  case hy1 => exact Yl.assign rfl rfl
  refine TL.nil ?_
  refine TE.next ?_
  refine TC.seq ?_
  refine TC.region ?_
  refine' TL.mx rfl rfl rfl ?hy2 ?_
  case hy2 => exact Ym.buildSlice (cells := #[_, _]) (z := .int .i64 0) (size := 1) #[.int .i64 0, .int .i64 0] rfl Tryd.underlying39 (by kernel_rfl) (by decide) (by decide) (by kernel_rfl) rfl rfl
  intro b9
  refine' TL.mx rfl rfl rfl ?hy3 ?_
  case hy3 => exact Ym.buildSlice (cells := #[_, _]) (z := .int .i64 0) (size := 1) #[.int .i64 0, .int .i64 0] rfl Tryd.underlying39 (by kernel_rfl) (by decide) (by decide) (by kernel_rfl) rfl rfl
  intro b10
  refine' TL.c rfl rfl rfl ?hy4 ?_
  case hy4 => exact Yc.call rfl Tryd.func23 (by kernel_rfl) rfl rfl (Hp.calls (fun w h => k_pack w [4, 8] [3, 5] _ _ _ _ (Sl.ofBlk (h.all _ mem1) rfl) (Sl.ofBlk (h.all _ mem0) rfl) (by decide) (by decide) (by unfold wfI; decide)))
  intro _
  rw [show packS [4, 8] [3, 5] = (83, 0) from by decide]
  refine' TL.y rfl rfl rfl ?hy5 ?_
  case hy5 => exact Yl.move rfl rfl
  refine' TL.y rfl rfl rfl ?hy6 ?_
  case hy6 => exact Yl.extract rfl rfl rfl
  refine' TL.y rfl rfl rfl ?hy7 ?_
  case hy7 => exact Yl.extract rfl rfl rfl
  refine' TL.y rfl rfl rfl ?hy8 ?_
  case hy8 => exact Yl.assign rfl rfl
  refine' TL.y rfl rfl rfl ?hy9 ?_
  case hy9 => exact Yl.assign rfl rfl
  refine TL.nil ?_
  refine TE.next ?_
  refine TC.seq ?_
  refine TC.region ?_
  refine' TL.mx rfl rfl rfl ?hy10 ?_
  case hy10 => exact Ym.buildSlice (cells := #[_, _]) (z := .int .i64 0) (size := 1) #[.int .i64 0, .int .i64 0] rfl Tryd.underlying39 (by kernel_rfl) (by decide) (by decide) (by kernel_rfl) rfl rfl
  intro b15
  refine' TL.y rfl rfl rfl ?hy11 ?_
  case hy11 => exact Yl.move rfl rfl
  refine' TL.c rfl rfl rfl ?hy12 ?_
  case hy12 => exact Yc.call rfl Tryd.func25 (by kernel_rfl) rfl rfl (Hp.news (fun w h => k_un_ok w [4, 8] 83 _ _ (Sl.ofBlk (h.all _ mem0) rfl) (by decide) (by decide) (by decide) (by decide)))
  intro v2
  rw [show unS [4, 8] 83 = ([3, 5], 0) from by decide]
  simp only [List.length_cons, List.length_nil, Nat.reduceAdd, List.map_cons, List.map_nil]
  refine TL.fact (Hp.ownSome mem0 (by decide)) ?_
  rintro ⟨g2, c2, rfl⟩
  refine' TL.y rfl rfl rfl ?hy13 ?_
  case hy13 => exact Yl.move rfl rfl
  refine' TL.y rfl rfl rfl ?hy14 ?_
  case hy14 => exact Yl.extract rfl rfl rfl
  refine' TL.y rfl rfl rfl ?hy15 ?_
  case hy15 => exact Yl.extract rfl rfl rfl
  refine' TL.y rfl rfl rfl ?hy16 ?_
  case hy16 => exact Yl.assign rfl rfl
  refine' TL.y rfl rfl rfl ?hy17 ?_
  case hy17 => exact Yl.assign rfl rfl
  refine TL.nil ?_
  refine TE.next ?_
  refine TC.seq ?_
  refine TC.region ?_
  refine' TL.c rfl rfl rfl ?hy18 ?_
  case hy18 => exact Yc.call rfl Tryd.func12 (by kernel_rfl) rfl rfl (Hp.makes (k_new 3))
  intro ⟨bm, gm⟩
  rw [show newN 3 = 3 from by decide]
  refine' TL.y rfl rfl rfl ?hy19 ?_
  case hy19 => exact Yl.assign rfl rfl
  refine TL.nil ?_
  refine TE.next ?_
  refine TC.seq ?_
  refine TC.seq ?_
  refine TC.region ?_
  refine' TL.y rfl rfl rfl ?hy20 ?_
  case hy20 => exact Yl.move rfl rfl
  refine' TL.y rfl rfl rfl ?hy21 ?_
  case hy21 => exact Yl.bin rfl rfl rfl (Bin.eqlP _ _ _ Tryd.underlying24)
  refine TL.nil ?_
  refine TE.next ?_
  refine TC.no rfl (rfl) ?_
  refine TC.skip ?_
  refine TE.next ?_
  refine TC.seq ?_
  refine TC.region ?_
  refine' TL.y rfl rfl rfl ?hy22 ?_
  case hy22 => exact Yl.move rfl rfl
  refine' TL.c rfl rfl rfl ?hy23 ?_
  case hy23 => exact Yc.call rfl Tryd.func15 (by kernel_rfl) rfl rfl (Hp.turn1 mem0 foc0 (k_set 1 true))
  intro _
  rw [show setOK (fun _ => false) 3 1 true = true from by decide]
  obtain ⟨F, hF⟩ : ∃ F, setF (fun _ => false) 3 1 true = F := ⟨_, rfl⟩
  rw [hF]
  refine' TL.y rfl rfl rfl ?hy24 ?_
  case hy24 => exact Yl.assign rfl rfl
  refine TL.nil ?_
  refine TE.next ?_
  refine TC.seq ?_
  refine TC.region ?_
  refine' TL.c rfl rfl rfl ?hy25 ?_
  case hy25 => exact Yc.call rfl Tryd.func28 (by kernel_rfl) rfl rfl (Hp.news (fun w h => k_dig w 83 (by decide) (by decide) 4))
  intro v5
  rw [show dS 83 4 = [0, 0, 0, 0, 0, 0, 0, 0, 0, 0, 0, 0, 0, 0, 5, 3] from by decide]
  simp only [List.length_cons, List.length_nil, Nat.reduceAdd, List.map_cons, List.map_nil]
  refine TL.fact (Hp.ownSome mem0 (by decide)) ?_
  rintro ⟨g5, c5, rfl⟩
  refine' TL.y rfl rfl rfl ?hy26 ?_
  case hy26 => exact Yl.assign rfl rfl
  refine TL.nil ?_
  refine TE.next ?_
  refine TC.seq ?_
  refine TC.region ?_
  refine' TL.y rfl rfl rfl ?hy27 ?_
  case hy27 => exact Yl.move rfl rfl
  refine' TL.y rfl rfl rfl ?hy28 ?_
  case hy28 => exact Yl.bin rfl rfl rfl (Bin.eql _ _ _ _)
  refine' TL.y rfl rfl rfl ?hy29 ?_
  case hy29 => exact Yl.move rfl rfl
  refine TL.re (i := 28) (v' := .bool true) rfl (congrArg Value.bool (by first | rfl | decide)) ?_
  refine' TL.y rfl rfl rfl ?hy30 ?_
  case hy30 => exact Yl.move rfl rfl
  refine' TL.y rfl rfl rfl ?hy31 ?_
  case hy31 => exact Yl.bin rfl rfl rfl (Bin.eql _ _ _ _)
  refine' TL.y rfl rfl rfl ?hy32 ?_
  case hy32 => exact Yl.pickT rfl rfl rfl
  refine' TL.y rfl rfl rfl ?hy33 ?_
  case hy33 => exact Yl.move rfl rfl
  refine TL.re (i := 32) (v' := .bool true) rfl (congrArg Value.bool (by first | rfl | decide)) ?_
  refine' TL.y rfl rfl rfl ?hy34 ?_
  case hy34 => exact Yl.move rfl rfl
  refine' TL.y rfl rfl rfl ?hy35 ?_
  case hy35 => exact Yl.bin rfl rfl rfl (Bin.eql _ _ _ _)
  refine' TL.y rfl rfl rfl ?hy36 ?_
  case hy36 => exact Yl.pickT rfl rfl rfl
  refine' TL.y rfl rfl rfl ?hy37 ?_
  case hy37 => exact Yl.move rfl rfl
  refine TL.re (i := 36) (v' := .bool true) rfl (congrArg Value.bool (by first | rfl | decide)) ?_
  refine' TL.y rfl rfl rfl ?hy38 ?_
  case hy38 => exact Yl.move rfl rfl
  refine' TL.y rfl rfl rfl ?hy39 ?_
  case hy39 => exact Yl.len rfl rfl Tryd.underlying39
  refine' TL.y rfl rfl rfl ?hy40 ?_
  case hy40 => exact Yl.bin rfl rfl rfl (Bin.eql _ _ _ _)
  refine' TL.y rfl rfl rfl ?hy41 ?_
  case hy41 => exact Yl.pickT rfl rfl rfl
  refine' TL.y rfl rfl rfl ?hy42 ?_
  case hy42 => exact Yl.move rfl rfl
  refine TL.re (i := 41) (v' := .bool true) rfl (congrArg Value.bool (by first | rfl | decide)) ?_
  refine' TL.y rfl rfl rfl ?hy43 ?_
  case hy43 => exact Yl.move rfl rfl
  refine' TL.y rfl rfl rfl ?hy44 ?_
  case hy44 => first | exact Yl.ixn rfl rfl rfl Tryd.underlying39 (by kernel_rfl) (by omega) | exact Yl.ixz rfl rfl rfl Tryd.underlying39 (by kernel_rfl) (by omega) (by omega) | exact Yl.ixcn rfl rfl rfl Tryd.underlying39 (by kernel_rfl) (by omega) | exact Yl.ixcz rfl rfl rfl Tryd.underlying39 (by kernel_rfl) (by omega) (by omega)
  refine' TL.y rfl rfl rfl ?hy45 ?_
  case hy45 => first | exact Yl.load rfl rfl (by kernel_rfl) (Hp.ownCell mem0 rfl) | exact Yl.load rfl rfl (by kernel_rfl) (Hp.ownCell mem1 rfl) | exact Yl.load rfl rfl (by kernel_rfl) (Hp.ownCell mem2 rfl) | exact Yl.load rfl rfl (by kernel_rfl) (Hp.ownCell mem3 rfl) | exact Yl.load rfl rfl (by kernel_rfl) (Hp.ownCell mem4 rfl) | exact Yl.load rfl rfl (by kernel_rfl) (Hp.ownCell mem5 rfl) | exact Yl.load rfl rfl (by kernel_rfl) (Hp.cell mem0 rfl) | exact Yl.load rfl rfl (by kernel_rfl) (Hp.cell mem1 rfl) | exact Yl.load rfl rfl (by kernel_rfl) (Hp.cell mem2 rfl) | exact Yl.load rfl rfl (by kernel_rfl) (Hp.cell mem3 rfl) | exact Yl.load rfl rfl (by kernel_rfl) (Hp.cell mem4 rfl) | exact Yl.load rfl rfl (by kernel_rfl) (Hp.cell mem5 rfl) | exact Yl.load rfl rfl (by kernel_rfl) (Hp.rowAt mem0 (by omega) rfl) | exact Yl.load rfl rfl (by kernel_rfl) (Hp.rowAt mem1 (by omega) rfl) | exact Yl.load rfl rfl (by kernel_rfl) (Hp.rowAt mem2 (by omega) rfl) | exact Yl.load rfl rfl (by kernel_rfl) (Hp.rowAt mem3 (by omega) rfl) | exact Yl.load rfl rfl (by kernel_rfl) (Hp.rowAt mem4 (by omega) rfl) | exact Yl.load rfl rfl (by kernel_rfl) (Hp.rowAt mem5 (by omega) rfl)
  refine' TL.y rfl rfl rfl ?hy46 ?_
  case hy46 => exact Yl.bin rfl rfl rfl (Bin.eql _ _ _ _)
  refine' TL.y rfl rfl rfl ?hy47 ?_
  case hy47 => exact Yl.pickT rfl rfl rfl
  refine' TL.y rfl rfl rfl ?hy48 ?_
  case hy48 => exact Yl.move rfl rfl
  refine TL.re (i := 47) (v' := .bool true) rfl (congrArg Value.bool (by first | rfl | decide)) ?_
  refine' TL.y rfl rfl rfl ?hy49 ?_
  case hy49 => exact Yl.move rfl rfl
  refine' TL.y rfl rfl rfl ?hy50 ?_
  case hy50 => exact Yl.pickT rfl rfl rfl
  refine' TL.y rfl rfl rfl ?hy51 ?_
  case hy51 => exact Yl.move rfl rfl
  refine TL.re (i := 50) (v' := .bool true) rfl (congrArg Value.bool (by first | rfl | decide)) ?_
  refine' TL.y rfl rfl rfl ?hy52 ?_
  case hy52 => exact Yl.move rfl rfl
  refine' TL.c rfl rfl rfl ?hy53 ?_
  case hy53 => exact Yc.call rfl Tryd.func17 (by kernel_rfl) rfl rfl (Hp.calls (fun w h => k_get w (h.all _ mem1) 1))
  intro _
  rw [show getB F 3 1 = true from by rw [← hF]; decide]
  refine' TL.y rfl rfl rfl ?hy54 ?_
  case hy54 => exact Yl.pickT rfl rfl rfl
  refine' TL.y rfl rfl rfl ?hy55 ?_
  case hy55 => exact Yl.move rfl rfl
  refine' TL.y rfl rfl rfl ?hy56 ?_
  case hy56 => exact Yl.move rfl rfl
  refine' TL.c rfl rfl rfl ?hy57 ?_
  case hy57 => exact Yc.call rfl Tryd.func19 (by kernel_rfl) rfl rfl (Hp.calls (fun w h => k_count w (h.all _ mem1)))
  intro _
  rw [show cntB F 3 = 1 from by rw [← hF]; decide]
  refine' TL.y rfl rfl rfl ?hy58 ?_
  case hy58 => exact Yl.bin rfl rfl rfl (Bin.eql _ _ _ _)
  refine' TL.y rfl rfl rfl ?hy59 ?_
  case hy59 => exact Yl.pickT rfl rfl rfl
  refine' TL.y rfl rfl rfl ?hy60 ?_
  case hy60 => exact Yl.move rfl rfl
  refine TL.re (i := 59) (v' := .bool true) rfl (congrArg Value.bool (by first | rfl | decide)) ?_
  refine' TL.y rfl rfl rfl ?hy61 ?_
  case hy61 => exact Yl.move rfl rfl
  refine' TL.c rfl rfl rfl ?hy62 ?_
  case hy62 => exact Yc.call rfl Tryd.func21 (by kernel_rfl) rfl rfl (Hp.calls (fun w h => k_next w (h.all _ mem1) (hT.below h.below) 0 (by decide) true))
  intro _
  rw [show nextV F 3 0 true = 1 from by rw [← hF]; decide]
  refine' TL.y rfl rfl rfl ?hy63 ?_
  case hy63 => exact Yl.bin rfl rfl rfl (Bin.eql _ _ _ _)
  refine' TL.y rfl rfl rfl ?hy64 ?_
  case hy64 => exact Yl.pickT rfl rfl rfl
  refine' TL.y rfl rfl rfl ?hy65 ?_
  case hy65 => exact Yl.move rfl rfl
  refine TL.re (i := 64) (v' := .bool true) rfl (congrArg Value.bool (by first | rfl | decide)) ?_
  refine' TL.y rfl rfl rfl ?hy66 ?_
  case hy66 => exact Yl.move rfl rfl
  refine' TL.c rfl rfl rfl ?hy67 ?_
  case hy67 => exact Yc.call rfl Tryd.func14 (by kernel_rfl) rfl rfl (Hp.calls (fun w h => k_len w (h.all _ mem1)))
  intro _
  refine' TL.y rfl rfl rfl ?hy68 ?_
  case hy68 => exact Yl.bin rfl rfl rfl (Bin.eql _ _ _ _)
  refine' TL.y rfl rfl rfl ?hy69 ?_
  case hy69 => exact Yl.pickT rfl rfl rfl
  refine' TL.y rfl rfl rfl ?hy70 ?_
  case hy70 => exact Yl.move rfl rfl
  refine TL.re (i := 69) (v' := .bool true) rfl (congrArg Value.bool (by first | rfl | decide)) ?_
  refine' TL.y rfl rfl rfl ?hy71 ?_
  case hy71 => exact Yl.move rfl rfl
  refine' TL.y rfl rfl rfl ?hy72 ?_
  case hy72 => exact Yl.len rfl rfl Tryd.underlying39
  refine' TL.y rfl rfl rfl ?hy73 ?_
  case hy73 => exact Yl.bin rfl rfl rfl (Bin.eql _ _ _ _)
  refine' TL.y rfl rfl rfl ?hy74 ?_
  case hy74 => exact Yl.pickT rfl rfl rfl
  refine' TL.y rfl rfl rfl ?hy75 ?_
  case hy75 => exact Yl.move rfl rfl
  refine TL.re (i := 74) (v' := .bool true) rfl (congrArg Value.bool (by first | rfl | decide)) ?_
  refine' TL.y rfl rfl rfl ?hy76 ?_
  case hy76 => exact Yl.move rfl rfl
  refine' TL.y rfl rfl rfl ?hy77 ?_
  case hy77 => first | exact Yl.ixn rfl rfl rfl Tryd.underlying39 (by kernel_rfl) (by omega) | exact Yl.ixz rfl rfl rfl Tryd.underlying39 (by kernel_rfl) (by omega) (by omega) | exact Yl.ixcn rfl rfl rfl Tryd.underlying39 (by kernel_rfl) (by omega) | exact Yl.ixcz rfl rfl rfl Tryd.underlying39 (by kernel_rfl) (by omega) (by omega)
  refine' TL.y rfl rfl rfl ?hy78 ?_
  case hy78 => first | exact Yl.load rfl rfl (by kernel_rfl) (Hp.ownCell mem0 rfl) | exact Yl.load rfl rfl (by kernel_rfl) (Hp.ownCell mem1 rfl) | exact Yl.load rfl rfl (by kernel_rfl) (Hp.ownCell mem2 rfl) | exact Yl.load rfl rfl (by kernel_rfl) (Hp.ownCell mem3 rfl) | exact Yl.load rfl rfl (by kernel_rfl) (Hp.ownCell mem4 rfl) | exact Yl.load rfl rfl (by kernel_rfl) (Hp.ownCell mem5 rfl) | exact Yl.load rfl rfl (by kernel_rfl) (Hp.cell mem0 rfl) | exact Yl.load rfl rfl (by kernel_rfl) (Hp.cell mem1 rfl) | exact Yl.load rfl rfl (by kernel_rfl) (Hp.cell mem2 rfl) | exact Yl.load rfl rfl (by kernel_rfl) (Hp.cell mem3 rfl) | exact Yl.load rfl rfl (by kernel_rfl) (Hp.cell mem4 rfl) | exact Yl.load rfl rfl (by kernel_rfl) (Hp.cell mem5 rfl) | exact Yl.load rfl rfl (by kernel_rfl) (Hp.rowAt mem0 (by omega) rfl) | exact Yl.load rfl rfl (by kernel_rfl) (Hp.rowAt mem1 (by omega) rfl) | exact Yl.load rfl rfl (by kernel_rfl) (Hp.rowAt mem2 (by omega) rfl) | exact Yl.load rfl rfl (by kernel_rfl) (Hp.rowAt mem3 (by omega) rfl) | exact Yl.load rfl rfl (by kernel_rfl) (Hp.rowAt mem4 (by omega) rfl) | exact Yl.load rfl rfl (by kernel_rfl) (Hp.rowAt mem5 (by omega) rfl)
  refine' TL.y rfl rfl rfl ?hy79 ?_
  case hy79 => exact Yl.bin rfl rfl rfl (Bin.eql _ _ _ _)
  refine' TL.y rfl rfl rfl ?hy80 ?_
  case hy80 => exact Yl.pickT rfl rfl rfl
  refine' TL.y rfl rfl rfl ?hy81 ?_
  case hy81 => exact Yl.move rfl rfl
  refine TL.re (i := 80) (v' := .bool true) rfl (congrArg Value.bool (by first | rfl | decide)) ?_
  refine' TL.y rfl rfl rfl ?hy82 ?_
  case hy82 => exact Yl.move rfl rfl
  refine' TL.c rfl rfl rfl ?hy83 ?_
  case hy83 => exact Yc.call rfl Tryd.func30 (by kernel_rfl) rfl rfl (Hp.calls (fun w h => k_join w [0, 0, 0, 0, 0, 0, 0, 0, 0, 0, 0, 0, 0, 0, 5, 3] _ _ (Sl.ofOwn (h.all _ mem0)) (by decide) 4))
  intro _
  rw [show jS [0, 0, 0, 0, 0, 0, 0, 0, 0, 0, 0, 0, 0, 0, 5, 3] 4 = 83 from by decide]
  refine' TL.y rfl rfl rfl ?hy84 ?_
  case hy84 => exact Yl.bin rfl rfl rfl (Bin.eql _ _ _ _)
  refine' TL.y rfl rfl rfl ?hy85 ?_
  case hy85 => exact Yl.pickT rfl rfl rfl
  refine' TL.y rfl rfl rfl ?hy86 ?_
  case hy86 => exact Yl.assign rfl rfl
  refine TL.nil ?_
  refine TE.next ?_
  refine TC.ret ?_
  refine TE.ret1 rfl rfl ?_
  exact fun w h => ⟨congrArg (fun b => Ending.returned (Value.bool b)) (by decide : _ = true), h.below⟩
end Go.Proofs.YtjampfcibocnlaaDoor.Pk
