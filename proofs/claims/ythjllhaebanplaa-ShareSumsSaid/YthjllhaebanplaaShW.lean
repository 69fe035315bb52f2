/- What the document's examples come to. -/
import Derived.Test.YthjllhaebanplaaShF
import Derived.Test.YthjllhaebanplaaProg
import Derived.RowKit3
namespace Go.Proofs.Ythjllhaebanplaa.Pk
open Go Go.RowKit Go.Proofs.Ythjllhaebanplaa.HL Go.Proofs.Ythjllhaebanplaa.Ev Go.Proofs.YthjllhaebanplaaW.PrintWords Go.Proofs.ShP
set_option linter.unusedVariables false
set_option linter.unusedSimpArgs false
theorem ok1 : Ok 10 3 (fun j => ([1, 1, 1] : List Int).getD j 0) := by decide
theorem ok2 : Ok 10 3 (fun j => ([2, 9, 1] : List Int).getD j 0) := by decide
theorem wk1 : ∀ j, j < 3 → splitF 10 3 (fun j => ([1, 1, 1] : List Int).getD j 0) j = (fun j => ([4, 3, 3] : List Int).getD j 0) j := by decide
theorem wk2 : ∀ j, j < 3 → capF 10 3 (fun j => ([2, 9, 1] : List Int).getD j 0) j = (fun j => ([2, 7, 1] : List Int).getD j 0) j := by decide
theorem wk3 : sumF (fun j => ([4, 5] : List Int).getD j 0) 2 = 9 := by decide
theorem sl3 {w : World} {b : Nat} {x y z : Int} (h : w.heap[b]? = some (.cells #[.int .i64 x, .int .i64 y, .int .i64 z] 3 (0, 0))) : Sl w (some ⟨b, 0, none⟩) (Vw 3 (fun j => ([x, y, z] : List Int).getD j 0)) := Sl.ofBlk h rfl
theorem sl2 {w : World} {b : Nat} {x y : Int} (h : w.heap[b]? = some (.cells #[.int .i64 x, .int .i64 y] 3 (0, 0))) : Sl w (some ⟨b, 0, none⟩) (Vw 2 (fun j => ([x, y] : List Int).getD j 0)) := Sl.ofBlk h rfl
attribute [local irreducible] sumF Vw splitF capF
set_option maxRecDepth 100000 in
set_option maxHeartbeats 2000000 in
theorem k_works (W : World) : Calls Try.prog 9 #[] W fun e w' => e = .returned (.bool true) ∧ Below W.heap.size W w' := by
  have hM : Hp W (fun _ => False) [] W := Hp.start
  refine TC.enter (n := 20) Try.func9 rfl rfl rfl hM ?_
  refine TC.seq ?_
  refine TC.region ?_
  refine' TL.y rfl rfl rfl ?hy1 ?_
  case hy1 => exact Yl.assign rfl rfl
  refine TL.nil ?_
  refine TE.next ?_
  refine TC.seq ?_
  refine TC.region ?_
  refine' TL.mx rfl rfl rfl ?hy2 ?_
  case hy2 => exact Ym.buildSlice (cells := #[.int .i64 1, .int .i64 1, .int .i64 1]) (z := .int .i64 0) (size := 1) #[.int .i64 0, .int .i64 0, .int .i64 0] rfl Try.underlying22 (by kernel_rfl) (by decide) (by decide) (by kernel_rfl) rfl rfl
  intro b3
  refine' TL.c rfl rfl rfl ?hy3 ?_
  case hy3 => exact Yc.call rfl Try.func11 (by kernel_rfl) rfl rfl (Hp.news (fun w h => k_split w (sl3 (h.all _ mem0)) (by decide) 10))
  intro v4
  rw [lenR_ok ok1]
  refine TL.fact (fun w h => h.ownSl mem0) ?_
  rintro ⟨A4, c4, rfl⟩
  refine' TL.y rfl rfl rfl ?hy4 ?_
  case hy4 => exact Yl.assign rfl rfl
  refine TL.nil ?_
  refine TE.next ?_
  refine TC.seq ?_
  refine TC.region ?_
  refine' TL.mx rfl rfl rfl ?hy5 ?_
  case hy5 => exact Ym.buildSlice (cells := #[.int .i64 2, .int .i64 9, .int .i64 1]) (z := .int .i64 0) (size := 1) #[.int .i64 0, .int .i64 0, .int .i64 0] rfl Try.underlying22 (by kernel_rfl) (by decide) (by decide) (by kernel_rfl) rfl rfl
  intro b5
  refine' TL.c rfl rfl rfl ?hy6 ?_
  case hy6 => exact Yc.call rfl Try.func15 (by kernel_rfl) rfl rfl (Hp.news (fun w h => k_capped w (sl3 (h.all _ mem0)) (by decide) 10))
  intro v6
  rw [lenR_ok ok2]
  refine TL.fact (fun w h => h.ownSl mem0) ?_
  rintro ⟨A6, c6, rfl⟩
  refine' TL.y rfl rfl rfl ?hy7 ?_
  case hy7 => exact Yl.assign rfl rfl
  refine TL.nil ?_
  refine TE.next ?_
  refine TC.seq ?_
  refine TC.region ?_
  refine' TL.y rfl rfl rfl ?hy8 ?_
  case hy8 => exact Yl.move rfl rfl
  refine' TL.mx rfl rfl rfl ?hy9 ?_
  case hy9 => exact Ym.buildSlice (cells := #[.int .i64 4, .int .i64 3, .int .i64 3]) (z := .int .i64 0) (size := 1) #[.int .i64 0, .int .i64 0, .int .i64 0] rfl Try.underlying22 (by kernel_rfl) (by decide) (by decide) (by kernel_rfl) rfl rfl
  intro b8
  refine' TL.c rfl rfl rfl ?hy10 ?_
  case hy10 => exact Yc.call rfl Try.func10 (by kernel_rfl) rfl rfl (Hp.calls (fun w h => k_row w (h.ownVw mem3) (sl3 (h.all _ mem0)) (by decide)))
  intro _
  refine TL.re (i := 9) (v' := .bool true) rfl (congrArg Value.bool (decide_eq_true ⟨rfl, wk1⟩)) ?_
  refine' TL.y rfl rfl rfl ?hy11 ?_
  case hy11 => exact Yl.move rfl rfl
  refine' TL.y rfl rfl rfl ?hy12 ?_
  case hy12 => exact Yl.move rfl rfl
  refine' TL.mx rfl rfl rfl ?hy13 ?_
  case hy13 => exact Ym.buildSlice (cells := #[.int .i64 2, .int .i64 7, .int .i64 1]) (z := .int .i64 0) (size := 1) #[.int .i64 0, .int .i64 0, .int .i64 0] rfl Try.underlying22 (by kernel_rfl) (by decide) (by decide) (by kernel_rfl) rfl rfl
  intro b12
  refine' TL.c rfl rfl rfl ?hy14 ?_
  case hy14 => exact Yc.call rfl Try.func10 (by kernel_rfl) rfl rfl (Hp.calls (fun w h => k_row w (h.ownVw mem2) (sl3 (h.all _ mem0)) (by decide)))
  intro _
  refine TL.re (i := 13) (v' := .bool true) rfl (congrArg Value.bool (decide_eq_true ⟨rfl, wk2⟩)) ?_
  refine' TL.y rfl rfl rfl ?hy15 ?_
  case hy15 => exact Yl.pickT rfl rfl rfl
  refine' TL.y rfl rfl rfl ?hy16 ?_
  case hy16 => exact Yl.move rfl rfl
  refine' TL.mx rfl rfl rfl ?hy17 ?_
  case hy17 => exact Ym.buildSlice (cells := #[.int .i64 4, .int .i64 5]) (z := .int .i64 0) (size := 1) #[.int .i64 0, .int .i64 0] rfl Try.underlying22 (by kernel_rfl) (by decide) (by decide) (by kernel_rfl) rfl rfl
  intro b16
  refine' TL.c rfl rfl rfl ?hy18 ?_
  case hy18 => exact Yc.call rfl Try.func13 (by kernel_rfl) rfl rfl (Hp.calls (fun w h => k_sum w (sl2 (h.all _ mem0)) (by decide)))
  intro _
  refine TL.re (i := 17) (v' := .int .i64 9) rfl (congrArg (Value.int .i64) (by rw [wk3]; rfl)) ?_
  refine' TL.y rfl rfl rfl ?hy19 ?_
  case hy19 => exact Yl.bin rfl rfl rfl (Bin.eql _ _ _ _)
  refine' TL.y rfl rfl rfl ?hy20 ?_
  case hy20 => exact Yl.pickT rfl rfl rfl
  refine' TL.y rfl rfl rfl ?hy21 ?_
  case hy21 => exact Yl.assign rfl rfl
  refine TL.nil ?_
  refine TE.next ?_
  refine TC.ret ?_
  refine TE.ret1 rfl rfl ?_
  exact fun w h => ⟨rfl, (h.sub (List.nil_sublist _)).below⟩
end Go.Proofs.Ythjllhaebanplaa.Pk
