/- The sample; what it comes to. -/
import Derived.Test.YtipdpmmjmlimhaaPrG
import Derived.Test.YtipdpmmjmlimhaaPrQ
import Derived.Test.YtipdpmmjmlimhaaProg
import Derived.RowKit3
namespace Go.Proofs.Ytipdpmmjmlimhaa.Pk
open Go Go.RowKit Go.Proofs.Ytipdpmmjmlimhaa.HL Go.Proofs.Ytipdpmmjmlimhaa.Ev Go.Proofs.YtipdpmmjmlimhaaW.PrintWords Go.Proofs.PrP Go.Proofs.DvP
set_option linter.unusedVariables false
set_option linter.unusedSimpArgs false
def cS : Array Value := #[.int .i64 (-1), .int .i64 (12), .int .i64 (0), .int .i64 (0), .int .i64 (8), .int .i64 (10), .int .i64 (1), .int .i64 (6), .int .i64 (6), .int .i64 (1), .int .i64 (6), .int .i64 (6)]
theorem slS {w : World} {b : Nat} (h : w.heap[b]? = some (.cells cS 38 (0, 0))) : Sl w (some ⟨b, 0, none⟩) (Nw 4 fS) := Sl.ofBlk h rfl
set_option maxRecDepth 100000 in
set_option maxHeartbeats 2000000 in
theorem k_sample (W : World) : Calls Try.prog 21 #[] W fun e w' => ∃ b : Nat, e = .returned (.slice (some ⟨b, 0, none⟩) 4 4) ∧ (blk b (.cells cS 38 (0, 0))).holds w' ∧ Below W.heap.size W w' ∧ ∀ j, (blk b (.cells cS 38 (0, 0))).foot j → W.heap.size ≤ j := by
  have hM : Hp W (fun _ => False) [] W := Hp.start
  refine TC.enter (n := 6) Try.func21 rfl rfl rfl hM ?_
  refine TC.seq ?_
  refine TC.region ?_
  refine' TL.y rfl rfl rfl ?hy1 ?_
  case hy1 => exact Yl.assign rfl rfl
  refine TL.nil ?_
  refine TE.next ?_
  refine TC.seq ?_
  refine TC.region ?_
  refine' TL.y rfl rfl rfl ?hy2 ?_
  case hy2 => exact Yl.build (z := .agg #[.int .i64 0, .int .i64 0, .int .i64 0]) [(0, 1), (1, 1), (2, 1)] rfl (by kernel_rfl) Try.underlying38 (by kernel_rfl) rfl rfl
  refine TL.re (i := 1) (v' := .agg #[.int .i64 (-1), .int .i64 (12), .int .i64 (0)]) rfl rfl ?_
  refine' TL.y rfl rfl rfl ?hy3 ?_
  case hy3 => exact Yl.build (z := .agg #[.int .i64 0, .int .i64 0, .int .i64 0]) [(0, 1), (1, 1), (2, 1)] rfl (by kernel_rfl) Try.underlying38 (by kernel_rfl) rfl rfl
  refine TL.re (i := 2) (v' := .agg #[.int .i64 (0), .int .i64 (8), .int .i64 (10)]) rfl rfl ?_
  refine' TL.y rfl rfl rfl ?hy4 ?_
  case hy4 => exact Yl.build (z := .agg #[.int .i64 0, .int .i64 0, .int .i64 0]) [(0, 1), (1, 1), (2, 1)] rfl (by kernel_rfl) Try.underlying38 (by kernel_rfl) rfl rfl
  refine TL.re (i := 3) (v' := .agg #[.int .i64 (1), .int .i64 (6), .int .i64 (6)]) rfl rfl ?_
  refine' TL.y rfl rfl rfl ?hy5 ?_
  case hy5 => exact Yl.build (z := .agg #[.int .i64 0, .int .i64 0, .int .i64 0]) [(0, 1), (1, 1), (2, 1)] rfl (by kernel_rfl) Try.underlying38 (by kernel_rfl) rfl rfl
  refine TL.re (i := 4) (v' := .agg #[.int .i64 (1), .int .i64 (6), .int .i64 (6)]) rfl rfl ?_
  refine' TL.mx rfl rfl rfl ?hy6 ?_
  case hy6 => exact Ym.buildSlice (cells := cS) (z := .agg #[.int .i64 (0), .int .i64 (0), .int .i64 (0)]) (size := 3) #[.int .i64 (0), .int .i64 (0), .int .i64 (0), .int .i64 (0), .int .i64 (0), .int .i64 (0), .int .i64 (0), .int .i64 (0), .int .i64 (0), .int .i64 (0), .int .i64 (0), .int .i64 (0)] rfl Try.underlying22 (by kernel_rfl) (by decide) (by decide) (by kernel_rfl) rfl rfl
  intro b5
  refine' TL.y rfl rfl rfl ?hy7 ?_
  case hy7 => exact Yl.assign rfl rfl
  refine TL.nil ?_
  refine TE.next ?_
  refine TC.ret ?_
  refine TE.ret1 rfl rfl ?_
  exact fun w h => ⟨b5, rfl, h.leaveNew⟩
end Go.Proofs.Ytipdpmmjmlimhaa.Pk
