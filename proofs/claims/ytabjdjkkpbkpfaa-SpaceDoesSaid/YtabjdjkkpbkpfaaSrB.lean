/- The document's entries. -/
import Derived.Test.YtabjdjkkpbkpfaaSpC
import Derived.Test.YtabjdjkkpbkpfaaProg
import Derived.RowKit3
namespace Go.Proofs.Ytabjdjkkpbkpfaa.Pk
open Go Go.RowKit Go.Proofs.Ytabjdjkkpbkpfaa.HL Go.Proofs.Ytabjdjkkpbkpfaa.Ev Go.Proofs.YtabjdjkkpbkpfaaW.PrintWords Go.Proofs.Ytabjdjkkpbkpfaa.BM
set_option linter.unusedVariables false
set_option linter.unusedSimpArgs false
theorem bI_eq (b : Bool) : (bI b == 1) = b := by cases b <;> rfl
theorem rE_neg {e : En} (h : e.k < 0) : rE e = false := decide_eq_false (by omega)
theorem rE_big {e : En} (h : 2 < e.k) : rE e = false := decide_eq_false (by omega)
theorem rE_one {e : En} (h : ¬ e.k < 0) (h2 : ¬ 2 < e.k) (h3 : e.k ≠ 0) : rE e = true := decide_eq_true (by omega)
theorem rE_zero {e : En} (h : e.k = 0) : rE e = (e.k == 0 && (e.pg == 0 && (e.w == false && e.t == false))) := by
  unfold rE
  rw [Bool.eq_iff_iff, decide_eq_true_iff]
  simp [h]
set_option maxRecDepth 100000 in
set_option maxHeartbeats 2000000 in
theorem k_rbit (W : World) (b : Bool) : Calls Try.prog 83 #[.bool b] W fun e w' => e = .returned (.int .i64 (bI b)) ∧ Below W.heap.size W w' := by
  have hM : Hp W (fun _ => False) [] W := Hp.start
  refine TC.enter (n := 4) Try.func83 rfl rfl rfl hM ?_
  refine TC.seq ?_
  refine TC.region ?_
  refine' TL.y rfl rfl rfl ?hy1 ?_
  case hy1 => exact Yl.assign rfl rfl
  refine TL.nil ?_
  refine TE.next ?_
  refine TC.seq ?_
  refine TC.seq ?_
  refine TC.region ?_
  refine' TL.y rfl rfl rfl ?hy2 ?_
  case hy2 => exact Yl.move rfl rfl
  refine TL.nil ?_
  refine TE.next ?_
  refine TC.cond rfl (fun hs3 => ?_) (fun hs3 => ?_)
  · skip
    (try simp only [nrm] at hs3)
    refine TC.seq ?_
    refine TC.region ?_
    refine' TL.y rfl rfl rfl ?hy3 ?_
    case hy3 => exact Yl.assign rfl rfl
    refine TL.nil ?_
    refine TE.next ?_
    refine TC.ret ?_
    refine TE.thenRet ?_
    refine TE.ret1 rfl rfl ?_
    have hb : bI b = 1 := by rw [show b = true from by first | exact hs3 | simpa using hs3]; rfl
    exact fun w h => ⟨by rw [hb], h.below⟩
  · skip
    (try simp only [nrm] at hs3)
    refine TC.skip ?_
    refine TE.next ?_
    refine TC.seq ?_
    refine TC.region ?_
    refine' TL.y rfl rfl rfl ?hy4 ?_
    case hy4 => exact Yl.assign rfl rfl
    refine TL.nil ?_
    refine TE.next ?_
    refine TC.ret ?_
    refine TE.ret1 rfl rfl ?_
    have hb : bI b = 0 := by rw [show b = false from by first | exact hs3 | simpa using hs3]; rfl
    exact fun w h => ⟨by rw [hb], h.below⟩
set_option maxRecDepth 100000 in
set_option maxHeartbeats 2000000 in
theorem k_rpk (W : World) (en : En) (hwf : wfI (vsE en)) : Calls Try.prog 54 #[.agg #[.int .i64 (en).k, .int .i64 (en).pg, .bool (en).w, .bool (en).t]] W fun e w' => e = .returned (.tuple #[.int .u64 (pkE en).1, .int .i64 (pkE en).2]) ∧ Below W.heap.size W w' := by
  have hM : Hp W (fun _ => False) [] W := Hp.start
  refine TC.enter (n := 37) Try.func54 rfl rfl rfl hM ?_
  refine TC.seq ?_
  refine TC.region ?_
  refine' TL.mx rfl rfl rfl ?hy1 ?_
  case hy1 => exact Ym.box rfl rfl
  intro b1
  refine' TL.y rfl rfl rfl ?hy2 ?_
  case hy2 => exact Yl.assign rfl rfl
  refine' TL.y rfl rfl rfl ?hy3 ?_
  case hy3 => exact Yl.assign rfl rfl
  refine TL.nil ?_
  refine TE.next ?_
  refine TC.meet (σ := Unit) (fun _ => [(1, .pointer (some ⟨b1, 0, none⟩))]) (fun _ => Hp W (fun _ => False) [blk b1 (.cells #[.int .i64 (en).k, .int .i64 (en).pg, .bool (en).w, .bool (en).t] 30 (0, 0))]) (fun _ => rE en = true) ?hx4 ?hy4
  case hx4 =>
    refine TC.seq ?_
    refine TC.region ?_
    refine' TL.y rfl rfl rfl ?hy5 ?_
    case hy5 => first | exact Yl.field0 (k := 0) 0 rfl rfl Try.underlying30 rfl (by kernel_rfl) rfl | exact Yl.field (k := 0) 0 rfl rfl Try.underlying30 rfl (by kernel_rfl) rfl
    refine' TL.y rfl rfl rfl ?hy6 ?_
    case hy6 => exact Yl.load rfl rfl (by kernel_rfl) (by first | exact Hp.cell mem0 rfl | exact Hp.cell mem1 rfl | exact Hp.cell mem2 rfl | exact Hp.cell mem3 rfl | exact Hp.cell mem4 rfl | exact Hp.rowAt mem0 (by omega) rfl | exact Hp.rowAt mem1 (by omega) rfl | exact Hp.rowAt mem2 (by omega) rfl | exact Hp.rowAt mem3 (by omega) rfl | exact Hp.rowAt mem4 (by omega) rfl)
    refine' TL.y rfl rfl rfl ?hy7 ?_
    case hy7 => exact Yl.bin rfl rfl rfl (Bin.lss _ _ _ _)
    refine' TL.y rfl rfl rfl ?hy8 ?_
    case hy8 => exact Yl.move rfl rfl
    refine TL.split (i := 7) rfl (fun hs7 => ?_) (fun hs7 => ?_)
    · skip
      (try simp only [nrm] at hs7)
      refine TL.skip rfl rfl rfl ?_
      refine TL.skip rfl rfl rfl ?_
      refine TL.skip rfl rfl rfl ?_
      refine' TL.y rfl rfl rfl ?hy9 ?_
      case hy9 => exact Yl.pickT rfl rfl rfl
      refine' TL.y rfl rfl rfl ?hy10 ?_
      case hy10 => exact Yl.move rfl rfl
      refine TL.skip rfl rfl rfl ?_
      refine TL.skip rfl rfl rfl ?_
      refine TL.skip rfl rfl rfl ?_
      refine TL.skip rfl rfl rfl ?_
      refine TL.skip rfl rfl rfl ?_
      refine TL.skip rfl rfl rfl ?_
      refine TL.skip rfl rfl rfl ?_
      refine TL.skip rfl rfl rfl ?_
      refine' TL.y rfl rfl rfl ?hy11 ?_
      case hy11 => exact Yl.pickT rfl rfl rfl
      refine TL.nil ?_
      refine TE.next ?_
      refine TC.yes rfl rfl ?_
      refine TC.seq ?_
      refine TC.region ?_
      refine' TL.y rfl rfl rfl ?hy12 ?_
      case hy12 => exact Yl.assign rfl rfl
      refine' TL.y rfl rfl rfl ?hy13 ?_
      case hy13 => exact Yl.assign rfl rfl
      refine TL.nil ?_
      refine TE.next ?_
      refine TC.ret ?_
      refine TE.thenRet ?_
      refine TE.ret2 rfl rfl rfl ?_
      have hr : rE en = false := rE_neg hs7
      exact fun w h => ⟨by rw [show pkE en = (0, 1) from if_neg (by rw [hr]; simp)], (h.sub (List.nil_sublist _)).below⟩
    · skip
      (try simp only [nrm] at hs7)
      refine' TL.y rfl rfl rfl ?hy14 ?_
      case hy14 => first | exact Yl.field0 (k := 0) 0 rfl rfl Try.underlying30 rfl (by kernel_rfl) rfl | exact Yl.field (k := 0) 0 rfl rfl Try.underlying30 rfl (by kernel_rfl) rfl
      refine' TL.y rfl rfl rfl ?hy15 ?_
      case hy15 => exact Yl.load rfl rfl (by kernel_rfl) (by first | exact Hp.cell mem0 rfl | exact Hp.cell mem1 rfl | exact Hp.cell mem2 rfl | exact Hp.cell mem3 rfl | exact Hp.cell mem4 rfl | exact Hp.rowAt mem0 (by omega) rfl | exact Hp.rowAt mem1 (by omega) rfl | exact Hp.rowAt mem2 (by omega) rfl | exact Hp.rowAt mem3 (by omega) rfl | exact Hp.rowAt mem4 (by omega) rfl)
      refine' TL.y rfl rfl rfl ?hy16 ?_
      case hy16 => exact Yl.bin rfl rfl rfl (Bin.gtr _ _ _ _)
      refine' TL.y rfl rfl rfl ?hy17 ?_
      case hy17 => exact Yl.pickF rfl rfl rfl
      refine' TL.y rfl rfl rfl ?hy18 ?_
      case hy18 => exact Yl.move rfl rfl
      refine TL.split (i := 12) rfl (fun hs12 => ?_) (fun hs12 => ?_)
      · skip
        (try simp only [nrm] at hs12)
        refine TL.skip rfl rfl rfl ?_
        refine TL.skip rfl rfl rfl ?_
        refine TL.skip rfl rfl rfl ?_
        refine TL.skip rfl rfl rfl ?_
        refine TL.skip rfl rfl rfl ?_
        refine TL.skip rfl rfl rfl ?_
        refine TL.skip rfl rfl rfl ?_
        refine TL.skip rfl rfl rfl ?_
        refine' TL.y rfl rfl rfl ?hy19 ?_
        case hy19 => exact Yl.pickT rfl rfl rfl
        refine TL.nil ?_
        refine TE.next ?_
        refine TC.yes rfl rfl ?_
        refine TC.seq ?_
        refine TC.region ?_
        refine' TL.y rfl rfl rfl ?hy20 ?_
        case hy20 => exact Yl.assign rfl rfl
        refine' TL.y rfl rfl rfl ?hy21 ?_
        case hy21 => exact Yl.assign rfl rfl
        refine TL.nil ?_
        refine TE.next ?_
        refine TC.ret ?_
        refine TE.thenRet ?_
        refine TE.ret2 rfl rfl rfl ?_
        have hr : rE en = false := rE_big hs12
        exact fun w h => ⟨by rw [show pkE en = (0, 1) from if_neg (by rw [hr]; simp)], (h.sub (List.nil_sublist _)).below⟩
      · skip
        (try simp only [nrm] at hs12)
        refine' TL.y rfl rfl rfl ?hy22 ?_
        case hy22 => first | exact Yl.field0 (k := 0) 0 rfl rfl Try.underlying30 rfl (by kernel_rfl) rfl | exact Yl.field (k := 0) 0 rfl rfl Try.underlying30 rfl (by kernel_rfl) rfl
        refine' TL.y rfl rfl rfl ?hy23 ?_
        case hy23 => exact Yl.load rfl rfl (by kernel_rfl) (by first | exact Hp.cell mem0 rfl | exact Hp.cell mem1 rfl | exact Hp.cell mem2 rfl | exact Hp.cell mem3 rfl | exact Hp.cell mem4 rfl | exact Hp.rowAt mem0 (by omega) rfl | exact Hp.rowAt mem1 (by omega) rfl | exact Hp.rowAt mem2 (by omega) rfl | exact Hp.rowAt mem3 (by omega) rfl | exact Hp.rowAt mem4 (by omega) rfl)
        refine' TL.y rfl rfl rfl ?hy24 ?_
        case hy24 => exact Yl.bin rfl rfl rfl (Bin.eql _ _ _ _)
        refine' TL.y rfl rfl rfl ?hy25 ?_
        case hy25 => exact Yl.move rfl rfl
        refine TL.split (i := 16) rfl (fun hs16 => ?_) (fun hs16 => ?_)
        · skip
          (try simp only [nrm] at hs16)
          refine' TL.y rfl rfl rfl ?hy26 ?_
          case hy26 => exact Yl.loads (cs := [.int .i64 (en).k, .int .i64 (en).pg, .bool (en).w, .bool (en).t]) rfl rfl (by kernel_rfl) (by kernel_rfl) (Hp.cells mem0 (fun j v hj => by simpa [Value.cells] using hj))
          refine' TL.y rfl rfl rfl ?hy27 ?_
          case hy27 => exact Yl.build (z := .agg #[.int .i64 0, .int .i64 0, .bool false, .bool false]) [(0, 1), (1, 1), (2, 1), (3, 1)] rfl (by kernel_rfl) Try.underlying30 (by kernel_rfl) rfl rfl
          refine' TL.y rfl rfl rfl ?hy28 ?_
          case hy28 => exact Yl.bin rfl rfl rfl (Bin.neqE _ _ _ _ _ _ _ _)
          refine' TL.y rfl rfl rfl ?hy29 ?_
          case hy29 => exact Yl.pickT rfl rfl rfl
          refine' TL.y rfl rfl rfl ?hy30 ?_
          case hy30 => exact Yl.pickF rfl rfl rfl
          refine TL.nil ?_
          refine TE.next ?_
          refine TC.cond rfl (fun hs21 => ?_) (fun hs21 => ?_)
          · skip
            (try simp only [nrm] at hs21)
            refine TC.seq ?_
            refine TC.region ?_
            refine' TL.y rfl rfl rfl ?hy31 ?_
            case hy31 => exact Yl.assign rfl rfl
            refine' TL.y rfl rfl rfl ?hy32 ?_
            case hy32 => exact Yl.assign rfl rfl
            refine TL.nil ?_
            refine TE.next ?_
            refine TC.ret ?_
            refine TE.thenRet ?_
            refine TE.ret2 rfl rfl rfl ?_
            have hr : rE en = false := (rE_zero (by simpa using hs16)).trans (by simpa using hs21)
            exact fun w h => ⟨by rw [show pkE en = (0, 1) from if_neg (by rw [hr]; simp)], (h.sub (List.nil_sublist _)).below⟩
          · skip
            (try simp only [nrm] at hs21)
            refine TC.skip ?_
            refine TE.met () ?hF33 ?hs33 ?hm33
            case hF33 => exact (rE_zero (by simpa using hs16)).trans (by simpa using hs21)
            case hs33 => exact ⟨rfl, trivial⟩
            case hm33 => exact fun _ h => h
        · skip
          (try simp only [nrm] at hs16)
          refine TL.skip rfl rfl rfl ?_
          refine TL.skip rfl rfl rfl ?_
          refine TL.skip rfl rfl rfl ?_
          refine' TL.y rfl rfl rfl ?hy34 ?_
          case hy34 => exact Yl.pickF rfl rfl rfl
          refine' TL.y rfl rfl rfl ?hy35 ?_
          case hy35 => exact Yl.pickF rfl rfl rfl
          refine TL.nil ?_
          refine TE.next ?_
          refine TC.no rfl rfl ?_
          refine TC.skip ?_
          refine TE.met () ?hF36 ?hs36 ?hm36
          case hF36 => exact rE_one (by omega) (by omega) (by first | exact hs16 | simpa using hs16)
          case hs36 => exact ⟨rfl, trivial⟩
          case hm36 => exact fun _ h => h
  case hy4 =>
    intro _ hr
    refine TC.seq ?_
    refine TC.draw (k := 17) (Hp W (fun _ => False) [blk b1 (.cells #[.int .i64 (en).k, .int .i64 (en).pg, .bool (en).w, .bool (en).t] 30 (0, 0))]) [] #[false, false, false, false, false, false, false, false, false, false, false, false, false, false, false, false, false] (by kernel_rfl) rfl rfl (fun _ h => h.drew) (fun _ h => by exact Hp.sub h (by repeat (first | exact sR _ | exact sN _ | apply sK | apply sC))) ?_
    refine' TA.y (i := 1) #[false, true, false, false, false, false, false, false, false, false, false, false, false, false, false, false, false] rfl rfl rfl (by kernel_rfl) (fun _ _ _ h => h) (fun _ h => by exact Hp.sub h (by repeat (first | exact sR _ | exact sN _ | apply sK | apply sC))) rfl ?hy37 ?_
    case hy37 => first | exact Yl.field0 (k := 0) 0 rfl rfl Try.underlying30 rfl (by kernel_rfl) rfl | exact Yl.field (k := 0) 0 rfl rfl Try.underlying30 rfl (by kernel_rfl) rfl
    refine' TA.y (i := 2) #[false, true, true, false, false, false, false, false, false, false, false, false, false, false, false, false, false] rfl rfl rfl (by kernel_rfl) (fun _ _ _ h => h) (fun _ h => by exact Hp.sub h (by repeat (first | exact sR _ | exact sN _ | apply sK | apply sC))) rfl ?hy38 ?_
    case hy38 => exact Yl.load rfl rfl (by kernel_rfl) (by first | exact Hp.cell mem0 rfl | exact Hp.cell mem1 rfl | exact Hp.cell mem2 rfl | exact Hp.cell mem3 rfl | exact Hp.cell mem4 rfl | exact Hp.rowAt mem0 (by omega) rfl | exact Hp.rowAt mem1 (by omega) rfl | exact Hp.rowAt mem2 (by omega) rfl | exact Hp.rowAt mem3 (by omega) rfl | exact Hp.rowAt mem4 (by omega) rfl)
    refine' TA.y (i := 3) #[false, true, true, true, false, false, false, false, false, false, false, false, false, false, false, false, false] rfl rfl rfl (by kernel_rfl) (fun _ _ _ h => h) (fun _ h => by exact Hp.sub h (by repeat (first | exact sR _ | exact sN _ | apply sK | apply sC))) rfl ?hy39 ?_
    case hy39 => first | exact Yl.field0 (k := 0) 1 rfl rfl Try.underlying30 rfl (by kernel_rfl) rfl | exact Yl.field (k := 0) 1 rfl rfl Try.underlying30 rfl (by kernel_rfl) rfl
    refine' TA.y (i := 4) #[false, true, true, true, true, false, false, false, false, false, false, false, false, false, false, false, false] rfl rfl rfl (by kernel_rfl) (fun _ _ _ h => h) (fun _ h => by exact Hp.sub h (by repeat (first | exact sR _ | exact sN _ | apply sK | apply sC))) rfl ?hy40 ?_
    case hy40 => exact Yl.load rfl rfl (by kernel_rfl) (by first | exact Hp.cell mem0 rfl | exact Hp.cell mem1 rfl | exact Hp.cell mem2 rfl | exact Hp.cell mem3 rfl | exact Hp.cell mem4 rfl | exact Hp.rowAt mem0 (by omega) rfl | exact Hp.rowAt mem1 (by omega) rfl | exact Hp.rowAt mem2 (by omega) rfl | exact Hp.rowAt mem3 (by omega) rfl | exact Hp.rowAt mem4 (by omega) rfl)
    refine' TA.y (i := 5) #[false, true, true, true, true, true, false, false, false, false, false, false, false, false, false, false, false] rfl rfl rfl (by kernel_rfl) (fun _ _ _ h => h) (fun _ h => by exact Hp.sub h (by repeat (first | exact sR _ | exact sN _ | apply sK | apply sC))) rfl ?hy41 ?_
    case hy41 => first | exact Yl.field0 (k := 0) 2 rfl rfl Try.underlying30 rfl (by kernel_rfl) rfl | exact Yl.field (k := 0) 2 rfl rfl Try.underlying30 rfl (by kernel_rfl) rfl
    refine' TA.y (i := 6) #[false, true, true, true, true, true, true, false, false, false, false, false, false, false, false, false, false] rfl rfl rfl (by kernel_rfl) (fun _ _ _ h => h) (fun _ h => by exact Hp.sub h (by repeat (first | exact sR _ | exact sN _ | apply sK | apply sC))) rfl ?hy42 ?_
    case hy42 => exact Yl.load rfl rfl (by kernel_rfl) (by first | exact Hp.cell mem0 rfl | exact Hp.cell mem1 rfl | exact Hp.cell mem2 rfl | exact Hp.cell mem3 rfl | exact Hp.cell mem4 rfl | exact Hp.rowAt mem0 (by omega) rfl | exact Hp.rowAt mem1 (by omega) rfl | exact Hp.rowAt mem2 (by omega) rfl | exact Hp.rowAt mem3 (by omega) rfl | exact Hp.rowAt mem4 (by omega) rfl)
    refine' TA.y (i := 8) #[false, true, true, true, true, true, true, false, true, false, false, false, false, false, false, false, false] rfl rfl rfl (by kernel_rfl) (fun _ _ _ h => h) (fun _ h => by exact Hp.sub h (by repeat (first | exact sR _ | exact sN _ | apply sK | apply sC))) rfl ?hy43 ?_
    case hy43 => first | exact Yl.field0 (k := 0) 3 rfl rfl Try.underlying30 rfl (by kernel_rfl) rfl | exact Yl.field (k := 0) 3 rfl rfl Try.underlying30 rfl (by kernel_rfl) rfl
    refine' TA.y (i := 9) #[false, true, true, true, true, true, true, false, true, true, false, false, false, false, false, false, false] rfl rfl rfl (by kernel_rfl) (fun _ _ _ h => h) (fun _ h => by exact Hp.sub h (by repeat (first | exact sR _ | exact sN _ | apply sK | apply sC))) rfl ?hy44 ?_
    case hy44 => exact Yl.load rfl rfl (by kernel_rfl) (by first | exact Hp.cell mem0 rfl | exact Hp.cell mem1 rfl | exact Hp.cell mem2 rfl | exact Hp.cell mem3 rfl | exact Hp.cell mem4 rfl | exact Hp.rowAt mem0 (by omega) rfl | exact Hp.rowAt mem1 (by omega) rfl | exact Hp.rowAt mem2 (by omega) rfl | exact Hp.rowAt mem3 (by omega) rfl | exact Hp.rowAt mem4 (by omega) rfl)
    refine' TA.twoMC (i := 0) (j := 7) #[true, true, true, true, true, true, true, false, true, true, false, false, false, false, false, false, false] #[false, true, true, true, true, true, true, true, true, true, false, false, false, false, false, false, false] rfl rfl rfl rfl rfl rfl (by kernel_rfl) (by decide) (by decide) rfl rfl ?hy45 ?hs45 ?hz45 ?hq45 ?hF45 ?hm45
    case hy45 => exact Ym.buildSlice (cells := #[.int .i64 2, .int .i64 24, .int .i64 1, .int .i64 1]) (z := .int .i64 0) (size := 1) #[.int .i64 0, .int .i64 0, .int .i64 0, .int .i64 0] rfl Try.underlying36 (by kernel_rfl) (by decide) (by decide) (by kernel_rfl) rfl (by kernel_rfl)
    case hs45 => exact Yc.call rfl Try.func83 (by kernel_rfl) rfl rfl (Hp.calls (fun w h => k_rbit w en.w))
    case hz45 => exact (fun _ _ h => by exact Hp.sub h (by repeat (first | exact sR _ | apply sC)))
    case hq45 => exact (fun _ _ h => by exact Hp.sub h (by repeat (first | exact sR _ | apply sC)))
    case hF45 =>
      intro b22
      refine' TA.c (i := 7) #[true, true, true, true, true, true, true, true, true, true, false, false, false, false, false, false, false] rfl rfl rfl (by kernel_rfl) (by decide) rfl ?hy46 ?hz46 ?_
      case hy46 => exact Yc.call rfl Try.func83 (by kernel_rfl) rfl rfl (Hp.calls (fun w h => k_rbit w en.w))
      case hz46 => exact (fun _ _ h => by exact Hp.sub h (by repeat (first | exact sR _ | apply sC)))
      intro _
      refine' TA.c (i := 10) #[true, true, true, true, true, true, true, true, true, true, true, false, false, false, false, false, false] rfl rfl rfl (by kernel_rfl) (by decide) rfl ?hy47 ?hz47 ?_
      case hy47 => exact Yc.call rfl Try.func83 (by kernel_rfl) rfl rfl (Hp.calls (fun w h => k_rbit w en.t))
      case hz47 => exact (fun _ _ h => by exact Hp.sub h (by repeat (first | exact sR _ | apply sC)))
      intro _
      refine' TA.mx (i := 11) #[true, true, true, true, true, true, true, true, true, true, true, true, false, false, false, false, false] rfl rfl rfl (by kernel_rfl) (by decide) rfl ?hy48 ?hz48 ?_
      case hy48 => exact Ym.buildSlice (cells := #[.int .i64 en.k, .int .i64 en.pg, .int .i64 (bI en.w), .int .i64 (bI en.t)]) (z := .int .i64 0) (size := 1) #[.int .i64 0, .int .i64 0, .int .i64 0, .int .i64 0] rfl Try.underlying36 (by kernel_rfl) (by decide) (by decide) (by kernel_rfl) rfl (by kernel_rfl)
      case hz48 => exact (fun _ _ h => by exact Hp.sub h (by repeat (first | exact sR _ | apply sC)))
      intro b33
      refine' TA.c (i := 12) #[true, true, true, true, true, true, true, true, true, true, true, true, true, false, false, false, false] rfl rfl rfl (by kernel_rfl) (by decide) rfl ?hy49 ?hz49 ?_
      case hy49 => exact Yc.call rfl Try.func82 (by kernel_rfl) rfl rfl (Hp.calls (fun w h => by first | exact q_rpack w wsE (vsE en) _ _ 4 4 (Sl.ofBlk (h.all _ mem0) rfl) (Sl.ofBlk (h.all _ mem1) rfl) (by decide) (by simp [vsE]) hwf | exact q_rpack w wsE (vsE en) _ _ 4 4 (Sl.ofBlk (h.all _ mem1) rfl) (Sl.ofBlk (h.all _ mem0) rfl) (by decide) (by simp [vsE]) hwf))
      case hz49 => exact (fun _ _ h => by exact Hp.sub h (by repeat (first | exact sR _ | apply sC)))
      intro _
      refine' TA.y (i := 13) #[true, true, true, true, true, true, true, true, true, true, true, true, true, true, false, false, false] rfl rfl rfl (by kernel_rfl) (fun _ _ _ h => h) (fun _ h => by exact Hp.sub h (by repeat (first | exact sR _ | exact sN _ | apply sK | apply sC))) rfl ?hy50 ?_
      case hy50 => exact Yl.extract rfl rfl rfl
      refine' TA.y (i := 14) #[true, true, true, true, true, true, true, true, true, true, true, true, true, true, true, false, false] rfl rfl rfl (by kernel_rfl) (fun _ _ _ h => h) (fun _ h => by exact Hp.sub h (by repeat (first | exact sR _ | exact sN _ | apply sK | apply sC))) rfl ?hy51 ?_
      case hy51 => exact Yl.extract rfl rfl rfl
      refine' TA.y (i := 15) #[true, true, true, true, true, true, true, true, true, true, true, true, true, true, true, true, false] rfl rfl rfl (by kernel_rfl) (fun _ _ _ h => h) (fun _ h => by exact Hp.sub h (by repeat (first | exact sR _ | exact sN _ | apply sK | apply sC))) rfl ?hy52 ?_
      case hy52 => exact Yl.assign rfl rfl
      refine' TA.y (i := 16) #[true, true, true, true, true, true, true, true, true, true, true, true, true, true, true, true, true] rfl rfl rfl (by kernel_rfl) (fun _ _ _ h => h) (fun _ h => by exact Hp.sub h (by repeat (first | exact sR _ | exact sN _ | apply sK | apply sC))) rfl ?hy53 ?_
      case hy53 => exact Yl.assign rfl rfl
      refine TA.done (by kernel_rfl) ?_
      refine TE.next ?_
      refine TC.ret ?_
      refine TE.ret2 rfl rfl rfl ?_
      exact fun w h => ⟨by rw [show pkE en = packS wsE (vsE en) from if_pos hr]; rfl, (h.sub (List.nil_sublist _)).below⟩
    case hm45 =>
      intro _
      refine' TA.twoMC (i := 0) (j := 10) #[true, true, true, true, true, true, true, true, true, true, false, false, false, false, false, false, false] #[false, true, true, true, true, true, true, true, true, true, true, false, false, false, false, false, false] rfl rfl rfl rfl rfl rfl (by kernel_rfl) (by decide) (by decide) rfl rfl ?hy54 ?hs54 ?hz54 ?hq54 ?hF54 ?hm54
      case hy54 => exact Ym.buildSlice (cells := #[.int .i64 2, .int .i64 24, .int .i64 1, .int .i64 1]) (z := .int .i64 0) (size := 1) #[.int .i64 0, .int .i64 0, .int .i64 0, .int .i64 0] rfl Try.underlying36 (by kernel_rfl) (by decide) (by decide) (by kernel_rfl) rfl (by kernel_rfl)
      case hs54 => exact Yc.call rfl Try.func83 (by kernel_rfl) rfl rfl (Hp.calls (fun w h => k_rbit w en.t))
      case hz54 => exact (fun _ _ h => by exact Hp.sub h (by repeat (first | exact sR _ | apply sC)))
      case hq54 => exact (fun _ _ h => by exact Hp.sub h (by repeat (first | exact sR _ | apply sC)))
      case hF54 =>
        intro b22
        refine' TA.c (i := 10) #[true, true, true, true, true, true, true, true, true, true, true, false, false, false, false, false, false] rfl rfl rfl (by kernel_rfl) (by decide) rfl ?hy55 ?hz55 ?_
        case hy55 => exact Yc.call rfl Try.func83 (by kernel_rfl) rfl rfl (Hp.calls (fun w h => k_rbit w en.t))
        case hz55 => exact (fun _ _ h => by exact Hp.sub h (by repeat (first | exact sR _ | apply sC)))
        intro _
        refine' TA.mx (i := 11) #[true, true, true, true, true, true, true, true, true, true, true, true, false, false, false, false, false] rfl rfl rfl (by kernel_rfl) (by decide) rfl ?hy56 ?hz56 ?_
        case hy56 => exact Ym.buildSlice (cells := #[.int .i64 en.k, .int .i64 en.pg, .int .i64 (bI en.w), .int .i64 (bI en.t)]) (z := .int .i64 0) (size := 1) #[.int .i64 0, .int .i64 0, .int .i64 0, .int .i64 0] rfl Try.underlying36 (by kernel_rfl) (by decide) (by decide) (by kernel_rfl) rfl (by kernel_rfl)
        case hz56 => exact (fun _ _ h => by exact Hp.sub h (by repeat (first | exact sR _ | apply sC)))
        intro b33
        refine' TA.c (i := 12) #[true, true, true, true, true, true, true, true, true, true, true, true, true, false, false, false, false] rfl rfl rfl (by kernel_rfl) (by decide) rfl ?hy57 ?hz57 ?_
        case hy57 => exact Yc.call rfl Try.func82 (by kernel_rfl) rfl rfl (Hp.calls (fun w h => by first | exact q_rpack w wsE (vsE en) _ _ 4 4 (Sl.ofBlk (h.all _ mem0) rfl) (Sl.ofBlk (h.all _ mem1) rfl) (by decide) (by simp [vsE]) hwf | exact q_rpack w wsE (vsE en) _ _ 4 4 (Sl.ofBlk (h.all _ mem1) rfl) (Sl.ofBlk (h.all _ mem0) rfl) (by decide) (by simp [vsE]) hwf))
        case hz57 => exact (fun _ _ h => by exact Hp.sub h (by repeat (first | exact sR _ | apply sC)))
        intro _
        refine' TA.y (i := 13) #[true, true, true, true, true, true, true, true, true, true, true, true, true, true, false, false, false] rfl rfl rfl (by kernel_rfl) (fun _ _ _ h => h) (fun _ h => by exact Hp.sub h (by repeat (first | exact sR _ | exact sN _ | apply sK | apply sC))) rfl ?hy58 ?_
        case hy58 => exact Yl.extract rfl rfl rfl
        refine' TA.y (i := 14) #[true, true, true, true, true, true, true, true, true, true, true, true, true, true, true, false, false] rfl rfl rfl (by kernel_rfl) (fun _ _ _ h => h) (fun _ h => by exact Hp.sub h (by repeat (first | exact sR _ | exact sN _ | apply sK | apply sC))) rfl ?hy59 ?_
        case hy59 => exact Yl.extract rfl rfl rfl
        refine' TA.y (i := 15) #[true, true, true, true, true, true, true, true, true, true, true, true, true, true, true, true, false] rfl rfl rfl (by kernel_rfl) (fun _ _ _ h => h) (fun _ h => by exact Hp.sub h (by repeat (first | exact sR _ | exact sN _ | apply sK | apply sC))) rfl ?hy60 ?_
        case hy60 => exact Yl.assign rfl rfl
        refine' TA.y (i := 16) #[true, true, true, true, true, true, true, true, true, true, true, true, true, true, true, true, true] rfl rfl rfl (by kernel_rfl) (fun _ _ _ h => h) (fun _ h => by exact Hp.sub h (by repeat (first | exact sR _ | exact sN _ | apply sK | apply sC))) rfl ?hy61 ?_
        case hy61 => exact Yl.assign rfl rfl
        refine TA.done (by kernel_rfl) ?_
        refine TE.next ?_
        refine TC.ret ?_
        refine TE.ret2 rfl rfl rfl ?_
        exact fun w h => ⟨by rw [show pkE en = packS wsE (vsE en) from if_pos hr]; rfl, (h.sub (List.nil_sublist _)).below⟩
      case hm54 =>
        intro _
        refine' TA.twoMM (i := 0) (j := 11) #[true, true, true, true, true, true, true, true, true, true, true, false, false, false, false, false, false] #[false, true, true, true, true, true, true, true, true, true, true, true, false, false, false, false, false] rfl rfl rfl rfl rfl rfl (by kernel_rfl) (by decide) (by decide) rfl rfl ?hy62 ?hs62 ?hz62 ?hq62 ?hF62 ?hm62
        case hy62 => exact Ym.buildSlice (cells := #[.int .i64 2, .int .i64 24, .int .i64 1, .int .i64 1]) (z := .int .i64 0) (size := 1) #[.int .i64 0, .int .i64 0, .int .i64 0, .int .i64 0] rfl Try.underlying36 (by kernel_rfl) (by decide) (by decide) (by kernel_rfl) rfl (by kernel_rfl)
        case hs62 => exact Ym.buildSlice (cells := #[.int .i64 en.k, .int .i64 en.pg, .int .i64 (bI en.w), .int .i64 (bI en.t)]) (z := .int .i64 0) (size := 1) #[.int .i64 0, .int .i64 0, .int .i64 0, .int .i64 0] rfl Try.underlying36 (by kernel_rfl) (by decide) (by decide) (by kernel_rfl) rfl (by kernel_rfl)
        case hz62 => exact (fun _ _ h => by exact Hp.sub h (by repeat (first | exact sR _ | apply sC)))
        case hq62 => exact (fun _ _ h => by exact Hp.sub h (by repeat (first | exact sR _ | apply sC)))
        case hF62 =>
          intro b22
          refine' TA.mx (i := 11) #[true, true, true, true, true, true, true, true, true, true, true, true, false, false, false, false, false] rfl rfl rfl (by kernel_rfl) (by decide) rfl ?hy63 ?hz63 ?_
          case hy63 => exact Ym.buildSlice (cells := #[.int .i64 en.k, .int .i64 en.pg, .int .i64 (bI en.w), .int .i64 (bI en.t)]) (z := .int .i64 0) (size := 1) #[.int .i64 0, .int .i64 0, .int .i64 0, .int .i64 0] rfl Try.underlying36 (by kernel_rfl) (by decide) (by decide) (by kernel_rfl) rfl (by kernel_rfl)
          case hz63 => exact (fun _ _ h => by exact Hp.sub h (by repeat (first | exact sR _ | apply sC)))
          intro b33
          refine' TA.c (i := 12) #[true, true, true, true, true, true, true, true, true, true, true, true, true, false, false, false, false] rfl rfl rfl (by kernel_rfl) (by decide) rfl ?hy64 ?hz64 ?_
          case hy64 => exact Yc.call rfl Try.func82 (by kernel_rfl) rfl rfl (Hp.calls (fun w h => by first | exact q_rpack w wsE (vsE en) _ _ 4 4 (Sl.ofBlk (h.all _ mem0) rfl) (Sl.ofBlk (h.all _ mem1) rfl) (by decide) (by simp [vsE]) hwf | exact q_rpack w wsE (vsE en) _ _ 4 4 (Sl.ofBlk (h.all _ mem1) rfl) (Sl.ofBlk (h.all _ mem0) rfl) (by decide) (by simp [vsE]) hwf))
          case hz64 => exact (fun _ _ h => by exact Hp.sub h (by repeat (first | exact sR _ | apply sC)))
          intro _
          refine' TA.y (i := 13) #[true, true, true, true, true, true, true, true, true, true, true, true, true, true, false, false, false] rfl rfl rfl (by kernel_rfl) (fun _ _ _ h => h) (fun _ h => by exact Hp.sub h (by repeat (first | exact sR _ | exact sN _ | apply sK | apply sC))) rfl ?hy65 ?_
          case hy65 => exact Yl.extract rfl rfl rfl
          refine' TA.y (i := 14) #[true, true, true, true, true, true, true, true, true, true, true, true, true, true, true, false, false] rfl rfl rfl (by kernel_rfl) (fun _ _ _ h => h) (fun _ h => by exact Hp.sub h (by repeat (first | exact sR _ | exact sN _ | apply sK | apply sC))) rfl ?hy66 ?_
          case hy66 => exact Yl.extract rfl rfl rfl
          refine' TA.y (i := 15) #[true, true, true, true, true, true, true, true, true, true, true, true, true, true, true, true, false] rfl rfl rfl (by kernel_rfl) (fun _ _ _ h => h) (fun _ h => by exact Hp.sub h (by repeat (first | exact sR _ | exact sN _ | apply sK | apply sC))) rfl ?hy67 ?_
          case hy67 => exact Yl.assign rfl rfl
          refine' TA.y (i := 16) #[true, true, true, true, true, true, true, true, true, true, true, true, true, true, true, true, true] rfl rfl rfl (by kernel_rfl) (fun _ _ _ h => h) (fun _ h => by exact Hp.sub h (by repeat (first | exact sR _ | exact sN _ | apply sK | apply sC))) rfl ?hy68 ?_
          case hy68 => exact Yl.assign rfl rfl
          refine TA.done (by kernel_rfl) ?_
          refine TE.next ?_
          refine TC.ret ?_
          refine TE.ret2 rfl rfl rfl ?_
          exact fun w h => ⟨by rw [show pkE en = packS wsE (vsE en) from if_pos hr]; rfl, (h.sub (List.nil_sublist _)).below⟩
        case hm62 =>
          intro b33
          refine' TA.mx (i := 0) #[true, true, true, true, true, true, true, true, true, true, true, true, false, false, false, false, false] rfl rfl rfl (by kernel_rfl) (by decide) rfl ?hy69 ?hz69 ?_
          case hy69 => exact Ym.buildSlice (cells := #[.int .i64 2, .int .i64 24, .int .i64 1, .int .i64 1]) (z := .int .i64 0) (size := 1) #[.int .i64 0, .int .i64 0, .int .i64 0, .int .i64 0] rfl Try.underlying36 (by kernel_rfl) (by decide) (by decide) (by kernel_rfl) rfl (by kernel_rfl)
          case hz69 => exact (fun _ _ h => by exact Hp.sub h (by repeat (first | exact sR _ | apply sC)))
          intro b22
          refine' TA.c (i := 12) #[true, true, true, true, true, true, true, true, true, true, true, true, true, false, false, false, false] rfl rfl rfl (by kernel_rfl) (by decide) rfl ?hy70 ?hz70 ?_
          case hy70 => exact Yc.call rfl Try.func82 (by kernel_rfl) rfl rfl (Hp.calls (fun w h => by first | exact q_rpack w wsE (vsE en) _ _ 4 4 (Sl.ofBlk (h.all _ mem0) rfl) (Sl.ofBlk (h.all _ mem1) rfl) (by decide) (by simp [vsE]) hwf | exact q_rpack w wsE (vsE en) _ _ 4 4 (Sl.ofBlk (h.all _ mem1) rfl) (Sl.ofBlk (h.all _ mem0) rfl) (by decide) (by simp [vsE]) hwf))
          case hz70 => exact (fun _ _ h => by exact Hp.sub h (by repeat (first | exact sR _ | apply sC)))
          intro _
          refine' TA.y (i := 13) #[true, true, true, true, true, true, true, true, true, true, true, true, true, true, false, false, false] rfl rfl rfl (by kernel_rfl) (fun _ _ _ h => h) (fun _ h => by exact Hp.sub h (by repeat (first | exact sR _ | exact sN _ | apply sK | apply sC))) rfl ?hy71 ?_
          case hy71 => exact Yl.extract rfl rfl rfl
          refine' TA.y (i := 14) #[true, true, true, true, true, true, true, true, true, true, true, true, true, true, true, false, false] rfl rfl rfl (by kernel_rfl) (fun _ _ _ h => h) (fun _ h => by exact Hp.sub h (by repeat (first | exact sR _ | exact sN _ | apply sK | apply sC))) rfl ?hy72 ?_
          case hy72 => exact Yl.extract rfl rfl rfl
          refine' TA.y (i := 15) #[true, true, true, true, true, true, true, true, true, true, true, true, true, true, true, true, false] rfl rfl rfl (by kernel_rfl) (fun _ _ _ h => h) (fun _ h => by exact Hp.sub h (by repeat (first | exact sR _ | exact sN _ | apply sK | apply sC))) rfl ?hy73 ?_
          case hy73 => exact Yl.assign rfl rfl
          refine' TA.y (i := 16) #[true, true, true, true, true, true, true, true, true, true, true, true, true, true, true, true, true] rfl rfl rfl (by kernel_rfl) (fun _ _ _ h => h) (fun _ h => by exact Hp.sub h (by repeat (first | exact sR _ | exact sN _ | apply sK | apply sC))) rfl ?hy74 ?_
          case hy74 => exact Yl.assign rfl rfl
          refine TA.done (by kernel_rfl) ?_
          refine TE.next ?_
          refine TC.ret ?_
          refine TE.ret2 rfl rfl rfl ?_
          exact fun w h => ⟨by rw [show pkE en = packS wsE (vsE en) from if_pos hr]; rfl, (h.sub (List.nil_sublist _)).below⟩
theorem wfE {e : En} (h : okE e) : wfI (vsE e) := by
  obtain ⟨h1, h2, h3⟩ := h
  have hw := bI_cases e.w; have ht := bI_cases e.t
  intro x hx
  simp only [vsE, List.mem_cons, List.not_mem_nil, or_false] at hx
  rcases hx with rfl | rfl | rfl | rfl <;> omega
set_option maxRecDepth 100000 in
set_option maxHeartbeats 2000000 in
theorem k_run6 (W : World) {en : En} (hE : okE en) : Calls Try.prog 60 #[.int .u64 (encE en)] W fun e w' => e = .returned (.tuple #[.agg #[.int .i64 (en).k, .int .i64 (en).pg, .bool (en).w, .bool (en).t], .int .i64 0]) ∧ Below W.heap.size W w' := by
  have hb := encE_bd hE
  have hM : Hp W (fun _ => False) [] W := Hp.start
  refine TC.enter (n := 48) Try.func60 rfl rfl rfl hM ?_
  refine TC.seq ?_
  refine TC.region ?_
  refine' TL.mx rfl rfl rfl ?hy1 ?_
  case hy1 => exact Ym.alloc (z := .agg #[.int .i64 0, .int .i64 0, .bool false, .bool false]) rfl (by kernel_rfl)
  intro b2
  refine' TL.y rfl rfl rfl ?hy2 ?_
  case hy2 => exact Yl.assign rfl rfl
  refine TL.nil ?_
  refine TE.next ?_
  refine TC.seq ?_
  refine TC.region ?_
  refine' TL.mx rfl rfl rfl ?hy3 ?_
  case hy3 => exact Ym.buildSlice (cells := #[.int .i64 2, .int .i64 24, .int .i64 1, .int .i64 1]) (z := .int .i64 0) (size := 1) #[.int .i64 0, .int .i64 0, .int .i64 0, .int .i64 0] rfl Try.underlying36 (by kernel_rfl) (by decide) (by decide) (by kernel_rfl) rfl (by kernel_rfl)
  intro b10
  refine' TL.y rfl rfl rfl ?hy4 ?_
  case hy4 => exact Yl.move rfl rfl
  refine' TL.c rfl rfl rfl ?hy5 ?_
  case hy5 => exact Yc.call rfl Try.func86 (by kernel_rfl) rfl rfl (Hp.news (fun w h => q_run_ok w wsE (encE en) _ 4 (Sl.ofBlk (h.all _ mem0) rfl) (by decide) (by omega) (by omega) okW_E))
  intro v12
  rw [unE_is hE]
  refine TL.fact (fun w h => h.ownSl (e := 3) (size := 1) (m := 4) (xs := (vsE en).map (Value.int .i64)) mem0) ?_
  rintro ⟨A12, c12, rfl⟩
  refine TL.fact (fun w h => h.ownSome' (e := 3) (size := 1) (m := 4) (xs := (vsE en).map (Value.int .i64)) mem0 (by decide)) ?_
  rintro ⟨g12, rfl⟩
  refine' TL.y rfl rfl rfl ?hy6 ?_
  case hy6 => exact Yl.move rfl rfl
  refine' TL.y rfl rfl rfl ?hy7 ?_
  case hy7 => exact Yl.extract rfl rfl rfl
  refine' TL.y rfl rfl rfl ?hy8 ?_
  case hy8 => exact Yl.extract rfl rfl rfl
  refine' TL.y rfl rfl rfl ?hy9 ?_
  case hy9 => exact Yl.assign rfl rfl
  refine' TL.y rfl rfl rfl ?hy10 ?_
  case hy10 => exact Yl.assign rfl rfl
  refine TL.nil ?_
  refine TE.next ?_
  refine TC.seq ?_
  refine TC.seq ?_
  refine TC.region ?_
  refine' TL.y rfl rfl rfl ?hy11 ?_
  case hy11 => exact Yl.move rfl rfl
  refine' TL.y rfl rfl rfl ?hy12 ?_
  case hy12 => exact Yl.bin rfl rfl rfl (Bin.neq _ _ _ _)
  refine TL.nil ?_
  refine TE.next ?_
  refine TC.no rfl (rfl) ?_
  refine TC.skip ?_
  refine TE.next ?_
  refine TC.seq ?_
  refine TC.draw (k := 17) (Hp W (fun _ => False) [ownR 3 1 (.slice (some ⟨g12, 0, none⟩) 4 c12) 4 ((vsE en).map (Value.int .i64))]) [] #[false, false, false, false, false, false, false, false, false, false, false, false, false, false, false, false, false] (by kernel_rfl) rfl rfl (fun _ h => h.drew) (fun _ h => by exact Hp.sub h (by repeat (first | exact sR _ | exact sN _ | apply sK | apply sC))) ?_
  refine' TA.y (i := 0) #[true, false, false, false, false, false, false, false, false, false, false, false, false, false, false, false, false] rfl rfl rfl (by kernel_rfl) (fun _ _ _ h => h) (fun _ h => by exact Hp.sub h (by repeat (first | exact sR _ | exact sN _ | apply sK | apply sC))) rfl ?hy13 ?_
  case hy13 => exact Yl.move rfl rfl
  refine' TA.y (i := 1) #[true, true, false, false, false, false, false, false, false, false, false, false, false, false, false, false, false] rfl rfl rfl (by kernel_rfl) (fun _ _ _ h => h) (fun _ h => by exact Hp.sub h (by repeat (first | exact sR _ | exact sN _ | apply sK | apply sC))) rfl ?hy14 ?_
  case hy14 => exact Yl.ixz rfl rfl rfl Try.underlying36 (by kernel_rfl) (by decide) (by decide)
  refine' TA.y (i := 2) #[true, true, true, false, false, false, false, false, false, false, false, false, false, false, false, false, false] rfl rfl rfl (by kernel_rfl) (fun _ _ _ h => h) (fun _ h => by exact Hp.sub h (by repeat (first | exact sR _ | exact sN _ | apply sK | apply sC))) rfl ?hy15 ?_
  case hy15 => exact Yl.load rfl rfl (by kernel_rfl) (Hp.ownCell (e := 3) (size := 1) (m := 4) (xs := (vsE en).map (Value.int .i64)) (u := .int .i64 (en.k)) mem0 rfl)
  refine' TA.y (i := 3) #[true, true, true, true, false, false, false, false, false, false, false, false, false, false, false, false, false] rfl rfl rfl (by kernel_rfl) (fun _ _ _ h => h) (fun _ h => by exact Hp.sub h (by repeat (first | exact sR _ | exact sN _ | apply sK | apply sC))) rfl ?hy16 ?_
  case hy16 => exact Yl.move rfl rfl
  refine' TA.y (i := 4) #[true, true, true, true, true, false, false, false, false, false, false, false, false, false, false, false, false] rfl rfl rfl (by kernel_rfl) (fun _ _ _ h => h) (fun _ h => by exact Hp.sub h (by repeat (first | exact sR _ | exact sN _ | apply sK | apply sC))) rfl ?hy17 ?_
  case hy17 => exact Yl.ixz rfl rfl rfl Try.underlying36 (by kernel_rfl) (by decide) (by decide)
  refine' TA.y (i := 5) #[true, true, true, true, true, true, false, false, false, false, false, false, false, false, false, false, false] rfl rfl rfl (by kernel_rfl) (fun _ _ _ h => h) (fun _ h => by exact Hp.sub h (by repeat (first | exact sR _ | exact sN _ | apply sK | apply sC))) rfl ?hy18 ?_
  case hy18 => exact Yl.load rfl rfl (by kernel_rfl) (Hp.ownCell (e := 3) (size := 1) (m := 4) (xs := (vsE en).map (Value.int .i64)) (u := .int .i64 (en.pg)) mem0 rfl)
  refine' TA.y (i := 6) #[true, true, true, true, true, true, true, false, false, false, false, false, false, false, false, false, false] rfl rfl rfl (by kernel_rfl) (fun _ _ _ h => h) (fun _ h => by exact Hp.sub h (by repeat (first | exact sR _ | exact sN _ | apply sK | apply sC))) rfl ?hy19 ?_
  case hy19 => exact Yl.move rfl rfl
  refine' TA.y (i := 7) #[true, true, true, true, true, true, true, true, false, false, false, false, false, false, false, false, false] rfl rfl rfl (by kernel_rfl) (fun _ _ _ h => h) (fun _ h => by exact Hp.sub h (by repeat (first | exact sR _ | exact sN _ | apply sK | apply sC))) rfl ?hy20 ?_
  case hy20 => exact Yl.ixz rfl rfl rfl Try.underlying36 (by kernel_rfl) (by decide) (by decide)
  refine' TA.y (i := 8) #[true, true, true, true, true, true, true, true, true, false, false, false, false, false, false, false, false] rfl rfl rfl (by kernel_rfl) (fun _ _ _ h => h) (fun _ h => by exact Hp.sub h (by repeat (first | exact sR _ | exact sN _ | apply sK | apply sC))) rfl ?hy21 ?_
  case hy21 => exact Yl.load rfl rfl (by kernel_rfl) (Hp.ownCell (e := 3) (size := 1) (m := 4) (xs := (vsE en).map (Value.int .i64)) (u := .int .i64 (bI en.w)) mem0 rfl)
  refine' TA.y (i := 9) #[true, true, true, true, true, true, true, true, true, true, false, false, false, false, false, false, false] rfl rfl rfl (by kernel_rfl) (fun _ _ _ h => h) (fun _ h => by exact Hp.sub h (by repeat (first | exact sR _ | exact sN _ | apply sK | apply sC))) rfl ?hy22 ?_
  case hy22 => exact Yl.bin rfl rfl rfl (Bin.eql _ _ _ _)
  refine TA.re (i := 28) (v' := .bool en.w) rfl (congrArg Value.bool (bI_eq en.w)) ?_
  refine' TA.y (i := 10) #[true, true, true, true, true, true, true, true, true, true, true, false, false, false, false, false, false] rfl rfl rfl (by kernel_rfl) (fun _ _ _ h => h) (fun _ h => by exact Hp.sub h (by repeat (first | exact sR _ | exact sN _ | apply sK | apply sC))) rfl ?hy23 ?_
  case hy23 => exact Yl.move rfl rfl
  refine' TA.y (i := 11) #[true, true, true, true, true, true, true, true, true, true, true, true, false, false, false, false, false] rfl rfl rfl (by kernel_rfl) (fun _ _ _ h => h) (fun _ h => by exact Hp.sub h (by repeat (first | exact sR _ | exact sN _ | apply sK | apply sC))) rfl ?hy24 ?_
  case hy24 => exact Yl.ixz rfl rfl rfl Try.underlying36 (by kernel_rfl) (by decide) (by decide)
  refine' TA.y (i := 12) #[true, true, true, true, true, true, true, true, true, true, true, true, true, false, false, false, false] rfl rfl rfl (by kernel_rfl) (fun _ _ _ h => h) (fun _ h => by exact Hp.sub h (by repeat (first | exact sR _ | exact sN _ | apply sK | apply sC))) rfl ?hy25 ?_
  case hy25 => exact Yl.load rfl rfl (by kernel_rfl) (Hp.ownCell (e := 3) (size := 1) (m := 4) (xs := (vsE en).map (Value.int .i64)) (u := .int .i64 (bI en.t)) mem0 rfl)
  refine' TA.y (i := 13) #[true, true, true, true, true, true, true, true, true, true, true, true, true, true, false, false, false] rfl rfl rfl (by kernel_rfl) (fun _ _ _ h => h) (fun _ h => by exact Hp.sub h (by repeat (first | exact sR _ | exact sN _ | apply sK | apply sC))) rfl ?hy26 ?_
  case hy26 => exact Yl.bin rfl rfl rfl (Bin.eql _ _ _ _)
  refine TA.re (i := 32) (v' := .bool en.t) rfl (congrArg Value.bool (bI_eq en.t)) ?_
  refine' TA.y (i := 14) #[true, true, true, true, true, true, true, true, true, true, true, true, true, true, true, false, false] rfl rfl rfl (by kernel_rfl) (fun _ _ _ h => h) (fun _ h => by exact Hp.sub h (by repeat (first | exact sR _ | exact sN _ | apply sK | apply sC))) rfl ?hy27 ?_
  case hy27 => exact Yl.build (z := .agg #[.int .i64 0, .int .i64 0, .bool false, .bool false]) [(0, 1), (1, 1), (2, 1), (3, 1)] rfl (by kernel_rfl) Try.underlying30 (by kernel_rfl) rfl rfl
  refine' TA.mx (i := 15) #[true, true, true, true, true, true, true, true, true, true, true, true, true, true, true, true, false] rfl rfl rfl (by kernel_rfl) (by decide) rfl ?hy28 ?hz28 ?_
  case hy28 => exact Ym.alloc (z := .agg #[.int .i64 0, .int .i64 0, .bool false, .bool false]) rfl (by kernel_rfl)
  case hz28 => exact (fun _ _ h => by exact Hp.sub h (by repeat (first | exact sR _ | exact sN _ | apply sK | apply sC)))
  intro b6
  refine' TA.s (i := 16) #[true, true, true, true, true, true, true, true, true, true, true, true, true, true, true, true, true] rfl rfl (by kernel_rfl) (by decide) rfl ?hy29 ?hz29 ?_
  case hy29 => exact Ys.store (seg := [.int .i64 (en).k, .int .i64 (en).pg, .bool (en).w, .bool (en).t]) (c' := #[.int .i64 (en).k, .int .i64 (en).pg, .bool (en).w, .bool (en).t]) rfl rfl rfl (by simp [Value.cells]) (by kernel_rfl) (by simp [Value.oneCell']) foc0 (by simp [Value.cells]) (by kernel_rfl)
  case hz29 => exact (fun _ h => by exact Hp.sub h (by repeat (first | exact sR _ | exact sN _ | apply sK | apply sC)))
  refine TA.done (by kernel_rfl) ?_
  refine TE.next ?_
  refine TC.seq ?_
  refine TC.region ?_
  refine' TL.y rfl rfl rfl ?hy30 ?_
  case hy30 => exact Yl.loads (cs := [.int .i64 (en).k, .int .i64 (en).pg, .bool (en).w, .bool (en).t]) rfl rfl (by kernel_rfl) (by kernel_rfl) (Hp.cells mem0 (fun j v hj => by simpa [Value.cells] using hj))
  refine' TL.c rfl rfl rfl ?hy31 ?_
  case hy31 => exact Yc.call rfl Try.func54 (by kernel_rfl) rfl rfl (Hp.calls (fun w h => k_rpk w en (wfE hE)))
  intro _
  rw [show pkE en = (encE en, 0) from (pkE_is en).trans (if_pos hE)]
  dsimp only
  refine' TL.y rfl rfl rfl ?hy32 ?_
  case hy32 => exact Yl.move rfl rfl
  refine' TL.y rfl rfl rfl ?hy33 ?_
  case hy33 => exact Yl.extract rfl rfl rfl
  refine' TL.y rfl rfl rfl ?hy34 ?_
  case hy34 => exact Yl.extract rfl rfl rfl
  refine' TL.y rfl rfl rfl ?hy35 ?_
  case hy35 => exact Yl.assign rfl rfl
  refine' TL.y rfl rfl rfl ?hy36 ?_
  case hy36 => exact Yl.assign rfl rfl
  refine TL.nil ?_
  refine TE.next ?_
  refine TC.seq ?_
  refine TC.seq ?_
  refine TC.region ?_
  refine' TL.y rfl rfl rfl ?hy37 ?_
  case hy37 => exact Yl.move rfl rfl
  refine' TL.y rfl rfl rfl ?hy38 ?_
  case hy38 => exact Yl.bin rfl rfl rfl (Bin.neq _ _ _ _)
  refine' TL.y rfl rfl rfl ?hy39 ?_
  case hy39 => exact Yl.move rfl rfl
  refine TL.re (i := 41) (v' := .bool false) rfl (congrArg Value.bool (rfl)) ?_
  refine' TL.y rfl rfl rfl ?hy40 ?_
  case hy40 => exact Yl.move rfl rfl
  refine' TL.y rfl rfl rfl ?hy41 ?_
  case hy41 => exact Yl.move rfl rfl
  refine' TL.y rfl rfl rfl ?hy42 ?_
  case hy42 => exact Yl.bin rfl rfl rfl (Bin.neq _ _ _ _)
  refine' TL.y rfl rfl rfl ?hy43 ?_
  case hy43 => exact Yl.pickF rfl rfl rfl
  refine TL.nil ?_
  refine TE.next ?_
  refine TC.no rfl (by simp) ?_
  refine TC.skip ?_
  refine TE.next ?_
  refine TC.seq ?_
  refine TC.region ?_
  refine' TL.y rfl rfl rfl ?hy44 ?_
  case hy44 => exact Yl.loads (cs := [.int .i64 (en).k, .int .i64 (en).pg, .bool (en).w, .bool (en).t]) rfl rfl (by kernel_rfl) (by kernel_rfl) (Hp.cells mem0 (fun j v hj => by simpa [Value.cells] using hj))
  refine' TL.s rfl rfl ?hy45 ?_
  case hy45 => exact Ys.store (seg := [.int .i64 (en).k, .int .i64 (en).pg, .bool (en).w, .bool (en).t]) (c' := #[.int .i64 (en).k, .int .i64 (en).pg, .bool (en).w, .bool (en).t]) rfl rfl rfl (by simp [Value.cells]) (by kernel_rfl) (by simp [Value.oneCell']) foc3 (by simp [Value.cells]) (by kernel_rfl)
  refine' TL.y rfl rfl rfl ?hy46 ?_
  case hy46 => exact Yl.assign rfl rfl
  refine TL.nil ?_
  refine TE.next ?_
  refine TC.ret ?_
  refine TE.retCAT [.int .i64 (en).k, .int .i64 (en).pg, .bool (en).w, .bool (en).t] rfl rfl rfl (by kernel_rfl) (by kernel_rfl) (Hp.cells mem3 (fun j v hj => by simpa using hj)) ?_
  exact fun w h => ⟨rfl, (h.sub (List.nil_sublist _)).below⟩
set_option maxRecDepth 100000 in
set_option maxHeartbeats 2000000 in
theorem k_rwith (W : World) {en : En} (hE : okE en) (b : Bool) : Calls Try.prog 85 #[.int .u64 (encE en), .int .i64 (-1), .int .i64 (bI b)] W fun e w' => e = .returned (.int .u64 (encE (tch en b))) ∧ Below W.heap.size W w' := by
  have hM : Hp W (fun _ => False) [] W := Hp.start
  refine TC.enter (n := 40) Try.func85 rfl rfl rfl hM ?_
  refine TC.seq ?_
  refine TC.region ?_
  refine' TL.y rfl rfl rfl ?hy1 ?_
  case hy1 => exact Yl.assign rfl rfl
  refine TL.nil ?_
  refine TE.next ?_
  refine TC.seq ?_
  refine TC.region ?_
  refine' TL.y rfl rfl rfl ?hy2 ?_
  case hy2 => exact Yl.move rfl rfl
  refine' TL.c rfl rfl rfl ?hy3 ?_
  case hy3 => exact Yc.call rfl Try.func60 (by kernel_rfl) rfl rfl (Hp.calls (fun w h => k_run6 w hE))
  intro _
  refine' TL.y rfl rfl rfl ?hy4 ?_
  case hy4 => exact Yl.move rfl rfl
  refine' TL.y rfl rfl rfl ?hy5 ?_
  case hy5 => exact Yl.extract rfl rfl rfl
  refine' TL.y rfl rfl rfl ?hy6 ?_
  case hy6 => exact Yl.extract rfl rfl rfl
  refine' TL.mx rfl rfl rfl ?hy7 ?_
  case hy7 => exact Ym.alloc (z := .agg #[.int .i64 0, .int .i64 0, .bool false, .bool false]) rfl (by kernel_rfl)
  intro b7
  refine' TL.s rfl rfl ?hy8 ?_
  case hy8 => exact Ys.store (seg := [.int .i64 (en).k, .int .i64 (en).pg, .bool (en).w, .bool (en).t]) (c' := #[.int .i64 (en).k, .int .i64 (en).pg, .bool (en).w, .bool (en).t]) rfl rfl rfl (by simp [Value.cells]) (by kernel_rfl) (by simp [Value.oneCell']) foc0 (by simp [Value.cells]) (by kernel_rfl)
  refine' TL.y rfl rfl rfl ?hy9 ?_
  case hy9 => exact Yl.assign rfl rfl
  refine TL.nil ?_
  refine TE.next ?_
  refine TC.seq ?_
  refine TC.seq ?_
  refine TC.region ?_
  refine' TL.y rfl rfl rfl ?hy10 ?_
  case hy10 => exact Yl.move rfl rfl
  refine' TL.y rfl rfl rfl ?hy11 ?_
  case hy11 => exact Yl.bin rfl rfl rfl (Bin.neq _ _ _ _)
  refine' TL.y rfl rfl rfl ?hy12 ?_
  case hy12 => exact Yl.move rfl rfl
  refine TL.re (i := 18) (v' := .bool false) rfl (congrArg Value.bool (rfl)) ?_
  refine' TL.y rfl rfl rfl ?hy13 ?_
  case hy13 => first | exact Yl.field0 (k := 0) 0 rfl rfl Try.underlying30 rfl (by kernel_rfl) rfl | exact Yl.field (k := 0) 0 rfl rfl Try.underlying30 rfl (by kernel_rfl) rfl
  refine' TL.y rfl rfl rfl ?hy14 ?_
  case hy14 => exact Yl.load rfl rfl (by kernel_rfl) (by first | exact Hp.cell mem0 rfl | exact Hp.cell mem1 rfl | exact Hp.cell mem2 rfl | exact Hp.cell mem3 rfl | exact Hp.cell mem4 rfl | exact Hp.rowAt mem0 (by omega) rfl | exact Hp.rowAt mem1 (by omega) rfl | exact Hp.rowAt mem2 (by omega) rfl | exact Hp.rowAt mem3 (by omega) rfl | exact Hp.rowAt mem4 (by omega) rfl)
  refine' TL.y rfl rfl rfl ?hy15 ?_
  case hy15 => exact Yl.bin rfl rfl rfl (Bin.eql _ _ _ _)
  refine' TL.y rfl rfl rfl ?hy16 ?_
  case hy16 => exact Yl.pickF rfl rfl rfl
  refine TL.nil ?_
  refine TE.next ?_
  refine TC.no rfl (by have := hE.1; simp; omega) ?_
  refine TC.skip ?_
  refine TE.next ?_
  refine TC.seq ?_
  refine TC.seq ?_
  refine TC.region ?_
  refine' TL.y rfl rfl rfl ?hy17 ?_
  case hy17 => exact Yl.move rfl rfl
  refine' TL.y rfl rfl rfl ?hy18 ?_
  case hy18 => exact Yl.bin rfl rfl rfl (Bin.geq _ _ _ _)
  refine TL.nil ?_
  refine TE.next ?_
  refine TC.no rfl (rfl) ?_
  refine TC.skip ?_
  refine TE.next ?_
  refine TC.seq ?_
  refine TC.seq ?_
  refine TC.region ?_
  refine' TL.y rfl rfl rfl ?hy19 ?_
  case hy19 => exact Yl.move rfl rfl
  refine' TL.y rfl rfl rfl ?hy20 ?_
  case hy20 => exact Yl.bin rfl rfl rfl (Bin.geq _ _ _ _)
  refine TL.nil ?_
  refine TE.next ?_
  refine TC.yes rfl (by rcases bI_cases b with ⟨_, h⟩ | ⟨_, h⟩ <;> rw [h] <;> rfl) ?_
  refine TC.region ?_
  refine' TL.y rfl rfl rfl ?hy21 ?_
  case hy21 => exact Yl.move rfl rfl
  refine' TL.y rfl rfl rfl ?hy22 ?_
  case hy22 => exact Yl.bin rfl rfl rfl (Bin.eql _ _ _ _)
  refine TL.re (i := 32) (v' := .bool b) rfl (congrArg Value.bool (bI_eq b)) ?_
  refine' TL.y rfl rfl rfl ?hy23 ?_
  case hy23 => first | exact Yl.field0 (k := 0) 3 rfl rfl Try.underlying30 rfl (by kernel_rfl) rfl | exact Yl.field (k := 0) 3 rfl rfl Try.underlying30 rfl (by kernel_rfl) rfl
  refine' TL.s rfl rfl ?hy24 ?_
  case hy24 => exact Ys.store (seg := [.bool b]) (c' := #[.int .i64 ((tch en b)).k, .int .i64 ((tch en b)).pg, .bool ((tch en b)).w, .bool ((tch en b)).t]) rfl rfl rfl (by simp [Value.cells]) (by kernel_rfl) (by simp [Value.oneCell']) foc0 (by simp [Value.cells]) (by kernel_rfl)
  refine TL.nil ?_
  refine TE.next ?_
  refine TC.seq ?_
  refine TC.region ?_
  refine' TL.y rfl rfl rfl ?hy25 ?_
  case hy25 => exact Yl.loads (cs := [.int .i64 ((tch en b)).k, .int .i64 ((tch en b)).pg, .bool ((tch en b)).w, .bool ((tch en b)).t]) rfl rfl (by kernel_rfl) (by kernel_rfl) (Hp.cells mem0 (fun j v hj => by simpa [Value.cells] using hj))
  refine' TL.c rfl rfl rfl ?hy26 ?_
  case hy26 => exact Yc.call rfl Try.func54 (by kernel_rfl) rfl rfl (Hp.calls (fun w h => k_rpk w (tch en b) (wfE (tch_ok hE b))))
  intro _
  rw [show pkE (tch en b) = (encE (tch en b), 0) from (pkE_is _).trans (if_pos (tch_ok hE b))]
  dsimp only
  refine' TL.y rfl rfl rfl ?hy27 ?_
  case hy27 => exact Yl.move rfl rfl
  refine' TL.y rfl rfl rfl ?hy28 ?_
  case hy28 => exact Yl.extract rfl rfl rfl
  refine' TL.y rfl rfl rfl ?hy29 ?_
  case hy29 => exact Yl.extract rfl rfl rfl
  refine' TL.y rfl rfl rfl ?hy30 ?_
  case hy30 => exact Yl.assign rfl rfl
  refine' TL.y rfl rfl rfl ?hy31 ?_
  case hy31 => exact Yl.assign rfl rfl
  refine TL.nil ?_
  refine TE.next ?_
  refine TC.seq ?_
  refine TC.region ?_
  refine' TL.y rfl rfl rfl ?hy32 ?_
  case hy32 => exact Yl.move rfl rfl
  refine' TL.y rfl rfl rfl ?hy33 ?_
  case hy33 => exact Yl.assign rfl rfl
  refine TL.nil ?_
  refine TE.next ?_
  refine TC.ret ?_
  refine TE.ret1 rfl rfl ?_
  exact fun w h => ⟨rfl, (h.sub (List.nil_sublist _)).below⟩
set_option maxRecDepth 100000 in
set_option maxHeartbeats 2000000 in
theorem k_rtouch (W : World) {en : En} (hE : okE en) : Calls Try.prog 57 #[.int .u64 (encE en)] W fun e w' => e = .returned (.int .u64 (encE (tch en true))) ∧ Below W.heap.size W w' := by
  have hM : Hp W (fun _ => False) [] W := Hp.start
  refine TC.enter (n := 5) Try.func57 rfl rfl rfl hM ?_
  refine TC.seq ?_
  refine TC.region ?_
  refine' TL.y rfl rfl rfl ?hy1 ?_
  case hy1 => exact Yl.assign rfl rfl
  refine TL.nil ?_
  refine TE.next ?_
  refine TC.seq ?_
  refine TC.region ?_
  refine' TL.y rfl rfl rfl ?hy2 ?_
  case hy2 => exact Yl.move rfl rfl
  refine' TL.c rfl rfl rfl ?hy3 ?_
  case hy3 => exact Yc.call rfl Try.func85 (by kernel_rfl) rfl rfl (Hp.calls (fun w h => k_rwith w hE true))
  intro _
  refine' TL.y rfl rfl rfl ?hy4 ?_
  case hy4 => exact Yl.assign rfl rfl
  refine TL.nil ?_
  refine TE.next ?_
  refine TC.ret ?_
  refine TE.ret1 rfl rfl ?_
  exact fun w h => ⟨rfl, h.below⟩
set_option maxRecDepth 100000 in
set_option maxHeartbeats 2000000 in
theorem k_rrest (W : World) {en : En} (hE : okE en) : Calls Try.prog 58 #[.int .u64 (encE en)] W fun e w' => e = .returned (.tuple #[.int .u64 (encE (tch en false)), .bool en.t]) ∧ Below W.heap.size W w' := by
  have hM : Hp W (fun _ => False) [] W := Hp.start
  refine TC.enter (n := 15) Try.func58 rfl rfl rfl hM ?_
  refine TC.seq ?_
  refine TC.region ?_
  refine' TL.y rfl rfl rfl ?hy1 ?_
  case hy1 => exact Yl.assign rfl rfl
  refine' TL.y rfl rfl rfl ?hy2 ?_
  case hy2 => exact Yl.assign rfl rfl
  refine TL.nil ?_
  refine TE.next ?_
  refine TC.seq ?_
  refine TC.region ?_
  refine' TL.y rfl rfl rfl ?hy3 ?_
  case hy3 => exact Yl.move rfl rfl
  refine' TL.c rfl rfl rfl ?hy4 ?_
  case hy4 => exact Yc.call rfl Try.func60 (by kernel_rfl) rfl rfl (Hp.calls (fun w h => k_run6 w hE))
  intro _
  refine' TL.y rfl rfl rfl ?hy5 ?_
  case hy5 => exact Yl.move rfl rfl
  refine' TL.y rfl rfl rfl ?hy6 ?_
  case hy6 => exact Yl.extract rfl rfl rfl
  refine' TL.y rfl rfl rfl ?hy7 ?_
  case hy7 => exact Yl.extract rfl rfl rfl
  refine' TL.mx rfl rfl rfl ?hy8 ?_
  case hy8 => exact Ym.alloc (z := .agg #[.int .i64 0, .int .i64 0, .bool false, .bool false]) rfl (by kernel_rfl)
  intro b4
  refine' TL.s rfl rfl ?hy9 ?_
  case hy9 => exact Ys.store (seg := [.int .i64 (en).k, .int .i64 (en).pg, .bool (en).w, .bool (en).t]) (c' := #[.int .i64 (en).k, .int .i64 (en).pg, .bool (en).w, .bool (en).t]) rfl rfl rfl (by simp [Value.cells]) (by kernel_rfl) (by simp [Value.oneCell']) foc0 (by simp [Value.cells]) (by kernel_rfl)
  refine' TL.y rfl rfl rfl ?hy10 ?_
  case hy10 => exact Yl.assign rfl rfl
  refine TL.nil ?_
  refine TE.next ?_
  refine TC.seq ?_
  refine TC.draw (k := 6) (Hp W (fun _ => False) [blk b4 (.cells #[.int .i64 (en).k, .int .i64 (en).pg, .bool (en).w, .bool (en).t] 30 (0, 0))]) [] #[false, false, false, false, false, false] (by kernel_rfl) rfl rfl (fun _ h => h.drew) (fun _ h => by exact Hp.sub h (by repeat (first | exact sR _ | exact sN _ | apply sK | apply sC))) ?_
  refine' TA.y (i := 0) #[true, false, false, false, false, false] rfl rfl rfl (by kernel_rfl) (fun _ _ _ h => h) (fun _ h => by exact Hp.sub h (by repeat (first | exact sR _ | exact sN _ | apply sK | apply sC))) rfl ?hy11 ?_
  case hy11 => exact Yl.move rfl rfl
  refine' TA.y (i := 2) #[true, false, true, false, false, false] rfl rfl rfl (by kernel_rfl) (fun _ _ _ h => h) (fun _ h => by exact Hp.sub h (by repeat (first | exact sR _ | exact sN _ | apply sK | apply sC))) rfl ?hy12 ?_
  case hy12 => first | exact Yl.field0 (k := 0) 3 rfl rfl Try.underlying30 rfl (by kernel_rfl) rfl | exact Yl.field (k := 0) 3 rfl rfl Try.underlying30 rfl (by kernel_rfl) rfl
  refine' TA.y (i := 3) #[true, false, true, true, false, false] rfl rfl rfl (by kernel_rfl) (fun _ _ _ h => h) (fun _ h => by exact Hp.sub h (by repeat (first | exact sR _ | exact sN _ | apply sK | apply sC))) rfl ?hy13 ?_
  case hy13 => exact Yl.load rfl rfl (by kernel_rfl) (by first | exact Hp.cell mem0 rfl | exact Hp.cell mem1 rfl | exact Hp.cell mem2 rfl | exact Hp.cell mem3 rfl | exact Hp.cell mem4 rfl | exact Hp.rowAt mem0 (by omega) rfl | exact Hp.rowAt mem1 (by omega) rfl | exact Hp.rowAt mem2 (by omega) rfl | exact Hp.rowAt mem3 (by omega) rfl | exact Hp.rowAt mem4 (by omega) rfl)
  refine' TA.c (i := 1) #[true, true, true, true, false, false] rfl rfl rfl (by kernel_rfl) (by decide) rfl ?hy14 ?hz14 ?_
  case hy14 => exact Yc.call rfl Try.func85 (by kernel_rfl) rfl rfl (Hp.calls (fun w h => k_rwith w hE false))
  case hz14 => exact (fun _ _ h => by exact Hp.sub h (by repeat (first | exact sR _ | exact sN _ | apply sK | apply sC)))
  intro _
  refine' TA.y (i := 4) #[true, true, true, true, true, false] rfl rfl rfl (by kernel_rfl) (fun _ _ _ h => h) (fun _ h => by exact Hp.sub h (by repeat (first | exact sR _ | exact sN _ | apply sK | apply sC))) rfl ?hy15 ?_
  case hy15 => exact Yl.assign rfl rfl
  refine' TA.y (i := 5) #[true, true, true, true, true, true] rfl rfl rfl (by kernel_rfl) (fun _ _ _ h => h) (fun _ h => by exact Hp.sub h (by repeat (first | exact sR _ | exact sN _ | apply sK | apply sC))) rfl ?hy16 ?_
  case hy16 => exact Yl.assign rfl rfl
  refine TA.done (by kernel_rfl) ?_
  refine TE.next ?_
  refine TC.ret ?_
  refine TE.ret2 rfl rfl rfl ?_
  exact fun w h => ⟨rfl, (h.sub (List.nil_sublist _)).below⟩
end Go.Proofs.Ytabjdjkkpbkpfaa.Pk
