/- What is cut. -/
import Derived.Test.YtabjdjkkpbkpfaaSpW
import Derived.Test.YtabjdjkkpbkpfaaProg
import Derived.RowKit3
namespace Go.Proofs.Ytabjdjkkpbkpfaa.Pk
open Go Go.RowKit Go.Proofs.Ytabjdjkkpbkpfaa.HL Go.Proofs.Ytabjdjkkpbkpfaa.Ev Go.Proofs.YtabjdjkkpbkpfaaW.PrintWords Go.Proofs.RgP Go.Proofs.RxP Go.Proofs.Ytabjdjkkpbkpfaa.BM
set_option linter.unusedVariables false
set_option linter.unusedSimpArgs false
attribute [local irreducible] Rw atG ents Iw Aw atA pgsE idsL restC sizeS cutL addL
set_option maxRecDepth 100000 in
set_option maxHeartbeats 2000000 in
theorem law_in (W : World) {l : List A18} {A : Option Addr} {cp : Nat} (hS : Sl W A (Aw l)) (hm : l.length ≤ 9223372036854775807) (hw : ∀ i, i < l.length → wfI (vsE (atA l i).e)) (a t n : Int) : Calls Try.prog 3 #[.slice A l.length cp, .int .i64 a, .int .i64 t, .int .i64 n] W fun e w' => e = .returned (.bool true) ∧ Below W.heap.size W w' := by
  have hM : Hp W (fun _ => False) [] W := Hp.start
  refine TC.enter (n := 173) Try.func3 rfl rfl rfl hM ?_
  refine TC.seq ?_
  refine TC.region ?_
  refine' TL.y rfl rfl rfl ?hy1 ?_
  case hy1 => exact Yl.assign rfl rfl
  refine TL.nil ?_
  refine TE.next ?_
  refine TC.seq ?_
  refine TC.region ?_
  refine' TL.c rfl rfl rfl ?hy2 ?_
  case hy2 => exact Yc.call rfl Try.func9 (by kernel_rfl) rfl rfl (Hp.calls (fun w h => k_works w))
  intro _
  refine' TL.y rfl rfl rfl ?hy3 ?_
  case hy3 => exact Yl.assign rfl rfl
  refine TL.nil ?_
  refine TE.next ?_
  refine TC.seq ?_
  refine TC.seq ?_
  refine TC.region ?_
  refine' TL.y rfl rfl rfl ?hy4 ?_
  case hy4 => exact Yl.move rfl rfl
  refine' TL.y rfl rfl rfl ?hy5 ?_
  case hy5 => exact Yl.not rfl rfl
  refine TL.nil ?_
  refine TE.next ?_
  refine TC.no rfl rfl ?_
  refine TC.skip ?_
  refine TE.next ?_
  refine TC.seq ?_
  refine TC.seq ?_
  refine TC.region ?_
  refine' TL.y rfl rfl rfl ?hy6 ?_
  case hy6 => exact Yl.move rfl rfl
  refine' TL.y rfl rfl rfl ?hy7 ?_
  case hy7 => exact Yl.len rfl rfl Try.underlying22
  refine' TL.y rfl rfl rfl ?hy8 ?_
  case hy8 => exact Yl.bin rfl rfl rfl (Bin.gtr _ _ _ _)
  refine TL.nil ?_
  refine TE.next ?_
  refine TC.cond rfl (fun hs27 => ?_) (fun hs27 => ?_)
  · skip
    (try simp only [nrm] at hs27)
    refine TC.seq ?_
    refine TC.region ?_
    refine' TL.y rfl rfl rfl ?hy9 ?_
    case hy9 => exact Yl.move rfl rfl
    refine' TL.y rfl rfl rfl ?hy10 ?_
    case hy10 => exact Yl.assign rfl rfl
    refine TL.nil ?_
    refine TE.next ?_
    refine TC.ret ?_
    refine TE.thenRet ?_
    refine TE.ret1 rfl rfl ?_
    exact fun w h => ⟨rfl, (h.sub (List.nil_sublist _)).below⟩
  · skip
    (try simp only [nrm] at hs27)
    refine TC.skip ?_
    refine TE.next ?_
    refine TC.seq ?_
    refine TC.region ?_
    refine' TL.c rfl rfl rfl ?hy11 ?_
    case hy11 => exact Yc.call rfl Try.func10 (by kernel_rfl) rfl rfl (Hp.news (fun w h => k_snew w))
    intro ⟨x1, hx1⟩
    dsimp only
    refine' TL.y rfl rfl rfl ?hy12 ?_
    case hy12 => exact Yl.assign rfl rfl
    refine TL.nil ?_
    refine TE.next ?_
    refine TC.seq ?_
    refine TC.seq ?_
    refine TC.region ?_
    refine' TL.y rfl rfl rfl ?hy13 ?_
    case hy13 => exact Yl.assign rfl rfl
    refine TL.nil ?_
    refine TE.next ?_
    refine TC.block ?_
    refine TC.loop (σ := Nat × Sp × SS) (fun q => [(0, .slice A l.length cp), (1, .int .i64 a), (2, .int .i64 t), (3, .int .i64 n), (9, .bool true), (10, .pointer (some ⟨x1.s, 0, none⟩)), (11, .int .i64 (q.1 : Int))]) (fun q => Hp W (fun _ => False) [spR q.2.1 q.2.2]) (fun q => q.1 ≤ l.length ∧ q.2.1.Is q.2.2 x1.s) (fun q => l.length - q.1) (0, x1, newS) ?hF14 ?hs14 ?hm14 ?round14
    case hF14 => exact ⟨Nat.zero_le _, hx1⟩
    case hs14 => exact ⟨rfl, rfl, rfl, rfl, rfl, rfl, rfl, trivial⟩
    case hm14 => exact fun _ h => h
    case round14 =>
      rintro ⟨i, x, u⟩ ⟨hi, hx⟩
      dsimp only at hi hx ⊢
      refine TC.seq ?_
      refine TC.seq ?_
      refine TC.region ?_
      refine' TL.y rfl rfl rfl ?hy15 ?_
      case hy15 => exact Yl.move rfl rfl
      refine' TL.y rfl rfl rfl ?hy16 ?_
      case hy16 => exact Yl.move rfl rfl
      refine' TL.y rfl rfl rfl ?hy17 ?_
      case hy17 => exact Yl.len rfl rfl Try.underlying22
      refine' TL.y rfl rfl rfl ?hy18 ?_
      case hy18 => exact Yl.bin rfl rfl rfl (Bin.lss _ _ _ _)
      refine TL.nil ?_
      refine TE.next ?_
      refine TC.cond rfl (fun hs33 => ?_) (fun hs33 => ?_)
      · skip
        (try simp only [nrm] at hs33)
        obtain ⟨b0, o0, rfl⟩ := Sl.some2 hS (by rw [Aw_length]; omega)
        refine TC.skip ?_
        refine TE.next ?_
        refine TC.seq ?_
        refine TC.block ?_
        refine TC.seq ?_
        refine TC.region ?_
        refine' TL.y rfl rfl rfl ?hy19 ?_
        case hy19 => exact Yl.move rfl rfl
        refine' TL.y rfl rfl rfl ?hy20 ?_
        case hy20 => exact Yl.move rfl rfl
        refine' TL.y rfl rfl rfl ?hy21 ?_
        case hy21 => first | exact Yl.ixkn (k := 13) rfl rfl rfl Try.underlying22 (by kernel_rfl) (by omega) | exact Yl.ixkz (k := 13) rfl rfl rfl Try.underlying22 (by kernel_rfl) (by omega) (by omega)
        refine' TL.y rfl rfl rfl ?hy22 ?_
        case hy22 => first | exact Yl.field0 (k := 0) 0 rfl rfl Try.underlying32 rfl (by kernel_rfl) rfl | exact Yl.field (k := 0) 0 rfl rfl Try.underlying32 rfl (by kernel_rfl) rfl
        refine' TL.y rfl rfl rfl ?hy23 ?_
        case hy23 => exact Yl.load (v := .int .i64 (atA l i).k) rfl rfl (by kernel_rfl) (Sl.aw hS (i := i) (j := 0) rfl (by omega) (by decide))
        refine' TL.y rfl rfl rfl ?hy24 ?_
        case hy24 => exact Yl.bin rfl rfl rfl (Bin.rem _ _ _ _ (by omega))
        refine TL.nil ?_
        refine TE.next ?_
        refine TC.block ?_
        refine TC.seq ?_
        refine TC.region ?_
        refine' TL.y rfl rfl rfl ?hy25 ?_
        case hy25 => exact Yl.bin rfl rfl rfl (Bin.eql _ _ _ _)
        refine' TL.y rfl rfl rfl ?hy26 ?_
        case hy26 => exact Yl.assign rfl rfl
        refine TL.nil ?_
        refine TE.next ?_
        refine TC.cond rfl (fun hs42 => ?_) (fun hs42 => ?_)
        · skip
          (try simp only [nrm] at hs42)
          refine TC.region ?_
          refine' TL.y rfl rfl rfl ?hy27 ?_
          case hy27 => exact Yl.move rfl rfl
          refine' TL.y rfl rfl rfl ?hy28 ?_
          case hy28 => exact Yl.move rfl rfl
          refine' TL.y rfl rfl rfl ?hy29 ?_
          case hy29 => exact Yl.move rfl rfl
          refine' TL.y rfl rfl rfl ?hy30 ?_
          case hy30 => first | exact Yl.ixkn (k := 13) rfl rfl rfl Try.underlying22 (by kernel_rfl) (by omega) | exact Yl.ixkz (k := 13) rfl rfl rfl Try.underlying22 (by kernel_rfl) (by omega) (by omega)
          refine' TL.y rfl rfl rfl ?hy31 ?_
          case hy31 => first | exact Yl.field0 (k := 5) 1 rfl rfl Try.underlying32 rfl (by kernel_rfl) rfl | exact Yl.field (k := 5) 1 rfl rfl Try.underlying32 rfl (by kernel_rfl) rfl
          refine' TL.y rfl rfl rfl ?hy32 ?_
          case hy32 => exact Yl.loads (cs := [.int .i64 ((atA l i).x).f0, .int .i64 ((atA l i).x).f1, .int .i64 ((atA l i).x).f2, .int .i64 ((atA l i).x).f3, .int .i64 ((atA l i).x).f4, .bool ((atA l i).x).f5]) rfl rfl (by kernel_rfl) (by kernel_rfl) (Sl.awX hS (i := i) rfl (by omega))
          refine' TL.c rfl rfl rfl ?hy33 ?_
          case hy33 => exact Yc.call rfl Try.func11 (by kernel_rfl) rfl rfl (Hp.turnx mem0 (fun s => foc0) (k_smap hx (atA l i).x))
          intro ⟨x2, hx2⟩
          dsimp only
          refine TL.nil ?_
          refine TE.inNormal ?_
          refine TE.inNormal ?_
          refine TE.next ?_
          refine TC.region ?_
          refine' TL.y rfl rfl rfl ?hy34 ?_
          case hy34 => exact Yl.move rfl rfl
          refine' TL.y rfl rfl rfl ?hy35 ?_
          case hy35 => first | (refine Yl.val (Yl.bin rfl rfl rfl (Bin.add _ _ _ _)) (congrArg (Value.int .i64) (i64in ?_ ?_)) <;> omega) | exact Yl.bin rfl rfl rfl (Bin.add _ _ _ _)
          refine' TL.y rfl rfl rfl ?hy36 ?_
          case hy36 => exact Yl.assign rfl rfl
          refine TL.nil ?_
          refine TE.round (i + 1, x2, mapS u (atA l i).x) ?hF37 ?hlt37 ?hs37 ?hm37
          case hF37 => exact ⟨by dsimp only; omega, hx2⟩
          case hlt37 => dsimp only; omega
          case hs37 => exact ⟨rfl, rfl, rfl, rfl, rfl, rfl, rfl, trivial⟩
          case hm37 => exact fun _ h => h
        · skip
          (try simp only [nrm] at hs42)
          refine TC.seq ?_
          refine TC.region ?_
          refine' TL.y rfl rfl rfl ?hy38 ?_
          case hy38 => exact Yl.bin rfl rfl rfl (Bin.eql _ _ _ _)
          refine' TL.y rfl rfl rfl ?hy39 ?_
          case hy39 => exact Yl.assign rfl rfl
          refine TL.nil ?_
          refine TE.next ?_
          refine TC.cond rfl (fun hs51 => ?_) (fun hs51 => ?_)
          · skip
            (try simp only [nrm] at hs51)
            refine TC.draw (k := 12) (Hp W (fun _ => False) []) [] #[false, false, false, false, false, false, false, false, false, false, false, false] (by kernel_rfl) rfl rfl (fun _ h => h.drew) (fun _ h => by exact Hp.sub h (by repeat (first | exact sR _ | exact sN _ | apply sK | apply sC))) ?_
            refine' TA.y (i := 0) #[true, false, false, false, false, false, false, false, false, false, false, false] rfl rfl rfl (by kernel_rfl) (fun _ _ _ h => h) (fun _ h => by exact Hp.sub h (by repeat (first | exact sR _ | exact sN _ | apply sK | apply sC))) rfl ?hy40 ?_
            case hy40 => exact Yl.move rfl rfl
            refine' TA.y (i := 1) #[true, true, false, false, false, false, false, false, false, false, false, false] rfl rfl rfl (by kernel_rfl) (fun _ _ _ h => h) (fun _ h => by exact Hp.sub h (by repeat (first | exact sR _ | exact sN _ | apply sK | apply sC))) rfl ?hy41 ?_
            case hy41 => exact Yl.move rfl rfl
            refine' TA.y (i := 2) #[true, true, true, false, false, false, false, false, false, false, false, false] rfl rfl rfl (by kernel_rfl) (fun _ _ _ h => h) (fun _ h => by exact Hp.sub h (by repeat (first | exact sR _ | exact sN _ | apply sK | apply sC))) rfl ?hy42 ?_
            case hy42 => exact Yl.move rfl rfl
            refine' TA.y (i := 3) #[true, true, true, true, false, false, false, false, false, false, false, false] rfl rfl rfl (by kernel_rfl) (fun _ _ _ h => h) (fun _ h => by exact Hp.sub h (by repeat (first | exact sR _ | exact sN _ | apply sK | apply sC))) rfl ?hy43 ?_
            case hy43 => first | exact Yl.ixkn (k := 13) rfl rfl rfl Try.underlying22 (by kernel_rfl) (by omega) | exact Yl.ixkz (k := 13) rfl rfl rfl Try.underlying22 (by kernel_rfl) (by omega) (by omega)
            refine' TA.y (i := 4) #[true, true, true, true, true, false, false, false, false, false, false, false] rfl rfl rfl (by kernel_rfl) (fun _ _ _ h => h) (fun _ h => by exact Hp.sub h (by repeat (first | exact sR _ | exact sN _ | apply sK | apply sC))) rfl ?hy44 ?_
            case hy44 => first | exact Yl.field0 (k := 0) 11 rfl rfl Try.underlying32 rfl (by kernel_rfl) rfl | exact Yl.field (k := 0) 11 rfl rfl Try.underlying32 rfl (by kernel_rfl) rfl
            refine' TA.y (i := 5) #[true, true, true, true, true, true, false, false, false, false, false, false] rfl rfl rfl (by kernel_rfl) (fun _ _ _ h => h) (fun _ h => by exact Hp.sub h (by repeat (first | exact sR _ | exact sN _ | apply sK | apply sC))) rfl ?hy45 ?_
            case hy45 => exact Yl.load (v := .int .i64 (atA l i).a) rfl rfl (by kernel_rfl) (Sl.aw hS (i := i) (j := 11) rfl (by omega) (by decide))
            refine' TA.y (i := 6) #[true, true, true, true, true, true, true, false, false, false, false, false] rfl rfl rfl (by kernel_rfl) (fun _ _ _ h => h) (fun _ h => by exact Hp.sub h (by repeat (first | exact sR _ | exact sN _ | apply sK | apply sC))) rfl ?hy46 ?_
            case hy46 => exact Yl.move rfl rfl
            refine' TA.y (i := 7) #[true, true, true, true, true, true, true, true, false, false, false, false] rfl rfl rfl (by kernel_rfl) (fun _ _ _ h => h) (fun _ h => by exact Hp.sub h (by repeat (first | exact sR _ | exact sN _ | apply sK | apply sC))) rfl ?hy47 ?_
            case hy47 => exact Yl.move rfl rfl
            refine' TA.y (i := 8) #[true, true, true, true, true, true, true, true, true, false, false, false] rfl rfl rfl (by kernel_rfl) (fun _ _ _ h => h) (fun _ h => by exact Hp.sub h (by repeat (first | exact sR _ | exact sN _ | apply sK | apply sC))) rfl ?hy48 ?_
            case hy48 => first | exact Yl.ixkn (k := 13) rfl rfl rfl Try.underlying22 (by kernel_rfl) (by omega) | exact Yl.ixkz (k := 13) rfl rfl rfl Try.underlying22 (by kernel_rfl) (by omega) (by omega)
            refine' TA.y (i := 9) #[true, true, true, true, true, true, true, true, true, true, false, false] rfl rfl rfl (by kernel_rfl) (fun _ _ _ h => h) (fun _ h => by exact Hp.sub h (by repeat (first | exact sR _ | exact sN _ | apply sK | apply sC))) rfl ?hy49 ?_
            case hy49 => first | exact Yl.field0 (k := 3) 7 rfl rfl Try.underlying32 rfl (by kernel_rfl) rfl | exact Yl.field (k := 3) 7 rfl rfl Try.underlying32 rfl (by kernel_rfl) rfl
            refine' TA.y (i := 10) #[true, true, true, true, true, true, true, true, true, true, true, false] rfl rfl rfl (by kernel_rfl) (fun _ _ _ h => h) (fun _ h => by exact Hp.sub h (by repeat (first | exact sR _ | exact sN _ | apply sK | apply sC))) rfl ?hy50 ?_
            case hy50 => exact Yl.loads (cs := [.int .i64 ((atA l i).e).k, .int .i64 ((atA l i).e).pg, .bool ((atA l i).e).w, .bool ((atA l i).e).t]) rfl rfl (by kernel_rfl) (by kernel_rfl) (Sl.awE hS (i := i) rfl (by omega))
            refine' TA.c (i := 11) #[true, true, true, true, true, true, true, true, true, true, true, true] rfl rfl rfl (by kernel_rfl) (by decide) rfl ?hy51 ?hz51 ?_
            case hy51 => exact Yc.call rfl Try.func12 (by kernel_rfl) rfl rfl (Hp.turnx mem0 (fun s => foc0) (k_sset hx (atA l i).a (atA l i).e (hw i (by omega))))
            case hz51 => exact (fun _ _ h => by exact Hp.sub h (by repeat (first | exact sR _ | exact sN _ | apply sK | apply sC)))
            intro ⟨x2, hx2⟩
            dsimp only
            refine TA.done (by kernel_rfl) ?_
            refine TE.inNormal ?_
            refine TE.inNormal ?_
            refine TE.next ?_
            refine TC.region ?_
            refine' TL.y rfl rfl rfl ?hy52 ?_
            case hy52 => exact Yl.move rfl rfl
            refine' TL.y rfl rfl rfl ?hy53 ?_
            case hy53 => first | (refine Yl.val (Yl.bin rfl rfl rfl (Bin.add _ _ _ _)) (congrArg (Value.int .i64) (i64in ?_ ?_)) <;> omega) | exact Yl.bin rfl rfl rfl (Bin.add _ _ _ _)
            refine' TL.y rfl rfl rfl ?hy54 ?_
            case hy54 => exact Yl.assign rfl rfl
            refine TL.nil ?_
            refine TE.round (i + 1, x2, (sset u (atA l i).a (atA l i).e).1) ?hF55 ?hlt55 ?hs55 ?hm55
            case hF55 => exact ⟨by dsimp only; omega, hx2⟩
            case hlt55 => dsimp only; omega
            case hs55 => exact ⟨rfl, rfl, rfl, rfl, rfl, rfl, rfl, trivial⟩
            case hm55 => exact fun _ h => h
          · skip
            (try simp only [nrm] at hs51)
            refine TC.seq ?_
            refine TC.region ?_
            refine' TL.y rfl rfl rfl ?hy56 ?_
            case hy56 => exact Yl.bin rfl rfl rfl (Bin.eql _ _ _ _)
            refine' TL.y rfl rfl rfl ?hy57 ?_
            case hy57 => exact Yl.assign rfl rfl
            refine TL.nil ?_
            refine TE.next ?_
            refine TC.cond rfl (fun hs65 => ?_) (fun hs65 => ?_)
            · skip
              (try simp only [nrm] at hs65)
              refine TC.draw (k := 12) (Hp W (fun _ => False) []) [] #[false, false, false, false, false, false, false, false, false, false, false, false] (by kernel_rfl) rfl rfl (fun _ h => h.drew) (fun _ h => by exact Hp.sub h (by repeat (first | exact sR _ | exact sN _ | apply sK | apply sC))) ?_
              refine' TA.y (i := 0) #[true, false, false, false, false, false, false, false, false, false, false, false] rfl rfl rfl (by kernel_rfl) (fun _ _ _ h => h) (fun _ h => by exact Hp.sub h (by repeat (first | exact sR _ | exact sN _ | apply sK | apply sC))) rfl ?hy58 ?_
              case hy58 => exact Yl.move rfl rfl
              refine' TA.y (i := 1) #[true, true, false, false, false, false, false, false, false, false, false, false] rfl rfl rfl (by kernel_rfl) (fun _ _ _ h => h) (fun _ h => by exact Hp.sub h (by repeat (first | exact sR _ | exact sN _ | apply sK | apply sC))) rfl ?hy59 ?_
              case hy59 => exact Yl.move rfl rfl
              refine' TA.y (i := 2) #[true, true, true, false, false, false, false, false, false, false, false, false] rfl rfl rfl (by kernel_rfl) (fun _ _ _ h => h) (fun _ h => by exact Hp.sub h (by repeat (first | exact sR _ | exact sN _ | apply sK | apply sC))) rfl ?hy60 ?_
              case hy60 => exact Yl.move rfl rfl
              refine' TA.y (i := 3) #[true, true, true, true, false, false, false, false, false, false, false, false] rfl rfl rfl (by kernel_rfl) (fun _ _ _ h => h) (fun _ h => by exact Hp.sub h (by repeat (first | exact sR _ | exact sN _ | apply sK | apply sC))) rfl ?hy61 ?_
              case hy61 => first | exact Yl.ixkn (k := 13) rfl rfl rfl Try.underlying22 (by kernel_rfl) (by omega) | exact Yl.ixkz (k := 13) rfl rfl rfl Try.underlying22 (by kernel_rfl) (by omega) (by omega)
              refine' TA.y (i := 4) #[true, true, true, true, true, false, false, false, false, false, false, false] rfl rfl rfl (by kernel_rfl) (fun _ _ _ h => h) (fun _ h => by exact Hp.sub h (by repeat (first | exact sR _ | exact sN _ | apply sK | apply sC))) rfl ?hy62 ?_
              case hy62 => first | exact Yl.field0 (k := 0) 11 rfl rfl Try.underlying32 rfl (by kernel_rfl) rfl | exact Yl.field (k := 0) 11 rfl rfl Try.underlying32 rfl (by kernel_rfl) rfl
              refine' TA.y (i := 5) #[true, true, true, true, true, true, false, false, false, false, false, false] rfl rfl rfl (by kernel_rfl) (fun _ _ _ h => h) (fun _ h => by exact Hp.sub h (by repeat (first | exact sR _ | exact sN _ | apply sK | apply sC))) rfl ?hy63 ?_
              case hy63 => exact Yl.load (v := .int .i64 (atA l i).a) rfl rfl (by kernel_rfl) (Sl.aw hS (i := i) (j := 11) rfl (by omega) (by decide))
              refine' TA.y (i := 6) #[true, true, true, true, true, true, true, false, false, false, false, false] rfl rfl rfl (by kernel_rfl) (fun _ _ _ h => h) (fun _ h => by exact Hp.sub h (by repeat (first | exact sR _ | exact sN _ | apply sK | apply sC))) rfl ?hy64 ?_
              case hy64 => exact Yl.move rfl rfl
              refine' TA.y (i := 7) #[true, true, true, true, true, true, true, true, false, false, false, false] rfl rfl rfl (by kernel_rfl) (fun _ _ _ h => h) (fun _ h => by exact Hp.sub h (by repeat (first | exact sR _ | exact sN _ | apply sK | apply sC))) rfl ?hy65 ?_
              case hy65 => exact Yl.move rfl rfl
              refine' TA.y (i := 8) #[true, true, true, true, true, true, true, true, true, false, false, false] rfl rfl rfl (by kernel_rfl) (fun _ _ _ h => h) (fun _ h => by exact Hp.sub h (by repeat (first | exact sR _ | exact sN _ | apply sK | apply sC))) rfl ?hy66 ?_
              case hy66 => first | exact Yl.ixkn (k := 13) rfl rfl rfl Try.underlying22 (by kernel_rfl) (by omega) | exact Yl.ixkz (k := 13) rfl rfl rfl Try.underlying22 (by kernel_rfl) (by omega) (by omega)
              refine' TA.y (i := 9) #[true, true, true, true, true, true, true, true, true, true, false, false] rfl rfl rfl (by kernel_rfl) (fun _ _ _ h => h) (fun _ h => by exact Hp.sub h (by repeat (first | exact sR _ | exact sN _ | apply sK | apply sC))) rfl ?hy67 ?_
              case hy67 => first | exact Yl.field0 (k := 0) 12 rfl rfl Try.underlying32 rfl (by kernel_rfl) rfl | exact Yl.field (k := 0) 12 rfl rfl Try.underlying32 rfl (by kernel_rfl) rfl
              refine' TA.y (i := 10) #[true, true, true, true, true, true, true, true, true, true, true, false] rfl rfl rfl (by kernel_rfl) (fun _ _ _ h => h) (fun _ h => by exact Hp.sub h (by repeat (first | exact sR _ | exact sN _ | apply sK | apply sC))) rfl ?hy68 ?_
              case hy68 => exact Yl.load (v := .int .i64 (atA l i).b) rfl rfl (by kernel_rfl) (Sl.aw hS (i := i) (j := 12) rfl (by omega) (by decide))
              refine' TA.c (i := 11) #[true, true, true, true, true, true, true, true, true, true, true, true] rfl rfl rfl (by kernel_rfl) (by decide) rfl ?hy69 ?hz69 ?_
              case hy69 => exact Yc.call rfl Try.func13 (by kernel_rfl) rfl rfl (Hp.turnx mem0 (fun s => foc0) (k_scut hx (atA l i).a (atA l i).b))
              case hz69 => exact (fun _ _ h => by exact Hp.sub h (by repeat (first | exact sR _ | exact sN _ | apply sK | apply sC)))
              intro ⟨⟨v78, x2⟩, hx2⟩
              dsimp only at hx2 ⊢
              refine TA.wk (M' := Hp W (fun _ => False) [spR x2 (scut u (atA l i).a (atA l i).b)]) (fun w h => h.unstar.sub (.cons _ (List.Sublist.refl _))) ?_
              refine TA.done (by kernel_rfl) ?_
              refine TE.inNormal ?_
              refine TE.inNormal ?_
              refine TE.next ?_
              refine TC.region ?_
              refine' TL.y rfl rfl rfl ?hy70 ?_
              case hy70 => exact Yl.move rfl rfl
              refine' TL.y rfl rfl rfl ?hy71 ?_
              case hy71 => first | (refine Yl.val (Yl.bin rfl rfl rfl (Bin.add _ _ _ _)) (congrArg (Value.int .i64) (i64in ?_ ?_)) <;> omega) | exact Yl.bin rfl rfl rfl (Bin.add _ _ _ _)
              refine' TL.y rfl rfl rfl ?hy72 ?_
              case hy72 => exact Yl.assign rfl rfl
              refine TL.nil ?_
              refine TE.round (i + 1, x2, scut u (atA l i).a (atA l i).b) ?hF73 ?hlt73 ?hs73 ?hm73
              case hF73 => exact ⟨by dsimp only; omega, hx2⟩
              case hlt73 => dsimp only; omega
              case hs73 => exact ⟨rfl, rfl, rfl, rfl, rfl, rfl, rfl, trivial⟩
              case hm73 => exact fun _ h => h
            · skip
              (try simp only [nrm] at hs65)
              refine TC.skip ?_
              refine TE.inNormal ?_
              refine TE.inNormal ?_
              refine TE.next ?_
              refine TC.region ?_
              refine' TL.y rfl rfl rfl ?hy74 ?_
              case hy74 => exact Yl.move rfl rfl
              refine' TL.y rfl rfl rfl ?hy75 ?_
              case hy75 => first | (refine Yl.val (Yl.bin rfl rfl rfl (Bin.add _ _ _ _)) (congrArg (Value.int .i64) (i64in ?_ ?_)) <;> omega) | exact Yl.bin rfl rfl rfl (Bin.add _ _ _ _)
              refine' TL.y rfl rfl rfl ?hy76 ?_
              case hy76 => exact Yl.assign rfl rfl
              refine TL.nil ?_
              refine TE.round (i + 1, x, u) ?hF77 ?hlt77 ?hs77 ?hm77
              case hF77 => exact ⟨by dsimp only; omega, hx⟩
              case hlt77 => dsimp only; omega
              case hs77 => exact ⟨rfl, rfl, rfl, rfl, rfl, rfl, rfl, trivial⟩
              case hm77 => exact fun _ h => h
      · skip
        (try simp only [nrm] at hs33)
        refine TC.exit ?_
        refine TE.thenExit ?_
        refine TE.thenExit ?_
        refine TE.inHere ?_
        refine TE.next ?_
        refine TC.seq ?_
        refine TC.region ?_
        refine' TL.y rfl rfl rfl ?hy78 ?_
        case hy78 => exact Yl.move rfl rfl
        refine' TL.y rfl rfl rfl ?hy79 ?_
        case hy79 => exact Yl.move rfl rfl
        refine' TL.c rfl rfl rfl ?hy80 ?_
        case hy80 => exact Yc.call rfl Try.func14 (by kernel_rfl) rfl rfl (Hp.calls (fun w h => k_sentry w (h.all _ mem0) hx n))
        intro _
        refine' TL.y rfl rfl rfl ?hy81 ?_
        case hy81 => exact Yl.move rfl rfl
        refine' TL.y rfl rfl rfl ?hy82 ?_
        case hy82 => exact Yl.extract rfl rfl rfl
        refine' TL.y rfl rfl rfl ?hy83 ?_
        case hy83 => exact Yl.extract rfl rfl rfl
        refine' TL.mx rfl rfl rfl ?hy84 ?_
        case hy84 => exact Ym.alloc (z := .agg #[.int .i64 0, .int .i64 0, .bool false, .bool false]) rfl (by kernel_rfl)
        intro b12
        refine' TL.s rfl rfl ?hy85 ?_
        case hy85 => exact Ys.store (seg := [.int .i64 (((gE (u) n).getD zEn)).k, .int .i64 (((gE (u) n).getD zEn)).pg, .bool (((gE (u) n).getD zEn)).w, .bool (((gE (u) n).getD zEn)).t]) (c' := #[.int .i64 (((gE (u) n).getD zEn)).k, .int .i64 (((gE (u) n).getD zEn)).pg, .bool (((gE (u) n).getD zEn)).w, .bool (((gE (u) n).getD zEn)).t]) rfl rfl rfl (by simp [Value.cells]) (by kernel_rfl) (by simp [Value.oneCell']) foc0 (by simp [Value.cells]) rfl
        refine' TL.y rfl rfl rfl ?hy86 ?_
        case hy86 => exact Yl.assign rfl rfl
        refine TL.nil ?_
        refine TE.next ?_
        refine TC.seq ?_
        refine TC.region ?_
        refine' TL.y rfl rfl rfl ?hy87 ?_
        case hy87 => exact Yl.move rfl rfl
        refine' TL.y rfl rfl rfl ?hy88 ?_
        case hy88 => exact Yl.move rfl rfl
        refine' TL.c rfl rfl rfl ?hy89 ?_
        case hy89 => exact Yc.call rfl Try.func15 (by kernel_rfl) rfl rfl (Hp.calls (fun w h => k_swhere w (h.all _ mem1) hx n))
        intro _
        refine' TL.y rfl rfl rfl ?hy90 ?_
        case hy90 => exact Yl.move rfl rfl
        refine' TL.y rfl rfl rfl ?hy91 ?_
        case hy91 => exact Yl.extract rfl rfl rfl
        refine' TL.y rfl rfl rfl ?hy92 ?_
        case hy92 => exact Yl.extract rfl rfl rfl
        refine' TL.mx rfl rfl rfl ?hy93 ?_
        case hy93 => exact Ym.alloc (z := .agg #[.int .i64 0, .int .i64 0, .int .i64 0, .int .i64 0, .int .i64 0, .bool false]) rfl (by kernel_rfl)
        intro b14
        refine' TL.s rfl rfl ?hy94 ?_
        case hy94 => exact Ys.store (seg := [.int .i64 (((fnd (u).G n).getD z25)).f0, .int .i64 (((fnd (u).G n).getD z25)).f1, .int .i64 (((fnd (u).G n).getD z25)).f2, .int .i64 (((fnd (u).G n).getD z25)).f3, .int .i64 (((fnd (u).G n).getD z25)).f4, .bool (((fnd (u).G n).getD z25)).f5]) (c' := #[.int .i64 (((fnd (u).G n).getD z25)).f0, .int .i64 (((fnd (u).G n).getD z25)).f1, .int .i64 (((fnd (u).G n).getD z25)).f2, .int .i64 (((fnd (u).G n).getD z25)).f3, .int .i64 (((fnd (u).G n).getD z25)).f4, .bool (((fnd (u).G n).getD z25)).f5]) rfl rfl rfl (by simp [Value.cells]) (by kernel_rfl) (by simp [Value.oneCell']) foc0 (by simp [Value.cells]) rfl
        refine' TL.y rfl rfl rfl ?hy95 ?_
        case hy95 => exact Yl.assign rfl rfl
        refine TL.nil ?_
        refine TE.next ?_
        refine TC.meet (σ := Unit) (fun _ => [(1, .int .i64 a), (2, .int .i64 t), (3, .int .i64 n), (9, .bool true), (10, .pointer (some ⟨x1.s, 0, none⟩)), (12, .pointer (some ⟨b12, 0, none⟩)), (13, .bool (gE u n).isSome), (14, .pointer (some ⟨b14, 0, none⟩)), (15, .bool (fnd u.G n).isSome)]) (fun _ => Hp W (fun _ => False) [blk b14 (.cells #[.int .i64 (((fnd (u).G n).getD z25)).f0, .int .i64 (((fnd (u).G n).getD z25)).f1, .int .i64 (((fnd (u).G n).getD z25)).f2, .int .i64 (((fnd (u).G n).getD z25)).f3, .int .i64 (((fnd (u).G n).getD z25)).f4, .bool (((fnd (u).G n).getD z25)).f5] 28 (0, 0)), blk b12 (.cells #[.int .i64 (((gE (u) n).getD zEn)).k, .int .i64 (((gE (u) n).getD zEn)).pg, .bool (((gE (u) n).getD zEn)).w, .bool (((gE (u) n).getD zEn)).t] 30 (0, 0)), spR x u]) (fun _ => True) ?hx96 ?hy96
        case hx96 =>
          refine TC.seq ?_
          refine TC.region ?_
          refine' TL.y rfl rfl rfl ?hy97 ?_
          case hy97 => exact Yl.move rfl rfl
          refine' TL.y rfl rfl rfl ?hy98 ?_
          case hy98 => exact Yl.move rfl rfl
          refine TL.split (i := 92) rfl (fun hs92 => ?_) (fun hs92 => ?_)
          · skip
            (try simp only [nrm] at hs92)
            obtain ⟨en, he⟩ : ∃ en, gE u n = some en := Option.isSome_iff_exists.1 (by simpa using hs92)
            have hcov := gE_cov hx.ok he
            refine' TL.y rfl rfl rfl ?hy99 ?_
            case hy99 => exact Yl.move rfl rfl
            refine' TL.y rfl rfl rfl ?hy100 ?_
            case hy100 => exact Yl.not rfl rfl
            refine' TL.y rfl rfl rfl ?hy101 ?_
            case hy101 => exact Yl.move rfl rfl
            refine TL.re (i := 95) (v' := .bool false) rfl (congrArg Value.bool (by rw [hcov]; rfl)) ?_
            refine' TL.y rfl rfl rfl ?hy102 ?_
            case hy102 => first | exact Yl.field0 (k := 0) 0 rfl rfl Try.underlying30 rfl (by kernel_rfl) rfl | exact Yl.field (k := 0) 0 rfl rfl Try.underlying30 rfl (by kernel_rfl) rfl
            refine' TL.y rfl rfl rfl ?hy103 ?_
            case hy103 => exact Yl.load rfl rfl (by kernel_rfl) (Hp.cell mem1 rfl)
            refine' TL.y rfl rfl rfl ?hy104 ?_
            case hy104 => exact Yl.bin rfl rfl rfl (Bin.eql _ _ _ _)
            refine' TL.y rfl rfl rfl ?hy105 ?_
            case hy105 => exact Yl.pickF rfl rfl rfl
            refine' TL.y rfl rfl rfl ?hy106 ?_
            case hy106 => exact Yl.pickT rfl rfl rfl
            refine TL.nil ?_
            refine TE.next ?_
            refine TC.no rfl (by rw [he]; have := (gE_ok hx.ok he).1; simp; omega) ?_
            refine TC.skip ?_
            refine TE.met () ?hF107 ?hs107 ?hm107
            case hF107 => trivial
            case hs107 => exact ⟨rfl, rfl, rfl, rfl, rfl, rfl, rfl, rfl, rfl, trivial⟩
            case hm107 => exact fun _ h => h
          · skip
            (try simp only [nrm] at hs92)
            refine TL.skip rfl rfl rfl ?_
            refine TL.skip rfl rfl rfl ?_
            refine TL.skip rfl rfl rfl ?_
            refine TL.skip rfl rfl rfl ?_
            refine TL.skip rfl rfl rfl ?_
            refine TL.skip rfl rfl rfl ?_
            refine TL.skip rfl rfl rfl ?_
            refine' TL.y rfl rfl rfl ?hy108 ?_
            case hy108 => exact Yl.pickF rfl rfl rfl
            refine TL.nil ?_
            refine TE.next ?_
            refine TC.no rfl rfl ?_
            refine TC.skip ?_
            refine TE.met () ?hF109 ?hs109 ?hm109
            case hF109 => trivial
            case hs109 => exact ⟨rfl, rfl, rfl, rfl, rfl, rfl, rfl, rfl, rfl, trivial⟩
            case hm109 => exact fun _ h => h
        case hy96 =>
          intro _ _
          refine TC.seq ?_
          refine TC.region ?_
          refine' TL.y rfl rfl rfl ?hy110 ?_
          case hy110 => exact Yl.move rfl rfl
          refine' TL.c rfl rfl rfl ?hy111 ?_
          case hy111 => exact Yc.call rfl Try.func16 (by kernel_rfl) rfl rfl (Hp.calls (fun w h => k_ssize w (h.all _ mem2) hx))
          intro _
          refine' TL.y rfl rfl rfl ?hy112 ?_
          case hy112 => exact Yl.assign rfl rfl
          refine TL.nil ?_
          refine TE.next ?_
          refine TC.seq ?_
          refine TC.region ?_
          refine' TL.y rfl rfl rfl ?hy113 ?_
          case hy113 => exact Yl.move rfl rfl
          refine' TL.y rfl rfl rfl ?hy114 ?_
          case hy114 => exact Yl.move rfl rfl
          refine' TL.y rfl rfl rfl ?hy115 ?_
          case hy115 => exact Yl.move rfl rfl
          refine' TL.c rfl rfl rfl ?hy116 ?_
          case hy116 => exact Yc.call rfl Try.func13 (by kernel_rfl) rfl rfl (Hp.turnx mem2 (fun s => foc2) (k_scut hx a t))
          intro ⟨⟨v106, x4⟩, hx4⟩
          dsimp only at hx4 ⊢
          refine TL.wk (M' := Hp W (fun _ => False) [rowI v106 (idsL u a t), spR x4 (scut u a t), blk b14 (.cells #[.int .i64 (((fnd (u).G n).getD z25)).f0, .int .i64 (((fnd (u).G n).getD z25)).f1, .int .i64 (((fnd (u).G n).getD z25)).f2, .int .i64 (((fnd (u).G n).getD z25)).f3, .int .i64 (((fnd (u).G n).getD z25)).f4, .bool (((fnd (u).G n).getD z25)).f5] 28 (0, 0)), blk b12 (.cells #[.int .i64 (((gE (u) n).getD zEn)).k, .int .i64 (((gE (u) n).getD zEn)).pg, .bool (((gE (u) n).getD zEn)).w, .bool (((gE (u) n).getD zEn)).t] 30 (0, 0))]) (fun w h => h.swap1.swap.unstar) ?_
          refine TL.fact (fun w h => Hp.rowShape mem0 w h) ?_
          rintro ⟨A106, c106, rfl⟩
          have hcs := cut_size u a t
          have hsz : sizeS u ≤ 65536 := by rw [size_len]; exact pgs_len2 u 0 65536
          refine' TL.y rfl rfl rfl ?hy117 ?_
          case hy117 => exact Yl.assign rfl rfl
          refine TL.nil ?_
          refine TE.next ?_
          refine TC.seq ?_
          refine TC.region ?_
          refine' TL.y rfl rfl rfl ?hy118 ?_
          case hy118 => exact Yl.move rfl rfl
          refine' TL.y rfl rfl rfl ?hy119 ?_
          case hy119 => exact Yl.move rfl rfl
          refine' TL.c rfl rfl rfl ?hy120 ?_
          case hy120 => exact Yc.call rfl Try.func14 (by kernel_rfl) rfl rfl (Hp.calls (fun w h => k_sentry w (h.all _ mem1) hx4 n))
          intro _
          refine' TL.y rfl rfl rfl ?hy121 ?_
          case hy121 => exact Yl.move rfl rfl
          refine' TL.y rfl rfl rfl ?hy122 ?_
          case hy122 => exact Yl.extract rfl rfl rfl
          refine' TL.y rfl rfl rfl ?hy123 ?_
          case hy123 => exact Yl.extract rfl rfl rfl
          refine' TL.mx rfl rfl rfl ?hy124 ?_
          case hy124 => exact Ym.alloc (z := .agg #[.int .i64 0, .int .i64 0, .bool false, .bool false]) rfl (by kernel_rfl)
          intro b18
          refine' TL.s rfl rfl ?hy125 ?_
          case hy125 => exact Ys.store (seg := [.int .i64 (((gE (scut u a t) n).getD zEn)).k, .int .i64 (((gE (scut u a t) n).getD zEn)).pg, .bool (((gE (scut u a t) n).getD zEn)).w, .bool (((gE (scut u a t) n).getD zEn)).t]) (c' := #[.int .i64 (((gE (scut u a t) n).getD zEn)).k, .int .i64 (((gE (scut u a t) n).getD zEn)).pg, .bool (((gE (scut u a t) n).getD zEn)).w, .bool (((gE (scut u a t) n).getD zEn)).t]) rfl rfl rfl (by simp [Value.cells]) (by kernel_rfl) (by simp [Value.oneCell']) foc0 (by simp [Value.cells]) rfl
          refine' TL.y rfl rfl rfl ?hy126 ?_
          case hy126 => exact Yl.assign rfl rfl
          refine TL.nil ?_
          refine TE.next ?_
          refine TC.seq ?_
          refine TC.region ?_
          refine' TL.y rfl rfl rfl ?hy127 ?_
          case hy127 => exact Yl.move rfl rfl
          refine' TL.y rfl rfl rfl ?hy128 ?_
          case hy128 => exact Yl.move rfl rfl
          refine' TL.c rfl rfl rfl ?hy129 ?_
          case hy129 => exact Yc.call rfl Try.func15 (by kernel_rfl) rfl rfl (Hp.calls (fun w h => k_swhere w (h.all _ mem2) hx4 n))
          intro _
          refine' TL.y rfl rfl rfl ?hy130 ?_
          case hy130 => exact Yl.move rfl rfl
          refine' TL.y rfl rfl rfl ?hy131 ?_
          case hy131 => exact Yl.extract rfl rfl rfl
          refine' TL.y rfl rfl rfl ?hy132 ?_
          case hy132 => exact Yl.extract rfl rfl rfl
          refine' TL.mx rfl rfl rfl ?hy133 ?_
          case hy133 => exact Ym.alloc (z := .agg #[.int .i64 0, .int .i64 0, .int .i64 0, .int .i64 0, .int .i64 0, .bool false]) rfl (by kernel_rfl)
          intro b20
          refine' TL.s rfl rfl ?hy134 ?_
          case hy134 => exact Ys.store (seg := [.int .i64 (((fnd (scut u a t).G n).getD z25)).f0, .int .i64 (((fnd (scut u a t).G n).getD z25)).f1, .int .i64 (((fnd (scut u a t).G n).getD z25)).f2, .int .i64 (((fnd (scut u a t).G n).getD z25)).f3, .int .i64 (((fnd (scut u a t).G n).getD z25)).f4, .bool (((fnd (scut u a t).G n).getD z25)).f5]) (c' := #[.int .i64 (((fnd (scut u a t).G n).getD z25)).f0, .int .i64 (((fnd (scut u a t).G n).getD z25)).f1, .int .i64 (((fnd (scut u a t).G n).getD z25)).f2, .int .i64 (((fnd (scut u a t).G n).getD z25)).f3, .int .i64 (((fnd (scut u a t).G n).getD z25)).f4, .bool (((fnd (scut u a t).G n).getD z25)).f5]) rfl rfl rfl (by simp [Value.cells]) (by kernel_rfl) (by simp [Value.oneCell']) foc0 (by simp [Value.cells]) rfl
          refine' TL.y rfl rfl rfl ?hy135 ?_
          case hy135 => exact Yl.assign rfl rfl
          refine TL.nil ?_
          refine TE.next ?_
          refine TC.seq ?_
          refine TC.seq ?_
          refine TC.region ?_
          refine' TL.y rfl rfl rfl ?hy136 ?_
          case hy136 => exact Yl.move rfl rfl
          refine' TL.c rfl rfl rfl ?hy137 ?_
          case hy137 => exact Yc.call rfl Try.func16 (by kernel_rfl) rfl rfl (Hp.calls (fun w h => k_ssize w (h.all _ mem3) hx4))
          intro _
          refine' TL.y rfl rfl rfl ?hy138 ?_
          case hy138 => exact Yl.move rfl rfl
          refine' TL.y rfl rfl rfl ?hy139 ?_
          case hy139 => exact Yl.move rfl rfl
          refine' TL.y rfl rfl rfl ?hy140 ?_
          case hy140 => exact Yl.len rfl rfl Try.underlying36
          refine' TL.y rfl rfl rfl ?hy141 ?_
          case hy141 => first | (refine Yl.val (Yl.bin rfl rfl rfl (Bin.sub _ _ _ _)) (congrArg (Value.int .i64) (i64in ?_ ?_)) <;> omega) | exact Yl.bin rfl rfl rfl (Bin.sub _ _ _ _)
          refine' TL.y rfl rfl rfl ?hy142 ?_
          case hy142 => exact Yl.bin rfl rfl rfl (Bin.neq _ _ _ _)
          refine TL.nil ?_
          refine TE.next ?_
          refine TC.no rfl (by simp; omega) ?_
          refine TC.skip ?_
          refine TE.next ?_
          refine TC.seq ?_
          refine TC.seq ?_
          refine TC.region ?_
          refine' TL.y rfl rfl rfl ?hy143 ?_
          case hy143 => exact Yl.move rfl rfl
          refine' TL.y rfl rfl rfl ?hy144 ?_
          case hy144 => exact Yl.move rfl rfl
          refine' TL.y rfl rfl rfl ?hy145 ?_
          case hy145 => exact Yl.bin rfl rfl rfl (Bin.geq _ _ _ _)
          refine' TL.y rfl rfl rfl ?hy146 ?_
          case hy146 => exact Yl.move rfl rfl
          refine TL.split (i := 129) rfl (fun hs129 => ?_) (fun hs129 => ?_)
          · skip
            (try simp only [nrm] at hs129)
            refine' TL.y rfl rfl rfl ?hy147 ?_
            case hy147 => exact Yl.move rfl rfl
            refine' TL.y rfl rfl rfl ?hy148 ?_
            case hy148 => exact Yl.move rfl rfl
            refine' TL.y rfl rfl rfl ?hy149 ?_
            case hy149 => exact Yl.bin rfl rfl rfl (Bin.lss _ _ _ _)
            refine' TL.y rfl rfl rfl ?hy150 ?_
            case hy150 => exact Yl.pickT rfl rfl rfl
            refine TL.nil ?_
            refine TE.next ?_
            refine TC.cond rfl (fun hs133 => ?_) (fun hs133 => ?_)
            · skip
              (try simp only [nrm] at hs133)
              have hin : a ≤ n ∧ n < t := ⟨by omega, by omega⟩
              have hg1 : gE (scut u a t) n = none := by rw [gE_cut, if_pos hin]
              have hg2 : fnd (scut u a t).G n = none := find_gone hx.ok.right hin
              rw [hg1, hg2]
              refine TC.seq ?_
              refine TC.region ?_
              refine' TL.y rfl rfl rfl ?hy151 ?_
              case hy151 => exact Yl.move rfl rfl
              refine' TL.y rfl rfl rfl ?hy152 ?_
              case hy152 => exact Yl.move rfl rfl
              refine' TL.y rfl rfl rfl ?hy153 ?_
              case hy153 => exact Yl.move rfl rfl
              refine' TL.y rfl rfl rfl ?hy154 ?_
              case hy154 => exact Yl.not rfl rfl
              refine' TL.y rfl rfl rfl ?hy155 ?_
              case hy155 => exact Yl.pickT rfl rfl rfl
              refine' TL.y rfl rfl rfl ?hy156 ?_
              case hy156 => exact Yl.move rfl rfl
              refine TL.re (i := 139) (v' := .bool true) rfl (congrArg Value.bool (rfl)) ?_
              refine' TL.y rfl rfl rfl ?hy157 ?_
              case hy157 => exact Yl.move rfl rfl
              refine' TL.y rfl rfl rfl ?hy158 ?_
              case hy158 => exact Yl.not rfl rfl
              refine' TL.y rfl rfl rfl ?hy159 ?_
              case hy159 => exact Yl.pickT rfl rfl rfl
              refine' TL.y rfl rfl rfl ?hy160 ?_
              case hy160 => exact Yl.assign rfl rfl
              refine TL.nil ?_
              refine TE.next ?_
              refine TC.ret ?_
              refine TE.thenRet ?_
              refine TE.ret1 rfl rfl ?_
              exact fun w h => ⟨rfl, (h.sub (List.nil_sublist _)).below⟩
            · skip
              (try simp only [nrm] at hs133)
              have hout : ¬ (a ≤ n ∧ n < t) := by omega
              have hg1 : gE (scut u a t) n = gE u n := by rw [gE_cut, if_neg hout]
              have hal : (fnd (scut u a t).G n).isSome = (fnd u.G n).isSome ∧ ((fnd (scut u a t).G n).getD z25).f2 = ((fnd u.G n).getD z25).f2 ∧ ((fnd (scut u a t).G n).getD z25).f5 = ((fnd u.G n).getD z25).f5 := find_alike hx.ok.right hout
              rw [hg1]
              refine TC.skip ?_
              refine TE.next ?_
              refine TC.seq ?_
              refine TC.region ?_
              refine' TL.y rfl rfl rfl ?hy161 ?_
              case hy161 => exact Yl.move rfl rfl
              refine' TL.y rfl rfl rfl ?hy162 ?_
              case hy162 => exact Yl.move rfl rfl
              refine' TL.y rfl rfl rfl ?hy163 ?_
              case hy163 => exact Yl.move rfl rfl
              refine' TL.y rfl rfl rfl ?hy164 ?_
              case hy164 => exact Yl.move rfl rfl
              refine' TL.y rfl rfl rfl ?hy165 ?_
              case hy165 => exact Yl.bin rfl rfl rfl (Bin.eqlB _ _ _ (by kernel_rfl))
              refine' TL.y rfl rfl rfl ?hy166 ?_
              case hy166 => exact Yl.pickT rfl rfl rfl
              refine' TL.y rfl rfl rfl ?hy167 ?_
              case hy167 => exact Yl.move rfl rfl
              refine TL.re (i := 149) (v' := .bool true) rfl (congrArg Value.bool (by simp)) ?_
              refine' TL.y rfl rfl rfl ?hy168 ?_
              case hy168 => exact Yl.loads (cs := [.int .i64 (((gE (u) n).getD zEn)).k, .int .i64 (((gE (u) n).getD zEn)).pg, .bool (((gE (u) n).getD zEn)).w, .bool (((gE (u) n).getD zEn)).t]) rfl rfl (by kernel_rfl) (by kernel_rfl) (Hp.cells mem5 (fun j v hj => by simpa [Value.cells] using hj))
              refine' TL.y rfl rfl rfl ?hy169 ?_
              case hy169 => exact Yl.loads (cs := [.int .i64 (((gE (u) n).getD zEn)).k, .int .i64 (((gE (u) n).getD zEn)).pg, .bool (((gE (u) n).getD zEn)).w, .bool (((gE (u) n).getD zEn)).t]) rfl rfl (by kernel_rfl) (by kernel_rfl) (Hp.cells mem1 (fun j v hj => by simpa [Value.cells] using hj))
              refine' TL.y rfl rfl rfl ?hy170 ?_
              case hy170 => exact Yl.bin rfl rfl rfl (Bin.eqlE _ _ _ _ _ _ _ _)
              refine' TL.y rfl rfl rfl ?hy171 ?_
              case hy171 => exact Yl.pickT rfl rfl rfl
              refine' TL.y rfl rfl rfl ?hy172 ?_
              case hy172 => exact Yl.move rfl rfl
              refine TL.re (i := 154) (v' := .bool true) rfl (congrArg Value.bool (by simp)) ?_
              refine' TL.y rfl rfl rfl ?hy173 ?_
              case hy173 => exact Yl.move rfl rfl
              refine' TL.y rfl rfl rfl ?hy174 ?_
              case hy174 => exact Yl.move rfl rfl
              refine' TL.y rfl rfl rfl ?hy175 ?_
              case hy175 => exact Yl.bin rfl rfl rfl (Bin.eqlB _ _ _ (by kernel_rfl))
              refine' TL.y rfl rfl rfl ?hy176 ?_
              case hy176 => exact Yl.pickT rfl rfl rfl
              refine' TL.y rfl rfl rfl ?hy177 ?_
              case hy177 => exact Yl.move rfl rfl
              refine TL.re (i := 159) (v' := .bool true) rfl (congrArg Value.bool (by rw [hal.1]; simp)) ?_
              refine' TL.y rfl rfl rfl ?hy178 ?_
              case hy178 => first | exact Yl.field0 (k := 0) 2 rfl rfl Try.underlying28 rfl (by kernel_rfl) rfl | exact Yl.field (k := 0) 2 rfl rfl Try.underlying28 rfl (by kernel_rfl) rfl
              refine' TL.y rfl rfl rfl ?hy179 ?_
              case hy179 => exact Yl.load rfl rfl (by kernel_rfl) (Hp.cell mem4 rfl)
              refine' TL.y rfl rfl rfl ?hy180 ?_
              case hy180 => first | exact Yl.field0 (k := 0) 2 rfl rfl Try.underlying28 rfl (by kernel_rfl) rfl | exact Yl.field (k := 0) 2 rfl rfl Try.underlying28 rfl (by kernel_rfl) rfl
              refine' TL.y rfl rfl rfl ?hy181 ?_
              case hy181 => exact Yl.load rfl rfl (by kernel_rfl) (Hp.cell mem0 rfl)
              refine' TL.y rfl rfl rfl ?hy182 ?_
              case hy182 => exact Yl.bin rfl rfl rfl (Bin.eql _ _ _ _)
              refine' TL.y rfl rfl rfl ?hy183 ?_
              case hy183 => exact Yl.pickT rfl rfl rfl
              refine' TL.y rfl rfl rfl ?hy184 ?_
              case hy184 => exact Yl.move rfl rfl
              refine TL.re (i := 166) (v' := .bool true) rfl (congrArg Value.bool (by rw [hal.2.1]; simp)) ?_
              refine' TL.y rfl rfl rfl ?hy185 ?_
              case hy185 => first | exact Yl.field0 (k := 0) 5 rfl rfl Try.underlying28 rfl (by kernel_rfl) rfl | exact Yl.field (k := 0) 5 rfl rfl Try.underlying28 rfl (by kernel_rfl) rfl
              refine' TL.y rfl rfl rfl ?hy186 ?_
              case hy186 => exact Yl.load rfl rfl (by kernel_rfl) (Hp.cell mem4 rfl)
              refine' TL.y rfl rfl rfl ?hy187 ?_
              case hy187 => first | exact Yl.field0 (k := 0) 5 rfl rfl Try.underlying28 rfl (by kernel_rfl) rfl | exact Yl.field (k := 0) 5 rfl rfl Try.underlying28 rfl (by kernel_rfl) rfl
              refine' TL.y rfl rfl rfl ?hy188 ?_
              case hy188 => exact Yl.load rfl rfl (by kernel_rfl) (Hp.cell mem0 rfl)
              refine' TL.y rfl rfl rfl ?hy189 ?_
              case hy189 => exact Yl.bin rfl rfl rfl (Bin.eqlB _ _ _ (by kernel_rfl))
              refine' TL.y rfl rfl rfl ?hy190 ?_
              case hy190 => exact Yl.pickT rfl rfl rfl
              refine' TL.y rfl rfl rfl ?hy191 ?_
              case hy191 => exact Yl.assign rfl rfl
              refine TL.nil ?_
              refine TE.next ?_
              refine TC.ret ?_
              refine TE.ret1 rfl rfl ?_
              exact fun w h => ⟨by rw [hal.2.2]; simp, (h.sub (List.nil_sublist _)).below⟩
          · skip
            (try simp only [nrm] at hs129)
            have hout : ¬ (a ≤ n ∧ n < t) := by omega
            have hg1 : gE (scut u a t) n = gE u n := by rw [gE_cut, if_neg hout]
            have hal : (fnd (scut u a t).G n).isSome = (fnd u.G n).isSome ∧ ((fnd (scut u a t).G n).getD z25).f2 = ((fnd u.G n).getD z25).f2 ∧ ((fnd (scut u a t).G n).getD z25).f5 = ((fnd u.G n).getD z25).f5 := find_alike hx.ok.right hout
            rw [hg1]
            refine TL.skip rfl rfl rfl ?_
            refine TL.skip rfl rfl rfl ?_
            refine TL.skip rfl rfl rfl ?_
            refine' TL.y rfl rfl rfl ?hy192 ?_
            case hy192 => exact Yl.pickF rfl rfl rfl
            refine TL.nil ?_
            refine TE.next ?_
            refine TC.no rfl rfl ?_
            refine TC.skip ?_
            refine TE.next ?_
            refine TC.seq ?_
            refine TC.region ?_
            refine' TL.y rfl rfl rfl ?hy193 ?_
            case hy193 => exact Yl.move rfl rfl
            refine' TL.y rfl rfl rfl ?hy194 ?_
            case hy194 => exact Yl.move rfl rfl
            refine' TL.y rfl rfl rfl ?hy195 ?_
            case hy195 => exact Yl.move rfl rfl
            refine' TL.y rfl rfl rfl ?hy196 ?_
            case hy196 => exact Yl.move rfl rfl
            refine' TL.y rfl rfl rfl ?hy197 ?_
            case hy197 => exact Yl.bin rfl rfl rfl (Bin.eqlB _ _ _ (by kernel_rfl))
            refine' TL.y rfl rfl rfl ?hy198 ?_
            case hy198 => exact Yl.pickT rfl rfl rfl
            refine' TL.y rfl rfl rfl ?hy199 ?_
            case hy199 => exact Yl.move rfl rfl
            refine TL.re (i := 149) (v' := .bool true) rfl (congrArg Value.bool (by simp)) ?_
            refine' TL.y rfl rfl rfl ?hy200 ?_
            case hy200 => exact Yl.loads (cs := [.int .i64 (((gE (u) n).getD zEn)).k, .int .i64 (((gE (u) n).getD zEn)).pg, .bool (((gE (u) n).getD zEn)).w, .bool (((gE (u) n).getD zEn)).t]) rfl rfl (by kernel_rfl) (by kernel_rfl) (Hp.cells mem5 (fun j v hj => by simpa [Value.cells] using hj))
            refine' TL.y rfl rfl rfl ?hy201 ?_
            case hy201 => exact Yl.loads (cs := [.int .i64 (((gE (u) n).getD zEn)).k, .int .i64 (((gE (u) n).getD zEn)).pg, .bool (((gE (u) n).getD zEn)).w, .bool (((gE (u) n).getD zEn)).t]) rfl rfl (by kernel_rfl) (by kernel_rfl) (Hp.cells mem1 (fun j v hj => by simpa [Value.cells] using hj))
            refine' TL.y rfl rfl rfl ?hy202 ?_
            case hy202 => exact Yl.bin rfl rfl rfl (Bin.eqlE _ _ _ _ _ _ _ _)
            refine' TL.y rfl rfl rfl ?hy203 ?_
            case hy203 => exact Yl.pickT rfl rfl rfl
            refine' TL.y rfl rfl rfl ?hy204 ?_
            case hy204 => exact Yl.move rfl rfl
            refine TL.re (i := 154) (v' := .bool true) rfl (congrArg Value.bool (by simp)) ?_
            refine' TL.y rfl rfl rfl ?hy205 ?_
            case hy205 => exact Yl.move rfl rfl
            refine' TL.y rfl rfl rfl ?hy206 ?_
            case hy206 => exact Yl.move rfl rfl
            refine' TL.y rfl rfl rfl ?hy207 ?_
            case hy207 => exact Yl.bin rfl rfl rfl (Bin.eqlB _ _ _ (by kernel_rfl))
            refine' TL.y rfl rfl rfl ?hy208 ?_
            case hy208 => exact Yl.pickT rfl rfl rfl
            refine' TL.y rfl rfl rfl ?hy209 ?_
            case hy209 => exact Yl.move rfl rfl
            refine TL.re (i := 159) (v' := .bool true) rfl (congrArg Value.bool (by rw [hal.1]; simp)) ?_
            refine' TL.y rfl rfl rfl ?hy210 ?_
            case hy210 => first | exact Yl.field0 (k := 0) 2 rfl rfl Try.underlying28 rfl (by kernel_rfl) rfl | exact Yl.field (k := 0) 2 rfl rfl Try.underlying28 rfl (by kernel_rfl) rfl
            refine' TL.y rfl rfl rfl ?hy211 ?_
            case hy211 => exact Yl.load rfl rfl (by kernel_rfl) (Hp.cell mem4 rfl)
            refine' TL.y rfl rfl rfl ?hy212 ?_
            case hy212 => first | exact Yl.field0 (k := 0) 2 rfl rfl Try.underlying28 rfl (by kernel_rfl) rfl | exact Yl.field (k := 0) 2 rfl rfl Try.underlying28 rfl (by kernel_rfl) rfl
            refine' TL.y rfl rfl rfl ?hy213 ?_
            case hy213 => exact Yl.load rfl rfl (by kernel_rfl) (Hp.cell mem0 rfl)
            refine' TL.y rfl rfl rfl ?hy214 ?_
            case hy214 => exact Yl.bin rfl rfl rfl (Bin.eql _ _ _ _)
            refine' TL.y rfl rfl rfl ?hy215 ?_
            case hy215 => exact Yl.pickT rfl rfl rfl
            refine' TL.y rfl rfl rfl ?hy216 ?_
            case hy216 => exact Yl.move rfl rfl
            refine TL.re (i := 166) (v' := .bool true) rfl (congrArg Value.bool (by rw [hal.2.1]; simp)) ?_
            refine' TL.y rfl rfl rfl ?hy217 ?_
            case hy217 => first | exact Yl.field0 (k := 0) 5 rfl rfl Try.underlying28 rfl (by kernel_rfl) rfl | exact Yl.field (k := 0) 5 rfl rfl Try.underlying28 rfl (by kernel_rfl) rfl
            refine' TL.y rfl rfl rfl ?hy218 ?_
            case hy218 => exact Yl.load rfl rfl (by kernel_rfl) (Hp.cell mem4 rfl)
            refine' TL.y rfl rfl rfl ?hy219 ?_
            case hy219 => first | exact Yl.field0 (k := 0) 5 rfl rfl Try.underlying28 rfl (by kernel_rfl) rfl | exact Yl.field (k := 0) 5 rfl rfl Try.underlying28 rfl (by kernel_rfl) rfl
            refine' TL.y rfl rfl rfl ?hy220 ?_
            case hy220 => exact Yl.load rfl rfl (by kernel_rfl) (Hp.cell mem0 rfl)
            refine' TL.y rfl rfl rfl ?hy221 ?_
            case hy221 => exact Yl.bin rfl rfl rfl (Bin.eqlB _ _ _ (by kernel_rfl))
            refine' TL.y rfl rfl rfl ?hy222 ?_
            case hy222 => exact Yl.pickT rfl rfl rfl
            refine' TL.y rfl rfl rfl ?hy223 ?_
            case hy223 => exact Yl.assign rfl rfl
            refine TL.nil ?_
            refine TE.next ?_
            refine TC.ret ?_
            refine TE.ret1 rfl rfl ?_
            exact fun w h => ⟨by rw [hal.2.2]; simp, (h.sub (List.nil_sublist _)).below⟩
end Go.Proofs.Ytabjdjkkpbkpfaa.Pk
