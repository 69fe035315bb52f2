/- Setting a page's word; dropping it. -/
import Derived.Test.YtabjdjkkpbkpfaaRxB
import Derived.Test.YtabjdjkkpbkpfaaRxQ
import Derived.Test.YtabjdjkkpbkpfaaProg
import Derived.RowKit3
namespace Go.Proofs.Ytabjdjkkpbkpfaa.Pk
open Go Go.RowKit Go.Proofs.Ytabjdjkkpbkpfaa.HL Go.Proofs.Ytabjdjkkpbkpfaa.Ev Go.Proofs.YtabjdjkkpbkpfaaW.PrintWords Go.Proofs.RxP
set_option linter.unusedVariables false
set_option linter.unusedSimpArgs false
attribute [local irreducible] btw rowA
set_option maxRecDepth 100000 in
set_option maxHeartbeats 2000000 in
theorem k_set {st : St} {S : Sf} {b : Nat} (hT : Tab st S b) (n x : Int) : Turns Try.prog 37 #[.pointer (some ⟨b, 0, none⟩), .int .i64 n, .int .u64 x] (tabR st) (σ := {s : St // Tab s (setS S n x) b}) (fun _ => .int .i64 (if 0 ≤ n ∧ n < 65536 then 0 else 1)) (fun s => tabR s.1) := by
  intro W hR
  have hM : Hp W (tabR st).foot [tabR st] W := Hp.enter hR
  refine TC.enter (n := 73) Try.func37 rfl rfl rfl hM ?_
  refine TC.seq ?_
  refine TC.region ?_
  refine' TL.y rfl rfl rfl ?hy1 ?_
  case hy1 => exact Yl.assign rfl rfl
  refine TL.nil ?_
  refine TE.next ?_
  refine TC.seq ?_
  refine TC.seq ?_
  refine TC.region ?_
  refine' TL.y rfl rfl rfl ?hy2 ?_
  case hy2 => exact Yl.move rfl rfl
  refine' TL.c rfl rfl rfl ?hy3 ?_
  case hy3 => exact Yc.call rfl Try.func70 (by kernel_rfl) rfl rfl (Hp.calls (fun w h => k_right w n))
  intro _
  refine' TL.y rfl rfl rfl ?hy4 ?_
  case hy4 => exact Yl.not rfl rfl
  refine TL.nil ?_
  refine TE.next ?_
  refine TC.cond rfl (fun hs13 => ?_) (fun hs13 => ?_)
  · skip
    (try simp only [nrm] at hs13)
    refine TC.seq ?_
    refine TC.region ?_
    refine' TL.y rfl rfl rfl ?hy5 ?_
    case hy5 => exact Yl.assign rfl rfl
    refine TL.nil ?_
    refine TE.next ?_
    refine TC.ret ?_
    refine TE.thenRet ?_
    refine TE.ret1 rfl rfl ?_
    exact fun w h => ⟨⟨st, by rw [setS_no (by omega)]; exact hT⟩, by rw [if_neg (by omega)], h.leave⟩
  · skip
    (try simp only [nrm] at hs13)
    obtain ⟨p, rfl⟩ := Int.eq_ofNat_of_zero_le (show 0 ≤ n by omega)
    have hp : p < 65536 := by omega
    refine TC.skip ?_
    refine TE.next ?_
    refine TC.seq ?_
    refine TC.region ?_
    refine' TL.y rfl rfl rfl ?hy6 ?_
    case hy6 => exact Yl.move rfl rfl
    refine' TL.y rfl rfl rfl ?hy7 ?_
    case hy7 => exact Yl.nilCheck rfl rfl
    refine' TL.y rfl rfl rfl ?hy8 ?_
    case hy8 => first | exact Yl.field0 (k := 32) 0 rfl rfl Try.underlying93 rfl (by kernel_rfl) rfl | exact Yl.field (k := 32) 0 rfl rfl Try.underlying93 rfl (by kernel_rfl) rfl
    refine' TL.y rfl rfl rfl ?hy9 ?_
    case hy9 => exact Yl.assign rfl rfl
    refine TL.nil ?_
    refine TE.next ?_
    refine TC.seq ?_
    refine TC.seq ?_
    refine TC.region ?_
    refine' TL.y rfl rfl rfl ?hy10 ?_
    case hy10 => exact Yl.move rfl rfl
    refine TL.nil ?_
    refine TE.next ?_
    refine TC.block ?_
    refine TC.loop (σ := Nat × St) (fun s => [(1, .int .i64 (p : Int)), (2, .int .u64 x), (7, .pointer (some ⟨s.2.ad s.1 (pfx p s.1), 0, none⟩)), (17, .int .i64 (s.1 : Int))]) (fun s => Hp W (tabR st).foot [tabR s.2]) (fun s => s.1 ≤ 3 ∧ Down s.2 S p b s.1) (fun s => 4 - s.1) (0, st) ?hF11 ?hs11 ?hm11 ?round11
    case hF11 => exact ⟨by dsimp only; omega, Down.start hp hT⟩
    case hs11 => exact ⟨rfl, rfl, congrArg (fun x => some (Value.pointer (some ⟨x, 0, none⟩))) (show b = st.ad 0 (pfx p 0) by rw [pfx_0 hp, hT.root]), rfl, trivial⟩
    case hm11 => exact fun _ h => h
    case round11 =>
      rintro ⟨k, st1⟩ ⟨hk, hd⟩
      dsimp only at hk hd ⊢
      have hdl := dg_lt p k
      refine TC.seq ?_
      refine TC.region ?_
      refine' TL.y rfl rfl rfl ?hy12 ?_
      case hy12 => exact Yl.bin rfl rfl rfl (Bin.lss _ _ _ _)
      refine TL.nil ?_
      refine TE.next ?_
      refine TC.seq ?_
      refine TC.cond rfl (fun hs18 => ?_) (fun hs18 => ?_)
      · skip
        (try simp only [nrm] at hs18)
        have hk3 : k < 3 := by omega
        refine TC.skip ?_
        refine TE.next ?_
        refine TC.seq ?_
        refine TC.block ?_
        refine TC.seq ?_
        refine TC.region ?_
        refine' TL.y rfl rfl rfl ?hy13 ?_
        case hy13 => exact Yl.move rfl rfl
        refine' TL.y rfl rfl rfl ?hy14 ?_
        case hy14 => exact Yl.assign rfl rfl
        refine TL.nil ?_
        refine TE.next ?_
        refine TC.seq ?_
        refine TC.region ?_
        refine' TL.y rfl rfl rfl ?hy15 ?_
        case hy15 => exact Yl.move rfl rfl
        refine' TL.y rfl rfl rfl ?hy16 ?_
        case hy16 => exact Yl.move rfl rfl
        refine' TL.c rfl rfl rfl ?hy17 ?_
        case hy17 => exact Yc.call rfl Try.func71 (by kernel_rfl) rfl rfl (Hp.calls (fun w h => k_digit w (p := p) (lv := k) (by omega) (by omega)))
        intro _
        refine' TL.y rfl rfl rfl ?hy18 ?_
        case hy18 => exact Yl.assign rfl rfl
        refine TL.nil ?_
        refine TE.next ?_
        refine TC.meet (σ := Nat × St) (fun s => [(1, .int .i64 (p : Int)), (2, .int .u64 x), (7, .pointer (some ⟨st1.ad k (pfx p k), 0, none⟩)), (9, .int .i64 (dg p k : Int)), (17, .int .i64 (k : Int))]) (fun s => Hp W (tabR st).foot [blk (st1.ad k (pfx p k)) (.cells (rowA 33 (gN s.2 k (pfx p k))) (nty k) (0, 0)), tabX s.2 k (pfx p k)]) (fun s => KidIn st1 s.2 (k + 1) (pfx p (k + 1)) s.1) ?hx19 ?hy19
        case hx19 =>
          refine TC.seq ?_
          refine TC.wk (fun w h => Hp.focus hd.tree hd.ex h) ?_
          refine TC.region ?_
          refine' TL.y rfl rfl rfl ?hy20 ?_
          case hy20 => exact Yl.move rfl rfl
          refine' TL.y rfl rfl rfl ?hy21 ?_
          case hy21 => exact Yl.move rfl rfl
          refine' TL.y rfl rfl rfl ?hy22 ?_
          case hy22 => exact Yl.nilCheck rfl rfl
          refine' TL.y rfl rfl rfl ?hy23 ?_
          case hy23 => first | exact Yl.field0 (k := 15) 0 rfl rfl Try.underlying91 rfl (by kernel_rfl) rfl | exact Yl.field (k := 15) 0 rfl rfl Try.underlying91 rfl (by kernel_rfl) rfl
          refine' TL.y rfl rfl rfl ?hy24 ?_
          case hy24 => exact Yl.arr0 rfl rfl rfl Try.underlying87 (by kernel_rfl) (dg_lt _ _)
          refine' TL.y rfl rfl rfl ?hy25 ?_
          case hy25 => exact Yl.load rfl rfl (by kernel_rfl) (Hp.rowAt mem0 (by omega) (gN_kid st1 k _ (dg_lt p k)))
          refine' TL.y rfl rfl rfl ?hy26 ?_
          case hy26 => exact Yl.bin rfl rfl rfl (Bin.eqlP _ _ _ Try.underlying86)
          refine TL.nil ?_
          refine TE.next ?_
          refine TC.cond rfl (fun hs29 => ?_) (fun hs29 => ?_)
          · skip
            (try simp only [nrm] at hs29)
            have hnx := kidV_nx hk3 hs29
            rw [← pfx_next hp (by omega)] at hnx
            refine TC.region ?_
            refine' TL.y rfl rfl rfl ?hy27 ?_
            case hy27 => exact Yl.move rfl rfl
            refine' TL.y rfl rfl rfl ?hy28 ?_
            case hy28 => exact Yl.move rfl rfl
            refine' TL.y rfl rfl rfl ?hy29 ?_
            case hy29 => exact Yl.build (z := .agg #[.pointer none, .pointer none, .pointer none, .pointer none, .pointer none, .pointer none, .pointer none, .pointer none, .pointer none, .pointer none, .pointer none, .pointer none, .pointer none, .pointer none, .pointer none, .pointer none, .int .u64 0, .int .u64 0, .int .u64 0, .int .u64 0, .int .u64 0, .int .u64 0, .int .u64 0, .int .u64 0, .int .u64 0, .int .u64 0, .int .u64 0, .int .u64 0, .int .u64 0, .int .u64 0, .int .u64 0, .int .u64 0, .int .u16 0]) [(0, 16), (16, 16), (32, 1)] rfl (by kernel_rfl) Try.underlying91 (by kernel_rfl) rfl rfl
            refine' TL.mx rfl rfl rfl ?hy30 ?_
            case hy30 => exact Ym.box rfl rfl
            intro b33
            refine TL.wk (M' := Hp W (tabR st).foot [blk b33 (.cells (rowA 33 z0) 91 (0, 0)), blk (st1.ad k (pfx p k)) (.cells (rowA 33 (gN st1 k (pfx p k))) (nty k) (0, 0)), tabX st1 k (pfx p k)]) (fun w h => by rw [← zc]; exact h) ?_
            refine TL.fact (fun w h => Hp.fresh h) ?_
            intro hfr
            refine' TL.y rfl rfl rfl ?hy31 ?_
            case hy31 => exact Yl.nilCheck rfl rfl
            refine' TL.y rfl rfl rfl ?hy32 ?_
            case hy32 => first | exact Yl.field0 (k := 15) 0 rfl rfl Try.underlying91 rfl (by kernel_rfl) rfl | exact Yl.field (k := 15) 0 rfl rfl Try.underlying91 rfl (by kernel_rfl) rfl
            refine' TL.y rfl rfl rfl ?hy33 ?_
            case hy33 => exact Yl.arr0 rfl rfl rfl Try.underlying87 (by kernel_rfl) (dg_lt _ _)
            refine' TL.s rfl rfl ?hy34 ?_
            case hy34 => first | exact Ys.row rfl rfl rfl rfl (by kernel_rfl) rfl foc0 (by first | omega | (have := dg_lt p 3; omega)) rfl | exact Ys.row rfl rfl rfl rfl (by kernel_rfl) rfl foc1 (by first | omega | (have := dg_lt p 3; omega)) rfl | exact Ys.row rfl rfl rfl rfl (by kernel_rfl) rfl foc2 (by first | omega | (have := dg_lt p 3; omega)) rfl
            refine TL.nil ?_
            refine TE.met (b33, addK st1 (k + 1) (pfx p (k + 1)) b33) ?hF35 ?hs35 ?hm35
            case hF35 => exact .inr ⟨rfl, hnx, hfr⟩
            case hs35 => exact ⟨rfl, rfl, rfl, rfl, rfl, trivial⟩
            case hm35 => exact (fun w h => by
              dsimp only
              have h2 := Hp.addX (dg_lt p k) (fun hk4 i hi => hd.tree.below_no (by rw [← pfx_next hp (by omega)]; exact hnx) i hi) h
              rw [pfx_next hp (by omega), rowA_eq (gN_add_self hk3 (dg_lt p k))]
              exact h2)
          · skip
            (try simp only [nrm] at hs29)
            have hyx := kidV_ex hk3 hs29
            rw [← pfx_next hp (by omega)] at hyx
            refine TC.skip ?_
            refine TE.met (0, st1) ?hF36 ?hs36 ?hm36
            case hF36 => exact .inl ⟨rfl, hyx⟩
            case hs36 => exact ⟨rfl, rfl, rfl, rfl, rfl, trivial⟩
            case hm36 => exact fun w h => h
        case hy19 =>
          rintro ⟨c, st2⟩ hk2
          dsimp only at hk2 ⊢
          have hkx := hk2.ex
          have hhs : st2.hs k (pfx p k) = btw (fun d => st1.ex (k + 1) (16 * pfx p k + d)) := by rw [hk2.hs, hd.tree.hsk k _ hd.ex hk3]
          refine TC.seq ?_
          refine TC.region ?_
          refine' TL.y rfl rfl rfl ?hy37 ?_
          case hy37 => exact Yl.move rfl rfl
          refine' TL.y rfl rfl rfl ?hy38 ?_
          case hy38 => exact Yl.nilCheck rfl rfl
          refine' TL.y rfl rfl rfl ?hy39 ?_
          case hy39 => first | exact Yl.field0 (k := 0) 32 rfl rfl Try.underlying91 rfl (by kernel_rfl) rfl | exact Yl.field (k := 0) 32 rfl rfl Try.underlying91 rfl (by kernel_rfl) rfl
          refine' TL.y rfl rfl rfl ?hy40 ?_
          case hy40 => exact Yl.load rfl rfl (by kernel_rfl) (Hp.rowAt mem0 (by omega) (gN_has st2 k _))
          refine TL.re (i := 40) (v' := .int .u16 (btw (fun d => st1.ex (k + 1) (16 * pfx p k + d)))) rfl (congrArg (Value.int .u16) hhs) ?_
          refine' TL.y rfl rfl rfl ?hy41 ?_
          case hy41 => exact Yl.move rfl rfl
          refine' TL.y rfl rfl rfl ?hy42 ?_
          case hy42 => exact Yl.val (Yl.conv rfl rfl (by kernel_rfl) Try.underlying100) (congrArg (Value.int .u64) (cv16 (dg_lt p k)))
          refine' TL.y rfl rfl rfl ?hy43 ?_
          case hy43 => exact Yl.val (Yl.bin rfl rfl rfl (Bin.shl _ _ _ _ _ (by omega))) (congrArg (Value.int .u16) (shl16 (dg_lt p k)))
          refine' TL.y rfl rfl rfl ?hy44 ?_
          case hy44 => exact Yl.val (Yl.bin rfl rfl rfl (Bin.or _ _ _ _)) (congrArg (Value.int .u16) (or16 _ (dg_lt p k)))
          refine' TL.y rfl rfl rfl ?hy45 ?_
          case hy45 => exact Yl.nilCheck rfl rfl
          refine' TL.y rfl rfl rfl ?hy46 ?_
          case hy46 => first | exact Yl.field0 (k := 0) 32 rfl rfl Try.underlying91 rfl (by kernel_rfl) rfl | exact Yl.field (k := 0) 32 rfl rfl Try.underlying91 rfl (by kernel_rfl) rfl
          refine' TL.s rfl rfl ?hy47 ?_
          case hy47 => first | exact Ys.row rfl rfl rfl rfl (by kernel_rfl) rfl foc0 (by first | omega | (have := dg_lt p 3; omega)) rfl | exact Ys.row rfl rfl rfl rfl (by kernel_rfl) rfl foc1 (by first | omega | (have := dg_lt p 3; omega)) rfl | exact Ys.row rfl rfl rfl rfl (by kernel_rfl) rfl foc2 (by first | omega | (have := dg_lt p 3; omega)) rfl
          refine TL.nil ?_
          refine TE.next ?_
          refine TC.region ?_
          refine' TL.y rfl rfl rfl ?hy48 ?_
          case hy48 => exact Yl.move rfl rfl
          refine' TL.y rfl rfl rfl ?hy49 ?_
          case hy49 => exact Yl.move rfl rfl
          refine' TL.y rfl rfl rfl ?hy50 ?_
          case hy50 => exact Yl.nilCheck rfl rfl
          refine' TL.y rfl rfl rfl ?hy51 ?_
          case hy51 => first | exact Yl.field0 (k := 15) 0 rfl rfl Try.underlying91 rfl (by kernel_rfl) rfl | exact Yl.field (k := 15) 0 rfl rfl Try.underlying91 rfl (by kernel_rfl) rfl
          refine' TL.y rfl rfl rfl ?hy52 ?_
          case hy52 => exact Yl.arr0 rfl rfl rfl Try.underlying87 (by kernel_rfl) (dg_lt _ _)
          refine' TL.y rfl rfl rfl ?hy53 ?_
          case hy53 => exact Yl.load rfl rfl (by kernel_rfl) (Hp.rowAt mem0 (by omega) ((upV_ne _ _ (by omega)).trans ((gN_kid st2 k _ (dg_lt p k)).trans (congrArg Value.pointer (kidV_yes hk3 (by rw [← pfx_next hp (by omega)]; exact hkx))))))
          refine TL.re (i := 52) (v' := .pointer (some ⟨st2.ad (k + 1) (pfx p (k + 1)), 0, none⟩)) rfl (congrArg (fun x => Value.pointer (some ⟨x, 0, none⟩)) (by rw [pfx_next hp (by omega)])) ?_
          refine' TL.y rfl rfl rfl ?hy54 ?_
          case hy54 => exact Yl.assign rfl rfl
          refine TL.nil ?_
          refine TE.inNormal ?_
          refine TE.next ?_
          refine TC.region ?_
          refine' TL.y rfl rfl rfl ?hy55 ?_
          case hy55 => first | (refine Yl.val (Yl.bin rfl rfl rfl (Bin.add _ _ _ _)) (congrArg (Value.int .i64) (i64in ?_ ?_)) <;> omega) | exact Yl.bin rfl rfl rfl (Bin.add _ _ _ _)
          refine' TL.y rfl rfl rfl ?hy56 ?_
          case hy56 => exact Yl.move rfl rfl
          refine TL.nil ?_
          refine TE.round (k + 1, setH st2 k (pfx p k) (btw (setB (fun d => st1.ex (k + 1) (16 * pfx p k + d)) (dg p k) true))) ?hF57 ?hlt57 ?hs57 ?hm57
          case hF57 => exact ⟨by dsimp only; omega, hd.next hp hk3 hk2⟩
          case hlt57 => dsimp only; omega
          case hs57 => exact ⟨rfl, rfl, congrArg (fun x => some (Value.pointer (some ⟨x, 0, none⟩))) (show st2.ad (k + 1) (pfx p (k + 1)) = st2.ad (k + 1) (pfx p (k + 1)) from rfl), rfl, trivial⟩
          case hm57 => exact (fun w h => by
            dsimp only
            rw [← hk2.ad] at h
            exact Hp.unfocus (st := st2) rfl (gN_H_self _ _ _ _) (fun j q he hn => ⟨he, rfl, fun i _ => gN_H_old hn i⟩) h)
      · skip
        (try simp only [nrm] at hs18)
        obtain rfl : k = 3 := by omega
        refine TC.exit ?_
        refine TE.thenExit ?_
        refine TE.thenExit ?_
        refine TE.inHere ?_
        refine TE.next ?_
        refine TC.seq ?_
        refine TC.region ?_
        refine' TL.y rfl rfl rfl ?hy58 ?_
        case hy58 => exact Yl.move rfl rfl
        refine' TL.c rfl rfl rfl ?hy59 ?_
        case hy59 => exact Yc.call rfl Try.func71 (by kernel_rfl) rfl rfl (Hp.calls (fun w h => k_digit w (p := p) (lv := 3) (by omega) (by omega)))
        intro _
        refine' TL.y rfl rfl rfl ?hy60 ?_
        case hy60 => exact Yl.assign rfl rfl
        refine TL.nil ?_
        refine TE.next ?_
        refine TC.seq ?_
        have hdl3 := dg_lt p 3
        refine TC.wk (fun w h => Hp.focus hd.tree hd.ex h) ?_
        refine TC.draw (k := 19) _ [15, 18] #[false, false, false, false, false, false, false, false, false, false, false, false, false, false, false, false, false, false, false] (by kernel_rfl) rfl rfl (fun _ h => h.drew) (fun _ h => h) ?_
        refine' TA.p (i := 0) #[true, false, false, false, false, false, false, false, false, false, false, false, false, false, false, false, false, false, false] rfl rfl rfl (by kernel_rfl) (fun _ _ _ h => h) rfl ?hy61 ?_
        case hy61 => exact Yl.move rfl rfl
        refine' TA.p (i := 1) #[true, true, false, false, false, false, false, false, false, false, false, false, false, false, false, false, false, false, false] rfl rfl rfl (by kernel_rfl) (fun _ _ _ h => h) rfl ?hy62 ?_
        case hy62 => exact Yl.move rfl rfl
        refine' TA.p (i := 2) #[true, true, true, false, false, false, false, false, false, false, false, false, false, false, false, false, false, false, false] rfl rfl rfl (by kernel_rfl) (fun _ _ _ h => h) rfl ?hy63 ?_
        case hy63 => exact Yl.move rfl rfl
        refine' TA.p (i := 3) #[true, true, true, true, false, false, false, false, false, false, false, false, false, false, false, false, false, false, false] rfl rfl rfl (by kernel_rfl) (fun _ _ _ h => h) rfl ?hy64 ?_
        case hy64 => exact Yl.move rfl rfl
        refine' TA.p (i := 4) #[true, true, true, true, true, false, false, false, false, false, false, false, false, false, false, false, false, false, false] rfl rfl rfl (by kernel_rfl) (fun _ _ _ h => h) rfl ?hy65 ?_
        case hy65 => exact Yl.move rfl rfl
        refine' TA.p (i := 5) #[true, true, true, true, true, true, false, false, false, false, false, false, false, false, false, false, false, false, false] rfl rfl rfl (by kernel_rfl) (fun _ _ _ h => h) rfl ?hy66 ?_
        case hy66 => exact Yl.nilCheck rfl rfl
        refine' TA.p (i := 6) #[true, true, true, true, true, true, true, false, false, false, false, false, false, false, false, false, false, false, false] rfl rfl rfl (by kernel_rfl) (fun _ _ _ h => h) rfl ?hy67 ?_
        case hy67 => first | exact Yl.field0 (k := 0) 32 rfl rfl Try.underlying91 rfl (by kernel_rfl) rfl | exact Yl.field (k := 0) 32 rfl rfl Try.underlying91 rfl (by kernel_rfl) rfl
        refine' TA.y (i := 7) #[true, true, true, true, true, true, true, true, false, false, false, false, false, false, false, false, false, false, false] rfl rfl rfl (by kernel_rfl) (fun _ _ _ h => h) (fun _ h => by exact Hp.sub h (by repeat (first | exact sR _ | apply sC))) rfl ?hy68 ?_
        case hy68 => exact Yl.load rfl rfl (by kernel_rfl) (Hp.rowAt mem0 (by omega) (gN_has st1 3 _))
        refine TA.re (i := 63) (v' := .int .u16 (btw (fun d => (S (16 * pfx p 3 + d)).isSome))) rfl (congrArg (Value.int .u16) (hd.tree.hs3 _ hd.ex)) ?_
        refine' TA.p (i := 8) #[true, true, true, true, true, true, true, true, true, false, false, false, false, false, false, false, false, false, false] rfl rfl rfl (by kernel_rfl) (fun _ _ _ h => h) rfl ?hy69 ?_
        case hy69 => exact Yl.move rfl rfl
        refine' TA.p (i := 9) #[true, true, true, true, true, true, true, true, true, true, false, false, false, false, false, false, false, false, false] rfl rfl rfl (by kernel_rfl) (fun _ _ _ h => h) rfl ?hy70 ?_
        case hy70 => exact Yl.val (Yl.conv rfl rfl (by kernel_rfl) Try.underlying100) (congrArg (Value.int .u64) (cv16 (dg_lt p 3)))
        refine' TA.p (i := 10) #[true, true, true, true, true, true, true, true, true, true, true, false, false, false, false, false, false, false, false] rfl rfl rfl (by kernel_rfl) (fun _ _ _ h => h) rfl ?hy71 ?_
        case hy71 => exact Yl.val (Yl.bin rfl rfl rfl (Bin.shl _ _ _ _ _ (by omega))) (congrArg (Value.int .u16) (shl16 (dg_lt p 3)))
        refine' TA.p (i := 11) #[true, true, true, true, true, true, true, true, true, true, true, true, false, false, false, false, false, false, false] rfl rfl rfl (by kernel_rfl) (fun _ _ _ h => h) rfl ?hy72 ?_
        case hy72 => exact Yl.val (Yl.bin rfl rfl rfl (Bin.or _ _ _ _)) (congrArg (Value.int .u16) (or16 _ (dg_lt p 3)))
        refine' TA.p (i := 12) #[true, true, true, true, true, true, true, true, true, true, true, true, true, false, false, false, false, false, false] rfl rfl rfl (by kernel_rfl) (fun _ _ _ h => h) rfl ?hy73 ?_
        case hy73 => exact Yl.nilCheck rfl rfl
        refine' TA.p (i := 13) #[true, true, true, true, true, true, true, true, true, true, true, true, true, true, false, false, false, false, false] rfl rfl rfl (by kernel_rfl) (fun _ _ _ h => h) rfl ?hy74 ?_
        case hy74 => first | exact Yl.field0 (k := 15) 16 rfl rfl Try.underlying91 rfl (by kernel_rfl) rfl | exact Yl.field (k := 15) 16 rfl rfl Try.underlying91 rfl (by kernel_rfl) rfl
        refine' TA.p (i := 14) #[true, true, true, true, true, true, true, true, true, true, true, true, true, true, true, false, false, false, false] rfl rfl rfl (by kernel_rfl) (fun _ _ _ h => h) rfl ?hy75 ?_
        case hy75 => exact Yl.arrO rfl rfl rfl Try.underlying88 (by kernel_rfl) (dg_lt _ _)
        refine' TA.sl (i := 15) #[true, true, true, true, true, true, true, true, true, true, true, true, true, true, true, true, false, false, false] rfl rfl (by kernel_rfl) (by decide) rfl ?hy76 ?_
        case hy76 => first | exact Ys.row rfl rfl rfl rfl (by kernel_rfl) rfl foc0 (by first | omega | (have := dg_lt p 3; omega)) rfl | exact Ys.row rfl rfl rfl rfl (by kernel_rfl) rfl foc1 (by first | omega | (have := dg_lt p 3; omega)) rfl | exact Ys.row rfl rfl rfl rfl (by kernel_rfl) rfl foc2 (by first | omega | (have := dg_lt p 3; omega)) rfl
        refine' TA.p (i := 16) #[true, true, true, true, true, true, true, true, true, true, true, true, true, true, true, true, true, false, false] rfl rfl rfl (by kernel_rfl) (fun _ _ _ h => h) rfl ?hy77 ?_
        case hy77 => exact Yl.nilCheck rfl rfl
        refine' TA.p (i := 17) #[true, true, true, true, true, true, true, true, true, true, true, true, true, true, true, true, true, true, false] rfl rfl rfl (by kernel_rfl) (fun _ _ _ h => h) rfl ?hy78 ?_
        case hy78 => first | exact Yl.field0 (k := 0) 32 rfl rfl Try.underlying91 rfl (by kernel_rfl) rfl | exact Yl.field (k := 0) 32 rfl rfl Try.underlying91 rfl (by kernel_rfl) rfl
        refine' TA.sl (i := 18) #[true, true, true, true, true, true, true, true, true, true, true, true, true, true, true, true, true, true, true] rfl rfl (by kernel_rfl) (by decide) rfl ?hy79 ?_
        case hy79 => first | exact Ys.row rfl rfl rfl rfl (by kernel_rfl) rfl foc0 (by first | omega | (have := dg_lt p 3; omega)) rfl | exact Ys.row rfl rfl rfl rfl (by kernel_rfl) rfl foc1 (by first | omega | (have := dg_lt p 3; omega)) rfl | exact Ys.row rfl rfl rfl rfl (by kernel_rfl) rfl foc2 (by first | omega | (have := dg_lt p 3; omega)) rfl
        refine TA.done (by kernel_rfl) ?_
        refine TE.next ?_
        refine TC.seq ?_
        refine TC.region ?_
        refine' TL.y rfl rfl rfl ?hy80 ?_
        case hy80 => exact Yl.assign rfl rfl
        refine TL.nil ?_
        refine TE.next ?_
        refine TC.ret ?_
        refine TE.ret1 rfl rfl ?_
        exact fun w h => ⟨⟨_, by rw [setS_nat hp]; exact hd.done hp x⟩, by rw [if_pos (by omega)], (Hp.unfocus (st := st1) (st' := setH (setW st1 p x) 3 (pfx p 3) (btw (setB (fun d => (S (16 * pfx p 3 + d)).isSome) (dg p 3) true))) rfl (fun i hi => by
            have e : 16 * pfx p 3 + dg p 3 = p := (pfx_next hp (by omega)).symm
            rw [gN_H_self _ _ _ _ i hi]
            have h1 := gN_W_self st1 (pfx p 3) (dg p 3) (dg_lt p 3) x
            rw [e] at h1
            unfold upV
            by_cases h2 : i = 32
            · rw [if_pos h2, if_pos h2]
            · rw [if_neg h2, if_neg h2, h1 i hi]; (try rfl)) (fun j q he hn => ⟨he, rfl, fun i _ => (gN_H_old hn i).trans (gN_W_old hn i)⟩) h).leave⟩
end Go.Proofs.Ytabjdjkkpbkpfaa.Pk
