/- The split, by the document; capped. -/
import Derived.Test.YthjllhaebanplaaShD
import Derived.Test.YthjllhaebanplaaProg
import Derived.RowKit3
namespace Go.Proofs.Ythjllhaebanplaa.Pk
open Go Go.RowKit Go.Proofs.Ythjllhaebanplaa.HL Go.Proofs.Ythjllhaebanplaa.Ev Go.Proofs.YthjllhaebanplaaW.PrintWords Go.Proofs.ShP
set_option linter.unusedVariables false
set_option linter.unusedSimpArgs false
attribute [local irreducible] sumF
set_option maxRecDepth 100000 in
set_option maxHeartbeats 2000000 in
theorem k_rsplit (W : World) {m : Nat} {u : Nat → Int} {A : Option Addr} {cp : Nat} (hS : Sl W A (Vw m u)) (hm : m ≤ 9223372036854775807) (n : Int) : Calls Try.prog 12 #[.int .i64 n, .slice A m cp] W fun e w' => ∃ v : Value, e = .returned v ∧ (ownR 3 1 v (lenR n m u) (Vw (lenR n m u) (splitF n m u))).holds w' ∧ Below W.heap.size W w' ∧ ∀ j, (ownR 3 1 v (lenR n m u) (Vw (lenR n m u) (splitF n m u))).foot j → W.heap.size ≤ j := by
  have hM : Hp W (fun _ => False) [] W := Hp.start
  refine TC.enter (n := 92) Try.func12 rfl rfl rfl hM ?_
  refine TC.seq ?_
  refine TC.region ?_
  refine' TL.y rfl rfl rfl ?hy1 ?_
  case hy1 => exact Yl.assign rfl rfl
  refine TL.nil ?_
  refine TE.next ?_
  refine TC.seq ?_
  refine TC.seq ?_
  refine TC.region ?_
  refine' TL.y rfl rfl rfl ?hy2 ?_
  case hy2 => exact Yl.move rfl rfl
  refine' TL.y rfl rfl rfl ?hy3 ?_
  case hy3 => exact Yl.move rfl rfl
  refine' TL.c rfl rfl rfl ?hy4 ?_
  case hy4 => exact Yc.call rfl Try.func17 (by kernel_rfl) rfl rfl (Hp.calls (fun w h => k_rright w (hS.below h.below) hm n))
  intro _
  refine' TL.y rfl rfl rfl ?hy5 ?_
  case hy5 => exact Yl.not rfl rfl
  refine TL.nil ?_
  refine TE.next ?_
  refine TC.cond rfl (fun hs15 => ?_) (fun hs15 => ?_)
  · skip
    (try simp only [decide_eq_true_eq, decide_eq_false_iff_not, beq_iff_eq, beq_eq_false_iff_ne, bne_iff_ne, ne_eq, bne_eq_false_iff_eq, Bool.not_eq_true', Bool.not_eq_false', Int.not_lt, Int.not_le, gt_iff_lt, ge_iff_le] at hs15)
    have hno : ¬ Ok n m u := by simpa using hs15
    refine TC.seq ?_
    refine TC.region ?_
    refine' TL.y rfl rfl rfl ?hy6 ?_
    case hy6 => exact Yl.assign rfl rfl
    refine TL.nil ?_
    refine TE.next ?_
    refine TC.ret ?_
    refine TE.thenRet ?_
    refine TE.ret1 rfl rfl ?_
    exact fun w h => ⟨_, rfl, (nilOwn hno h).leaveNew⟩
  · skip
    (try simp only [decide_eq_true_eq, decide_eq_false_iff_not, beq_iff_eq, beq_eq_false_iff_ne, bne_iff_ne, ne_eq, bne_eq_false_iff_eq, Bool.not_eq_true', Bool.not_eq_false', Int.not_lt, Int.not_le, gt_iff_lt, ge_iff_le] at hs15)
    have hok : Ok n m u := by by_cases e : Ok n m u; exact e; simp [e] at hs15
    have hm64 := hok.m1
    refine TC.skip ?_
    refine TE.next ?_
    refine TC.seq ?_
    refine TC.region ?_
    refine' TL.y rfl rfl rfl ?hy7 ?_
    case hy7 => exact Yl.move rfl rfl
    refine' TL.y rfl rfl rfl ?hy8 ?_
    case hy8 => exact Yl.len rfl rfl Try.underlying22
    refine' TL.mx rfl rfl rfl ?hy9 ?_
    case hy9 => exact Ym.makeRow (z := .int .i64 0) (by_ := 8) rfl rfl rfl Try.underlying22 (by kernel_rfl) rfl (by omega) (by omega) (by omega)
    intro b18
    simp only [Int.toNat_natCast]
    refine TL.wk (fun w h => madeOwn (maxL hok.m1) h) ?_
    refine' TL.y rfl rfl rfl ?hy10 ?_
    case hy10 => exact Yl.assign rfl rfl
    refine TL.nil ?_
    refine TE.next ?_
    refine TC.seq ?_
    refine TC.region ?_
    refine' TL.y rfl rfl rfl ?hy11 ?_
    case hy11 => exact Yl.move rfl rfl
    refine' TL.c rfl rfl rfl ?hy12 ?_
    case hy12 => exact Yc.call rfl Try.func14 (by kernel_rfl) rfl rfl (Hp.calls (fun w h => k_rsum w (hS.below h.below) hm))
    intro _
    have hs1 := hok.s1
    have hs0 := hok.s0
    rw [i64in (x := sumF u m) (by omega) (by omega)]
    refine' TL.y rfl rfl rfl ?hy13 ?_
    case hy13 => exact Yl.assign rfl rfl
    refine TL.nil ?_
    refine TE.next ?_
    refine TC.seq ?_
    refine TC.seq ?_
    refine TC.region ?_
    refine' TL.y rfl rfl rfl ?hy14 ?_
    case hy14 => exact Yl.move rfl rfl
    refine' TL.y rfl rfl rfl ?hy15 ?_
    case hy15 => exact Yl.bin rfl rfl rfl (Bin.eql _ _ _ _)
    refine TL.nil ?_
    refine TE.next ?_
    refine TC.cond rfl (fun hs22 => ?_) (fun hs22 => ?_)
    · skip
      (try simp only [decide_eq_true_eq, decide_eq_false_iff_not, beq_iff_eq, beq_eq_false_iff_ne, bne_iff_ne, ne_eq, bne_eq_false_iff_eq, Bool.not_eq_true', Bool.not_eq_false', Int.not_lt, Int.not_le, gt_iff_lt, ge_iff_le] at hs22)
      refine TC.seq ?_
      refine TC.region ?_
      refine' TL.y rfl rfl rfl ?hy16 ?_
      case hy16 => exact Yl.move rfl rfl
      refine' TL.y rfl rfl rfl ?hy17 ?_
      case hy17 => exact Yl.assign rfl rfl
      refine TL.nil ?_
      refine TE.next ?_
      refine TC.ret ?_
      refine TE.thenRet ?_
      refine TE.ret1 rfl rfl ?_
      exact fun w h => ⟨_, rfl, by rw [lenR_ok hok]; exact (h.vwc (fun j hj => (split_zero (by omega) j).symm)).leaveNew⟩
    · skip
      (try simp only [decide_eq_true_eq, decide_eq_false_iff_not, beq_iff_eq, beq_eq_false_iff_ne, bne_iff_ne, ne_eq, bne_eq_false_iff_eq, Bool.not_eq_true', Bool.not_eq_false', Int.not_lt, Int.not_le, gt_iff_lt, ge_iff_le] at hs22)
      have hsp : 0 < sumF u m := by omega
      refine TC.skip ?_
      refine TE.next ?_
      refine TC.seq ?_
      refine TC.region ?_
      refine' TL.y rfl rfl rfl ?hy18 ?_
      case hy18 => exact Yl.move rfl rfl
      refine' TL.y rfl rfl rfl ?hy19 ?_
      case hy19 => exact Yl.len rfl rfl Try.underlying22
      refine' TL.mx rfl rfl rfl ?hy20 ?_
      case hy20 => exact Ym.makeRow (z := .int .i64 0) (by_ := 8) rfl rfl rfl Try.underlying22 (by kernel_rfl) rfl (by omega) (by omega) (by omega)
      intro b26
      simp only [Int.toNat_natCast]
      refine TL.wk (fun w h => madeOwn (maxL hok.m1) h) ?_
      refine' TL.y rfl rfl rfl ?hy21 ?_
      case hy21 => exact Yl.assign rfl rfl
      refine TL.nil ?_
      refine TE.next ?_
      refine TC.seq ?_
      refine TC.region ?_
      refine' TL.y rfl rfl rfl ?hy22 ?_
      case hy22 => exact Yl.move rfl rfl
      refine' TL.y rfl rfl rfl ?hy23 ?_
      case hy23 => exact Yl.assign rfl rfl
      refine TL.nil ?_
      refine TE.next ?_
      refine TC.seq ?_
      refine TC.seq ?_
      refine TC.region ?_
      refine' TL.y rfl rfl rfl ?hy24 ?_
      case hy24 => exact Yl.assign rfl rfl
      refine TL.nil ?_
      refine TE.next ?_
      refine TC.block ?_
      refine TC.loop (σ := Nat) (fun i => [(0, .int .i64 n), (1, .slice A m cp), (9, .int .i64 (i : Int)), (5, .slice (some ⟨b18, 0, none⟩) m m), (6, .int .i64 (sumF u m)), (7, .slice (some ⟨b26, 0, none⟩) m m), (8, .int .i64 (n - sumF (qF n (sumF u m) u) i))]) (fun i => Hp W (fun _ => False) [ownR 3 1 (.slice (some ⟨b26, 0, none⟩) m m) m (Vw m (fun j => if j < i then rF n (sumF u m) u j else 0)), ownR 3 1 (.slice (some ⟨b18, 0, none⟩) m m) m (Vw m (fun j => if j < i then qF n (sumF u m) u j else 0))]) (fun i => i ≤ m) (fun i => m - i) 0 ?hF25 ?hs25 ?hm25 ?round25
      case hF25 => exact Nat.zero_le _
      case hs25 => exact ⟨rfl, rfl, rfl, rfl, rfl, rfl, (by show some (Value.int .i64 n) = _; simp [sumF]), trivial⟩
      case hm25 => exact fun w h => (h.vwc (fun j hj => (if_neg (by omega)).symm)).vwc1 (fun j hj => (if_neg (by omega)).symm)
      case round25 =>
        intro i hi
        refine TC.seq ?_
        refine TC.seq ?_
        refine TC.region ?_
        refine' TL.y rfl rfl rfl ?hy26 ?_
        case hy26 => exact Yl.move rfl rfl
        refine' TL.y rfl rfl rfl ?hy27 ?_
        case hy27 => exact Yl.move rfl rfl
        refine' TL.y rfl rfl rfl ?hy28 ?_
        case hy28 => exact Yl.len rfl rfl Try.underlying22
        refine' TL.y rfl rfl rfl ?hy29 ?_
        case hy29 => exact Yl.bin rfl rfl rfl (Bin.lss _ _ _ _)
        refine TL.nil ?_
        refine TE.next ?_
        refine TC.cond rfl (fun hs31 => ?_) (fun hs31 => ?_)
        · skip
          (try simp only [decide_eq_true_eq, decide_eq_false_iff_not, beq_iff_eq, beq_eq_false_iff_ne, bne_iff_ne, ne_eq, bne_eq_false_iff_eq, Bool.not_eq_true', Bool.not_eq_false', Int.not_lt, Int.not_le, gt_iff_lt, ge_iff_le] at hs31)
          have hi2 : i < m := by omega
          have hmu := hok.mul hi2
          have hqr := hok.qr hsp hi2
          have hw0 := hok.w0 i hi2
          have hw1 := hok.w1 i hi2
          have hn0 := hok.n0
          have hn1 := hok.n1
          obtain ⟨b, o, rfl⟩ := Sl.some2 hS (by rw [Vw_length]; omega)
          refine TC.skip ?_
          refine TE.next ?_
          refine TC.seq ?_
          refine TC.block ?_
          refine TC.seq ?_
          refine TC.region ?_
          refine' TL.y rfl rfl rfl ?hy30 ?_
          case hy30 => exact Yl.move rfl rfl
          refine' TL.y rfl rfl rfl ?hy31 ?_
          case hy31 => exact Yl.move rfl rfl
          refine' TL.y rfl rfl rfl ?hy32 ?_
          case hy32 => exact Yl.move rfl rfl
          refine' TL.y rfl rfl rfl ?hy33 ?_
          case hy33 => exact Yl.move rfl rfl
          refine' TL.y rfl rfl rfl ?hy34 ?_
          case hy34 => exact Yl.move rfl rfl
          refine' TL.y rfl rfl rfl ?hy35 ?_
          case hy35 => first | exact Yl.ixn rfl rfl rfl Try.underlying22 (by kernel_rfl) (by omega) | exact Yl.ixz rfl rfl rfl Try.underlying22 (by kernel_rfl) (by omega) (by omega) | exact Yl.ixcn rfl rfl rfl Try.underlying22 (by kernel_rfl) (by omega) | exact Yl.ixcz rfl rfl rfl Try.underlying22 (by kernel_rfl) (by omega) (by omega)
          refine' TL.y rfl rfl rfl ?hy36 ?_
          case hy36 => first | exact Yl.load rfl rfl (by kernel_rfl) (Sl.vw hS rfl (by omega) (fun _ h => h)) | exact Yl.load rfl rfl (by kernel_rfl) (Hp.vw mem0 (by omega)) | exact Yl.load rfl rfl (by kernel_rfl) (Hp.vw mem1 (by omega)) | exact Yl.load rfl rfl (by kernel_rfl) (Hp.vw mem2 (by omega)) | exact Yl.load rfl rfl (by kernel_rfl) (Hp.cell mem0 rfl) | exact Yl.load rfl rfl (by kernel_rfl) (Hp.cell mem1 rfl) | exact Yl.load rfl rfl (by kernel_rfl) (Hp.cell mem2 rfl) | exact Yl.load rfl rfl (by kernel_rfl) (Hp.cell mem3 rfl) | exact Yl.load rfl rfl (by kernel_rfl) (Hp.cell mem4 rfl) | exact Yl.load rfl rfl (by kernel_rfl) (Hp.rowAt mem0 (by omega) rfl) | exact Yl.load rfl rfl (by kernel_rfl) (Hp.rowAt mem1 (by omega) rfl) | exact Yl.load rfl rfl (by kernel_rfl) (Hp.rowAt mem2 (by omega) rfl) | exact Yl.load rfl rfl (by kernel_rfl) (Hp.rowAt mem3 (by omega) rfl) | exact Yl.load rfl rfl (by kernel_rfl) (Hp.rowAt mem4 (by omega) rfl)
          refine' TL.y rfl rfl rfl ?hy37 ?_
          case hy37 => first | (refine Yl.val (Yl.bin rfl rfl rfl (Bin.mul _ _ _ _)) (congrArg (Value.int .i64) (i64in ?_ ?_)) <;> omega) | exact Yl.bin rfl rfl rfl (Bin.mul _ _ _ _)
          refine' TL.y rfl rfl rfl ?hy38 ?_
          case hy38 => exact Yl.move rfl rfl
          refine' TL.y rfl rfl rfl ?hy39 ?_
          case hy39 => exact Yl.val (Yl.bin rfl rfl rfl (Bin.quo _ _ _ _ (by omega))) (congrArg (Value.int .i64) (show IntKind.i64.wrap ((n * u i).tdiv (sumF u m)) = qF n (sumF u m) u i from by rw [Int.tdiv_eq_ediv_of_nonneg hmu.1]; exact i64in (by show _ ≤ qF n (sumF u m) u i; omega) (by show qF n (sumF u m) u i ≤ _; omega)))
          refine' TL.y rfl rfl rfl ?hy40 ?_
          case hy40 => first | exact Yl.ixn rfl rfl rfl Try.underlying22 (by kernel_rfl) (by omega) | exact Yl.ixz rfl rfl rfl Try.underlying22 (by kernel_rfl) (by omega) (by omega) | exact Yl.ixcn rfl rfl rfl Try.underlying22 (by kernel_rfl) (by omega) | exact Yl.ixcz rfl rfl rfl Try.underlying22 (by kernel_rfl) (by omega) (by omega)
          refine' TL.s rfl rfl ?hy41 ?_
          case hy41 => first | exact Ys.vw rfl rfl rfl (by kernel_rfl) foc0 (by omega) | exact Ys.vw rfl rfl rfl (by kernel_rfl) foc1 (by omega) | exact Ys.vw rfl rfl rfl (by kernel_rfl) foc2 (by omega)
          refine TL.nil ?_
          refine TE.next ?_
          refine TC.seq ?_
          refine TC.region ?_
          refine' TL.y rfl rfl rfl ?hy42 ?_
          case hy42 => exact Yl.move rfl rfl
          refine' TL.y rfl rfl rfl ?hy43 ?_
          case hy43 => exact Yl.move rfl rfl
          refine' TL.y rfl rfl rfl ?hy44 ?_
          case hy44 => exact Yl.move rfl rfl
          refine' TL.y rfl rfl rfl ?hy45 ?_
          case hy45 => exact Yl.move rfl rfl
          refine' TL.y rfl rfl rfl ?hy46 ?_
          case hy46 => exact Yl.move rfl rfl
          refine' TL.y rfl rfl rfl ?hy47 ?_
          case hy47 => first | exact Yl.ixn rfl rfl rfl Try.underlying22 (by kernel_rfl) (by omega) | exact Yl.ixz rfl rfl rfl Try.underlying22 (by kernel_rfl) (by omega) (by omega) | exact Yl.ixcn rfl rfl rfl Try.underlying22 (by kernel_rfl) (by omega) | exact Yl.ixcz rfl rfl rfl Try.underlying22 (by kernel_rfl) (by omega) (by omega)
          refine' TL.y rfl rfl rfl ?hy48 ?_
          case hy48 => first | exact Yl.load rfl rfl (by kernel_rfl) (Sl.vw hS rfl (by omega) (fun _ h => h)) | exact Yl.load rfl rfl (by kernel_rfl) (Hp.vw mem0 (by omega)) | exact Yl.load rfl rfl (by kernel_rfl) (Hp.vw mem1 (by omega)) | exact Yl.load rfl rfl (by kernel_rfl) (Hp.vw mem2 (by omega)) | exact Yl.load rfl rfl (by kernel_rfl) (Hp.cell mem0 rfl) | exact Yl.load rfl rfl (by kernel_rfl) (Hp.cell mem1 rfl) | exact Yl.load rfl rfl (by kernel_rfl) (Hp.cell mem2 rfl) | exact Yl.load rfl rfl (by kernel_rfl) (Hp.cell mem3 rfl) | exact Yl.load rfl rfl (by kernel_rfl) (Hp.cell mem4 rfl) | exact Yl.load rfl rfl (by kernel_rfl) (Hp.rowAt mem0 (by omega) rfl) | exact Yl.load rfl rfl (by kernel_rfl) (Hp.rowAt mem1 (by omega) rfl) | exact Yl.load rfl rfl (by kernel_rfl) (Hp.rowAt mem2 (by omega) rfl) | exact Yl.load rfl rfl (by kernel_rfl) (Hp.rowAt mem3 (by omega) rfl) | exact Yl.load rfl rfl (by kernel_rfl) (Hp.rowAt mem4 (by omega) rfl)
          refine' TL.y rfl rfl rfl ?hy49 ?_
          case hy49 => first | (refine Yl.val (Yl.bin rfl rfl rfl (Bin.mul _ _ _ _)) (congrArg (Value.int .i64) (i64in ?_ ?_)) <;> omega) | exact Yl.bin rfl rfl rfl (Bin.mul _ _ _ _)
          refine' TL.y rfl rfl rfl ?hy50 ?_
          case hy50 => exact Yl.move rfl rfl
          refine' TL.y rfl rfl rfl ?hy51 ?_
          case hy51 => exact Yl.val (Yl.bin rfl rfl rfl (Bin.rem _ _ _ _ (by omega))) (congrArg (Value.int .i64) (show (n * u i).tmod (sumF u m) = rF n (sumF u m) u i from Int.tmod_eq_emod_of_nonneg hmu.1))
          refine' TL.y rfl rfl rfl ?hy52 ?_
          case hy52 => first | exact Yl.ixn rfl rfl rfl Try.underlying22 (by kernel_rfl) (by omega) | exact Yl.ixz rfl rfl rfl Try.underlying22 (by kernel_rfl) (by omega) (by omega) | exact Yl.ixcn rfl rfl rfl Try.underlying22 (by kernel_rfl) (by omega) | exact Yl.ixcz rfl rfl rfl Try.underlying22 (by kernel_rfl) (by omega) (by omega)
          refine' TL.s rfl rfl ?hy53 ?_
          case hy53 => first | exact Ys.vw rfl rfl rfl (by kernel_rfl) foc0 (by omega) | exact Ys.vw rfl rfl rfl (by kernel_rfl) foc1 (by omega) | exact Ys.vw rfl rfl rfl (by kernel_rfl) foc2 (by omega)
          refine TL.nil ?_
          refine TE.next ?_
          refine TC.region ?_
          refine' TL.y rfl rfl rfl ?hy54 ?_
          case hy54 => exact Yl.move rfl rfl
          refine' TL.y rfl rfl rfl ?hy55 ?_
          case hy55 => exact Yl.move rfl rfl
          refine' TL.y rfl rfl rfl ?hy56 ?_
          case hy56 => exact Yl.move rfl rfl
          refine' TL.y rfl rfl rfl ?hy57 ?_
          case hy57 => first | exact Yl.ixn rfl rfl rfl Try.underlying22 (by kernel_rfl) (by omega) | exact Yl.ixz rfl rfl rfl Try.underlying22 (by kernel_rfl) (by omega) (by omega) | exact Yl.ixcn rfl rfl rfl Try.underlying22 (by kernel_rfl) (by omega) | exact Yl.ixcz rfl rfl rfl Try.underlying22 (by kernel_rfl) (by omega) (by omega)
          refine' TL.y rfl rfl rfl ?hy58 ?_
          case hy58 => first | exact Yl.load rfl rfl (by kernel_rfl) (Sl.vw hS rfl (by omega) (fun _ h => h)) | exact Yl.load rfl rfl (by kernel_rfl) (Hp.vw mem0 (by omega)) | exact Yl.load rfl rfl (by kernel_rfl) (Hp.vw mem1 (by omega)) | exact Yl.load rfl rfl (by kernel_rfl) (Hp.vw mem2 (by omega)) | exact Yl.load rfl rfl (by kernel_rfl) (Hp.cell mem0 rfl) | exact Yl.load rfl rfl (by kernel_rfl) (Hp.cell mem1 rfl) | exact Yl.load rfl rfl (by kernel_rfl) (Hp.cell mem2 rfl) | exact Yl.load rfl rfl (by kernel_rfl) (Hp.cell mem3 rfl) | exact Yl.load rfl rfl (by kernel_rfl) (Hp.cell mem4 rfl) | exact Yl.load rfl rfl (by kernel_rfl) (Hp.rowAt mem0 (by omega) rfl) | exact Yl.load rfl rfl (by kernel_rfl) (Hp.rowAt mem1 (by omega) rfl) | exact Yl.load rfl rfl (by kernel_rfl) (Hp.rowAt mem2 (by omega) rfl) | exact Yl.load rfl rfl (by kernel_rfl) (Hp.rowAt mem3 (by omega) rfl) | exact Yl.load rfl rfl (by kernel_rfl) (Hp.rowAt mem4 (by omega) rfl)
          refine TL.re (i := 60) (v' := .int .i64 (qF n (sumF u m) u i)) rfl (congrArg (Value.int .i64) (if_pos rfl)) ?_
          have hps : 0 ≤ sumF (qF n (sumF u m) u) i ∧ sumF (qF n (sumF u m) u) i ≤ 70368744177664 := by
            have h1 := sumF_nonneg (fun j hj => (hok.qr hsp (show j < m by omega)).1 : ∀ j, j < i → 0 ≤ qF n (sumF u m) u j)
            have h2 := sumF_le (fun j hj => (hok.qr hsp (show j < m by omega)).2.2.1 : ∀ j, j < i → qF n (sumF u m) u j ≤ n)
            rw [sumF_const] at h2
            have h3 : (i : Int) * n ≤ 64 * n := Int.mul_le_mul_of_nonneg_right (by omega) hn0
            omega
          refine' TL.y rfl rfl rfl ?hy59 ?_
          case hy59 => first | (refine Yl.val (Yl.bin rfl rfl rfl (Bin.sub _ _ _ _)) (congrArg (Value.int .i64) (i64in ?_ ?_)) <;> omega) | exact Yl.bin rfl rfl rfl (Bin.sub _ _ _ _)
          refine' TL.y rfl rfl rfl ?hy60 ?_
          case hy60 => exact Yl.assign rfl rfl
          refine TL.nil ?_
          refine TE.inNormal ?_
          refine TE.next ?_
          refine TC.region ?_
          refine' TL.y rfl rfl rfl ?hy61 ?_
          case hy61 => exact Yl.move rfl rfl
          refine' TL.y rfl rfl rfl ?hy62 ?_
          case hy62 => first | (refine Yl.val (Yl.bin rfl rfl rfl (Bin.add _ _ _ _)) (congrArg (Value.int .i64) (i64in ?_ ?_)) <;> omega) | exact Yl.bin rfl rfl rfl (Bin.add _ _ _ _)
          refine' TL.y rfl rfl rfl ?hy63 ?_
          case hy63 => exact Yl.assign rfl rfl
          refine TL.nil ?_
          refine TE.round (i + 1) ?hF64 ?hlt64 ?hs64 ?hm64
          case hF64 => omega
          case hlt64 => omega
          case hs64 => exact ⟨rfl, rfl, rfl, rfl, rfl, rfl, (by show some (Value.int .i64 (n - sumF (qF n (sumF u m) u) i - qF n (sumF u m) u i)) = _; rw [sumF, Int.sub_sub]), trivial⟩
          case hm64 => exact (fun w h => (h.vwc (fun j hj => by
              show upI _ _ _ j = _
              unfold upI; dsimp only
              by_cases e : j = i
              · rw [if_pos e, if_pos (by omega), e]
              · rw [if_neg e]
                by_cases e2 : j < i
                · rw [if_pos e2, if_pos (by omega)]
                · rw [if_neg e2, if_neg (by omega)])).vwc1 (fun j hj => by
              show upI _ _ _ j = _
              unfold upI; dsimp only
              by_cases e : j = i
              · rw [if_pos e, if_pos (by omega), e]
              · rw [if_neg e]
                by_cases e2 : j < i
                · rw [if_pos e2, if_pos (by omega)]
                · rw [if_neg e2, if_neg (by omega)]))
        · skip
          (try simp only [decide_eq_true_eq, decide_eq_false_iff_not, beq_iff_eq, beq_eq_false_iff_ne, bne_iff_ne, ne_eq, bne_eq_false_iff_eq, Bool.not_eq_true', Bool.not_eq_false', Int.not_lt, Int.not_le, gt_iff_lt, ge_iff_le] at hs31)
          obtain ⟨him, hmi⟩ : i ≤ m ∧ m ≤ i := by omega
          obtain rfl := Nat.le_antisymm hmi him
          have hl := hok.left hsp
          have hm0 : 0 < m := by omega
          obtain ⟨L, hL⟩ := Int.eq_ofNat_of_zero_le hl.1
          refine TC.exit ?_
          refine TE.thenExit ?_
          refine TE.thenExit ?_
          refine TE.inHere ?_
          refine TE.next ?_
          refine TC.seq ?_
          refine TC.block ?_
          refine TC.loop (σ := Nat) (fun x => [(1, .slice A m cp), (5, .slice (some ⟨b18, 0, none⟩) m m), (7, .slice (some ⟨b26, 0, none⟩) m m), (8, .int .i64 ((L : Int) - (x : Int)))]) (fun x => Hp W (fun _ => False) [ownR 3 1 (.slice (some ⟨b26, 0, none⟩) m m) m (Vw m (restK (rF n (sumF u m) u) m x)), ownR 3 1 (.slice (some ⟨b18, 0, none⟩) m m) m (Vw m (outK n m u x))]) (fun x => x ≤ L) (fun x => L - x) 0 ?hF65 ?hs65 ?hm65 ?round65
          case hF65 => exact Nat.zero_le _
          case hs65 => exact ⟨rfl, rfl, rfl, (by show some (Value.int .i64 (n - sumF (qF n (sumF u m) u) m)) = _; rw [show n - sumF (qF n (sumF u m) u) m = (L : Int) from hL]; simp), trivial⟩
          case hm65 => exact fun w h => (h.vwc (fun j hj => by rw [if_pos hj, restK_zero])).vwc1 (fun j hj => by rw [if_pos hj, outK_zero])
          case round65 =>
            intro x hx
            refine TC.seq ?_
            refine TC.seq ?_
            refine TC.region ?_
            refine' TL.y rfl rfl rfl ?hy66 ?_
            case hy66 => exact Yl.move rfl rfl
            refine' TL.y rfl rfl rfl ?hy67 ?_
            case hy67 => exact Yl.bin rfl rfl rfl (Bin.gtr _ _ _ _)
            refine TL.nil ?_
            refine TE.next ?_
            refine TC.cond rfl (fun hs63 => ?_) (fun hs63 => ?_)
            · skip
              (try simp only [decide_eq_true_eq, decide_eq_false_iff_not, beq_iff_eq, beq_eq_false_iff_ne, bne_iff_ne, ne_eq, bne_eq_false_iff_eq, Bool.not_eq_true', Bool.not_eq_false', Int.not_lt, Int.not_le, gt_iff_lt, ge_iff_le] at hs63)
              refine TC.skip ?_
              refine TE.next ?_
              refine TC.block ?_
              refine TC.seq ?_
              refine TC.region ?_
              refine' TL.y rfl rfl rfl ?hy68 ?_
              case hy68 => exact Yl.assign rfl rfl
              refine TL.nil ?_
              refine TE.next ?_
              refine TC.seq ?_
              refine TC.seq ?_
              refine TC.region ?_
              refine' TL.y rfl rfl rfl ?hy69 ?_
              case hy69 => exact Yl.assign rfl rfl
              refine TL.nil ?_
              refine TE.next ?_
              refine TC.block ?_
              refine TC.loop (σ := Nat × Nat) (fun y => [(1, .slice A m cp), (5, .slice (some ⟨b18, 0, none⟩) m m), (7, .slice (some ⟨b26, 0, none⟩) m m), (8, .int .i64 ((L : Int) - (x : Int))), (10, .int .i64 (y.1 : Int)), (11, .int .i64 (y.2 : Int))]) (fun y => Hp W (fun _ => False) [ownR 3 1 (.slice (some ⟨b26, 0, none⟩) m m) m (Vw m (restK (rF n (sumF u m) u) m x)), ownR 3 1 (.slice (some ⟨b18, 0, none⟩) m m) m (Vw m (outK n m u x))]) (fun y => y.1 < y.2 ∧ y.2 ≤ m ∧ (∀ j, j < y.2 → restK (rF n (sumF u m) u) m x j ≤ restK (rF n (sumF u m) u) m x y.1) ∧ ∀ j, j < y.1 → restK (rF n (sumF u m) u) m x j < restK (rF n (sumF u m) u) m x y.1) (fun y => m - y.2) (0, 1) ?hF70 ?hs70 ?hm70 ?round70
              case hF70 => exact ⟨Nat.one_pos, by dsimp only; omega, fun j hj => by
                dsimp only at hj ⊢
                rw [show j = 0 by omega]; exact Int.le_refl _, fun j hj => by dsimp only at hj; omega⟩
              case hs70 => exact ⟨rfl, rfl, rfl, rfl, rfl, rfl, trivial⟩
              case hm70 => exact fun _ h => h
              case round70 =>
                rintro ⟨p, i⟩ ⟨y1, y2, y3, y4⟩
                dsimp only at y1 y2 y3 y4 ⊢
                refine TC.seq ?_
                refine TC.seq ?_
                refine TC.region ?_
                refine' TL.y rfl rfl rfl ?hy71 ?_
                case hy71 => exact Yl.move rfl rfl
                refine' TL.y rfl rfl rfl ?hy72 ?_
                case hy72 => exact Yl.move rfl rfl
                refine' TL.y rfl rfl rfl ?hy73 ?_
                case hy73 => exact Yl.len rfl rfl Try.underlying22
                refine' TL.y rfl rfl rfl ?hy74 ?_
                case hy74 => exact Yl.bin rfl rfl rfl (Bin.lss _ _ _ _)
                refine TL.nil ?_
                refine TE.next ?_
                refine TC.cond rfl (fun hs67 => ?_) (fun hs67 => ?_)
                · skip
                  (try simp only [decide_eq_true_eq, decide_eq_false_iff_not, beq_iff_eq, beq_eq_false_iff_ne, bne_iff_ne, ne_eq, bne_eq_false_iff_eq, Bool.not_eq_true', Bool.not_eq_false', Int.not_lt, Int.not_le, gt_iff_lt, ge_iff_le] at hs67)
                  refine TC.skip ?_
                  refine TE.next ?_
                  refine TC.seq ?_
                  refine TC.block ?_
                  refine TC.seq ?_
                  refine TC.draw (k := 9) _ [] #[false, false, false, false, false, false, false, false, false] (by kernel_rfl) rfl rfl (fun _ h => h.drew) (fun _ h => h) ?_
                  refine' TA.y (i := 0) #[true, false, false, false, false, false, false, false, false] rfl rfl rfl (by kernel_rfl) (fun _ _ _ h => h) (fun _ h => by exact Hp.sub h (by repeat (first | exact List.Sublist.refl _ | apply List.Sublist.cons))) rfl ?hy75 ?_
                  case hy75 => exact Yl.move rfl rfl
                  refine' TA.y (i := 1) #[true, true, false, false, false, false, false, false, false] rfl rfl rfl (by kernel_rfl) (fun _ _ _ h => h) (fun _ h => by exact Hp.sub h (by repeat (first | exact List.Sublist.refl _ | apply List.Sublist.cons))) rfl ?hy76 ?_
                  case hy76 => exact Yl.move rfl rfl
                  refine' TA.y (i := 2) #[true, true, true, false, false, false, false, false, false] rfl rfl rfl (by kernel_rfl) (fun _ _ _ h => h) (fun _ h => by exact Hp.sub h (by repeat (first | exact List.Sublist.refl _ | apply List.Sublist.cons))) rfl ?hy77 ?_
                  case hy77 => first | exact Yl.ixn rfl rfl rfl Try.underlying22 (by kernel_rfl) (by omega) | exact Yl.ixz rfl rfl rfl Try.underlying22 (by kernel_rfl) (by omega) (by omega) | exact Yl.ixcn rfl rfl rfl Try.underlying22 (by kernel_rfl) (by omega) | exact Yl.ixcz rfl rfl rfl Try.underlying22 (by kernel_rfl) (by omega) (by omega)
                  refine' TA.y (i := 3) #[true, true, true, true, false, false, false, false, false] rfl rfl rfl (by kernel_rfl) (fun _ _ _ h => h) (fun _ h => by exact Hp.sub h (by repeat (first | exact List.Sublist.refl _ | apply List.Sublist.cons))) rfl ?hy78 ?_
                  case hy78 => first | exact Yl.load rfl rfl (by kernel_rfl) (Sl.vw hS rfl (by omega) (fun _ h => h)) | exact Yl.load rfl rfl (by kernel_rfl) (Hp.vw mem0 (by omega)) | exact Yl.load rfl rfl (by kernel_rfl) (Hp.vw mem1 (by omega)) | exact Yl.load rfl rfl (by kernel_rfl) (Hp.vw mem2 (by omega)) | exact Yl.load rfl rfl (by kernel_rfl) (Hp.cell mem0 rfl) | exact Yl.load rfl rfl (by kernel_rfl) (Hp.cell mem1 rfl) | exact Yl.load rfl rfl (by kernel_rfl) (Hp.cell mem2 rfl) | exact Yl.load rfl rfl (by kernel_rfl) (Hp.cell mem3 rfl) | exact Yl.load rfl rfl (by kernel_rfl) (Hp.cell mem4 rfl) | exact Yl.load rfl rfl (by kernel_rfl) (Hp.rowAt mem0 (by omega) rfl) | exact Yl.load rfl rfl (by kernel_rfl) (Hp.rowAt mem1 (by omega) rfl) | exact Yl.load rfl rfl (by kernel_rfl) (Hp.rowAt mem2 (by omega) rfl) | exact Yl.load rfl rfl (by kernel_rfl) (Hp.rowAt mem3 (by omega) rfl) | exact Yl.load rfl rfl (by kernel_rfl) (Hp.rowAt mem4 (by omega) rfl)
                  refine' TA.y (i := 4) #[true, true, true, true, true, false, false, false, false] rfl rfl rfl (by kernel_rfl) (fun _ _ _ h => h) (fun _ h => by exact Hp.sub h (by repeat (first | exact List.Sublist.refl _ | apply List.Sublist.cons))) rfl ?hy79 ?_
                  case hy79 => exact Yl.move rfl rfl
                  refine' TA.y (i := 5) #[true, true, true, true, true, true, false, false, false] rfl rfl rfl (by kernel_rfl) (fun _ _ _ h => h) (fun _ h => by exact Hp.sub h (by repeat (first | exact List.Sublist.refl _ | apply List.Sublist.cons))) rfl ?hy80 ?_
                  case hy80 => exact Yl.move rfl rfl
                  refine' TA.y (i := 6) #[true, true, true, true, true, true, true, false, false] rfl rfl rfl (by kernel_rfl) (fun _ _ _ h => h) (fun _ h => by exact Hp.sub h (by repeat (first | exact List.Sublist.refl _ | apply List.Sublist.cons))) rfl ?hy81 ?_
                  case hy81 => first | exact Yl.ixn rfl rfl rfl Try.underlying22 (by kernel_rfl) (by omega) | exact Yl.ixz rfl rfl rfl Try.underlying22 (by kernel_rfl) (by omega) (by omega) | exact Yl.ixcn rfl rfl rfl Try.underlying22 (by kernel_rfl) (by omega) | exact Yl.ixcz rfl rfl rfl Try.underlying22 (by kernel_rfl) (by omega) (by omega)
                  refine' TA.y (i := 7) #[true, true, true, true, true, true, true, true, false] rfl rfl rfl (by kernel_rfl) (fun _ _ _ h => h) (fun _ h => by exact Hp.sub h (by repeat (first | exact List.Sublist.refl _ | apply List.Sublist.cons))) rfl ?hy82 ?_
                  case hy82 => first | exact Yl.load rfl rfl (by kernel_rfl) (Sl.vw hS rfl (by omega) (fun _ h => h)) | exact Yl.load rfl rfl (by kernel_rfl) (Hp.vw mem0 (by omega)) | exact Yl.load rfl rfl (by kernel_rfl) (Hp.vw mem1 (by omega)) | exact Yl.load rfl rfl (by kernel_rfl) (Hp.vw mem2 (by omega)) | exact Yl.load rfl rfl (by kernel_rfl) (Hp.cell mem0 rfl) | exact Yl.load rfl rfl (by kernel_rfl) (Hp.cell mem1 rfl) | exact Yl.load rfl rfl (by kernel_rfl) (Hp.cell mem2 rfl) | exact Yl.load rfl rfl (by kernel_rfl) (Hp.cell mem3 rfl) | exact Yl.load rfl rfl (by kernel_rfl) (Hp.cell mem4 rfl) | exact Yl.load rfl rfl (by kernel_rfl) (Hp.rowAt mem0 (by omega) rfl) | exact Yl.load rfl rfl (by kernel_rfl) (Hp.rowAt mem1 (by omega) rfl) | exact Yl.load rfl rfl (by kernel_rfl) (Hp.rowAt mem2 (by omega) rfl) | exact Yl.load rfl rfl (by kernel_rfl) (Hp.rowAt mem3 (by omega) rfl) | exact Yl.load rfl rfl (by kernel_rfl) (Hp.rowAt mem4 (by omega) rfl)
                  refine' TA.y (i := 8) #[true, true, true, true, true, true, true, true, true] rfl rfl rfl (by kernel_rfl) (fun _ _ _ h => h) (fun _ h => by exact Hp.sub h (by repeat (first | exact List.Sublist.refl _ | apply List.Sublist.cons))) rfl ?hy83 ?_
                  case hy83 => exact Yl.bin rfl rfl rfl (Bin.gtr _ _ _ _)
                  refine TA.done (by kernel_rfl) ?_
                  refine TE.next ?_
                  refine TC.cond rfl (fun hs78 => ?_) (fun hs78 => ?_)
                  · skip
                    (try simp only [decide_eq_true_eq, decide_eq_false_iff_not, beq_iff_eq, beq_eq_false_iff_ne, bne_iff_ne, ne_eq, bne_eq_false_iff_eq, Bool.not_eq_true', Bool.not_eq_false', Int.not_lt, Int.not_le, gt_iff_lt, ge_iff_le] at hs78)
                    refine TC.region ?_
                    refine' TL.y rfl rfl rfl ?hy84 ?_
                    case hy84 => exact Yl.move rfl rfl
                    refine' TL.y rfl rfl rfl ?hy85 ?_
                    case hy85 => exact Yl.assign rfl rfl
                    refine TL.nil ?_
                    refine TE.inNormal ?_
                    refine TE.next ?_
                    refine TC.region ?_
                    refine' TL.y rfl rfl rfl ?hy86 ?_
                    case hy86 => exact Yl.move rfl rfl
                    refine' TL.y rfl rfl rfl ?hy87 ?_
                    case hy87 => first | (refine Yl.val (Yl.bin rfl rfl rfl (Bin.add _ _ _ _)) (congrArg (Value.int .i64) (i64in ?_ ?_)) <;> omega) | exact Yl.bin rfl rfl rfl (Bin.add _ _ _ _)
                    refine' TL.y rfl rfl rfl ?hy88 ?_
                    case hy88 => exact Yl.assign rfl rfl
                    refine TL.nil ?_
                    refine TE.round (i, i + 1) ?hF89 ?hlt89 ?hs89 ?hm89
                    case hF89 => exact ⟨by dsimp only; omega, by dsimp only; omega, fun j hj => by
                      dsimp only at hj ⊢
                      by_cases e : j = i
                      · rw [e]; exact Int.le_refl _
                      · have := y3 j (by omega); omega, fun j hj => by
                      dsimp only at hj ⊢
                      have := y3 j hj; omega⟩
                    case hlt89 => dsimp only; omega
                    case hs89 => exact ⟨rfl, rfl, rfl, rfl, rfl, rfl, trivial⟩
                    case hm89 => exact fun _ h => h
                  · skip
                    (try simp only [decide_eq_true_eq, decide_eq_false_iff_not, beq_iff_eq, beq_eq_false_iff_ne, bne_iff_ne, ne_eq, bne_eq_false_iff_eq, Bool.not_eq_true', Bool.not_eq_false', Int.not_lt, Int.not_le, gt_iff_lt, ge_iff_le] at hs78)
                    refine TC.skip ?_
                    refine TE.inNormal ?_
                    refine TE.next ?_
                    refine TC.region ?_
                    refine' TL.y rfl rfl rfl ?hy90 ?_
                    case hy90 => exact Yl.move rfl rfl
                    refine' TL.y rfl rfl rfl ?hy91 ?_
                    case hy91 => first | (refine Yl.val (Yl.bin rfl rfl rfl (Bin.add _ _ _ _)) (congrArg (Value.int .i64) (i64in ?_ ?_)) <;> omega) | exact Yl.bin rfl rfl rfl (Bin.add _ _ _ _)
                    refine' TL.y rfl rfl rfl ?hy92 ?_
                    case hy92 => exact Yl.assign rfl rfl
                    refine TL.nil ?_
                    refine TE.round (p, i + 1) ?hF93 ?hlt93 ?hs93 ?hm93
                    case hF93 => exact ⟨by dsimp only; omega, by dsimp only; omega, fun j hj => by
                      dsimp only at hj ⊢
                      by_cases e : j = i
                      · rw [e]; omega
                      · exact y3 j (by omega), y4⟩
                    case hlt93 => dsimp only; omega
                    case hs93 => exact ⟨rfl, rfl, rfl, rfl, rfl, rfl, trivial⟩
                    case hm93 => exact fun _ h => h
                · skip
                  (try simp only [decide_eq_true_eq, decide_eq_false_iff_not, beq_iff_eq, beq_eq_false_iff_ne, bne_iff_ne, ne_eq, bne_eq_false_iff_eq, Bool.not_eq_true', Bool.not_eq_false', Int.not_lt, Int.not_le, gt_iff_lt, ge_iff_le] at hs67)
                  have hp1 : p < m := by omega
                  have hrk := ref_pick (fun j hj => (hok.qr hsp hj).2.2.2.1) (show x < m by omega) hp1 (fun j hj => y3 j (by omega)) y4
                  have hob : outK n m u x p ≤ 1048577 := by
                    have h1 := (hok.qr hsp hp1).2.2.1
                    have h2 := hok.n1
                    unfold outK; split <;> omega
                  have hob0 : 0 ≤ outK n m u x p := by
                    have h1 := (hok.qr hsp hp1).1
                    unfold outK; split <;> omega
                  refine TC.exit ?_
                  refine TE.thenExit ?_
                  refine TE.thenExit ?_
                  refine TE.inHere ?_
                  refine TE.next ?_
                  refine TC.seq ?_
                  refine TC.region ?_
                  refine' TL.y rfl rfl rfl ?hy94 ?_
                  case hy94 => exact Yl.move rfl rfl
                  refine' TL.y rfl rfl rfl ?hy95 ?_
                  case hy95 => exact Yl.move rfl rfl
                  refine' TL.y rfl rfl rfl ?hy96 ?_
                  case hy96 => first | exact Yl.ixn rfl rfl rfl Try.underlying22 (by kernel_rfl) (by omega) | exact Yl.ixz rfl rfl rfl Try.underlying22 (by kernel_rfl) (by omega) (by omega) | exact Yl.ixcn rfl rfl rfl Try.underlying22 (by kernel_rfl) (by omega) | exact Yl.ixcz rfl rfl rfl Try.underlying22 (by kernel_rfl) (by omega) (by omega)
                  refine' TL.y rfl rfl rfl ?hy97 ?_
                  case hy97 => first | exact Yl.load rfl rfl (by kernel_rfl) (Sl.vw hS rfl (by omega) (fun _ h => h)) | exact Yl.load rfl rfl (by kernel_rfl) (Hp.vw mem0 (by omega)) | exact Yl.load rfl rfl (by kernel_rfl) (Hp.vw mem1 (by omega)) | exact Yl.load rfl rfl (by kernel_rfl) (Hp.vw mem2 (by omega)) | exact Yl.load rfl rfl (by kernel_rfl) (Hp.cell mem0 rfl) | exact Yl.load rfl rfl (by kernel_rfl) (Hp.cell mem1 rfl) | exact Yl.load rfl rfl (by kernel_rfl) (Hp.cell mem2 rfl) | exact Yl.load rfl rfl (by kernel_rfl) (Hp.cell mem3 rfl) | exact Yl.load rfl rfl (by kernel_rfl) (Hp.cell mem4 rfl) | exact Yl.load rfl rfl (by kernel_rfl) (Hp.rowAt mem0 (by omega) rfl) | exact Yl.load rfl rfl (by kernel_rfl) (Hp.rowAt mem1 (by omega) rfl) | exact Yl.load rfl rfl (by kernel_rfl) (Hp.rowAt mem2 (by omega) rfl) | exact Yl.load rfl rfl (by kernel_rfl) (Hp.rowAt mem3 (by omega) rfl) | exact Yl.load rfl rfl (by kernel_rfl) (Hp.rowAt mem4 (by omega) rfl)
                  refine' TL.y rfl rfl rfl ?hy98 ?_
                  case hy98 => first | (refine Yl.val (Yl.bin rfl rfl rfl (Bin.add _ _ _ _)) (congrArg (Value.int .i64) (i64in ?_ ?_)) <;> omega) | exact Yl.bin rfl rfl rfl (Bin.add _ _ _ _)
                  refine' TL.y rfl rfl rfl ?hy99 ?_
                  case hy99 => first | exact Yl.ixn rfl rfl rfl Try.underlying22 (by kernel_rfl) (by omega) | exact Yl.ixz rfl rfl rfl Try.underlying22 (by kernel_rfl) (by omega) (by omega) | exact Yl.ixcn rfl rfl rfl Try.underlying22 (by kernel_rfl) (by omega) | exact Yl.ixcz rfl rfl rfl Try.underlying22 (by kernel_rfl) (by omega) (by omega)
                  refine' TL.s rfl rfl ?hy100 ?_
                  case hy100 => first | exact Ys.vw rfl rfl rfl (by kernel_rfl) foc0 (by omega) | exact Ys.vw rfl rfl rfl (by kernel_rfl) foc1 (by omega) | exact Ys.vw rfl rfl rfl (by kernel_rfl) foc2 (by omega)
                  refine TL.nil ?_
                  refine TE.next ?_
                  refine TC.seq ?_
                  refine TC.region ?_
                  refine' TL.y rfl rfl rfl ?hy101 ?_
                  case hy101 => exact Yl.move rfl rfl
                  refine' TL.y rfl rfl rfl ?hy102 ?_
                  case hy102 => exact Yl.move rfl rfl
                  refine' TL.y rfl rfl rfl ?hy103 ?_
                  case hy103 => first | exact Yl.ixn rfl rfl rfl Try.underlying22 (by kernel_rfl) (by omega) | exact Yl.ixz rfl rfl rfl Try.underlying22 (by kernel_rfl) (by omega) (by omega) | exact Yl.ixcn rfl rfl rfl Try.underlying22 (by kernel_rfl) (by omega) | exact Yl.ixcz rfl rfl rfl Try.underlying22 (by kernel_rfl) (by omega) (by omega)
                  refine' TL.s rfl rfl ?hy104 ?_
                  case hy104 => first | exact Ys.vw rfl rfl rfl (by kernel_rfl) foc0 (by omega) | exact Ys.vw rfl rfl rfl (by kernel_rfl) foc1 (by omega) | exact Ys.vw rfl rfl rfl (by kernel_rfl) foc2 (by omega)
                  refine TL.nil ?_
                  refine TE.next ?_
                  refine TC.region ?_
                  refine' TL.y rfl rfl rfl ?hy105 ?_
                  case hy105 => exact Yl.move rfl rfl
                  refine' TL.y rfl rfl rfl ?hy106 ?_
                  case hy106 => first | (refine Yl.val (Yl.bin rfl rfl rfl (Bin.sub _ _ _ _)) (congrArg (Value.int .i64) (i64in ?_ ?_)) <;> omega) | exact Yl.bin rfl rfl rfl (Bin.sub _ _ _ _)
                  refine' TL.y rfl rfl rfl ?hy107 ?_
                  case hy107 => exact Yl.assign rfl rfl
                  refine TL.nil ?_
                  refine TE.inNormal ?_
                  refine TE.round (x + 1) ?hF108 ?hlt108 ?hs108 ?hm108
                  case hF108 => omega
                  case hlt108 => omega
                  case hs108 => exact ⟨rfl, rfl, rfl, (by show some (Value.int .i64 ((L : Int) - x - 1)) = _; rw [show (L : Int) - x - 1 = (L : Int) - ((x + 1 : Nat) : Int) by omega]), trivial⟩
                  case hm108 => exact fun w h => (h.vwc (fun j hj => restK_succ hp1 hrk hj)).vwc1 (fun j hj => outK_succ hp1 hrk hj)
            · skip
              (try simp only [decide_eq_true_eq, decide_eq_false_iff_not, beq_iff_eq, beq_eq_false_iff_ne, bne_iff_ne, ne_eq, bne_eq_false_iff_eq, Bool.not_eq_true', Bool.not_eq_false', Int.not_lt, Int.not_le, gt_iff_lt, ge_iff_le] at hs63)
              refine TC.exit ?_
              refine TE.thenExit ?_
              refine TE.thenExit ?_
              refine TE.inHere ?_
              refine TE.next ?_
              refine TC.seq ?_
              refine TC.region ?_
              refine' TL.y rfl rfl rfl ?hy109 ?_
              case hy109 => exact Yl.move rfl rfl
              refine' TL.y rfl rfl rfl ?hy110 ?_
              case hy110 => exact Yl.assign rfl rfl
              refine TL.nil ?_
              refine TE.next ?_
              refine TC.ret ?_
              refine TE.ret1 rfl rfl ?_
              have hpL : x = (leftV n m u).toNat := by rw [hL]; omega
              exact fun w h => ⟨_, rfl, by rw [lenR_ok hok]; exact ((h.sub (List.sublist_cons_self _ _)).vwc (fun j hj => by rw [hpL]; exact outK_done (by omega) j)).leaveNew⟩
set_option maxRecDepth 100000 in
set_option maxHeartbeats 2000000 in
theorem k_clone (W : World) {m : Nat} {u : Nat → Int} {A : Option Addr} {cp : Nat} (hS : Sl W A (Vw m u)) (hm : m ≤ 1000) : Calls Try.prog 24 #[.slice A m cp] W fun e w' => ∃ v : Value, e = .returned v ∧ (ownR 3 1 v (m) (Vw (m) (u))).holds w' ∧ Below W.heap.size W w' ∧ ∀ j, (ownR 3 1 v (m) (Vw (m) (u))).foot j → W.heap.size ≤ j := by
  have hM : Hp W (fun _ => False) [] W := Hp.start
  refine TC.enter (n := 8) Try.func24 rfl rfl rfl hM ?_
  refine TC.seq ?_
  refine TC.region ?_
  refine' TL.y rfl rfl rfl ?hy1 ?_
  case hy1 => exact Yl.assign rfl rfl
  refine TL.nil ?_
  refine TE.next ?_
  refine TC.seq ?_
  refine TC.seq ?_
  refine TC.region ?_
  refine' TL.y rfl rfl rfl ?hy2 ?_
  case hy2 => exact Yl.move rfl rfl
  refine' TL.y rfl rfl rfl ?hy3 ?_
  case hy3 => exact Yl.bin rfl rfl rfl (Bin.eqlS 22 3 _ _ _ Try.underlying22)
  refine TL.nil ?_
  refine TE.next ?_
  refine TC.cond rfl (fun hs4 => ?_) (fun hs4 => ?_)
  · skip
    (try simp only [decide_eq_true_eq, decide_eq_false_iff_not, beq_iff_eq, beq_eq_false_iff_ne, bne_iff_ne, ne_eq, bne_eq_false_iff_eq, Bool.not_eq_true', Bool.not_eq_false', Int.not_lt, Int.not_le, gt_iff_lt, ge_iff_le] at hs4)
    have hA : A = none := by cases A; rfl; simp at hs4
    have hm0 : m = 0 := by
      rcases Nat.eq_zero_or_pos m with e | e
      · exact e
      · obtain ⟨b, o, e2⟩ := Sl.some2 hS (by rw [Vw_length]; exact e)
        rw [hA] at e2; cases e2
    subst hm0
    refine TC.seq ?_
    refine TC.region ?_
    refine' TL.y rfl rfl rfl ?hy4 ?_
    case hy4 => exact Yl.assign rfl rfl
    refine TL.nil ?_
    refine TE.next ?_
    refine TC.ret ?_
    refine TE.thenRet ?_
    refine TE.ret1 rfl rfl ?_
    exact fun w h => ⟨_, rfl, (Hp.nil (e := 3) (size := 1) h).leaveNew⟩
  · skip
    (try simp only [decide_eq_true_eq, decide_eq_false_iff_not, beq_iff_eq, beq_eq_false_iff_ne, bne_iff_ne, ne_eq, bne_eq_false_iff_eq, Bool.not_eq_true', Bool.not_eq_false', Int.not_lt, Int.not_le, gt_iff_lt, ge_iff_le] at hs4)
    refine TC.skip ?_
    refine TE.next ?_
    refine TC.seq ?_
    refine TC.region ?_
    refine' TL.mx rfl rfl rfl ?hy5 ?_
    case hy5 => exact Ym.buildNone (z := .int .i64 0) (size := 1) rfl Try.underlying22 (by kernel_rfl)
    intro b5
    refine' TL.y rfl rfl rfl ?hy6 ?_
    case hy6 => exact Yl.move rfl rfl
    refine' TL.mx rfl rfl rfl ?hy7 ?_
    case hy7 => exact Ym.appendSl (news := Vw m u) rfl Try.underlying22 (by kernel_rfl) (z := .int .i64 0) (size := 1) (bytes := 8) rfl (by decide) (by decide) rfl rfl (by rw [Vw_length, Nat.mul_one]) (fun w h => hS.below h.below) (fun x hx => by unfold Vw at hx; obtain ⟨_, _, rfl⟩ := List.mem_map.1 hx; rfl) (by omega) (fun v' => foc0)
    intro v7
    refine' TL.y rfl rfl rfl ?hy8 ?_
    case hy8 => exact Yl.assign rfl rfl
    refine TL.nil ?_
    refine TE.next ?_
    refine TC.ret ?_
    refine TE.ret1 rfl rfl ?_
    exact fun w h => ⟨v7, rfl, by rw [Nat.zero_add, List.nil_append] at h; exact h.leaveNew⟩
end Go.Proofs.Ythjllhaebanplaa.Pk
