/- The split. -/
import Derived.Test.YthjllhaebanplaaShM
import Derived.Test.YthjllhaebanplaaProg
import Derived.RowKit3
namespace Go.Proofs.Ythjllhaebanplaa.Pk
open Go Go.RowKit Go.Proofs.Ythjllhaebanplaa.HL Go.Proofs.Ythjllhaebanplaa.Ev Go.Proofs.YthjllhaebanplaaW.PrintWords Go.Proofs.ShP
set_option linter.unusedVariables false
set_option linter.unusedSimpArgs false
attribute [local irreducible] sumF
theorem nilOwn {W0 w : World} {T : Nat → Prop} {n : Int} {m : Nat} {f g : Nat → Int} (h : ¬ Ok n m f) (hw : Hp W0 T [] w) : Hp W0 T [ownR 3 1 (.slice none 0 0) (lenR n m f) (Vw (lenR n m f) g)] w := by
  rw [lenR_no h]; unfold Vw; exact hw.nil
theorem madeOwn {W0 w : World} {T : Nat → Prop} {H : List Res} {b m : Nat} (hm : m ≤ maxLen) (h : Hp W0 T (blk b (.cells (rowA m fun _ => .int .i64 0) 3 (0, 0)) :: H) w) : Hp W0 T (ownR 3 1 (.slice (some ⟨b, 0, none⟩) m m) m (Vw m fun _ => 0) :: H) w := by
  unfold Vw; exact h.rowOwn hm
theorem maxL {m : Nat} (h : m ≤ 64) : m ≤ maxLen := Nat.le_trans h (by decide)
set_option maxRecDepth 100000 in
set_option maxHeartbeats 2000000 in
theorem k_split (W : World) {m : Nat} {u : Nat → Int} {A : Option Addr} {cp : Nat} (hS : Sl W A (Vw m u)) (hm : m ≤ 9223372036854775807) (n : Int) : Calls Try.prog 11 #[.int .i64 n, .slice A m cp] W fun e w' => ∃ v : Value, e = .returned v ∧ (ownR 3 1 v (lenR n m u) (Vw (lenR n m u) (splitF n m u))).holds w' ∧ Below W.heap.size W w' ∧ ∀ j, (ownR 3 1 v (lenR n m u) (Vw (lenR n m u) (splitF n m u))).foot j → W.heap.size ≤ j := by
  have hM : Hp W (fun _ => False) [] W := Hp.start
  refine TC.enter (n := 90) Try.func11 rfl rfl rfl hM ?_
  refine TC.seq ?_
  refine TC.region ?_
  refine' TL.y rfl rfl rfl ?hy1 ?_
  case hy1 => exact Yl.assign rfl rfl
  refine TL.nil ?_
  refine TE.next ?_
  refine TC.seq ?_
  refine TC.seq ?_
  refine TC.region ?_
  refine' TL.y rfl rfl rfl ?hy2 ?_
  case hy2 => exact Yl.move rfl rfl
  refine' TL.y rfl rfl rfl ?hy3 ?_
  case hy3 => exact Yl.move rfl rfl
  refine' TL.c rfl rfl rfl ?hy4 ?_
  case hy4 => exact Yc.call rfl Try.func18 (by kernel_rfl) rfl rfl (Hp.calls (fun w h => k_right w (hS.below h.below) hm n))
  intro _
  refine' TL.y rfl rfl rfl ?hy5 ?_
  case hy5 => exact Yl.not rfl rfl
  refine TL.nil ?_
  refine TE.next ?_
  refine TC.cond rfl (fun hs20 => ?_) (fun hs20 => ?_)
  · skip
    (try simp only [decide_eq_true_eq, decide_eq_false_iff_not, beq_iff_eq, beq_eq_false_iff_ne, bne_iff_ne, ne_eq, bne_eq_false_iff_eq, Bool.not_eq_true', Bool.not_eq_false', Int.not_lt, Int.not_le, gt_iff_lt, ge_iff_le] at hs20)
    have hno : ¬ Ok n m u := by simpa using hs20
    refine TC.seq ?_
    refine TC.region ?_
    refine' TL.y rfl rfl rfl ?hy6 ?_
    case hy6 => exact Yl.assign rfl rfl
    refine TL.nil ?_
    refine TE.next ?_
    refine TC.ret ?_
    refine TE.thenRet ?_
    refine TE.ret1 rfl rfl ?_
    exact fun w h => ⟨_, rfl, (nilOwn hno h).leaveNew⟩
  · skip
    (try simp only [decide_eq_true_eq, decide_eq_false_iff_not, beq_iff_eq, beq_eq_false_iff_ne, bne_iff_ne, ne_eq, bne_eq_false_iff_eq, Bool.not_eq_true', Bool.not_eq_false', Int.not_lt, Int.not_le, gt_iff_lt, ge_iff_le] at hs20)
    have hok : Ok n m u := by by_cases e : Ok n m u; exact e; simp [e] at hs20
    have hm64 := hok.m1
    refine TC.skip ?_
    refine TE.next ?_
    refine TC.seq ?_
    refine TC.region ?_
    refine' TL.y rfl rfl rfl ?hy7 ?_
    case hy7 => exact Yl.move rfl rfl
    refine' TL.y rfl rfl rfl ?hy8 ?_
    case hy8 => exact Yl.len rfl rfl Try.underlying22
    refine' TL.mx rfl rfl rfl ?hy9 ?_
    case hy9 => exact Ym.makeRow (z := .int .i64 0) (by_ := 8) rfl rfl rfl Try.underlying22 (by kernel_rfl) rfl (by omega) (by omega) (by omega)
    intro b23
    simp only [Int.toNat_natCast]
    refine TL.wk (fun w h => madeOwn (maxL hok.m1) h) ?_
    refine' TL.y rfl rfl rfl ?hy10 ?_
    case hy10 => exact Yl.assign rfl rfl
    refine TL.nil ?_
    refine TE.next ?_
    refine TC.seq ?_
    refine TC.region ?_
    refine' TL.y rfl rfl rfl ?hy11 ?_
    case hy11 => exact Yl.move rfl rfl
    refine' TL.c rfl rfl rfl ?hy12 ?_
    case hy12 => exact Yc.call rfl Try.func13 (by kernel_rfl) rfl rfl (Hp.calls (fun w h => k_sum w (hS.below h.below) hm))
    intro _
    have hs1 := hok.s1
    have hs0 := hok.s0
    rw [i64in (x := sumF u m) (by omega) (by omega)]
    refine' TL.y rfl rfl rfl ?hy13 ?_
    case hy13 => exact Yl.assign rfl rfl
    refine TL.nil ?_
    refine TE.next ?_
    refine TC.seq ?_
    refine TC.seq ?_
    refine TC.region ?_
    refine' TL.y rfl rfl rfl ?hy14 ?_
    case hy14 => exact Yl.move rfl rfl
    refine' TL.y rfl rfl rfl ?hy15 ?_
    case hy15 => exact Yl.bin rfl rfl rfl (Bin.eql _ _ _ _)
    refine TL.nil ?_
    refine TE.next ?_
    refine TC.cond rfl (fun hs27 => ?_) (fun hs27 => ?_)
    · skip
      (try simp only [decide_eq_true_eq, decide_eq_false_iff_not, beq_iff_eq, beq_eq_false_iff_ne, bne_iff_ne, ne_eq, bne_eq_false_iff_eq, Bool.not_eq_true', Bool.not_eq_false', Int.not_lt, Int.not_le, gt_iff_lt, ge_iff_le] at hs27)
      refine TC.seq ?_
      refine TC.region ?_
      refine' TL.y rfl rfl rfl ?hy16 ?_
      case hy16 => exact Yl.move rfl rfl
      refine' TL.y rfl rfl rfl ?hy17 ?_
      case hy17 => exact Yl.assign rfl rfl
      refine TL.nil ?_
      refine TE.next ?_
      refine TC.ret ?_
      refine TE.thenRet ?_
      refine TE.ret1 rfl rfl ?_
      exact fun w h => ⟨_, rfl, by rw [lenR_ok hok]; exact (h.vwc (fun j hj => (split_zero (by omega) j).symm)).leaveNew⟩
    · skip
      (try simp only [decide_eq_true_eq, decide_eq_false_iff_not, beq_iff_eq, beq_eq_false_iff_ne, bne_iff_ne, ne_eq, bne_eq_false_iff_eq, Bool.not_eq_true', Bool.not_eq_false', Int.not_lt, Int.not_le, gt_iff_lt, ge_iff_le] at hs27)
      have hsp : 0 < sumF u m := by omega
      refine TC.skip ?_
      refine TE.next ?_
      refine TC.seq ?_
      refine TC.region ?_
      refine' TL.y rfl rfl rfl ?hy18 ?_
      case hy18 => exact Yl.assign rfl rfl
      refine TL.nil ?_
      refine TE.next ?_
      refine TC.seq ?_
      refine TC.region ?_
      refine' TL.y rfl rfl rfl ?hy19 ?_
      case hy19 => exact Yl.move rfl rfl
      refine' TL.y rfl rfl rfl ?hy20 ?_
      case hy20 => exact Yl.assign rfl rfl
      refine TL.nil ?_
      refine TE.next ?_
      refine TC.seq ?_
      refine TC.seq ?_
      refine TC.region ?_
      refine' TL.y rfl rfl rfl ?hy21 ?_
      case hy21 => exact Yl.move rfl rfl
      refine' TL.y rfl rfl rfl ?hy22 ?_
      case hy22 => exact Yl.len rfl rfl Try.underlying22
      refine' TL.y rfl rfl rfl ?hy23 ?_
      case hy23 => exact Yl.move rfl rfl
      refine TL.nil ?_
      refine TE.next ?_
      refine TC.block ?_
      refine TC.loop (σ := Nat × Value) (fun x => [(0, .int .i64 n), (30, .slice A m cp), (31, .int .i64 (m : Int)), (32, .int .i64 (x.1 : Int)), (5, .slice (some ⟨b23, 0, none⟩) m m), (6, .int .i64 (sumF u m)), (7, x.2), (8, .int .i64 (n - sumF (qF n (sumF u m) u) x.1))]) (fun x => Hp W (fun _ => False) [ownR 35 2 (x.2) (x.1) (Fw (x.1) (pairs (rF n (sumF u m) u))), ownR 3 1 (.slice (some ⟨b23, 0, none⟩) m m) m (Vw m (fun j => if j < x.1 then qF n (sumF u m) u j else 0))]) (fun x => x.1 ≤ m) (fun x => m - x.1) (0, .slice none 0 0) ?hF24 ?hs24 ?hm24 ?round24
      case hF24 => exact Nat.zero_le _
      case hs24 => exact ⟨rfl, rfl, rfl, rfl, rfl, rfl, rfl, (by show some (Value.int .i64 n) = _; simp [sumF]), trivial⟩
      case hm24 => exact fun w h => by dsimp only; unfold Fw; exact (h.vwc (fun j hj => (if_neg (by omega)).symm)).nil
      case round24 =>
        rintro ⟨i, v⟩ hi
        dsimp only at hi ⊢
        refine TC.seq ?_
        refine TC.region ?_
        refine' TL.y rfl rfl rfl ?hy25 ?_
        case hy25 => exact Yl.bin rfl rfl rfl (Bin.lss _ _ _ _)
        refine TL.nil ?_
        refine TE.next ?_
        refine TC.seq ?_
        refine TC.cond rfl (fun hs33 => ?_) (fun hs33 => ?_)
        · skip
          (try simp only [decide_eq_true_eq, decide_eq_false_iff_not, beq_iff_eq, beq_eq_false_iff_ne, bne_iff_ne, ne_eq, bne_eq_false_iff_eq, Bool.not_eq_true', Bool.not_eq_false', Int.not_lt, Int.not_le, gt_iff_lt, ge_iff_le] at hs33)
          have hi2 : i < m := by omega
          have hmu := hok.mul hi2
          have hqr := hok.qr hsp hi2
          have hw0 := hok.w0 i hi2
          have hw1 := hok.w1 i hi2
          have hn0 := hok.n0
          have hn1 := hok.n1
          obtain ⟨b, o, rfl⟩ := Sl.some2 hS (by rw [Vw_length]; omega)
          refine TC.skip ?_
          refine TE.next ?_
          refine TC.seq ?_
          refine TC.block ?_
          refine TC.seq ?_
          refine TC.region ?_
          refine' TL.y rfl rfl rfl ?hy26 ?_
          case hy26 => exact Yl.move rfl rfl
          refine' TL.y rfl rfl rfl ?hy27 ?_
          case hy27 => first | exact Yl.ixn rfl rfl rfl Try.underlying22 (by kernel_rfl) (by omega) | exact Yl.ixz rfl rfl rfl Try.underlying22 (by kernel_rfl) (by omega) (by omega) | exact Yl.ixcn rfl rfl rfl Try.underlying22 (by kernel_rfl) (by omega) | exact Yl.ixcz rfl rfl rfl Try.underlying22 (by kernel_rfl) (by omega) (by omega)
          refine' TL.y rfl rfl rfl ?hy28 ?_
          case hy28 => first | exact Yl.load rfl rfl (by kernel_rfl) (Sl.vw hS rfl (by omega) (fun _ h => h)) | exact Yl.load rfl rfl (by kernel_rfl) (Hp.vw mem0 (by omega)) | exact Yl.load rfl rfl (by kernel_rfl) (Hp.vw mem1 (by omega)) | exact Yl.load rfl rfl (by kernel_rfl) (Hp.vw mem2 (by omega)) | exact Yl.load rfl rfl (by kernel_rfl) (Hp.cell mem0 rfl) | exact Yl.load rfl rfl (by kernel_rfl) (Hp.cell mem1 rfl) | exact Yl.load rfl rfl (by kernel_rfl) (Hp.cell mem2 rfl) | exact Yl.load rfl rfl (by kernel_rfl) (Hp.cell mem3 rfl) | exact Yl.load rfl rfl (by kernel_rfl) (Hp.cell mem4 rfl) | exact Yl.load rfl rfl (by kernel_rfl) (Hp.rowAt mem0 (by omega) rfl) | exact Yl.load rfl rfl (by kernel_rfl) (Hp.rowAt mem1 (by omega) rfl) | exact Yl.load rfl rfl (by kernel_rfl) (Hp.rowAt mem2 (by omega) rfl) | exact Yl.load rfl rfl (by kernel_rfl) (Hp.rowAt mem3 (by omega) rfl) | exact Yl.load rfl rfl (by kernel_rfl) (Hp.rowAt mem4 (by omega) rfl)
          refine' TL.y rfl rfl rfl ?hy29 ?_
          case hy29 => exact Yl.assign rfl rfl
          refine' TL.y rfl rfl rfl ?hy30 ?_
          case hy30 => exact Yl.assign rfl rfl
          refine TL.nil ?_
          refine TE.next ?_
          refine TC.seq ?_
          refine TC.region ?_
          refine' TL.y rfl rfl rfl ?hy31 ?_
          case hy31 => exact Yl.move rfl rfl
          refine' TL.y rfl rfl rfl ?hy32 ?_
          case hy32 => first | (refine Yl.val (Yl.conv rfl rfl (by kernel_rfl) Try.underlying30) (congrArg (Value.int .u64) (u64in ?_ ?_)) <;> omega) | exact Yl.conv rfl rfl (by kernel_rfl) Try.underlying30
          refine' TL.y rfl rfl rfl ?hy33 ?_
          case hy33 => exact Yl.move rfl rfl
          refine' TL.y rfl rfl rfl ?hy34 ?_
          case hy34 => first | (refine Yl.val (Yl.conv rfl rfl (by kernel_rfl) Try.underlying30) (congrArg (Value.int .u64) (u64in ?_ ?_)) <;> omega) | exact Yl.conv rfl rfl (by kernel_rfl) Try.underlying30
          refine' TL.c rfl rfl rfl ?hy35 ?_
          case hy35 => exact Yc.call rfl Try.func19 (by kernel_rfl) rfl rfl (Hp.calls (fun w h => k_mul64 w hok.n0 hok.n1 (hok.w0 i hi2) (hok.w1 i hi2)))
          intro _
          refine' TL.y rfl rfl rfl ?hy36 ?_
          case hy36 => exact Yl.move rfl rfl
          refine' TL.y rfl rfl rfl ?hy37 ?_
          case hy37 => exact Yl.extract rfl rfl rfl
          refine' TL.y rfl rfl rfl ?hy38 ?_
          case hy38 => exact Yl.extract rfl rfl rfl
          refine' TL.y rfl rfl rfl ?hy39 ?_
          case hy39 => exact Yl.assign rfl rfl
          refine' TL.y rfl rfl rfl ?hy40 ?_
          case hy40 => exact Yl.assign rfl rfl
          refine TL.nil ?_
          refine TE.next ?_
          refine TC.seq ?_
          refine TC.region ?_
          refine' TL.y rfl rfl rfl ?hy41 ?_
          case hy41 => exact Yl.move rfl rfl
          refine' TL.y rfl rfl rfl ?hy42 ?_
          case hy42 => exact Yl.move rfl rfl
          refine' TL.y rfl rfl rfl ?hy43 ?_
          case hy43 => exact Yl.move rfl rfl
          refine' TL.y rfl rfl rfl ?hy44 ?_
          case hy44 => first | (refine Yl.val (Yl.conv rfl rfl (by kernel_rfl) Try.underlying30) (congrArg (Value.int .u64) (u64in ?_ ?_)) <;> omega) | exact Yl.conv rfl rfl (by kernel_rfl) Try.underlying30
          refine' TL.c rfl rfl rfl ?hy45 ?_
          case hy45 => exact Yc.call rfl Try.func20 (by kernel_rfl) rfl rfl (Hp.calls (fun w h => k_div64 w hmu.1 (by omega) hsp))
          intro _
          rw [show n * u i / sumF u m = qF n (sumF u m) u i from rfl, show n * u i % sumF u m = rF n (sumF u m) u i from rfl]
          refine' TL.y rfl rfl rfl ?hy46 ?_
          case hy46 => exact Yl.move rfl rfl
          refine' TL.y rfl rfl rfl ?hy47 ?_
          case hy47 => exact Yl.extract rfl rfl rfl
          refine' TL.y rfl rfl rfl ?hy48 ?_
          case hy48 => exact Yl.extract rfl rfl rfl
          refine' TL.y rfl rfl rfl ?hy49 ?_
          case hy49 => exact Yl.assign rfl rfl
          refine' TL.y rfl rfl rfl ?hy50 ?_
          case hy50 => exact Yl.assign rfl rfl
          refine TL.nil ?_
          refine TE.next ?_
          refine TC.seq ?_
          refine TC.region ?_
          refine' TL.y rfl rfl rfl ?hy51 ?_
          case hy51 => exact Yl.move rfl rfl
          refine' TL.y rfl rfl rfl ?hy52 ?_
          case hy52 => exact Yl.move rfl rfl
          refine' TL.y rfl rfl rfl ?hy53 ?_
          case hy53 => exact Yl.move rfl rfl
          refine' TL.y rfl rfl rfl ?hy54 ?_
          case hy54 => first | (refine Yl.val (Yl.conv rfl rfl (by kernel_rfl) Try.underlying3) (congrArg (Value.int .i64) (i64in ?_ ?_)) <;> omega) | exact Yl.conv rfl rfl (by kernel_rfl) Try.underlying3
          refine' TL.y rfl rfl rfl ?hy55 ?_
          case hy55 => first | exact Yl.ixn rfl rfl rfl Try.underlying22 (by kernel_rfl) (by omega) | exact Yl.ixz rfl rfl rfl Try.underlying22 (by kernel_rfl) (by omega) (by omega) | exact Yl.ixcn rfl rfl rfl Try.underlying22 (by kernel_rfl) (by omega) | exact Yl.ixcz rfl rfl rfl Try.underlying22 (by kernel_rfl) (by omega) (by omega)
          refine' TL.s rfl rfl ?hy56 ?_
          case hy56 => first | exact Ys.vw rfl rfl rfl (by kernel_rfl) foc1 (by omega) | exact Ys.vw rfl rfl rfl (by kernel_rfl) foc2 (by omega) | exact Ys.store (seg := [.int .i64 (f2 p).1, .int .u64 (f2 p).2]) rfl rfl rfl (by simp [Value.cells]) (by kernel_rfl) (by simp [Value.oneCell']) foc0 (by simp [Value.cells]) rfl
          refine TL.nil ?_
          refine TE.next ?_
          refine TC.seq ?_
          refine TC.region ?_
          refine' TL.y rfl rfl rfl ?hy57 ?_
          case hy57 => exact Yl.move rfl rfl
          refine' TL.y rfl rfl rfl ?hy58 ?_
          case hy58 => exact Yl.move rfl rfl
          refine' TL.y rfl rfl rfl ?hy59 ?_
          case hy59 => exact Yl.move rfl rfl
          refine' TL.y rfl rfl rfl ?hy60 ?_
          case hy60 => first | exact Yl.ixn rfl rfl rfl Try.underlying22 (by kernel_rfl) (by omega) | exact Yl.ixz rfl rfl rfl Try.underlying22 (by kernel_rfl) (by omega) (by omega) | exact Yl.ixcn rfl rfl rfl Try.underlying22 (by kernel_rfl) (by omega) | exact Yl.ixcz rfl rfl rfl Try.underlying22 (by kernel_rfl) (by omega) (by omega)
          refine' TL.y rfl rfl rfl ?hy61 ?_
          case hy61 => first | exact Yl.load rfl rfl (by kernel_rfl) (Sl.vw hS rfl (by omega) (fun _ h => h)) | exact Yl.load rfl rfl (by kernel_rfl) (Hp.vw mem0 (by omega)) | exact Yl.load rfl rfl (by kernel_rfl) (Hp.vw mem1 (by omega)) | exact Yl.load rfl rfl (by kernel_rfl) (Hp.vw mem2 (by omega)) | exact Yl.load rfl rfl (by kernel_rfl) (Hp.cell mem0 rfl) | exact Yl.load rfl rfl (by kernel_rfl) (Hp.cell mem1 rfl) | exact Yl.load rfl rfl (by kernel_rfl) (Hp.cell mem2 rfl) | exact Yl.load rfl rfl (by kernel_rfl) (Hp.cell mem3 rfl) | exact Yl.load rfl rfl (by kernel_rfl) (Hp.cell mem4 rfl) | exact Yl.load rfl rfl (by kernel_rfl) (Hp.rowAt mem0 (by omega) rfl) | exact Yl.load rfl rfl (by kernel_rfl) (Hp.rowAt mem1 (by omega) rfl) | exact Yl.load rfl rfl (by kernel_rfl) (Hp.rowAt mem2 (by omega) rfl) | exact Yl.load rfl rfl (by kernel_rfl) (Hp.rowAt mem3 (by omega) rfl) | exact Yl.load rfl rfl (by kernel_rfl) (Hp.rowAt mem4 (by omega) rfl)
          refine TL.re (i := 62) (v' := .int .i64 (qF n (sumF u m) u i)) rfl (congrArg (Value.int .i64) (if_pos rfl)) ?_
          have hps : 0 ≤ sumF (qF n (sumF u m) u) i ∧ sumF (qF n (sumF u m) u) i ≤ 70368744177664 := by
            have h1 := sumF_nonneg (fun j hj => (hok.qr hsp (show j < m by omega)).1 : ∀ j, j < i → 0 ≤ qF n (sumF u m) u j)
            have h2 := sumF_le (fun j hj => (hok.qr hsp (show j < m by omega)).2.2.1 : ∀ j, j < i → qF n (sumF u m) u j ≤ n)
            rw [sumF_const] at h2
            have h3 : (i : Int) * n ≤ 64 * n := Int.mul_le_mul_of_nonneg_right (by omega) hn0
            omega
          refine' TL.y rfl rfl rfl ?hy62 ?_
          case hy62 => first | (refine Yl.val (Yl.bin rfl rfl rfl (Bin.sub _ _ _ _)) (congrArg (Value.int .i64) (i64in ?_ ?_)) <;> omega) | exact Yl.bin rfl rfl rfl (Bin.sub _ _ _ _)
          refine' TL.y rfl rfl rfl ?hy63 ?_
          case hy63 => exact Yl.assign rfl rfl
          refine TL.nil ?_
          refine TE.next ?_
          refine TC.region ?_
          refine' TL.y rfl rfl rfl ?hy64 ?_
          case hy64 => exact Yl.move rfl rfl
          refine' TL.y rfl rfl rfl ?hy65 ?_
          case hy65 => exact Yl.move rfl rfl
          refine' TL.y rfl rfl rfl ?hy66 ?_
          case hy66 => exact Yl.move rfl rfl
          refine' TL.y rfl rfl rfl ?hy67 ?_
          case hy67 => exact Yl.build (z := .agg #[.int .i64 0, .int .u64 0]) [(0, 1), (1, 1)] rfl (by kernel_rfl) Try.underlying35 (by kernel_rfl) rfl rfl
          refine TL.re (i := 67) (v' := .agg #[.int .i64 (i : Int), .int .u64 (rF n (sumF u m) u i)]) rfl rfl ?_
          refine' TL.mx rfl rfl rfl ?hy68 ?_
          case hy68 => exact Ym.buildSlice (cells := #[.int .i64 (i : Int), .int .u64 (rF n (sumF u m) u i)]) (z := .agg #[.int .i64 0, .int .u64 0]) (size := 2) #[.int .i64 0, .int .u64 0] rfl Try.underlying29 (by kernel_rfl) (by decide) (by decide) (by kernel_rfl) rfl rfl
          intro b68
          refine' TL.mx rfl rfl rfl ?hy69 ?_
          case hy69 => exact Ym.append (news := [.int .i64 (i : Int), .int .u64 (rF n (sumF u m) u i)]) rfl Try.underlying29 (by kernel_rfl) (z := .agg #[.int .i64 0, .int .u64 0]) (size := 2) (bytes := 16) rfl (by decide) (by decide) rfl rfl rfl (Hp.cells mem0 (fun j v hj => by simpa using hj)) (by simp [Value.oneCell']) (by omega) (fun v' => foc1)
          intro v69
          refine' TL.y rfl rfl rfl ?hy70 ?_
          case hy70 => exact Yl.assign rfl rfl
          refine TL.nil ?_
          refine TE.inNormal ?_
          refine TE.next ?_
          refine TC.region ?_
          refine' TL.y rfl rfl rfl ?hy71 ?_
          case hy71 => first | (refine Yl.val (Yl.bin rfl rfl rfl (Bin.add _ _ _ _)) (congrArg (Value.int .i64) (i64in ?_ ?_)) <;> omega) | exact Yl.bin rfl rfl rfl (Bin.add _ _ _ _)
          refine' TL.y rfl rfl rfl ?hy72 ?_
          case hy72 => exact Yl.move rfl rfl
          refine TL.nil ?_
          refine TE.round (i + 1, v69) ?hF73 ?hlt73 ?hs73 ?hm73
          case hF73 => omega
          case hlt73 => dsimp only; omega
          case hs73 => exact ⟨rfl, rfl, rfl, rfl, rfl, rfl, rfl, (by show some (Value.int .i64 (n - sumF (qF n (sumF u m) u) i - qF n (sumF u m) u i)) = _; rw [sumF, Int.sub_sub]), trivial⟩
          case hm73 => exact (fun w h => by
            dsimp only
            rw [Fw_succ]
            exact ((h.sub (List.sublist_cons_self _ _)).vwc1 (fun j hj => by
              show upI _ _ _ j = _
              unfold upI; dsimp only
              by_cases e : j = i
              · rw [if_pos e, if_pos (by omega), e]
              · rw [if_neg e]
                by_cases e2 : j < i
                · rw [if_pos e2, if_pos (by omega)]
                · rw [if_neg e2, if_neg (by omega)])))
        · skip
          (try simp only [decide_eq_true_eq, decide_eq_false_iff_not, beq_iff_eq, beq_eq_false_iff_ne, bne_iff_ne, ne_eq, bne_eq_false_iff_eq, Bool.not_eq_true', Bool.not_eq_false', Int.not_lt, Int.not_le, gt_iff_lt, ge_iff_le] at hs33)
          obtain ⟨him, hmi⟩ : i ≤ m ∧ m ≤ i := by omega
          obtain rfl := Nat.le_antisymm hmi him
          have hl := hok.left hsp
          have hm0 : 0 < m := by omega
          refine TC.fact (fun w h => h.ownSome mem0 hm0) ?_
          rintro ⟨g, cq, rfl⟩
          have hat : ∀ p q, p < q → q < m → (pairs (rF n (sumF u m) u) p).1 < (pairs (rF n (sumF u m) u) q).1 := fun p q h1 h2 => by unfold pairs; dsimp only; omega
          refine TC.fact (fun w h => h.ownCap mem0) ?_
          intro hcq
          obtain ⟨L, hL⟩ := Int.eq_ofNat_of_zero_le hl.1
          refine TC.re (i := 8) (v' := .int .i64 (L : Int)) rfl (congrArg (Value.int .i64) (show n - sumF (qF n (sumF u m) u) m = (L : Int) from hL)) ?_
          refine TC.exit ?_
          refine TE.thenExit ?_
          refine TE.thenExit ?_
          refine TE.inHere ?_
          refine TE.next ?_
          refine TC.seq ?_
          refine TC.region ?_
          refine' TL.y rfl rfl rfl ?hy74 ?_
          case hy74 => exact Yl.move rfl rfl
          refine' TL.c rfl rfl rfl ?hy75 ?_
          case hy75 => exact Yc.call rfl Try.func21 (by kernel_rfl) rfl rfl (Hp.pureT (k_sort hok.m1 hat))
          intro ⟨f2, hf2⟩
          dsimp only
          refine TL.nil ?_
          refine TE.next ?_
          refine TC.seq ?_
          refine TC.seq ?_
          refine TC.region ?_
          refine' TL.y rfl rfl rfl ?hy76 ?_
          case hy76 => exact Yl.move rfl rfl
          refine' TL.y rfl rfl rfl ?hy77 ?_
          case hy77 => exact Yl.move rfl rfl
          refine' TL.y rfl rfl rfl ?hy78 ?_
          case hy78 => exact Yl.sliceH (k := 2) rfl rfl rfl Try.underlying29 (by kernel_rfl) (by omega) (by omega) (fun ad e => by cases e; exact ⟨g, 0, rfl⟩)
          rw [Int.toNat_natCast]
          refine' TL.y rfl rfl rfl ?hy79 ?_
          case hy79 => exact Yl.len rfl rfl Try.underlying29
          refine' TL.y rfl rfl rfl ?hy80 ?_
          case hy80 => exact Yl.move rfl rfl
          refine TL.nil ?_
          refine TE.next ?_
          refine TC.block ?_
          refine TC.loop (σ := Nat × (Nat → Int)) (fun x => [(75, .slice (some ⟨g, 0, none⟩) L cq), (76, .int .i64 (L : Int)), (77, .int .i64 (x.1 : Int)), (5, .slice (some ⟨b23, 0, none⟩) m m)]) (fun x => Hp W (fun _ => False) [ownR 35 2 (.slice (some ⟨g, 0, none⟩) m cq) m (Fw m f2), ownR 3 1 (.slice (some ⟨b23, 0, none⟩) m m) m (Vw m (x.2))]) (fun x => x.1 ≤ L ∧ Hit n m u f2 x.1 x.2) (fun x => L - x.1) (0, qF n (sumF u m) u) ?hF81 ?hs81 ?hm81 ?round81
          case hF81 => exact ⟨Nat.zero_le _, Hit.start (fun _ _ => rfl)⟩
          case hs81 => exact ⟨rfl, rfl, rfl, rfl, trivial⟩
          case hm81 => exact fun w h => h.vwc1 (fun j hj => if_pos hj)
          case round81 =>
            rintro ⟨p, o⟩ ⟨hp, hh⟩
            dsimp only at hp hh ⊢
            refine TC.seq ?_
            refine TC.region ?_
            refine' TL.y rfl rfl rfl ?hy82 ?_
            case hy82 => exact Yl.bin rfl rfl rfl (Bin.lss _ _ _ _)
            refine TL.nil ?_
            refine TE.next ?_
            refine TC.seq ?_
            refine TC.cond rfl (fun hs78 => ?_) (fun hs78 => ?_)
            · skip
              (try simp only [decide_eq_true_eq, decide_eq_false_iff_not, beq_iff_eq, beq_eq_false_iff_ne, bne_iff_ne, ne_eq, bne_eq_false_iff_eq, Bool.not_eq_true', Bool.not_eq_false', Int.not_lt, Int.not_le, gt_iff_lt, ge_iff_le] at hs78)
              have hfp : ∃ i, i < m ∧ f2 p = pairs (rF n (sumF u m) u) i := by obtain ⟨q, _, h1, h2⟩ := hf2.1.inn p (Nat.zero_le _) (by omega); exact ⟨q, h1, h2⟩
              obtain ⟨i, him, hfi⟩ := hfp
              have hst := hh.step (fun q hq e => by
                have h1 := hf2.2 q p (Nat.zero_le _) hq (by omega)
                obtain ⟨i', _, _, h2⟩ := hf2.1.inn q (Nat.zero_le _) (by omega)
                rw [h2, hfi] at e h1
                unfold pairs at e h1; dsimp only at e
                have : i' = i := by omega
                subst this; exact LT.irr h1) him (by rw [hfi]; rfl)
              have hqr := hok.qr hsp him
              have hn1 := hok.n1
              refine TC.skip ?_
              refine TE.next ?_
              refine TC.seq ?_
              refine TC.block ?_
              refine TC.seq ?_
              refine TC.region ?_
              refine' TL.y rfl rfl rfl ?hy83 ?_
              case hy83 => exact Yl.ix2 rfl rfl rfl Try.underlying29 (by kernel_rfl) (by omega)
              refine' TL.y rfl rfl rfl ?hy84 ?_
              case hy84 => exact Yl.loads rfl rfl (by kernel_rfl) (by kernel_rfl) (Hp.fw mem0 (by omega))
              refine' TL.mx rfl rfl rfl ?hy85 ?_
              case hy85 => exact Ym.alloc (z := .agg #[.int .i64 0, .int .u64 0]) rfl (by kernel_rfl)
              intro b16
              refine' TL.s rfl rfl ?hy86 ?_
              case hy86 => first | exact Ys.vw rfl rfl rfl (by kernel_rfl) foc1 (by omega) | exact Ys.vw rfl rfl rfl (by kernel_rfl) foc2 (by omega) | exact Ys.store (seg := [.int .i64 (f2 p).1, .int .u64 (f2 p).2]) rfl rfl rfl (by simp [Value.cells]) (by kernel_rfl) (by simp [Value.oneCell']) foc0 (by simp [Value.cells]) rfl
              refine TL.nil ?_
              refine TE.next ?_
              refine TC.region ?_
              refine' TL.y rfl rfl rfl ?hy87 ?_
              case hy87 => exact Yl.move rfl rfl
              refine' TL.y rfl rfl rfl ?hy88 ?_
              case hy88 => first | exact Yl.field0 (k := 0) 0 rfl rfl Try.underlying35 rfl (by kernel_rfl) rfl | exact Yl.field (k := 0) 0 rfl rfl Try.underlying35 rfl (by kernel_rfl) rfl
              refine' TL.y rfl rfl rfl ?hy89 ?_
              case hy89 => first | exact Yl.load rfl rfl (by kernel_rfl) (Sl.vw hS rfl (by omega) (fun _ h => h)) | exact Yl.load rfl rfl (by kernel_rfl) (Hp.vw mem0 (by omega)) | exact Yl.load rfl rfl (by kernel_rfl) (Hp.vw mem1 (by omega)) | exact Yl.load rfl rfl (by kernel_rfl) (Hp.vw mem2 (by omega)) | exact Yl.load rfl rfl (by kernel_rfl) (Hp.cell mem0 rfl) | exact Yl.load rfl rfl (by kernel_rfl) (Hp.cell mem1 rfl) | exact Yl.load rfl rfl (by kernel_rfl) (Hp.cell mem2 rfl) | exact Yl.load rfl rfl (by kernel_rfl) (Hp.cell mem3 rfl) | exact Yl.load rfl rfl (by kernel_rfl) (Hp.cell mem4 rfl) | exact Yl.load rfl rfl (by kernel_rfl) (Hp.rowAt mem0 (by omega) rfl) | exact Yl.load rfl rfl (by kernel_rfl) (Hp.rowAt mem1 (by omega) rfl) | exact Yl.load rfl rfl (by kernel_rfl) (Hp.rowAt mem2 (by omega) rfl) | exact Yl.load rfl rfl (by kernel_rfl) (Hp.rowAt mem3 (by omega) rfl) | exact Yl.load rfl rfl (by kernel_rfl) (Hp.rowAt mem4 (by omega) rfl)
              refine TL.re (i := 83) (v' := .int .i64 (i : Int)) rfl (by rw [hfi]; rfl) ?_
              refine' TL.y rfl rfl rfl ?hy90 ?_
              case hy90 => first | exact Yl.ixn rfl rfl rfl Try.underlying22 (by kernel_rfl) (by omega) | exact Yl.ixz rfl rfl rfl Try.underlying22 (by kernel_rfl) (by omega) (by omega) | exact Yl.ixcn rfl rfl rfl Try.underlying22 (by kernel_rfl) (by omega) | exact Yl.ixcz rfl rfl rfl Try.underlying22 (by kernel_rfl) (by omega) (by omega)
              refine' TL.y rfl rfl rfl ?hy91 ?_
              case hy91 => first | exact Yl.load rfl rfl (by kernel_rfl) (Sl.vw hS rfl (by omega) (fun _ h => h)) | exact Yl.load rfl rfl (by kernel_rfl) (Hp.vw mem0 (by omega)) | exact Yl.load rfl rfl (by kernel_rfl) (Hp.vw mem1 (by omega)) | exact Yl.load rfl rfl (by kernel_rfl) (Hp.vw mem2 (by omega)) | exact Yl.load rfl rfl (by kernel_rfl) (Hp.cell mem0 rfl) | exact Yl.load rfl rfl (by kernel_rfl) (Hp.cell mem1 rfl) | exact Yl.load rfl rfl (by kernel_rfl) (Hp.cell mem2 rfl) | exact Yl.load rfl rfl (by kernel_rfl) (Hp.cell mem3 rfl) | exact Yl.load rfl rfl (by kernel_rfl) (Hp.cell mem4 rfl) | exact Yl.load rfl rfl (by kernel_rfl) (Hp.rowAt mem0 (by omega) rfl) | exact Yl.load rfl rfl (by kernel_rfl) (Hp.rowAt mem1 (by omega) rfl) | exact Yl.load rfl rfl (by kernel_rfl) (Hp.rowAt mem2 (by omega) rfl) | exact Yl.load rfl rfl (by kernel_rfl) (Hp.rowAt mem3 (by omega) rfl) | exact Yl.load rfl rfl (by kernel_rfl) (Hp.rowAt mem4 (by omega) rfl)
              refine' TL.y rfl rfl rfl ?hy92 ?_
              case hy92 => first | (refine Yl.val (Yl.bin rfl rfl rfl (Bin.add _ _ _ _)) (congrArg (Value.int .i64) (i64in ?_ ?_)) <;> omega) | exact Yl.bin rfl rfl rfl (Bin.add _ _ _ _)
              refine' TL.y rfl rfl rfl ?hy93 ?_
              case hy93 => first | exact Yl.ixn rfl rfl rfl Try.underlying22 (by kernel_rfl) (by omega) | exact Yl.ixz rfl rfl rfl Try.underlying22 (by kernel_rfl) (by omega) (by omega) | exact Yl.ixcn rfl rfl rfl Try.underlying22 (by kernel_rfl) (by omega) | exact Yl.ixcz rfl rfl rfl Try.underlying22 (by kernel_rfl) (by omega) (by omega)
              refine' TL.s rfl rfl ?hy94 ?_
              case hy94 => first | exact Ys.vw rfl rfl rfl (by kernel_rfl) foc1 (by omega) | exact Ys.vw rfl rfl rfl (by kernel_rfl) foc2 (by omega) | exact Ys.store (seg := [.int .i64 (f2 p).1, .int .u64 (f2 p).2]) rfl rfl rfl (by simp [Value.cells]) (by kernel_rfl) (by simp [Value.oneCell']) foc0 (by simp [Value.cells]) rfl
              refine TL.nil ?_
              refine TE.inNormal ?_
              refine TE.next ?_
              refine TC.region ?_
              refine' TL.y rfl rfl rfl ?hy95 ?_
              case hy95 => first | (refine Yl.val (Yl.bin rfl rfl rfl (Bin.add _ _ _ _)) (congrArg (Value.int .i64) (i64in ?_ ?_)) <;> omega) | exact Yl.bin rfl rfl rfl (Bin.add _ _ _ _)
              refine' TL.y rfl rfl rfl ?hy96 ?_
              case hy96 => exact Yl.move rfl rfl
              refine TL.nil ?_
              refine TE.round (p + 1, upI o i (o i + 1)) ?hF97 ?hlt97 ?hs97 ?hm97
              case hF97 => exact ⟨by dsimp only; omega, hst.2⟩
              case hlt97 => dsimp only; omega
              case hs97 => exact ⟨rfl, rfl, rfl, rfl, trivial⟩
              case hm97 => exact fun w h => h.sub (List.sublist_cons_self _ _)
            · skip
              (try simp only [decide_eq_true_eq, decide_eq_false_iff_not, beq_iff_eq, beq_eq_false_iff_ne, bne_iff_ne, ne_eq, bne_eq_false_iff_eq, Bool.not_eq_true', Bool.not_eq_false', Int.not_lt, Int.not_le, gt_iff_lt, ge_iff_le] at hs78)
              refine TC.exit ?_
              refine TE.thenExit ?_
              refine TE.thenExit ?_
              refine TE.inHere ?_
              refine TE.next ?_
              refine TC.seq ?_
              refine TC.region ?_
              refine' TL.y rfl rfl rfl ?hy98 ?_
              case hy98 => exact Yl.move rfl rfl
              refine' TL.y rfl rfl rfl ?hy99 ?_
              case hy99 => exact Yl.assign rfl rfl
              refine TL.nil ?_
              refine TE.next ?_
              refine TC.ret ?_
              refine TE.ret1 rfl rfl ?_
              have hpL : p = (leftV n m u).toNat := by rw [hL]; omega
              exact fun w h => ⟨_, rfl, by rw [lenR_ok hok]; exact ((h.sub (List.sublist_cons_self _ _)).vwc (fun j hj => Hit.done (by omega) (fun p hp => by obtain ⟨q, _, h1, h2⟩ := hf2.1.inn p (Nat.zero_le _) hp; exact ⟨q, h1, h2⟩) (fun p q h1 h2 => hf2.2 p q (Nat.zero_le _) h1 h2) (by omega) (by rw [← hpL]; exact hh) hj)).leaveNew⟩
end Go.Proofs.Ythjllhaebanplaa.Pk
