/- How much is above. -/
import Derived.Test.YtipdpmmjmlimhaaPrC
import Derived.Test.YtipdpmmjmlimhaaProg
import Derived.RowKit3
namespace Go.Proofs.Ytipdpmmjmlimhaa.Pk
open Go Go.RowKit Go.Proofs.Ytipdpmmjmlimhaa.HL Go.Proofs.Ytipdpmmjmlimhaa.Ev Go.Proofs.YtipdpmmjmlimhaaW.PrintWords Go.Proofs.PrP Go.Proofs.DvP
set_option linter.unusedVariables false
set_option linter.unusedSimpArgs false
theorem madeOwn {W0 w : World} {T : Nat → Prop} {H : List Res} {b m : Nat} (hm : m ≤ maxLen) (h : Hp W0 T (blk b (.cells (rowA m fun _ => .int .i64 0) 3 (0, 0)) :: H) w) : Hp W0 T (ownR 3 1 (.slice (some ⟨b, 0, none⟩) m m) m (Vw m fun _ => 0) :: H) w := by
  unfold Vw; exact h.rowOwn hm
theorem maxL {m : Nat} (h : m ≤ 64) : m ≤ maxLen := Nat.le_trans h (by decide)
theorem nilVw {W0 w : World} {T : Nat → Prop} {f : Nat → Int} (hw : Hp W0 T [] w) : Hp W0 T [ownR 3 1 (.slice none 0 0) 0 (Vw 0 f)] w := by
  unfold Vw; exact hw.nil
attribute [local irreducible] upR nU Nw Vw blV heldV
set_option maxRecDepth 100000 in
set_option maxHeartbeats 2000000 in
theorem k_over (W : World) {m : Nat} {f : Nat → Nd} {A : Option Addr} {cp : Nat} (hS : Sl W A (Nw m f)) (hm : m ≤ 9223372036854775807) {k : Nat} {ef : Nat → Int} {B : Option Addr} {cq : Nat} (hS2 : Sl W B (Vw k ef)) (hk : k ≤ 9223372036854775807) (hef : ∀ j, j < k → 0 ≤ ef j ∧ ef j ≤ 2199023255552) (t : Int) : Calls Try.prog 18 #[.slice A m cp, .slice B k cq, .int .i64 t] W fun e w' => ∃ v : Value, e = .returned v ∧ (ownR 3 1 v (lenO m f k t) (Vw (lenO m f k t) (ovV m f k ef t))).holds w' ∧ Below W.heap.size W w' ∧ ∀ j, (ownR 3 1 v (lenO m f k t) (Vw (lenO m f k t) (ovV m f k ef t))).foot j → W.heap.size ≤ j := by
  have hM : Hp W (fun _ => False) [] W := Hp.start
  refine TC.enter (n := 50) Try.func18 rfl rfl rfl hM ?_
  refine TC.seq ?_
  refine TC.region ?_
  refine' TL.y rfl rfl rfl ?hy1 ?_
  case hy1 => exact Yl.assign rfl rfl
  refine TL.nil ?_
  refine TE.next ?_
  refine TC.seq ?_
  refine TC.seq ?_
  refine TC.region ?_
  refine' TL.y rfl rfl rfl ?hy2 ?_
  case hy2 => exact Yl.move rfl rfl
  refine' TL.y rfl rfl rfl ?hy3 ?_
  case hy3 => exact Yl.move rfl rfl
  refine' TL.y rfl rfl rfl ?hy4 ?_
  case hy4 => exact Yl.move rfl rfl
  refine' TL.c rfl rfl rfl ?hy5 ?_
  case hy5 => exact Yc.call rfl Try.func29 (by kernel_rfl) rfl rfl (Hp.calls (fun w h => k_right w (hS.below h.below) hm (hS2.below h.below) hk t))
  intro _
  refine' TL.y rfl rfl rfl ?hy6 ?_
  case hy6 => exact Yl.not rfl rfl
  refine TL.nil ?_
  refine TE.next ?_
  refine TC.cond rfl (fun hs14 => ?_) (fun hs14 => ?_)
  · skip
    (try simp only [decide_eq_true_eq, decide_eq_false_iff_not, beq_iff_eq, beq_eq_false_iff_ne, bne_iff_ne, ne_eq, bne_eq_false_iff_eq, Bool.not_eq_true', Bool.not_eq_false', Int.not_lt, Int.not_le, gt_iff_lt, ge_iff_le] at hs14)
    have hr : ¬ Rgt m f k t := by simpa using hs14
    refine TC.seq ?_
    refine TC.region ?_
    refine' TL.y rfl rfl rfl ?hy7 ?_
    case hy7 => exact Yl.assign rfl rfl
    refine TL.nil ?_
    refine TE.next ?_
    refine TC.ret ?_
    refine TE.thenRet ?_
    refine TE.ret1 rfl rfl ?_
    exact fun w h => ⟨_, rfl, by rw [show lenO m f k t = 0 from if_neg hr]; exact (nilVw h).leaveNew⟩
  · skip
    (try simp only [decide_eq_true_eq, decide_eq_false_iff_not, beq_iff_eq, beq_eq_false_iff_ne, bne_iff_ne, ne_eq, bne_eq_false_iff_eq, Bool.not_eq_true', Bool.not_eq_false', Int.not_lt, Int.not_le, gt_iff_lt, ge_iff_le] at hs14)
    have hr : Rgt m f k t := by by_cases e : Rgt m f k t; exact e; simp [e] at hs14
    have hv := hr.v
    have hm64 := hv.m1
    have hkm := hr.k
    have ht0 := hr.t0
    have ht1 := hr.t1
    refine TC.skip ?_
    refine TE.next ?_
    refine TC.seq ?_
    refine TC.region ?_
    refine' TL.y rfl rfl rfl ?hy8 ?_
    case hy8 => exact Yl.move rfl rfl
    refine' TL.y rfl rfl rfl ?hy9 ?_
    case hy9 => exact Yl.len rfl rfl Try.underlying22
    refine' TL.mx rfl rfl rfl ?hy10 ?_
    case hy10 => exact Ym.makeRow (z := .int .i64 0) (by_ := 8) rfl rfl rfl Try.underlying25 (by kernel_rfl) rfl (by omega) (by omega) (by omega)
    intro b17
    simp only [Int.toNat_natCast]
    refine TL.wk (fun w h => madeOwn (maxL hv.m1) h) ?_
    refine' TL.y rfl rfl rfl ?hy11 ?_
    case hy11 => exact Yl.assign rfl rfl
    refine TL.nil ?_
    refine TE.next ?_
    refine TC.seq ?_
    refine TC.seq ?_
    refine TC.region ?_
    refine' TL.y rfl rfl rfl ?hy12 ?_
    case hy12 => exact Yl.move rfl rfl
    refine' TL.y rfl rfl rfl ?hy13 ?_
    case hy13 => exact Yl.len rfl rfl Try.underlying22
    refine' TL.y rfl rfl rfl ?hy14 ?_
    case hy14 => exact Yl.move rfl rfl
    refine TL.nil ?_
    refine TE.next ?_
    refine TC.block ?_
    refine TC.loop (σ := Nat) (fun i => [(0, .slice A m cp), (1, .slice B k cq), (2, .int .i64 t), (7, .slice (some ⟨b17, 0, none⟩) m m), (18, .slice A m cp), (19, .int .i64 (m : Int)), (20, .int .i64 (i : Int))]) (fun i => Hp W (fun _ => False) [ownR 3 1 (.slice (some ⟨b17, 0, none⟩) m m) m (Vw m (fun j => if j < i then ovV m f k ef t j else 0))]) (fun i => i ≤ m) (fun i => m - i) 0 ?hF15 ?hs15 ?hm15 ?round15
    case hF15 => exact Nat.zero_le _
    case hs15 => exact ⟨rfl, rfl, rfl, rfl, rfl, rfl, rfl, trivial⟩
    case hm15 => exact fun w h => h.vwc (fun j hj => (if_neg (by omega)).symm)
    case round15 =>
      intro i hi
      refine TC.seq ?_
      refine TC.region ?_
      refine' TL.y rfl rfl rfl ?hy16 ?_
      case hy16 => exact Yl.bin rfl rfl rfl (Bin.lss _ _ _ _)
      refine TL.nil ?_
      refine TE.next ?_
      refine TC.seq ?_
      refine TC.cond rfl (fun hs21 => ?_) (fun hs21 => ?_)
      · skip
        (try simp only [decide_eq_true_eq, decide_eq_false_iff_not, beq_iff_eq, beq_eq_false_iff_ne, bne_iff_ne, ne_eq, bne_eq_false_iff_eq, Bool.not_eq_true', Bool.not_eq_false', Int.not_lt, Int.not_le, gt_iff_lt, ge_iff_le] at hs21)
        obtain ⟨b, o, rfl⟩ := Sl.some2 hS (by rw [Nw_length]; omega)
        obtain ⟨b2, o2, rfl⟩ := Sl.some2 hS2 (by rw [Vw_length]; omega)
        have hu := hv.us i (by omega)
        have he := hef i (by omega)
        refine TC.skip ?_
        refine TE.next ?_
        refine TC.seq ?_
        refine TC.block ?_
        refine TC.seq ?_
        refine TC.region ?_
        refine' TL.y rfl rfl rfl ?hy17 ?_
        case hy17 => exact Yl.move rfl rfl
        refine' TL.y rfl rfl rfl ?hy18 ?_
        case hy18 => first | exact Yl.ixkn (k := 3) rfl rfl rfl Try.underlying22 (by kernel_rfl) (by omega)
        refine' TL.y rfl rfl rfl ?hy19 ?_
        case hy19 => first | exact Yl.loads rfl rfl (by kernel_rfl) (by kernel_rfl) (Sl.nws hS (by omega)) | exact Yl.loads rfl rfl (by kernel_rfl) (by kernel_rfl) (Sl.vw hS2 rfl (by omega) (fun _ h => h)) | exact Yl.loads rfl rfl (by kernel_rfl) (by kernel_rfl) (Sl.nw hS (i := 0) rfl (by omega) (by decide)) | exact Yl.loads rfl rfl (by kernel_rfl) (by kernel_rfl) (Sl.nw hS (i := 1) rfl (by omega) (by decide)) | exact Yl.loads rfl rfl (by kernel_rfl) (by kernel_rfl) (Sl.nw hS (i := 2) rfl (by omega) (by decide))
        refine' TL.mx rfl rfl rfl ?hy20 ?_
        case hy20 => exact Ym.alloc (z := .agg #[.int .i64 0, .int .i64 0, .int .i64 0]) rfl (by kernel_rfl)
        intro b9
        refine' TL.y rfl rfl rfl ?hy21 ?_
        case hy21 => exact Yl.assign rfl rfl
        refine' TL.s rfl rfl ?hy22 ?_
        case hy22 => first | exact Ys.vw rfl rfl rfl (by kernel_rfl) foc1 (by omega) | exact Ys.store (seg := [.int .i64 (f i).1, .int .i64 (f i).2.1, .int .i64 (f i).2.2]) (c' := #[.int .i64 (f i).1, .int .i64 (f i).2.1, .int .i64 (f i).2.2]) rfl rfl rfl (by simp [Value.cells]) (by kernel_rfl) (by simp [Value.oneCell']) foc0 (by simp [Value.cells]) rfl
        refine TL.nil ?_
        refine TE.next ?_
        refine TC.seq ?_
        refine TC.region ?_
        refine' TL.y rfl rfl rfl ?hy23 ?_
        case hy23 => exact Yl.move rfl rfl
        refine' TL.y rfl rfl rfl ?hy24 ?_
        case hy24 => exact Yl.move rfl rfl
        refine' TL.y rfl rfl rfl ?hy25 ?_
        case hy25 => exact Yl.move rfl rfl
        refine' TL.c rfl rfl rfl ?hy26 ?_
        case hy26 => exact Yc.call rfl Try.func23 (by kernel_rfl) rfl rfl (Hp.calls (fun w h => k_below w (hS.below h.below) hv (by omega) (by omega) ht0))
        intro _
        refine' TL.y rfl rfl rfl ?hy27 ?_
        case hy27 => exact Yl.move rfl rfl
        refine TL.split (i := 29) rfl (fun hs29 => ?_) (fun hs29 => ?_)
        · skip
          (try simp only [decide_eq_true_eq, decide_eq_false_iff_not, beq_iff_eq, beq_eq_false_iff_ne, bne_iff_ne, ne_eq, bne_eq_false_iff_eq, Bool.not_eq_true', Bool.not_eq_false', Int.not_lt, Int.not_le, gt_iff_lt, ge_iff_le] at hs29)
          refine' TL.y rfl rfl rfl ?hy28 ?_
          case hy28 => exact Yl.move rfl rfl
          refine' TL.y rfl rfl rfl ?hy29 ?_
          case hy29 => exact Yl.move rfl rfl
          refine' TL.y rfl rfl rfl ?hy30 ?_
          case hy30 => exact Yl.move rfl rfl
          refine' TL.y rfl rfl rfl ?hy31 ?_
          case hy31 => exact Yl.move rfl rfl
          refine' TL.c rfl rfl rfl ?hy32 ?_
          case hy32 => exact Yc.call rfl Try.func17 (by kernel_rfl) rfl rfl (Hp.calls (fun w h => k_held w (hS.below h.below) hm (hS2.below h.below) hk t (i : Int)))
          intro _
          refine' TL.y rfl rfl rfl ?hy33 ?_
          case hy33 => exact Yl.not rfl rfl
          refine' TL.y rfl rfl rfl ?hy34 ?_
          case hy34 => exact Yl.pickT rfl rfl rfl
          refine TL.nil ?_
          refine TE.next ?_
          refine TC.cond rfl (fun hs36 => ?_) (fun hs36 => ?_)
          · skip
            (try simp only [decide_eq_true_eq, decide_eq_false_iff_not, beq_iff_eq, beq_eq_false_iff_ne, bne_iff_ne, ne_eq, bne_eq_false_iff_eq, Bool.not_eq_true', Bool.not_eq_false', Int.not_lt, Int.not_le, gt_iff_lt, ge_iff_le] at hs36)
            have hov : ovV m f k ef t i = (if 0 > (f i).2.1 - ef i then 0 else (f i).2.1 - ef i) := by unfold ovV; rw [show blV f t (m + 1) (i : Int) = true by simpa using hs29, show heldV m f k ef t (i : Int) = false by simpa using hs36]; rfl
            refine TC.draw (k := 12) _ [11] #[false, false, false, false, false, false, false, false, false, false, false, false] (by kernel_rfl) rfl rfl (fun _ h => h.drew) (fun _ h => h) ?_
            refine' TA.p (i := 0) #[true, false, false, false, false, false, false, false, false, false, false, false] rfl rfl rfl (by kernel_rfl) (fun _ _ _ h => h) rfl ?hy35 ?_
            case hy35 => exact Yl.move rfl rfl
            refine' TA.p (i := 1) #[true, true, false, false, false, false, false, false, false, false, false, false] rfl rfl rfl (by kernel_rfl) (fun _ _ _ h => h) rfl ?hy36 ?_
            case hy36 => exact Yl.move rfl rfl
            refine' TA.p (i := 2) #[true, true, true, false, false, false, false, false, false, false, false, false] rfl rfl rfl (by kernel_rfl) (fun _ _ _ h => h) rfl ?hy37 ?_
            case hy37 => first | exact Yl.field0 (k := 0) 1 rfl rfl Try.underlying38 rfl (by kernel_rfl) rfl | exact Yl.field (k := 0) 1 rfl rfl Try.underlying38 rfl (by kernel_rfl) rfl
            refine' TA.y (i := 3) #[true, true, true, true, false, false, false, false, false, false, false, false] rfl rfl rfl (by kernel_rfl) (fun _ _ _ h => h) (fun _ h => by exact Hp.sub h (by repeat (first | exact List.Sublist.refl _ | apply List.Sublist.cons))) rfl ?hy38 ?_
            case hy38 => first | exact Yl.load rfl rfl (by kernel_rfl) (Sl.nws hS (by omega)) | exact Yl.load rfl rfl (by kernel_rfl) (Sl.vw hS2 rfl (by omega) (fun _ h => h)) | exact Yl.load rfl rfl (by kernel_rfl) (Sl.nw hS (i := 0) rfl (by omega) (by decide)) | exact Yl.load rfl rfl (by kernel_rfl) (Sl.nw hS (i := 1) rfl (by omega) (by decide)) | exact Yl.load rfl rfl (by kernel_rfl) (Sl.nw hS (i := 2) rfl (by omega) (by decide)) | exact Yl.load rfl rfl (by kernel_rfl) (Hp.cell mem0 rfl) | exact Yl.load rfl rfl (by kernel_rfl) (Hp.cell mem1 rfl) | exact Yl.load rfl rfl (by kernel_rfl) (Hp.cell mem2 rfl) | exact Yl.load rfl rfl (by kernel_rfl) (Hp.cell mem3 rfl) | exact Yl.load rfl rfl (by kernel_rfl) (Hp.cell mem4 rfl) | exact Yl.load rfl rfl (by kernel_rfl) (Hp.rowAt mem0 (by omega) rfl) | exact Yl.load rfl rfl (by kernel_rfl) (Hp.rowAt mem1 (by omega) rfl) | exact Yl.load rfl rfl (by kernel_rfl) (Hp.rowAt mem2 (by omega) rfl) | exact Yl.load rfl rfl (by kernel_rfl) (Hp.rowAt mem3 (by omega) rfl) | exact Yl.load rfl rfl (by kernel_rfl) (Hp.rowAt mem4 (by omega) rfl)
            refine' TA.p (i := 4) #[true, true, true, true, true, false, false, false, false, false, false, false] rfl rfl rfl (by kernel_rfl) (fun _ _ _ h => h) rfl ?hy39 ?_
            case hy39 => exact Yl.move rfl rfl
            refine' TA.p (i := 5) #[true, true, true, true, true, true, false, false, false, false, false, false] rfl rfl rfl (by kernel_rfl) (fun _ _ _ h => h) rfl ?hy40 ?_
            case hy40 => exact Yl.move rfl rfl
            refine' TA.p (i := 6) #[true, true, true, true, true, true, true, false, false, false, false, false] rfl rfl rfl (by kernel_rfl) (fun _ _ _ h => h) rfl ?hy41 ?_
            case hy41 => first | exact Yl.ixn rfl rfl rfl Try.underlying25 (by kernel_rfl) (by omega) | exact Yl.ixz rfl rfl rfl Try.underlying25 (by kernel_rfl) (by omega) (by omega) | exact Yl.ixcn rfl rfl rfl Try.underlying25 (by kernel_rfl) (by omega) | exact Yl.ixcz rfl rfl rfl Try.underlying25 (by kernel_rfl) (by omega) (by omega)
            refine' TA.y (i := 7) #[true, true, true, true, true, true, true, true, false, false, false, false] rfl rfl rfl (by kernel_rfl) (fun _ _ _ h => h) (fun _ h => by exact Hp.sub h (by repeat (first | exact List.Sublist.refl _ | apply List.Sublist.cons))) rfl ?hy42 ?_
            case hy42 => first | exact Yl.load rfl rfl (by kernel_rfl) (Sl.nws hS (by omega)) | exact Yl.load rfl rfl (by kernel_rfl) (Sl.vw hS2 rfl (by omega) (fun _ h => h)) | exact Yl.load rfl rfl (by kernel_rfl) (Sl.nw hS (i := 0) rfl (by omega) (by decide)) | exact Yl.load rfl rfl (by kernel_rfl) (Sl.nw hS (i := 1) rfl (by omega) (by decide)) | exact Yl.load rfl rfl (by kernel_rfl) (Sl.nw hS (i := 2) rfl (by omega) (by decide)) | exact Yl.load rfl rfl (by kernel_rfl) (Hp.cell mem0 rfl) | exact Yl.load rfl rfl (by kernel_rfl) (Hp.cell mem1 rfl) | exact Yl.load rfl rfl (by kernel_rfl) (Hp.cell mem2 rfl) | exact Yl.load rfl rfl (by kernel_rfl) (Hp.cell mem3 rfl) | exact Yl.load rfl rfl (by kernel_rfl) (Hp.cell mem4 rfl) | exact Yl.load rfl rfl (by kernel_rfl) (Hp.rowAt mem0 (by omega) rfl) | exact Yl.load rfl rfl (by kernel_rfl) (Hp.rowAt mem1 (by omega) rfl) | exact Yl.load rfl rfl (by kernel_rfl) (Hp.rowAt mem2 (by omega) rfl) | exact Yl.load rfl rfl (by kernel_rfl) (Hp.rowAt mem3 (by omega) rfl) | exact Yl.load rfl rfl (by kernel_rfl) (Hp.rowAt mem4 (by omega) rfl)
            refine' TA.p (i := 8) #[true, true, true, true, true, true, true, true, true, false, false, false] rfl rfl rfl (by kernel_rfl) (fun _ _ _ h => h) rfl ?hy43 ?_
            case hy43 => first | (refine Yl.val (Yl.bin rfl rfl rfl (Bin.sub _ _ _ _)) (congrArg (Value.int .i64) (i64in ?_ ?_)) <;> omega) | exact Yl.bin rfl rfl rfl (Bin.sub _ _ _ _)
            refine' TA.p (i := 9) #[true, true, true, true, true, true, true, true, true, true, false, false] rfl rfl rfl (by kernel_rfl) (fun _ _ _ h => h) rfl ?hy44 ?_
            case hy44 => exact Yl.max rfl rfl rfl
            refine' TA.p (i := 10) #[true, true, true, true, true, true, true, true, true, true, true, false] rfl rfl rfl (by kernel_rfl) (fun _ _ _ h => h) rfl ?hy45 ?_
            case hy45 => first | exact Yl.ixn rfl rfl rfl Try.underlying25 (by kernel_rfl) (by omega) | exact Yl.ixz rfl rfl rfl Try.underlying25 (by kernel_rfl) (by omega) (by omega) | exact Yl.ixcn rfl rfl rfl Try.underlying25 (by kernel_rfl) (by omega) | exact Yl.ixcz rfl rfl rfl Try.underlying25 (by kernel_rfl) (by omega) (by omega)
            refine' TA.sl (i := 11) #[true, true, true, true, true, true, true, true, true, true, true, true] rfl rfl (by kernel_rfl) (by decide) rfl ?hy46 ?_
            case hy46 => first | exact Ys.vw rfl rfl rfl (by kernel_rfl) foc1 (by omega) | exact Ys.store (seg := [.int .i64 (f i).1, .int .i64 (f i).2.1, .int .i64 (f i).2.2]) (c' := #[.int .i64 (f i).1, .int .i64 (f i).2.1, .int .i64 (f i).2.2]) rfl rfl rfl (by simp [Value.cells]) (by kernel_rfl) (by simp [Value.oneCell']) foc0 (by simp [Value.cells]) rfl
            refine TA.done (by kernel_rfl) ?_
            refine TE.inNormal ?_
            refine TE.next ?_
            refine TC.region ?_
            refine' TL.y rfl rfl rfl ?hy47 ?_
            case hy47 => first | (refine Yl.val (Yl.bin rfl rfl rfl (Bin.add _ _ _ _)) (congrArg (Value.int .i64) (i64in ?_ ?_)) <;> omega) | exact Yl.bin rfl rfl rfl (Bin.add _ _ _ _)
            refine' TL.y rfl rfl rfl ?hy48 ?_
            case hy48 => exact Yl.move rfl rfl
            refine TL.nil ?_
            refine TE.round (i + 1) ?hF49 ?hlt49 ?hs49 ?hm49
            case hF49 => omega
            case hlt49 => omega
            case hs49 => exact ⟨rfl, rfl, rfl, rfl, rfl, rfl, rfl, trivial⟩
            case hm49 => exact (fun w h => (h.sub (List.sublist_cons_self _ _)).vwc (fun j hj => by
                show upI _ _ _ j = _
                unfold upI; dsimp only
                by_cases e : j = i
                · rw [if_pos e]; exact hov.symm.trans (by rw [if_pos (by omega), e])
                · rw [if_neg e]
                  by_cases e2 : j < i
                  · rw [if_pos e2, if_pos (by omega)]
                  · rw [if_neg e2, if_neg (by omega)]))
          · skip
            (try simp only [decide_eq_true_eq, decide_eq_false_iff_not, beq_iff_eq, beq_eq_false_iff_ne, bne_iff_ne, ne_eq, bne_eq_false_iff_eq, Bool.not_eq_true', Bool.not_eq_false', Int.not_lt, Int.not_le, gt_iff_lt, ge_iff_le] at hs36)
            have hov : ovV m f k ef t i = 0 := by unfold ovV; rw [show heldV m f k ef t (i : Int) = true by simpa using hs36]; simp
            refine TC.skip ?_
            refine TE.inNormal ?_
            refine TE.next ?_
            refine TC.region ?_
            refine' TL.y rfl rfl rfl ?hy50 ?_
            case hy50 => first | (refine Yl.val (Yl.bin rfl rfl rfl (Bin.add _ _ _ _)) (congrArg (Value.int .i64) (i64in ?_ ?_)) <;> omega) | exact Yl.bin rfl rfl rfl (Bin.add _ _ _ _)
            refine' TL.y rfl rfl rfl ?hy51 ?_
            case hy51 => exact Yl.move rfl rfl
            refine TL.nil ?_
            refine TE.round (i + 1) ?hF52 ?hlt52 ?hs52 ?hm52
            case hF52 => omega
            case hlt52 => omega
            case hs52 => exact ⟨rfl, rfl, rfl, rfl, rfl, rfl, rfl, trivial⟩
            case hm52 => exact (fun w h => (h.sub (List.sublist_cons_self _ _)).vwc (fun j hj => by
                by_cases e : j = i
                · rw [if_neg (by omega), if_pos (by omega), e]; exact hov.symm
                · by_cases e2 : j < i
                  · rw [if_pos e2, if_pos (by omega)]
                  · rw [if_neg e2, if_neg (by omega)]))
        · skip
          (try simp only [decide_eq_true_eq, decide_eq_false_iff_not, beq_iff_eq, beq_eq_false_iff_ne, bne_iff_ne, ne_eq, bne_eq_false_iff_eq, Bool.not_eq_true', Bool.not_eq_false', Int.not_lt, Int.not_le, gt_iff_lt, ge_iff_le] at hs29)
          have hov : ovV m f k ef t i = 0 := by unfold ovV; rw [show blV f t (m + 1) (i : Int) = false by simpa using hs29]; rfl
          refine TL.skip rfl rfl rfl ?_
          refine TL.skip rfl rfl rfl ?_
          refine TL.skip rfl rfl rfl ?_
          refine TL.skip rfl rfl rfl ?_
          refine TL.skip rfl rfl rfl ?_
          refine TL.skip rfl rfl rfl ?_
          refine' TL.y rfl rfl rfl ?hy53 ?_
          case hy53 => exact Yl.pickF rfl rfl rfl
          refine TL.nil ?_
          refine TE.next ?_
          refine TC.no rfl rfl ?_
          refine TC.skip ?_
          refine TE.inNormal ?_
          refine TE.next ?_
          refine TC.region ?_
          refine' TL.y rfl rfl rfl ?hy54 ?_
          case hy54 => first | (refine Yl.val (Yl.bin rfl rfl rfl (Bin.add _ _ _ _)) (congrArg (Value.int .i64) (i64in ?_ ?_)) <;> omega) | exact Yl.bin rfl rfl rfl (Bin.add _ _ _ _)
          refine' TL.y rfl rfl rfl ?hy55 ?_
          case hy55 => exact Yl.move rfl rfl
          refine TL.nil ?_
          refine TE.round (i + 1) ?hF56 ?hlt56 ?hs56 ?hm56
          case hF56 => omega
          case hlt56 => omega
          case hs56 => exact ⟨rfl, rfl, rfl, rfl, rfl, rfl, rfl, trivial⟩
          case hm56 => exact (fun w h => (h.sub (List.sublist_cons_self _ _)).vwc (fun j hj => by
              by_cases e : j = i
              · rw [if_neg (by omega), if_pos (by omega), e]; exact hov.symm
              · by_cases e2 : j < i
                · rw [if_pos e2, if_pos (by omega)]
                · rw [if_neg e2, if_neg (by omega)]))
      · skip
        (try simp only [decide_eq_true_eq, decide_eq_false_iff_not, beq_iff_eq, beq_eq_false_iff_ne, bne_iff_ne, ne_eq, bne_eq_false_iff_eq, Bool.not_eq_true', Bool.not_eq_false', Int.not_lt, Int.not_le, gt_iff_lt, ge_iff_le] at hs21)
        refine TC.exit ?_
        refine TE.thenExit ?_
        refine TE.thenExit ?_
        refine TE.inHere ?_
        refine TE.next ?_
        refine TC.seq ?_
        refine TC.region ?_
        refine' TL.y rfl rfl rfl ?hy57 ?_
        case hy57 => exact Yl.move rfl rfl
        refine' TL.y rfl rfl rfl ?hy58 ?_
        case hy58 => exact Yl.assign rfl rfl
        refine TL.nil ?_
        refine TE.next ?_
        refine TC.ret ?_
        refine TE.ret1 rfl rfl ?_
        obtain rfl : i = m := by omega
        exact fun w h => ⟨_, rfl, by rw [show lenO i f k t = i from if_pos hr]; exact (h.vwc (fun j hj => if_pos hj)).leaveNew⟩
set_option maxRecDepth 100000 in
set_option maxHeartbeats 2000000 in
theorem k_rover (W : World) {m : Nat} {f : Nat → Nd} {A : Option Addr} {cp : Nat} (hS : Sl W A (Nw m f)) (hm : m ≤ 9223372036854775807) {k : Nat} {ef : Nat → Int} {B : Option Addr} {cq : Nat} (hS2 : Sl W B (Vw k ef)) (hk : k ≤ 9223372036854775807) (hef : ∀ j, j < k → 0 ≤ ef j ∧ ef j ≤ 2199023255552) (t : Int) : Calls Try.prog 19 #[.slice A m cp, .slice B k cq, .int .i64 t] W fun e w' => ∃ v : Value, e = .returned v ∧ (ownR 3 1 v (lenO m f k t) (Vw (lenO m f k t) (ovV m f k ef t))).holds w' ∧ Below W.heap.size W w' ∧ ∀ j, (ownR 3 1 v (lenO m f k t) (Vw (lenO m f k t) (ovV m f k ef t))).foot j → W.heap.size ≤ j := by
  have hM : Hp W (fun _ => False) [] W := Hp.start
  refine TC.enter (n := 61) Try.func19 rfl rfl rfl hM ?_
  refine TC.seq ?_
  refine TC.region ?_
  refine' TL.y rfl rfl rfl ?hy1 ?_
  case hy1 => exact Yl.assign rfl rfl
  refine TL.nil ?_
  refine TE.next ?_
  refine TC.seq ?_
  refine TC.seq ?_
  refine TC.region ?_
  refine' TL.y rfl rfl rfl ?hy2 ?_
  case hy2 => exact Yl.move rfl rfl
  refine' TL.y rfl rfl rfl ?hy3 ?_
  case hy3 => exact Yl.move rfl rfl
  refine' TL.y rfl rfl rfl ?hy4 ?_
  case hy4 => exact Yl.move rfl rfl
  refine' TL.c rfl rfl rfl ?hy5 ?_
  case hy5 => exact Yc.call rfl Try.func28 (by kernel_rfl) rfl rfl (Hp.calls (fun w h => k_rright w (hS.below h.below) hm (hS2.below h.below) hk t))
  intro _
  refine' TL.y rfl rfl rfl ?hy6 ?_
  case hy6 => exact Yl.not rfl rfl
  refine TL.nil ?_
  refine TE.next ?_
  refine TC.cond rfl (fun hs13 => ?_) (fun hs13 => ?_)
  · skip
    (try simp only [decide_eq_true_eq, decide_eq_false_iff_not, beq_iff_eq, beq_eq_false_iff_ne, bne_iff_ne, ne_eq, bne_eq_false_iff_eq, Bool.not_eq_true', Bool.not_eq_false', Int.not_lt, Int.not_le, gt_iff_lt, ge_iff_le] at hs13)
    have hr : ¬ Rgt m f k t := by simpa using hs13
    refine TC.seq ?_
    refine TC.region ?_
    refine' TL.y rfl rfl rfl ?hy7 ?_
    case hy7 => exact Yl.assign rfl rfl
    refine TL.nil ?_
    refine TE.next ?_
    refine TC.ret ?_
    refine TE.thenRet ?_
    refine TE.ret1 rfl rfl ?_
    exact fun w h => ⟨_, rfl, by rw [show lenO m f k t = 0 from if_neg hr]; exact (nilVw h).leaveNew⟩
  · skip
    (try simp only [decide_eq_true_eq, decide_eq_false_iff_not, beq_iff_eq, beq_eq_false_iff_ne, bne_iff_ne, ne_eq, bne_eq_false_iff_eq, Bool.not_eq_true', Bool.not_eq_false', Int.not_lt, Int.not_le, gt_iff_lt, ge_iff_le] at hs13)
    have hr : Rgt m f k t := by by_cases e : Rgt m f k t; exact e; simp [e] at hs13
    have hv := hr.v
    have hm64 := hv.m1
    have hkm := hr.k
    have ht0 := hr.t0
    have ht1 := hr.t1
    refine TC.skip ?_
    refine TE.next ?_
    refine TC.seq ?_
    refine TC.region ?_
    refine' TL.y rfl rfl rfl ?hy8 ?_
    case hy8 => exact Yl.move rfl rfl
    refine' TL.y rfl rfl rfl ?hy9 ?_
    case hy9 => exact Yl.len rfl rfl Try.underlying28
    refine' TL.mx rfl rfl rfl ?hy10 ?_
    case hy10 => exact Ym.makeRow (z := .int .i64 0) (by_ := 8) rfl rfl rfl Try.underlying25 (by kernel_rfl) rfl (by omega) (by omega) (by omega)
    intro b16
    simp only [Int.toNat_natCast]
    refine TL.wk (fun w h => madeOwn (maxL hv.m1) h) ?_
    refine' TL.y rfl rfl rfl ?hy11 ?_
    case hy11 => exact Yl.assign rfl rfl
    refine TL.nil ?_
    refine TE.next ?_
    refine TC.seq ?_
    refine TC.seq ?_
    refine TC.region ?_
    refine' TL.y rfl rfl rfl ?hy12 ?_
    case hy12 => exact Yl.assign rfl rfl
    refine TL.nil ?_
    refine TE.next ?_
    refine TC.block ?_
    refine TC.loop (σ := Nat) (fun i => [(0, .slice A m cp), (1, .slice B k cq), (2, .int .i64 t), (7, .slice (some ⟨b16, 0, none⟩) m m), (8, .int .i64 (i : Int))]) (fun i => Hp W (fun _ => False) [ownR 3 1 (.slice (some ⟨b16, 0, none⟩) m m) m (Vw m (fun j => if j < i then ovV m f k ef t j else 0))]) (fun i => i ≤ m) (fun i => m - i) 0 ?hF13 ?hs13 ?hm13 ?round13
    case hF13 => exact Nat.zero_le _
    case hs13 => exact ⟨rfl, rfl, rfl, rfl, rfl, trivial⟩
    case hm13 => exact fun w h => h.vwc (fun j hj => (if_neg (by omega)).symm)
    case round13 =>
      intro i hi
      refine TC.seq ?_
      refine TC.seq ?_
      refine TC.region ?_
      refine' TL.y rfl rfl rfl ?hy14 ?_
      case hy14 => exact Yl.move rfl rfl
      refine' TL.y rfl rfl rfl ?hy15 ?_
      case hy15 => exact Yl.move rfl rfl
      refine' TL.y rfl rfl rfl ?hy16 ?_
      case hy16 => exact Yl.len rfl rfl Try.underlying28
      refine' TL.y rfl rfl rfl ?hy17 ?_
      case hy17 => exact Yl.bin rfl rfl rfl (Bin.lss _ _ _ _)
      refine TL.nil ?_
      refine TE.next ?_
      refine TC.cond rfl (fun hs20 => ?_) (fun hs20 => ?_)
      · skip
        (try simp only [decide_eq_true_eq, decide_eq_false_iff_not, beq_iff_eq, beq_eq_false_iff_ne, bne_iff_ne, ne_eq, bne_eq_false_iff_eq, Bool.not_eq_true', Bool.not_eq_false', Int.not_lt, Int.not_le, gt_iff_lt, ge_iff_le] at hs20)
        obtain ⟨b, o, rfl⟩ := Sl.some2 hS (by rw [Nw_length]; omega)
        obtain ⟨b2, o2, rfl⟩ := Sl.some2 hS2 (by rw [Vw_length]; omega)
        have hu := hv.us i (by omega)
        have he := hef i (by omega)
        refine TC.skip ?_
        refine TE.next ?_
        refine TC.seq ?_
        refine TC.block ?_
        refine TC.seq ?_
        refine TC.draw (k := 24) _ [] #[false, false, false, false, false, false, false, false, false, false, false, false, false, false, false, false, false, false, false, false, false, false, false, false] (by kernel_rfl) rfl rfl (fun _ h => h.drew) (fun _ h => h) ?_
        refine' TA.y (i := 0) #[true, false, false, false, false, false, false, false, false, false, false, false, false, false, false, false, false, false, false, false, false, false, false, false] rfl rfl rfl (by kernel_rfl) (fun _ _ _ h => h) (fun _ h => by exact Hp.sub h (by repeat (first | exact List.Sublist.refl _ | apply List.Sublist.cons))) rfl ?hy18 ?_
        case hy18 => exact Yl.move rfl rfl
        refine' TA.y (i := 1) #[true, true, false, false, false, false, false, false, false, false, false, false, false, false, false, false, false, false, false, false, false, false, false, false] rfl rfl rfl (by kernel_rfl) (fun _ _ _ h => h) (fun _ h => by exact Hp.sub h (by repeat (first | exact List.Sublist.refl _ | apply List.Sublist.cons))) rfl ?hy19 ?_
        case hy19 => exact Yl.move rfl rfl
        refine' TA.y (i := 2) #[true, true, true, false, false, false, false, false, false, false, false, false, false, false, false, false, false, false, false, false, false, false, false, false] rfl rfl rfl (by kernel_rfl) (fun _ _ _ h => h) (fun _ h => by exact Hp.sub h (by repeat (first | exact List.Sublist.refl _ | apply List.Sublist.cons))) rfl ?hy20 ?_
        case hy20 => exact Yl.move rfl rfl
        refine' TA.c (i := 3) #[true, true, true, true, false, false, false, false, false, false, false, false, false, false, false, false, false, false, false, false, false, false, false, false] rfl rfl rfl (by kernel_rfl) (by decide) rfl ?hy21 ?hz21 ?_
        case hy21 => exact Yc.call rfl Try.func25 (by kernel_rfl) rfl rfl (Hp.calls (fun w h => k_rbelow w (hS.below h.below) hv (by omega) (by omega) ht0))
        case hz21 => exact (fun _ _ h => by exact Hp.sub h (by repeat (first | exact List.Sublist.refl _ | apply List.Sublist.cons)))
        intro _
        refine' TA.y (i := 4) #[true, true, true, true, true, false, false, false, false, false, false, false, false, false, false, false, false, false, false, false, false, false, false, false] rfl rfl rfl (by kernel_rfl) (fun _ _ _ h => h) (fun _ h => by exact Hp.sub h (by repeat (first | exact List.Sublist.refl _ | apply List.Sublist.cons))) rfl ?hy22 ?_
        case hy22 => exact Yl.move rfl rfl
        refine TA.split (i := 27) rfl (fun hs27 => ?_) (fun hs27 => ?_)
        · skip
          (try simp only [decide_eq_true_eq, decide_eq_false_iff_not, beq_iff_eq, beq_eq_false_iff_ne, bne_iff_ne, ne_eq, bne_eq_false_iff_eq, Bool.not_eq_true', Bool.not_eq_false', Int.not_lt, Int.not_le, gt_iff_lt, ge_iff_le] at hs27)
          refine' TA.y (i := 5) #[true, true, true, true, true, true, false, false, false, false, false, false, false, false, false, false, false, false, false, false, false, false, false, false] rfl rfl rfl (by kernel_rfl) (fun _ _ _ h => h) (fun _ h => by exact Hp.sub h (by repeat (first | exact List.Sublist.refl _ | apply List.Sublist.cons))) rfl ?hy23 ?_
          case hy23 => exact Yl.move rfl rfl
          refine' TA.y (i := 6) #[true, true, true, true, true, true, true, false, false, false, false, false, false, false, false, false, false, false, false, false, false, false, false, false] rfl rfl rfl (by kernel_rfl) (fun _ _ _ h => h) (fun _ h => by exact Hp.sub h (by repeat (first | exact List.Sublist.refl _ | apply List.Sublist.cons))) rfl ?hy24 ?_
          case hy24 => exact Yl.move rfl rfl
          refine' TA.y (i := 7) #[true, true, true, true, true, true, true, true, false, false, false, false, false, false, false, false, false, false, false, false, false, false, false, false] rfl rfl rfl (by kernel_rfl) (fun _ _ _ h => h) (fun _ h => by exact Hp.sub h (by repeat (first | exact List.Sublist.refl _ | apply List.Sublist.cons))) rfl ?hy25 ?_
          case hy25 => exact Yl.move rfl rfl
          refine' TA.y (i := 8) #[true, true, true, true, true, true, true, true, true, false, false, false, false, false, false, false, false, false, false, false, false, false, false, false] rfl rfl rfl (by kernel_rfl) (fun _ _ _ h => h) (fun _ h => by exact Hp.sub h (by repeat (first | exact List.Sublist.refl _ | apply List.Sublist.cons))) rfl ?hy26 ?_
          case hy26 => exact Yl.move rfl rfl
          refine' TA.c (i := 9) #[true, true, true, true, true, true, true, true, true, true, false, false, false, false, false, false, false, false, false, false, false, false, false, false] rfl rfl rfl (by kernel_rfl) (by decide) rfl ?hy27 ?hz27 ?_
          case hy27 => exact Yc.call rfl Try.func16 (by kernel_rfl) rfl rfl (Hp.calls (fun w h => k_rheld w (hS.below h.below) hm (hS2.below h.below) hk t (i : Int)))
          case hz27 => exact (fun _ _ h => by exact Hp.sub h (by repeat (first | exact List.Sublist.refl _ | apply List.Sublist.cons)))
          intro _
          refine' TA.y (i := 10) #[true, true, true, true, true, true, true, true, true, true, true, false, false, false, false, false, false, false, false, false, false, false, false, false] rfl rfl rfl (by kernel_rfl) (fun _ _ _ h => h) (fun _ h => by exact Hp.sub h (by repeat (first | exact List.Sublist.refl _ | apply List.Sublist.cons))) rfl ?hy28 ?_
          case hy28 => exact Yl.not rfl rfl
          refine' TA.y (i := 11) #[true, true, true, true, true, true, true, true, true, true, true, true, false, false, false, false, false, false, false, false, false, false, false, false] rfl rfl rfl (by kernel_rfl) (fun _ _ _ h => h) (fun _ h => by exact Hp.sub h (by repeat (first | exact List.Sublist.refl _ | apply List.Sublist.cons))) rfl ?hy29 ?_
          case hy29 => exact Yl.pickT rfl rfl rfl
          refine' TA.y (i := 12) #[true, true, true, true, true, true, true, true, true, true, true, true, true, false, false, false, false, false, false, false, false, false, false, false] rfl rfl rfl (by kernel_rfl) (fun _ _ _ h => h) (fun _ h => by exact Hp.sub h (by repeat (first | exact List.Sublist.refl _ | apply List.Sublist.cons))) rfl ?hy30 ?_
          case hy30 => exact Yl.move rfl rfl
          refine TA.split (i := 35) rfl (fun hs35 => ?_) (fun hs35 => ?_)
          · skip
            (try simp only [decide_eq_true_eq, decide_eq_false_iff_not, beq_iff_eq, beq_eq_false_iff_ne, bne_iff_ne, ne_eq, bne_eq_false_iff_eq, Bool.not_eq_true', Bool.not_eq_false', Int.not_lt, Int.not_le, gt_iff_lt, ge_iff_le] at hs35)
            refine' TA.y (i := 13) #[true, true, true, true, true, true, true, true, true, true, true, true, true, true, false, false, false, false, false, false, false, false, false, false] rfl rfl rfl (by kernel_rfl) (fun _ _ _ h => h) (fun _ h => by exact Hp.sub h (by repeat (first | exact List.Sublist.refl _ | apply List.Sublist.cons))) rfl ?hy31 ?_
            case hy31 => exact Yl.move rfl rfl
            refine' TA.y (i := 14) #[true, true, true, true, true, true, true, true, true, true, true, true, true, true, true, false, false, false, false, false, false, false, false, false] rfl rfl rfl (by kernel_rfl) (fun _ _ _ h => h) (fun _ h => by exact Hp.sub h (by repeat (first | exact List.Sublist.refl _ | apply List.Sublist.cons))) rfl ?hy32 ?_
            case hy32 => exact Yl.move rfl rfl
            refine' TA.y (i := 15) #[true, true, true, true, true, true, true, true, true, true, true, true, true, true, true, true, false, false, false, false, false, false, false, false] rfl rfl rfl (by kernel_rfl) (fun _ _ _ h => h) (fun _ h => by exact Hp.sub h (by repeat (first | exact List.Sublist.refl _ | apply List.Sublist.cons))) rfl ?hy33 ?_
            case hy33 => first | exact Yl.ixkn (k := 3) rfl rfl rfl Try.underlying28 (by kernel_rfl) (by omega)
            refine' TA.y (i := 16) #[true, true, true, true, true, true, true, true, true, true, true, true, true, true, true, true, true, false, false, false, false, false, false, false] rfl rfl rfl (by kernel_rfl) (fun _ _ _ h => h) (fun _ h => by exact Hp.sub h (by repeat (first | exact List.Sublist.refl _ | apply List.Sublist.cons))) rfl ?hy34 ?_
            case hy34 => first | exact Yl.field0 (k := 0) 1 rfl rfl Try.underlying45 rfl (by kernel_rfl) rfl | exact Yl.field (k := 0) 1 rfl rfl Try.underlying45 rfl (by kernel_rfl) rfl
            refine' TA.y (i := 17) #[true, true, true, true, true, true, true, true, true, true, true, true, true, true, true, true, true, true, false, false, false, false, false, false] rfl rfl rfl (by kernel_rfl) (fun _ _ _ h => h) (fun _ h => by exact Hp.sub h (by repeat (first | exact List.Sublist.refl _ | apply List.Sublist.cons))) rfl ?hy35 ?_
            case hy35 => first | exact Yl.load rfl rfl (by kernel_rfl) (Sl.nws hS (by omega)) | exact Yl.load rfl rfl (by kernel_rfl) (Sl.vw hS2 rfl (by omega) (fun _ h => h)) | exact Yl.load rfl rfl (by kernel_rfl) (Sl.nw hS (i := 0) rfl (by omega) (by decide)) | exact Yl.load rfl rfl (by kernel_rfl) (Sl.nw hS (i := 1) rfl (by omega) (by decide)) | exact Yl.load rfl rfl (by kernel_rfl) (Sl.nw hS (i := 2) rfl (by omega) (by decide)) | exact Yl.load rfl rfl (by kernel_rfl) (Hp.cell mem0 rfl) | exact Yl.load rfl rfl (by kernel_rfl) (Hp.cell mem1 rfl) | exact Yl.load rfl rfl (by kernel_rfl) (Hp.cell mem2 rfl) | exact Yl.load rfl rfl (by kernel_rfl) (Hp.cell mem3 rfl) | exact Yl.load rfl rfl (by kernel_rfl) (Hp.cell mem4 rfl) | exact Yl.load rfl rfl (by kernel_rfl) (Hp.rowAt mem0 (by omega) rfl) | exact Yl.load rfl rfl (by kernel_rfl) (Hp.rowAt mem1 (by omega) rfl) | exact Yl.load rfl rfl (by kernel_rfl) (Hp.rowAt mem2 (by omega) rfl) | exact Yl.load rfl rfl (by kernel_rfl) (Hp.rowAt mem3 (by omega) rfl) | exact Yl.load rfl rfl (by kernel_rfl) (Hp.rowAt mem4 (by omega) rfl)
            refine TA.re (i := 40) (v' := .int .i64 (f i).2.1) rfl rfl ?_
            refine' TA.y (i := 18) #[true, true, true, true, true, true, true, true, true, true, true, true, true, true, true, true, true, true, true, false, false, false, false, false] rfl rfl rfl (by kernel_rfl) (fun _ _ _ h => h) (fun _ h => by exact Hp.sub h (by repeat (first | exact List.Sublist.refl _ | apply List.Sublist.cons))) rfl ?hy36 ?_
            case hy36 => exact Yl.move rfl rfl
            refine' TA.y (i := 19) #[true, true, true, true, true, true, true, true, true, true, true, true, true, true, true, true, true, true, true, true, false, false, false, false] rfl rfl rfl (by kernel_rfl) (fun _ _ _ h => h) (fun _ h => by exact Hp.sub h (by repeat (first | exact List.Sublist.refl _ | apply List.Sublist.cons))) rfl ?hy37 ?_
            case hy37 => exact Yl.move rfl rfl
            refine' TA.y (i := 20) #[true, true, true, true, true, true, true, true, true, true, true, true, true, true, true, true, true, true, true, true, true, false, false, false] rfl rfl rfl (by kernel_rfl) (fun _ _ _ h => h) (fun _ h => by exact Hp.sub h (by repeat (first | exact List.Sublist.refl _ | apply List.Sublist.cons))) rfl ?hy38 ?_
            case hy38 => first | exact Yl.ixn rfl rfl rfl Try.underlying25 (by kernel_rfl) (by omega) | exact Yl.ixz rfl rfl rfl Try.underlying25 (by kernel_rfl) (by omega) (by omega) | exact Yl.ixcn rfl rfl rfl Try.underlying25 (by kernel_rfl) (by omega) | exact Yl.ixcz rfl rfl rfl Try.underlying25 (by kernel_rfl) (by omega) (by omega)
            refine' TA.y (i := 21) #[true, true, true, true, true, true, true, true, true, true, true, true, true, true, true, true, true, true, true, true, true, true, false, false] rfl rfl rfl (by kernel_rfl) (fun _ _ _ h => h) (fun _ h => by exact Hp.sub h (by repeat (first | exact List.Sublist.refl _ | apply List.Sublist.cons))) rfl ?hy39 ?_
            case hy39 => first | exact Yl.load rfl rfl (by kernel_rfl) (Sl.nws hS (by omega)) | exact Yl.load rfl rfl (by kernel_rfl) (Sl.vw hS2 rfl (by omega) (fun _ h => h)) | exact Yl.load rfl rfl (by kernel_rfl) (Sl.nw hS (i := 0) rfl (by omega) (by decide)) | exact Yl.load rfl rfl (by kernel_rfl) (Sl.nw hS (i := 1) rfl (by omega) (by decide)) | exact Yl.load rfl rfl (by kernel_rfl) (Sl.nw hS (i := 2) rfl (by omega) (by decide)) | exact Yl.load rfl rfl (by kernel_rfl) (Hp.cell mem0 rfl) | exact Yl.load rfl rfl (by kernel_rfl) (Hp.cell mem1 rfl) | exact Yl.load rfl rfl (by kernel_rfl) (Hp.cell mem2 rfl) | exact Yl.load rfl rfl (by kernel_rfl) (Hp.cell mem3 rfl) | exact Yl.load rfl rfl (by kernel_rfl) (Hp.cell mem4 rfl) | exact Yl.load rfl rfl (by kernel_rfl) (Hp.rowAt mem0 (by omega) rfl) | exact Yl.load rfl rfl (by kernel_rfl) (Hp.rowAt mem1 (by omega) rfl) | exact Yl.load rfl rfl (by kernel_rfl) (Hp.rowAt mem2 (by omega) rfl) | exact Yl.load rfl rfl (by kernel_rfl) (Hp.rowAt mem3 (by omega) rfl) | exact Yl.load rfl rfl (by kernel_rfl) (Hp.rowAt mem4 (by omega) rfl)
            refine' TA.y (i := 22) #[true, true, true, true, true, true, true, true, true, true, true, true, true, true, true, true, true, true, true, true, true, true, true, false] rfl rfl rfl (by kernel_rfl) (fun _ _ _ h => h) (fun _ h => by exact Hp.sub h (by repeat (first | exact List.Sublist.refl _ | apply List.Sublist.cons))) rfl ?hy40 ?_
            case hy40 => exact Yl.bin rfl rfl rfl (Bin.gtr _ _ _ _)
            refine' TA.y (i := 23) #[true, true, true, true, true, true, true, true, true, true, true, true, true, true, true, true, true, true, true, true, true, true, true, true] rfl rfl rfl (by kernel_rfl) (fun _ _ _ h => h) (fun _ h => by exact Hp.sub h (by repeat (first | exact List.Sublist.refl _ | apply List.Sublist.cons))) rfl ?hy41 ?_
            case hy41 => exact Yl.pickT rfl rfl rfl
            refine TA.done (by kernel_rfl) ?_
            refine TE.next ?_
            refine TC.cond rfl (fun hs46 => ?_) (fun hs46 => ?_)
            · skip
              (try simp only [decide_eq_true_eq, decide_eq_false_iff_not, beq_iff_eq, beq_eq_false_iff_ne, bne_iff_ne, ne_eq, bne_eq_false_iff_eq, Bool.not_eq_true', Bool.not_eq_false', Int.not_lt, Int.not_le, gt_iff_lt, ge_iff_le] at hs46)
              have hov : ovV m f k ef t i = (f i).2.1 - ef i := by unfold ovV; rw [show blV f t (m + 1) (i : Int) = true by simpa using hs27, show heldV m f k ef t (i : Int) = false by simpa using hs35]; simp; omega
              refine TC.draw (k := 14) _ [13] #[false, false, false, false, false, false, false, false, false, false, false, false, false, false] (by kernel_rfl) rfl rfl (fun _ h => h.drew) (fun _ h => h) ?_
              refine' TA.p (i := 0) #[true, false, false, false, false, false, false, false, false, false, false, false, false, false] rfl rfl rfl (by kernel_rfl) (fun _ _ _ h => h) rfl ?hy42 ?_
              case hy42 => exact Yl.move rfl rfl
              refine' TA.p (i := 1) #[true, true, false, false, false, false, false, false, false, false, false, false, false, false] rfl rfl rfl (by kernel_rfl) (fun _ _ _ h => h) rfl ?hy43 ?_
              case hy43 => exact Yl.move rfl rfl
              refine' TA.p (i := 2) #[true, true, true, false, false, false, false, false, false, false, false, false, false, false] rfl rfl rfl (by kernel_rfl) (fun _ _ _ h => h) rfl ?hy44 ?_
              case hy44 => exact Yl.move rfl rfl
              refine' TA.p (i := 3) #[true, true, true, true, false, false, false, false, false, false, false, false, false, false] rfl rfl rfl (by kernel_rfl) (fun _ _ _ h => h) rfl ?hy45 ?_
              case hy45 => exact Yl.move rfl rfl
              refine' TA.p (i := 4) #[true, true, true, true, true, false, false, false, false, false, false, false, false, false] rfl rfl rfl (by kernel_rfl) (fun _ _ _ h => h) rfl ?hy46 ?_
              case hy46 => first | exact Yl.ixkn (k := 3) rfl rfl rfl Try.underlying28 (by kernel_rfl) (by omega)
              refine' TA.p (i := 5) #[true, true, true, true, true, true, false, false, false, false, false, false, false, false] rfl rfl rfl (by kernel_rfl) (fun _ _ _ h => h) rfl ?hy47 ?_
              case hy47 => first | exact Yl.field0 (k := 0) 1 rfl rfl Try.underlying45 rfl (by kernel_rfl) rfl | exact Yl.field (k := 0) 1 rfl rfl Try.underlying45 rfl (by kernel_rfl) rfl
              refine' TA.y (i := 6) #[true, true, true, true, true, true, true, false, false, false, false, false, false, false] rfl rfl rfl (by kernel_rfl) (fun _ _ _ h => h) (fun _ h => by exact Hp.sub h (by repeat (first | exact List.Sublist.refl _ | apply List.Sublist.cons))) rfl ?hy48 ?_
              case hy48 => first | exact Yl.load rfl rfl (by kernel_rfl) (Sl.nws hS (by omega)) | exact Yl.load rfl rfl (by kernel_rfl) (Sl.vw hS2 rfl (by omega) (fun _ h => h)) | exact Yl.load rfl rfl (by kernel_rfl) (Sl.nw hS (i := 0) rfl (by omega) (by decide)) | exact Yl.load rfl rfl (by kernel_rfl) (Sl.nw hS (i := 1) rfl (by omega) (by decide)) | exact Yl.load rfl rfl (by kernel_rfl) (Sl.nw hS (i := 2) rfl (by omega) (by decide)) | exact Yl.load rfl rfl (by kernel_rfl) (Hp.cell mem0 rfl) | exact Yl.load rfl rfl (by kernel_rfl) (Hp.cell mem1 rfl) | exact Yl.load rfl rfl (by kernel_rfl) (Hp.cell mem2 rfl) | exact Yl.load rfl rfl (by kernel_rfl) (Hp.cell mem3 rfl) | exact Yl.load rfl rfl (by kernel_rfl) (Hp.cell mem4 rfl) | exact Yl.load rfl rfl (by kernel_rfl) (Hp.rowAt mem0 (by omega) rfl) | exact Yl.load rfl rfl (by kernel_rfl) (Hp.rowAt mem1 (by omega) rfl) | exact Yl.load rfl rfl (by kernel_rfl) (Hp.rowAt mem2 (by omega) rfl) | exact Yl.load rfl rfl (by kernel_rfl) (Hp.rowAt mem3 (by omega) rfl) | exact Yl.load rfl rfl (by kernel_rfl) (Hp.rowAt mem4 (by omega) rfl)
              refine TA.re (i := 53) (v' := .int .i64 (f i).2.1) rfl rfl ?_
              refine' TA.p (i := 7) #[true, true, true, true, true, true, true, true, false, false, false, false, false, false] rfl rfl rfl (by kernel_rfl) (fun _ _ _ h => h) rfl ?hy49 ?_
              case hy49 => exact Yl.move rfl rfl
              refine' TA.p (i := 8) #[true, true, true, true, true, true, true, true, true, false, false, false, false, false] rfl rfl rfl (by kernel_rfl) (fun _ _ _ h => h) rfl ?hy50 ?_
              case hy50 => exact Yl.move rfl rfl
              refine' TA.p (i := 9) #[true, true, true, true, true, true, true, true, true, true, false, false, false, false] rfl rfl rfl (by kernel_rfl) (fun _ _ _ h => h) rfl ?hy51 ?_
              case hy51 => first | exact Yl.ixn rfl rfl rfl Try.underlying25 (by kernel_rfl) (by omega) | exact Yl.ixz rfl rfl rfl Try.underlying25 (by kernel_rfl) (by omega) (by omega) | exact Yl.ixcn rfl rfl rfl Try.underlying25 (by kernel_rfl) (by omega) | exact Yl.ixcz rfl rfl rfl Try.underlying25 (by kernel_rfl) (by omega) (by omega)
              refine' TA.y (i := 10) #[true, true, true, true, true, true, true, true, true, true, true, false, false, false] rfl rfl rfl (by kernel_rfl) (fun _ _ _ h => h) (fun _ h => by exact Hp.sub h (by repeat (first | exact List.Sublist.refl _ | apply List.Sublist.cons))) rfl ?hy52 ?_
              case hy52 => first | exact Yl.load rfl rfl (by kernel_rfl) (Sl.nws hS (by omega)) | exact Yl.load rfl rfl (by kernel_rfl) (Sl.vw hS2 rfl (by omega) (fun _ h => h)) | exact Yl.load rfl rfl (by kernel_rfl) (Sl.nw hS (i := 0) rfl (by omega) (by decide)) | exact Yl.load rfl rfl (by kernel_rfl) (Sl.nw hS (i := 1) rfl (by omega) (by decide)) | exact Yl.load rfl rfl (by kernel_rfl) (Sl.nw hS (i := 2) rfl (by omega) (by decide)) | exact Yl.load rfl rfl (by kernel_rfl) (Hp.cell mem0 rfl) | exact Yl.load rfl rfl (by kernel_rfl) (Hp.cell mem1 rfl) | exact Yl.load rfl rfl (by kernel_rfl) (Hp.cell mem2 rfl) | exact Yl.load rfl rfl (by kernel_rfl) (Hp.cell mem3 rfl) | exact Yl.load rfl rfl (by kernel_rfl) (Hp.cell mem4 rfl) | exact Yl.load rfl rfl (by kernel_rfl) (Hp.rowAt mem0 (by omega) rfl) | exact Yl.load rfl rfl (by kernel_rfl) (Hp.rowAt mem1 (by omega) rfl) | exact Yl.load rfl rfl (by kernel_rfl) (Hp.rowAt mem2 (by omega) rfl) | exact Yl.load rfl rfl (by kernel_rfl) (Hp.rowAt mem3 (by omega) rfl) | exact Yl.load rfl rfl (by kernel_rfl) (Hp.rowAt mem4 (by omega) rfl)
              refine' TA.p (i := 11) #[true, true, true, true, true, true, true, true, true, true, true, true, false, false] rfl rfl rfl (by kernel_rfl) (fun _ _ _ h => h) rfl ?hy53 ?_
              case hy53 => first | (refine Yl.val (Yl.bin rfl rfl rfl (Bin.sub _ _ _ _)) (congrArg (Value.int .i64) (i64in ?_ ?_)) <;> omega) | exact Yl.bin rfl rfl rfl (Bin.sub _ _ _ _)
              refine' TA.p (i := 12) #[true, true, true, true, true, true, true, true, true, true, true, true, true, false] rfl rfl rfl (by kernel_rfl) (fun _ _ _ h => h) rfl ?hy54 ?_
              case hy54 => first | exact Yl.ixn rfl rfl rfl Try.underlying25 (by kernel_rfl) (by omega) | exact Yl.ixz rfl rfl rfl Try.underlying25 (by kernel_rfl) (by omega) (by omega) | exact Yl.ixcn rfl rfl rfl Try.underlying25 (by kernel_rfl) (by omega) | exact Yl.ixcz rfl rfl rfl Try.underlying25 (by kernel_rfl) (by omega) (by omega)
              refine' TA.sl (i := 13) #[true, true, true, true, true, true, true, true, true, true, true, true, true, true] rfl rfl (by kernel_rfl) (by decide) rfl ?hy55 ?_
              case hy55 => first | exact Ys.vw rfl rfl rfl (by kernel_rfl) foc0 (by omega) | exact Ys.vw rfl rfl rfl (by kernel_rfl) foc1 (by omega)
              refine TA.done (by kernel_rfl) ?_
              refine TE.inNormal ?_
              refine TE.next ?_
              refine TC.region ?_
              refine' TL.y rfl rfl rfl ?hy56 ?_
              case hy56 => exact Yl.move rfl rfl
              refine' TL.y rfl rfl rfl ?hy57 ?_
              case hy57 => first | (refine Yl.val (Yl.bin rfl rfl rfl (Bin.add _ _ _ _)) (congrArg (Value.int .i64) (i64in ?_ ?_)) <;> omega) | exact Yl.bin rfl rfl rfl (Bin.add _ _ _ _)
              refine' TL.y rfl rfl rfl ?hy58 ?_
              case hy58 => exact Yl.assign rfl rfl
              refine TL.nil ?_
              refine TE.round (i + 1) ?hF59 ?hlt59 ?hs59 ?hm59
              case hF59 => omega
              case hlt59 => omega
              case hs59 => exact ⟨rfl, rfl, rfl, rfl, rfl, trivial⟩
              case hm59 => exact (fun w h => (h).vwc (fun j hj => by
                  show upI _ _ _ j = _
                  unfold upI; dsimp only
                  by_cases e : j = i
                  · rw [if_pos e]; exact hov.symm.trans (by rw [if_pos (by omega), e])
                  · rw [if_neg e]
                    by_cases e2 : j < i
                    · rw [if_pos e2, if_pos (by omega)]
                    · rw [if_neg e2, if_neg (by omega)]))
            · skip
              (try simp only [decide_eq_true_eq, decide_eq_false_iff_not, beq_iff_eq, beq_eq_false_iff_ne, bne_iff_ne, ne_eq, bne_eq_false_iff_eq, Bool.not_eq_true', Bool.not_eq_false', Int.not_lt, Int.not_le, gt_iff_lt, ge_iff_le] at hs46)
              have hov : ovV m f k ef t i = 0 := by unfold ovV; rw [show blV f t (m + 1) (i : Int) = true by simpa using hs27, show heldV m f k ef t (i : Int) = false by simpa using hs35]; simp; omega
              refine TC.skip ?_
              refine TE.inNormal ?_
              refine TE.next ?_
              refine TC.region ?_
              refine' TL.y rfl rfl rfl ?hy60 ?_
              case hy60 => exact Yl.move rfl rfl
              refine' TL.y rfl rfl rfl ?hy61 ?_
              case hy61 => first | (refine Yl.val (Yl.bin rfl rfl rfl (Bin.add _ _ _ _)) (congrArg (Value.int .i64) (i64in ?_ ?_)) <;> omega) | exact Yl.bin rfl rfl rfl (Bin.add _ _ _ _)
              refine' TL.y rfl rfl rfl ?hy62 ?_
              case hy62 => exact Yl.assign rfl rfl
              refine TL.nil ?_
              refine TE.round (i + 1) ?hF63 ?hlt63 ?hs63 ?hm63
              case hF63 => omega
              case hlt63 => omega
              case hs63 => exact ⟨rfl, rfl, rfl, rfl, rfl, trivial⟩
              case hm63 => exact (fun w h => (h).vwc (fun j hj => by
                  by_cases e : j = i
                  · rw [if_neg (by omega), if_pos (by omega), e]; exact hov.symm
                  · by_cases e2 : j < i
                    · rw [if_pos e2, if_pos (by omega)]
                    · rw [if_neg e2, if_neg (by omega)]))
          · skip
            (try simp only [decide_eq_true_eq, decide_eq_false_iff_not, beq_iff_eq, beq_eq_false_iff_ne, bne_iff_ne, ne_eq, bne_eq_false_iff_eq, Bool.not_eq_true', Bool.not_eq_false', Int.not_lt, Int.not_le, gt_iff_lt, ge_iff_le] at hs35)
            have hov : ovV m f k ef t i = 0 := by unfold ovV; rw [show heldV m f k ef t (i : Int) = true by simpa using hs35]; simp
            refine TA.skip (i := 13) #[true, true, true, true, true, true, true, true, true, true, true, true, true, true, false, false, false, false, false, false, false, false, false, false] rfl rfl rfl (by kernel_rfl) (fun _ _ _ h => h) rfl ?_
            refine TA.skip (i := 14) #[true, true, true, true, true, true, true, true, true, true, true, true, true, true, true, false, false, false, false, false, false, false, false, false] rfl rfl rfl (by kernel_rfl) (fun _ _ _ h => h) rfl ?_
            refine TA.skip (i := 15) #[true, true, true, true, true, true, true, true, true, true, true, true, true, true, true, true, false, false, false, false, false, false, false, false] rfl rfl rfl (by kernel_rfl) (fun _ _ _ h => h) rfl ?_
            refine TA.skip (i := 16) #[true, true, true, true, true, true, true, true, true, true, true, true, true, true, true, true, true, false, false, false, false, false, false, false] rfl rfl rfl (by kernel_rfl) (fun _ _ _ h => h) rfl ?_
            refine TA.skip (i := 17) #[true, true, true, true, true, true, true, true, true, true, true, true, true, true, true, true, true, true, false, false, false, false, false, false] rfl rfl rfl (by kernel_rfl) (fun _ _ _ h => h) rfl ?_
            refine TA.skip (i := 18) #[true, true, true, true, true, true, true, true, true, true, true, true, true, true, true, true, true, true, true, false, false, false, false, false] rfl rfl rfl (by kernel_rfl) (fun _ _ _ h => h) rfl ?_
            refine TA.skip (i := 19) #[true, true, true, true, true, true, true, true, true, true, true, true, true, true, true, true, true, true, true, true, false, false, false, false] rfl rfl rfl (by kernel_rfl) (fun _ _ _ h => h) rfl ?_
            refine TA.skip (i := 20) #[true, true, true, true, true, true, true, true, true, true, true, true, true, true, true, true, true, true, true, true, true, false, false, false] rfl rfl rfl (by kernel_rfl) (fun _ _ _ h => h) rfl ?_
            refine TA.skip (i := 21) #[true, true, true, true, true, true, true, true, true, true, true, true, true, true, true, true, true, true, true, true, true, true, false, false] rfl rfl rfl (by kernel_rfl) (fun _ _ _ h => h) rfl ?_
            refine TA.skip (i := 22) #[true, true, true, true, true, true, true, true, true, true, true, true, true, true, true, true, true, true, true, true, true, true, true, false] rfl rfl rfl (by kernel_rfl) (fun _ _ _ h => h) rfl ?_
            refine' TA.y (i := 23) #[true, true, true, true, true, true, true, true, true, true, true, true, true, true, true, true, true, true, true, true, true, true, true, true] rfl rfl rfl (by kernel_rfl) (fun _ _ _ h => h) (fun _ h => by exact Hp.sub h (by repeat (first | exact List.Sublist.refl _ | apply List.Sublist.cons))) rfl ?hy64 ?_
            case hy64 => exact Yl.pickF rfl rfl rfl
            refine TA.done (by kernel_rfl) ?_
            refine TE.next ?_
            refine TC.no rfl rfl ?_
            refine TC.skip ?_
            refine TE.inNormal ?_
            refine TE.next ?_
            refine TC.region ?_
            refine' TL.y rfl rfl rfl ?hy65 ?_
            case hy65 => exact Yl.move rfl rfl
            refine' TL.y rfl rfl rfl ?hy66 ?_
            case hy66 => first | (refine Yl.val (Yl.bin rfl rfl rfl (Bin.add _ _ _ _)) (congrArg (Value.int .i64) (i64in ?_ ?_)) <;> omega) | exact Yl.bin rfl rfl rfl (Bin.add _ _ _ _)
            refine' TL.y rfl rfl rfl ?hy67 ?_
            case hy67 => exact Yl.assign rfl rfl
            refine TL.nil ?_
            refine TE.round (i + 1) ?hF68 ?hlt68 ?hs68 ?hm68
            case hF68 => omega
            case hlt68 => omega
            case hs68 => exact ⟨rfl, rfl, rfl, rfl, rfl, trivial⟩
            case hm68 => exact (fun w h => (h).vwc (fun j hj => by
                by_cases e : j = i
                · rw [if_neg (by omega), if_pos (by omega), e]; exact hov.symm
                · by_cases e2 : j < i
                  · rw [if_pos e2, if_pos (by omega)]
                  · rw [if_neg e2, if_neg (by omega)]))
        · skip
          (try simp only [decide_eq_true_eq, decide_eq_false_iff_not, beq_iff_eq, beq_eq_false_iff_ne, bne_iff_ne, ne_eq, bne_eq_false_iff_eq, Bool.not_eq_true', Bool.not_eq_false', Int.not_lt, Int.not_le, gt_iff_lt, ge_iff_le] at hs27)
          have hov : ovV m f k ef t i = 0 := by unfold ovV; rw [show blV f t (m + 1) (i : Int) = false by simpa using hs27]; rfl
          refine TA.skip (i := 5) #[true, true, true, true, true, true, false, false, false, false, false, false, false, false, false, false, false, false, false, false, false, false, false, false] rfl rfl rfl (by kernel_rfl) (fun _ _ _ h => h) rfl ?_
          refine TA.skip (i := 6) #[true, true, true, true, true, true, true, false, false, false, false, false, false, false, false, false, false, false, false, false, false, false, false, false] rfl rfl rfl (by kernel_rfl) (fun _ _ _ h => h) rfl ?_
          refine TA.skip (i := 7) #[true, true, true, true, true, true, true, true, false, false, false, false, false, false, false, false, false, false, false, false, false, false, false, false] rfl rfl rfl (by kernel_rfl) (fun _ _ _ h => h) rfl ?_
          refine TA.skip (i := 8) #[true, true, true, true, true, true, true, true, true, false, false, false, false, false, false, false, false, false, false, false, false, false, false, false] rfl rfl rfl (by kernel_rfl) (fun _ _ _ h => h) rfl ?_
          refine TA.skip (i := 9) #[true, true, true, true, true, true, true, true, true, true, false, false, false, false, false, false, false, false, false, false, false, false, false, false] rfl rfl rfl (by kernel_rfl) (fun _ _ _ h => h) rfl ?_
          refine TA.skip (i := 10) #[true, true, true, true, true, true, true, true, true, true, true, false, false, false, false, false, false, false, false, false, false, false, false, false] rfl rfl rfl (by kernel_rfl) (fun _ _ _ h => h) rfl ?_
          refine' TA.y (i := 11) #[true, true, true, true, true, true, true, true, true, true, true, true, false, false, false, false, false, false, false, false, false, false, false, false] rfl rfl rfl (by kernel_rfl) (fun _ _ _ h => h) (fun _ h => by exact Hp.sub h (by repeat (first | exact List.Sublist.refl _ | apply List.Sublist.cons))) rfl ?hy69 ?_
          case hy69 => exact Yl.pickF rfl rfl rfl
          refine' TA.y (i := 12) #[true, true, true, true, true, true, true, true, true, true, true, true, true, false, false, false, false, false, false, false, false, false, false, false] rfl rfl rfl (by kernel_rfl) (fun _ _ _ h => h) (fun _ h => by exact Hp.sub h (by repeat (first | exact List.Sublist.refl _ | apply List.Sublist.cons))) rfl ?hy70 ?_
          case hy70 => exact Yl.move rfl rfl
          refine TA.skip (i := 13) #[true, true, true, true, true, true, true, true, true, true, true, true, true, true, false, false, false, false, false, false, false, false, false, false] rfl rfl rfl (by kernel_rfl) (fun _ _ _ h => h) rfl ?_
          refine TA.skip (i := 14) #[true, true, true, true, true, true, true, true, true, true, true, true, true, true, true, false, false, false, false, false, false, false, false, false] rfl rfl rfl (by kernel_rfl) (fun _ _ _ h => h) rfl ?_
          refine TA.skip (i := 15) #[true, true, true, true, true, true, true, true, true, true, true, true, true, true, true, true, false, false, false, false, false, false, false, false] rfl rfl rfl (by kernel_rfl) (fun _ _ _ h => h) rfl ?_
          refine TA.skip (i := 16) #[true, true, true, true, true, true, true, true, true, true, true, true, true, true, true, true, true, false, false, false, false, false, false, false] rfl rfl rfl (by kernel_rfl) (fun _ _ _ h => h) rfl ?_
          refine TA.skip (i := 17) #[true, true, true, true, true, true, true, true, true, true, true, true, true, true, true, true, true, true, false, false, false, false, false, false] rfl rfl rfl (by kernel_rfl) (fun _ _ _ h => h) rfl ?_
          refine TA.skip (i := 18) #[true, true, true, true, true, true, true, true, true, true, true, true, true, true, true, true, true, true, true, false, false, false, false, false] rfl rfl rfl (by kernel_rfl) (fun _ _ _ h => h) rfl ?_
          refine TA.skip (i := 19) #[true, true, true, true, true, true, true, true, true, true, true, true, true, true, true, true, true, true, true, true, false, false, false, false] rfl rfl rfl (by kernel_rfl) (fun _ _ _ h => h) rfl ?_
          refine TA.skip (i := 20) #[true, true, true, true, true, true, true, true, true, true, true, true, true, true, true, true, true, true, true, true, true, false, false, false] rfl rfl rfl (by kernel_rfl) (fun _ _ _ h => h) rfl ?_
          refine TA.skip (i := 21) #[true, true, true, true, true, true, true, true, true, true, true, true, true, true, true, true, true, true, true, true, true, true, false, false] rfl rfl rfl (by kernel_rfl) (fun _ _ _ h => h) rfl ?_
          refine TA.skip (i := 22) #[true, true, true, true, true, true, true, true, true, true, true, true, true, true, true, true, true, true, true, true, true, true, true, false] rfl rfl rfl (by kernel_rfl) (fun _ _ _ h => h) rfl ?_
          refine' TA.y (i := 23) #[true, true, true, true, true, true, true, true, true, true, true, true, true, true, true, true, true, true, true, true, true, true, true, true] rfl rfl rfl (by kernel_rfl) (fun _ _ _ h => h) (fun _ h => by exact Hp.sub h (by repeat (first | exact List.Sublist.refl _ | apply List.Sublist.cons))) rfl ?hy71 ?_
          case hy71 => exact Yl.pickF rfl rfl rfl
          refine TA.done (by kernel_rfl) ?_
          refine TE.next ?_
          refine TC.no rfl rfl ?_
          refine TC.skip ?_
          refine TE.inNormal ?_
          refine TE.next ?_
          refine TC.region ?_
          refine' TL.y rfl rfl rfl ?hy72 ?_
          case hy72 => exact Yl.move rfl rfl
          refine' TL.y rfl rfl rfl ?hy73 ?_
          case hy73 => first | (refine Yl.val (Yl.bin rfl rfl rfl (Bin.add _ _ _ _)) (congrArg (Value.int .i64) (i64in ?_ ?_)) <;> omega) | exact Yl.bin rfl rfl rfl (Bin.add _ _ _ _)
          refine' TL.y rfl rfl rfl ?hy74 ?_
          case hy74 => exact Yl.assign rfl rfl
          refine TL.nil ?_
          refine TE.round (i + 1) ?hF75 ?hlt75 ?hs75 ?hm75
          case hF75 => omega
          case hlt75 => omega
          case hs75 => exact ⟨rfl, rfl, rfl, rfl, rfl, trivial⟩
          case hm75 => exact (fun w h => (h).vwc (fun j hj => by
              by_cases e : j = i
              · rw [if_neg (by omega), if_pos (by omega), e]; exact hov.symm
              · by_cases e2 : j < i
                · rw [if_pos e2, if_pos (by omega)]
                · rw [if_neg e2, if_neg (by omega)]))
      · skip
        (try simp only [decide_eq_true_eq, decide_eq_false_iff_not, beq_iff_eq, beq_eq_false_iff_ne, bne_iff_ne, ne_eq, bne_eq_false_iff_eq, Bool.not_eq_true', Bool.not_eq_false', Int.not_lt, Int.not_le, gt_iff_lt, ge_iff_le] at hs20)
        refine TC.exit ?_
        refine TE.thenExit ?_
        refine TE.thenExit ?_
        refine TE.inHere ?_
        refine TE.next ?_
        refine TC.seq ?_
        refine TC.region ?_
        refine' TL.y rfl rfl rfl ?hy76 ?_
        case hy76 => exact Yl.move rfl rfl
        refine' TL.y rfl rfl rfl ?hy77 ?_
        case hy77 => exact Yl.assign rfl rfl
        refine TL.nil ?_
        refine TE.next ?_
        refine TC.ret ?_
        refine TE.ret1 rfl rfl ?_
        obtain rfl : i = m := by omega
        exact fun w h => ⟨_, rfl, by rw [show lenO i f k t = i from if_pos hr]; exact (h.vwc (fun j hj => if_pos hj)).leaveNew⟩
end Go.Proofs.Ytipdpmmjmlimhaa.Pk
