/- All. -/
import Derived.Test.YthjllhaebanplaaShW
import Derived.Test.YthjllhaebanplaaProg
import Derived.RowKit3
namespace Go.Proofs.Ythjllhaebanplaa.Pk
open Go Go.RowKit Go.Proofs.Ythjllhaebanplaa.HL Go.Proofs.Ythjllhaebanplaa.Ev Go.Proofs.YthjllhaebanplaaW.PrintWords Go.Proofs.ShP
set_option linter.unusedVariables false
set_option linter.unusedSimpArgs false
attribute [local irreducible] sumF Vw splitF capF
theorem qw {n : Int} {m : Nat} {u : Nat → Int} {i : Nat} (hok : Ok n m u) (hs : 0 < sumF u m) (hi : i < m) : IntKind.i64.wrap ((n * u i).tdiv (sumF u m)) = qF n (sumF u m) u i := by
  have h := hok.qr hs hi
  have h2 := hok.mul hi
  rw [Int.tdiv_eq_ediv_of_nonneg h2.1]
  exact i64in (by show _ ≤ qF n (sumF u m) u i; omega) (by show qF n (sumF u m) u i ≤ _; omega)
attribute [local irreducible] qF
set_option maxRecDepth 100000 in
set_option maxHeartbeats 2000000 in
theorem law_all (W : World) {m : Nat} {u : Nat → Int} {A : Option Addr} {cp : Nat} (hS : Sl W A (Vw m u)) (hm : m ≤ 9223372036854775807) (n : Int) : Calls Try.prog 5 #[.int .i64 n, .slice A m cp] W fun e w' => e = .returned (.bool true) ∧ Below W.heap.size W w' := by
  have hM : Hp W (fun _ => False) [] W := Hp.start
  refine TC.enter (n := 121) Try.func5 rfl rfl rfl hM ?_
  refine TC.seq ?_
  refine TC.region ?_
  refine' TL.y rfl rfl rfl ?hy1 ?_
  case hy1 => exact Yl.assign rfl rfl
  refine TL.nil ?_
  refine TE.next ?_
  refine TC.seq ?_
  refine TC.region ?_
  refine' TL.c rfl rfl rfl ?hy2 ?_
  case hy2 => exact Yc.call rfl Try.func9 (by kernel_rfl) rfl rfl (Hp.calls (fun w h => k_works w))
  intro _
  refine' TL.y rfl rfl rfl ?hy3 ?_
  case hy3 => exact Yl.assign rfl rfl
  refine TL.nil ?_
  refine TE.next ?_
  refine TC.seq ?_
  refine TC.seq ?_
  refine TC.region ?_
  refine' TL.y rfl rfl rfl ?hy4 ?_
  case hy4 => exact Yl.move rfl rfl
  refine' TL.y rfl rfl rfl ?hy5 ?_
  case hy5 => exact Yl.not rfl rfl
  refine TL.nil ?_
  refine TE.next ?_
  refine TC.no rfl rfl ?_
  refine TC.skip ?_
  refine TE.next ?_
  refine TC.seq ?_
  refine TC.seq ?_
  refine TC.region ?_
  refine' TL.y rfl rfl rfl ?hy6 ?_
  case hy6 => exact Yl.move rfl rfl
  refine' TL.y rfl rfl rfl ?hy7 ?_
  case hy7 => exact Yl.move rfl rfl
  refine' TL.c rfl rfl rfl ?hy8 ?_
  case hy8 => exact Yc.call rfl Try.func17 (by kernel_rfl) rfl rfl (Hp.calls (fun w h => k_rright w (hS.below h.below) hm n))
  intro _
  refine' TL.y rfl rfl rfl ?hy9 ?_
  case hy9 => exact Yl.not rfl rfl
  refine TL.nil ?_
  refine TE.next ?_
  refine TC.cond rfl (fun hs17 => ?_) (fun hs17 => ?_)
  · skip
    (try simp only [decide_eq_true_eq, decide_eq_false_iff_not, beq_iff_eq, beq_eq_false_iff_ne, bne_iff_ne, ne_eq, bne_eq_false_iff_eq, Bool.not_eq_true', Bool.not_eq_false', Int.not_lt, Int.not_le, gt_iff_lt, ge_iff_le] at hs17)
    have hno : ¬ Ok n m u := by simpa using hs17
    refine TC.seq ?_
    refine TC.region ?_
    refine' TL.y rfl rfl rfl ?hy10 ?_
    case hy10 => exact Yl.move rfl rfl
    refine' TL.y rfl rfl rfl ?hy11 ?_
    case hy11 => exact Yl.move rfl rfl
    refine' TL.y rfl rfl rfl ?hy12 ?_
    case hy12 => exact Yl.move rfl rfl
    refine' TL.y rfl rfl rfl ?hy13 ?_
    case hy13 => exact Yl.move rfl rfl
    refine' TL.c rfl rfl rfl ?hy14 ?_
    case hy14 => exact Yc.call rfl Try.func11 (by kernel_rfl) rfl rfl (Hp.news (fun w h => k_split w (hS.below h.below) hm n))
    intro v22
    rw [lenR_no hno]
    refine TL.fact (fun w h => h.ownSl mem0) ?_
    rintro ⟨A22, c22, rfl⟩
    refine' TL.y rfl rfl rfl ?hy15 ?_
    case hy15 => exact Yl.len rfl rfl Try.underlying22
    refine' TL.y rfl rfl rfl ?hy16 ?_
    case hy16 => exact Yl.bin rfl rfl rfl (Bin.eql _ _ _ _)
    refine' TL.y rfl rfl rfl ?hy17 ?_
    case hy17 => exact Yl.pickT rfl rfl rfl
    refine' TL.y rfl rfl rfl ?hy18 ?_
    case hy18 => exact Yl.assign rfl rfl
    refine TL.nil ?_
    refine TE.next ?_
    refine TC.ret ?_
    refine TE.thenRet ?_
    refine TE.ret1 rfl rfl ?_
    exact fun w h => ⟨by simp, (h.sub (List.nil_sublist _)).below⟩
  · skip
    (try simp only [decide_eq_true_eq, decide_eq_false_iff_not, beq_iff_eq, beq_eq_false_iff_ne, bne_iff_ne, ne_eq, bne_eq_false_iff_eq, Bool.not_eq_true', Bool.not_eq_false', Int.not_lt, Int.not_le, gt_iff_lt, ge_iff_le] at hs17)
    have hok : Ok n m u := by by_cases e : Ok n m u; exact e; simp [e] at hs17
    have hm64 := hok.m1
    have hs1 := hok.s1
    have hs0 := hok.s0
    have hn0 := hok.n0
    have hn1 := hok.n1
    refine TC.skip ?_
    refine TE.next ?_
    refine TC.seq ?_
    refine TC.region ?_
    refine' TL.y rfl rfl rfl ?hy19 ?_
    case hy19 => exact Yl.move rfl rfl
    refine' TL.y rfl rfl rfl ?hy20 ?_
    case hy20 => exact Yl.move rfl rfl
    refine' TL.c rfl rfl rfl ?hy21 ?_
    case hy21 => exact Yc.call rfl Try.func11 (by kernel_rfl) rfl rfl (Hp.news (fun w h => k_split w (hS.below h.below) hm n))
    intro v28
    rw [lenR_ok hok]
    refine TL.fact (fun w h => h.ownSl mem0) ?_
    rintro ⟨A28, c28, rfl⟩
    refine' TL.y rfl rfl rfl ?hy22 ?_
    case hy22 => exact Yl.assign rfl rfl
    refine TL.nil ?_
    refine TE.next ?_
    refine TC.seq ?_
    refine TC.region ?_
    refine' TL.y rfl rfl rfl ?hy23 ?_
    case hy23 => exact Yl.move rfl rfl
    refine' TL.c rfl rfl rfl ?hy24 ?_
    case hy24 => exact Yc.call rfl Try.func14 (by kernel_rfl) rfl rfl (Hp.calls (fun w h => k_rsum w (hS.below h.below) (by omega)))
    intro _
    rw [i64in (x := sumF u m) (by omega) (by omega)]
    refine' TL.y rfl rfl rfl ?hy25 ?_
    case hy25 => exact Yl.assign rfl rfl
    refine TL.nil ?_
    refine TE.next ?_
    refine TC.seq ?_
    refine TC.seq ?_
    refine TC.region ?_
    refine' TL.y rfl rfl rfl ?hy26 ?_
    case hy26 => exact Yl.move rfl rfl
    refine' TL.y rfl rfl rfl ?hy27 ?_
    case hy27 => exact Yl.len rfl rfl Try.underlying22
    refine' TL.y rfl rfl rfl ?hy28 ?_
    case hy28 => exact Yl.move rfl rfl
    refine' TL.y rfl rfl rfl ?hy29 ?_
    case hy29 => exact Yl.len rfl rfl Try.underlying22
    refine' TL.y rfl rfl rfl ?hy30 ?_
    case hy30 => exact Yl.bin rfl rfl rfl (Bin.neq _ _ _ _)
    refine TL.nil ?_
    refine TE.next ?_
    refine TC.no rfl (by simp) ?_
    refine TC.skip ?_
    refine TE.next ?_
    refine TC.seq ?_
    refine TC.seq ?_
    refine TC.region ?_
    refine' TL.y rfl rfl rfl ?hy31 ?_
    case hy31 => exact Yl.move rfl rfl
    refine' TL.y rfl rfl rfl ?hy32 ?_
    case hy32 => exact Yl.bin rfl rfl rfl (Bin.eql _ _ _ _)
    refine TL.nil ?_
    refine TE.next ?_
    refine TC.cond rfl (fun hs37 => ?_) (fun hs37 => ?_)
    · skip
      (try simp only [decide_eq_true_eq, decide_eq_false_iff_not, beq_iff_eq, beq_eq_false_iff_ne, bne_iff_ne, ne_eq, bne_eq_false_iff_eq, Bool.not_eq_true', Bool.not_eq_false', Int.not_lt, Int.not_le, gt_iff_lt, ge_iff_le] at hs37)
      refine TC.seq ?_
      refine TC.region ?_
      refine' TL.y rfl rfl rfl ?hy33 ?_
      case hy33 => exact Yl.move rfl rfl
      refine' TL.y rfl rfl rfl ?hy34 ?_
      case hy34 => exact Yl.move rfl rfl
      refine' TL.y rfl rfl rfl ?hy35 ?_
      case hy35 => exact Yl.move rfl rfl
      refine' TL.c rfl rfl rfl ?hy36 ?_
      case hy36 => exact Yc.call rfl Try.func14 (by kernel_rfl) rfl rfl (Hp.calls (fun w h => k_rsum w (h.ownVw mem0) (by omega)))
      intro _
      have hz : sumF (splitF n m u) m = 0 := by rw [sumF_congr (fun j _ => split_zero (by omega) j), sumF_const]; omega
      rw [hz, i64in (x := 0) (by decide) (by decide)]
      refine' TL.y rfl rfl rfl ?hy37 ?_
      case hy37 => exact Yl.bin rfl rfl rfl (Bin.eql _ _ _ _)
      refine' TL.y rfl rfl rfl ?hy38 ?_
      case hy38 => exact Yl.pickT rfl rfl rfl
      refine' TL.y rfl rfl rfl ?hy39 ?_
      case hy39 => exact Yl.assign rfl rfl
      refine TL.nil ?_
      refine TE.next ?_
      refine TC.ret ?_
      refine TE.thenRet ?_
      refine TE.ret1 rfl rfl ?_
      exact fun w h => ⟨by simp, (h.sub (List.nil_sublist _)).below⟩
    · skip
      (try simp only [decide_eq_true_eq, decide_eq_false_iff_not, beq_iff_eq, beq_eq_false_iff_ne, bne_iff_ne, ne_eq, bne_eq_false_iff_eq, Bool.not_eq_true', Bool.not_eq_false', Int.not_lt, Int.not_le, gt_iff_lt, ge_iff_le] at hs37)
      have hsp : 0 < sumF u m := by omega
      refine TC.skip ?_
      refine TE.next ?_
      refine TC.seq ?_
      refine TC.seq ?_
      refine TC.region ?_
      refine' TL.y rfl rfl rfl ?hy40 ?_
      case hy40 => exact Yl.assign rfl rfl
      refine TL.nil ?_
      refine TE.next ?_
      refine TC.block ?_
      refine TC.loop (σ := Nat) (fun i => [(0, .int .i64 n), (1, .slice A m cp), (5, .bool true), (6, .slice A28 m c28), (7, .int .i64 (sumF u m)), (8, .int .i64 (i : Int))]) (fun i => Hp W (fun _ => False) [ownR 3 1 (.slice A28 m c28) m (Vw m (splitF n m u))]) (fun i => i ≤ m) (fun i => m - i) 0 ?hF41 ?hs41 ?hm41 ?round41
      case hF41 => exact Nat.zero_le _
      case hs41 => exact ⟨rfl, rfl, rfl, rfl, rfl, rfl, trivial⟩
      case hm41 => exact fun _ h => h
      case round41 =>
        intro i hi
        refine TC.seq ?_
        refine TC.seq ?_
        refine TC.region ?_
        refine' TL.y rfl rfl rfl ?hy42 ?_
        case hy42 => exact Yl.move rfl rfl
        refine' TL.y rfl rfl rfl ?hy43 ?_
        case hy43 => exact Yl.move rfl rfl
        refine' TL.y rfl rfl rfl ?hy44 ?_
        case hy44 => exact Yl.len rfl rfl Try.underlying22
        refine' TL.y rfl rfl rfl ?hy45 ?_
        case hy45 => exact Yl.bin rfl rfl rfl (Bin.lss _ _ _ _)
        refine TL.nil ?_
        refine TE.next ?_
        refine TC.cond rfl (fun hs47 => ?_) (fun hs47 => ?_)
        · skip
          (try simp only [decide_eq_true_eq, decide_eq_false_iff_not, beq_iff_eq, beq_eq_false_iff_ne, bne_iff_ne, ne_eq, bne_eq_false_iff_eq, Bool.not_eq_true', Bool.not_eq_false', Int.not_lt, Int.not_le, gt_iff_lt, ge_iff_le] at hs47)
          have hi2 : i < m := by omega
          have hqr := hok.qr hsp hi2
          have hmu := hok.mul hi2
          have hnr := split_near (n := n) hsp i
          have hu1 := hok.w1 i hi2
          have hu0 := hok.w0 i hi2
          obtain ⟨b, o, rfl⟩ := Sl.some2 hS (by rw [Vw_length]; omega)
          refine TC.fact (fun w h => h.ownSome' mem0 (by omega)) ?_
          rintro ⟨g28, rfl⟩
          refine TC.skip ?_
          refine TE.next ?_
          refine TC.seq ?_
          refine TC.block ?_
          refine TC.seq ?_
          refine TC.region ?_
          refine' TL.y rfl rfl rfl ?hy46 ?_
          case hy46 => exact Yl.move rfl rfl
          refine' TL.y rfl rfl rfl ?hy47 ?_
          case hy47 => exact Yl.move rfl rfl
          refine' TL.y rfl rfl rfl ?hy48 ?_
          case hy48 => exact Yl.move rfl rfl
          refine' TL.y rfl rfl rfl ?hy49 ?_
          case hy49 => first | exact Yl.ixn rfl rfl rfl Try.underlying22 (by kernel_rfl) (by omega) | exact Yl.ixz rfl rfl rfl Try.underlying22 (by kernel_rfl) (by omega) (by omega) | exact Yl.ixcn rfl rfl rfl Try.underlying22 (by kernel_rfl) (by omega) | exact Yl.ixcz rfl rfl rfl Try.underlying22 (by kernel_rfl) (by omega) (by omega)
          refine' TL.y rfl rfl rfl ?hy50 ?_
          case hy50 => first | exact Yl.load rfl rfl (by kernel_rfl) (Hp.vw mem0 (by omega)) | exact Yl.load rfl rfl (by kernel_rfl) (Sl.vw hS rfl (by omega) (fun _ h => h)) | exact Yl.load rfl rfl (by kernel_rfl) (Hp.cell mem0 rfl) | exact Yl.load rfl rfl (by kernel_rfl) (Hp.cell mem1 rfl) | exact Yl.load rfl rfl (by kernel_rfl) (Hp.cell mem2 rfl) | exact Yl.load rfl rfl (by kernel_rfl) (Hp.cell mem3 rfl) | exact Yl.load rfl rfl (by kernel_rfl) (Hp.cell mem4 rfl) | exact Yl.load rfl rfl (by kernel_rfl) (Hp.rowAt mem0 (by omega) rfl) | exact Yl.load rfl rfl (by kernel_rfl) (Hp.rowAt mem1 (by omega) rfl) | exact Yl.load rfl rfl (by kernel_rfl) (Hp.rowAt mem2 (by omega) rfl) | exact Yl.load rfl rfl (by kernel_rfl) (Hp.rowAt mem3 (by omega) rfl) | exact Yl.load rfl rfl (by kernel_rfl) (Hp.rowAt mem4 (by omega) rfl)
          refine' TL.y rfl rfl rfl ?hy51 ?_
          case hy51 => first | (refine Yl.val (Yl.bin rfl rfl rfl (Bin.mul _ _ _ _)) (congrArg (Value.int .i64) (i64in ?_ ?_)) <;> omega) | exact Yl.bin rfl rfl rfl (Bin.mul _ _ _ _)
          refine' TL.y rfl rfl rfl ?hy52 ?_
          case hy52 => exact Yl.move rfl rfl
          refine' TL.y rfl rfl rfl ?hy53 ?_
          case hy53 => exact Yl.val (Yl.bin rfl rfl rfl (Bin.quo _ _ _ _ (by omega))) (congrArg (Value.int .i64) (qw hok hsp hi2))
          refine' TL.y rfl rfl rfl ?hy54 ?_
          case hy54 => exact Yl.assign rfl rfl
          refine TL.nil ?_
          refine TE.next ?_
          refine TC.seq ?_
          refine TC.seq ?_
          refine TC.region ?_
          refine' TL.y rfl rfl rfl ?hy55 ?_
          case hy55 => exact Yl.move rfl rfl
          refine' TL.y rfl rfl rfl ?hy56 ?_
          case hy56 => exact Yl.move rfl rfl
          refine' TL.y rfl rfl rfl ?hy57 ?_
          case hy57 => first | exact Yl.ixn rfl rfl rfl Try.underlying22 (by kernel_rfl) (by omega) | exact Yl.ixz rfl rfl rfl Try.underlying22 (by kernel_rfl) (by omega) (by omega) | exact Yl.ixcn rfl rfl rfl Try.underlying22 (by kernel_rfl) (by omega) | exact Yl.ixcz rfl rfl rfl Try.underlying22 (by kernel_rfl) (by omega) (by omega)
          refine' TL.y rfl rfl rfl ?hy58 ?_
          case hy58 => first | exact Yl.load rfl rfl (by kernel_rfl) (Hp.vw mem0 (by omega)) | exact Yl.load rfl rfl (by kernel_rfl) (Sl.vw hS rfl (by omega) (fun _ h => h)) | exact Yl.load rfl rfl (by kernel_rfl) (Hp.cell mem0 rfl) | exact Yl.load rfl rfl (by kernel_rfl) (Hp.cell mem1 rfl) | exact Yl.load rfl rfl (by kernel_rfl) (Hp.cell mem2 rfl) | exact Yl.load rfl rfl (by kernel_rfl) (Hp.cell mem3 rfl) | exact Yl.load rfl rfl (by kernel_rfl) (Hp.cell mem4 rfl) | exact Yl.load rfl rfl (by kernel_rfl) (Hp.rowAt mem0 (by omega) rfl) | exact Yl.load rfl rfl (by kernel_rfl) (Hp.rowAt mem1 (by omega) rfl) | exact Yl.load rfl rfl (by kernel_rfl) (Hp.rowAt mem2 (by omega) rfl) | exact Yl.load rfl rfl (by kernel_rfl) (Hp.rowAt mem3 (by omega) rfl) | exact Yl.load rfl rfl (by kernel_rfl) (Hp.rowAt mem4 (by omega) rfl)
          refine' TL.y rfl rfl rfl ?hy59 ?_
          case hy59 => exact Yl.move rfl rfl
          refine' TL.y rfl rfl rfl ?hy60 ?_
          case hy60 => exact Yl.bin rfl rfl rfl (Bin.lss _ _ _ _)
          refine' TL.y rfl rfl rfl ?hy61 ?_
          case hy61 => exact Yl.move rfl rfl
          refine TL.split (i := 64) rfl (fun hs64 => ?_) (fun hs64 => ?_)
          · skip
            (try simp only [decide_eq_true_eq, decide_eq_false_iff_not, beq_iff_eq, beq_eq_false_iff_ne, bne_iff_ne, ne_eq, bne_eq_false_iff_eq, Bool.not_eq_true', Bool.not_eq_false', Int.not_lt, Int.not_le, gt_iff_lt, ge_iff_le] at hs64)
            refine TL.skip rfl rfl rfl ?_
            refine TL.skip rfl rfl rfl ?_
            refine TL.skip rfl rfl rfl ?_
            refine TL.skip rfl rfl rfl ?_
            refine TL.skip rfl rfl rfl ?_
            refine TL.skip rfl rfl rfl ?_
            refine TL.skip rfl rfl rfl ?_
            refine' TL.y rfl rfl rfl ?hy62 ?_
            case hy62 => exact Yl.pickT rfl rfl rfl
            refine' TL.y rfl rfl rfl ?hy63 ?_
            case hy63 => exact Yl.move rfl rfl
            refine TL.skip rfl rfl rfl ?_
            refine TL.skip rfl rfl rfl ?_
            refine TL.skip rfl rfl rfl ?_
            refine TL.skip rfl rfl rfl ?_
            refine TL.skip rfl rfl rfl ?_
            refine TL.skip rfl rfl rfl ?_
            refine TL.skip rfl rfl rfl ?_
            refine TL.skip rfl rfl rfl ?_
            refine TL.skip rfl rfl rfl ?_
            refine TL.skip rfl rfl rfl ?_
            refine TL.skip rfl rfl rfl ?_
            refine TL.skip rfl rfl rfl ?_
            refine' TL.y rfl rfl rfl ?hy64 ?_
            case hy64 => exact Yl.pickT rfl rfl rfl
            refine TL.nil ?_
            refine TE.next ?_
            refine TC.yes rfl rfl ?_
            refine TC.seq ?_
            refine TC.region ?_
            refine' TL.y rfl rfl rfl ?hy65 ?_
            case hy65 => exact Yl.assign rfl rfl
            refine TL.nil ?_
            refine TE.next ?_
            refine TC.ret ?_
            refine TE.thenRet ?_
            refine TE.inRet ?_
            refine TE.thenRet ?_
            refine TE.thenRet ?_
            refine TE.inRet ?_
            refine TE.thenRet ?_
            refine TE.ret1 rfl rfl ?_
            exfalso; omega
          · skip
            (try simp only [decide_eq_true_eq, decide_eq_false_iff_not, beq_iff_eq, beq_eq_false_iff_ne, bne_iff_ne, ne_eq, bne_eq_false_iff_eq, Bool.not_eq_true', Bool.not_eq_false', Int.not_lt, Int.not_le, gt_iff_lt, ge_iff_le] at hs64)
            refine' TL.y rfl rfl rfl ?hy66 ?_
            case hy66 => exact Yl.move rfl rfl
            refine' TL.y rfl rfl rfl ?hy67 ?_
            case hy67 => exact Yl.move rfl rfl
            refine' TL.y rfl rfl rfl ?hy68 ?_
            case hy68 => first | exact Yl.ixn rfl rfl rfl Try.underlying22 (by kernel_rfl) (by omega) | exact Yl.ixz rfl rfl rfl Try.underlying22 (by kernel_rfl) (by omega) (by omega) | exact Yl.ixcn rfl rfl rfl Try.underlying22 (by kernel_rfl) (by omega) | exact Yl.ixcz rfl rfl rfl Try.underlying22 (by kernel_rfl) (by omega) (by omega)
            refine' TL.y rfl rfl rfl ?hy69 ?_
            case hy69 => first | exact Yl.load rfl rfl (by kernel_rfl) (Hp.vw mem0 (by omega)) | exact Yl.load rfl rfl (by kernel_rfl) (Sl.vw hS rfl (by omega) (fun _ h => h)) | exact Yl.load rfl rfl (by kernel_rfl) (Hp.cell mem0 rfl) | exact Yl.load rfl rfl (by kernel_rfl) (Hp.cell mem1 rfl) | exact Yl.load rfl rfl (by kernel_rfl) (Hp.cell mem2 rfl) | exact Yl.load rfl rfl (by kernel_rfl) (Hp.cell mem3 rfl) | exact Yl.load rfl rfl (by kernel_rfl) (Hp.cell mem4 rfl) | exact Yl.load rfl rfl (by kernel_rfl) (Hp.rowAt mem0 (by omega) rfl) | exact Yl.load rfl rfl (by kernel_rfl) (Hp.rowAt mem1 (by omega) rfl) | exact Yl.load rfl rfl (by kernel_rfl) (Hp.rowAt mem2 (by omega) rfl) | exact Yl.load rfl rfl (by kernel_rfl) (Hp.rowAt mem3 (by omega) rfl) | exact Yl.load rfl rfl (by kernel_rfl) (Hp.rowAt mem4 (by omega) rfl)
            refine' TL.y rfl rfl rfl ?hy70 ?_
            case hy70 => exact Yl.move rfl rfl
            refine' TL.y rfl rfl rfl ?hy71 ?_
            case hy71 => first | (refine Yl.val (Yl.bin rfl rfl rfl (Bin.add _ _ _ _)) (congrArg (Value.int .i64) (i64in ?_ ?_)) <;> omega) | exact Yl.bin rfl rfl rfl (Bin.add _ _ _ _)
            refine' TL.y rfl rfl rfl ?hy72 ?_
            case hy72 => exact Yl.bin rfl rfl rfl (Bin.gtr _ _ _ _)
            refine' TL.y rfl rfl rfl ?hy73 ?_
            case hy73 => exact Yl.pickF rfl rfl rfl
            refine' TL.y rfl rfl rfl ?hy74 ?_
            case hy74 => exact Yl.move rfl rfl
            refine TL.split (i := 73) rfl (fun hs73 => ?_) (fun hs73 => ?_)
            · skip
              (try simp only [decide_eq_true_eq, decide_eq_false_iff_not, beq_iff_eq, beq_eq_false_iff_ne, bne_iff_ne, ne_eq, bne_eq_false_iff_eq, Bool.not_eq_true', Bool.not_eq_false', Int.not_lt, Int.not_le, gt_iff_lt, ge_iff_le] at hs73)
              refine TL.skip rfl rfl rfl ?_
              refine TL.skip rfl rfl rfl ?_
              refine TL.skip rfl rfl rfl ?_
              refine TL.skip rfl rfl rfl ?_
              refine TL.skip rfl rfl rfl ?_
              refine TL.skip rfl rfl rfl ?_
              refine TL.skip rfl rfl rfl ?_
              refine TL.skip rfl rfl rfl ?_
              refine TL.skip rfl rfl rfl ?_
              refine TL.skip rfl rfl rfl ?_
              refine TL.skip rfl rfl rfl ?_
              refine TL.skip rfl rfl rfl ?_
              refine' TL.y rfl rfl rfl ?hy75 ?_
              case hy75 => exact Yl.pickT rfl rfl rfl
              refine TL.nil ?_
              refine TE.next ?_
              refine TC.yes rfl rfl ?_
              refine TC.seq ?_
              refine TC.region ?_
              refine' TL.y rfl rfl rfl ?hy76 ?_
              case hy76 => exact Yl.assign rfl rfl
              refine TL.nil ?_
              refine TE.next ?_
              refine TC.ret ?_
              refine TE.thenRet ?_
              refine TE.inRet ?_
              refine TE.thenRet ?_
              refine TE.thenRet ?_
              refine TE.inRet ?_
              refine TE.thenRet ?_
              refine TE.ret1 rfl rfl ?_
              exfalso; omega
            · skip
              (try simp only [decide_eq_true_eq, decide_eq_false_iff_not, beq_iff_eq, beq_eq_false_iff_ne, bne_iff_ne, ne_eq, bne_eq_false_iff_eq, Bool.not_eq_true', Bool.not_eq_false', Int.not_lt, Int.not_le, gt_iff_lt, ge_iff_le] at hs73)
              refine' TL.y rfl rfl rfl ?hy77 ?_
              case hy77 => exact Yl.move rfl rfl
              refine' TL.y rfl rfl rfl ?hy78 ?_
              case hy78 => exact Yl.move rfl rfl
              refine' TL.y rfl rfl rfl ?hy79 ?_
              case hy79 => first | exact Yl.ixn rfl rfl rfl Try.underlying22 (by kernel_rfl) (by omega) | exact Yl.ixz rfl rfl rfl Try.underlying22 (by kernel_rfl) (by omega) (by omega) | exact Yl.ixcn rfl rfl rfl Try.underlying22 (by kernel_rfl) (by omega) | exact Yl.ixcz rfl rfl rfl Try.underlying22 (by kernel_rfl) (by omega) (by omega)
              refine' TL.y rfl rfl rfl ?hy80 ?_
              case hy80 => first | exact Yl.load rfl rfl (by kernel_rfl) (Hp.vw mem0 (by omega)) | exact Yl.load rfl rfl (by kernel_rfl) (Sl.vw hS rfl (by omega) (fun _ h => h)) | exact Yl.load rfl rfl (by kernel_rfl) (Hp.cell mem0 rfl) | exact Yl.load rfl rfl (by kernel_rfl) (Hp.cell mem1 rfl) | exact Yl.load rfl rfl (by kernel_rfl) (Hp.cell mem2 rfl) | exact Yl.load rfl rfl (by kernel_rfl) (Hp.cell mem3 rfl) | exact Yl.load rfl rfl (by kernel_rfl) (Hp.cell mem4 rfl) | exact Yl.load rfl rfl (by kernel_rfl) (Hp.rowAt mem0 (by omega) rfl) | exact Yl.load rfl rfl (by kernel_rfl) (Hp.rowAt mem1 (by omega) rfl) | exact Yl.load rfl rfl (by kernel_rfl) (Hp.rowAt mem2 (by omega) rfl) | exact Yl.load rfl rfl (by kernel_rfl) (Hp.rowAt mem3 (by omega) rfl) | exact Yl.load rfl rfl (by kernel_rfl) (Hp.rowAt mem4 (by omega) rfl)
              refine' TL.y rfl rfl rfl ?hy81 ?_
              case hy81 => exact Yl.bin rfl rfl rfl (Bin.eql _ _ _ _)
              refine' TL.y rfl rfl rfl ?hy82 ?_
              case hy82 => exact Yl.move rfl rfl
              refine TL.split (i := 79) rfl (fun hs79 => ?_) (fun hs79 => ?_)
              · skip
                (try simp only [decide_eq_true_eq, decide_eq_false_iff_not, beq_iff_eq, beq_eq_false_iff_ne, bne_iff_ne, ne_eq, bne_eq_false_iff_eq, Bool.not_eq_true', Bool.not_eq_false', Int.not_lt, Int.not_le, gt_iff_lt, ge_iff_le] at hs79)
                have h00 := split_nothing hok hi2 (by omega)
                refine' TL.y rfl rfl rfl ?hy83 ?_
                case hy83 => exact Yl.move rfl rfl
                refine' TL.y rfl rfl rfl ?hy84 ?_
                case hy84 => exact Yl.move rfl rfl
                refine' TL.y rfl rfl rfl ?hy85 ?_
                case hy85 => first | exact Yl.ixn rfl rfl rfl Try.underlying22 (by kernel_rfl) (by omega) | exact Yl.ixz rfl rfl rfl Try.underlying22 (by kernel_rfl) (by omega) (by omega) | exact Yl.ixcn rfl rfl rfl Try.underlying22 (by kernel_rfl) (by omega) | exact Yl.ixcz rfl rfl rfl Try.underlying22 (by kernel_rfl) (by omega) (by omega)
                refine' TL.y rfl rfl rfl ?hy86 ?_
                case hy86 => first | exact Yl.load rfl rfl (by kernel_rfl) (Hp.vw mem0 (by omega)) | exact Yl.load rfl rfl (by kernel_rfl) (Sl.vw hS rfl (by omega) (fun _ h => h)) | exact Yl.load rfl rfl (by kernel_rfl) (Hp.cell mem0 rfl) | exact Yl.load rfl rfl (by kernel_rfl) (Hp.cell mem1 rfl) | exact Yl.load rfl rfl (by kernel_rfl) (Hp.cell mem2 rfl) | exact Yl.load rfl rfl (by kernel_rfl) (Hp.cell mem3 rfl) | exact Yl.load rfl rfl (by kernel_rfl) (Hp.cell mem4 rfl) | exact Yl.load rfl rfl (by kernel_rfl) (Hp.rowAt mem0 (by omega) rfl) | exact Yl.load rfl rfl (by kernel_rfl) (Hp.rowAt mem1 (by omega) rfl) | exact Yl.load rfl rfl (by kernel_rfl) (Hp.rowAt mem2 (by omega) rfl) | exact Yl.load rfl rfl (by kernel_rfl) (Hp.rowAt mem3 (by omega) rfl) | exact Yl.load rfl rfl (by kernel_rfl) (Hp.rowAt mem4 (by omega) rfl)
                refine' TL.y rfl rfl rfl ?hy87 ?_
                case hy87 => exact Yl.bin rfl rfl rfl (Bin.neq _ _ _ _)
                refine' TL.y rfl rfl rfl ?hy88 ?_
                case hy88 => exact Yl.pickT rfl rfl rfl
                refine' TL.y rfl rfl rfl ?hy89 ?_
                case hy89 => exact Yl.pickF rfl rfl rfl
                refine TL.nil ?_
                refine TE.next ?_
                refine TC.cond rfl (fun hs86 => ?_) (fun hs86 => ?_)
                · skip
                  (try simp only [decide_eq_true_eq, decide_eq_false_iff_not, beq_iff_eq, beq_eq_false_iff_ne, bne_iff_ne, ne_eq, bne_eq_false_iff_eq, Bool.not_eq_true', Bool.not_eq_false', Int.not_lt, Int.not_le, gt_iff_lt, ge_iff_le] at hs86)
                  refine TC.seq ?_
                  refine TC.region ?_
                  refine' TL.y rfl rfl rfl ?hy90 ?_
                  case hy90 => exact Yl.assign rfl rfl
                  refine TL.nil ?_
                  refine TE.next ?_
                  refine TC.ret ?_
                  refine TE.thenRet ?_
                  refine TE.inRet ?_
                  refine TE.thenRet ?_
                  refine TE.thenRet ?_
                  refine TE.inRet ?_
                  refine TE.thenRet ?_
                  refine TE.ret1 rfl rfl ?_
                  exfalso; omega
                · skip
                  (try simp only [decide_eq_true_eq, decide_eq_false_iff_not, beq_iff_eq, beq_eq_false_iff_ne, bne_iff_ne, ne_eq, bne_eq_false_iff_eq, Bool.not_eq_true', Bool.not_eq_false', Int.not_lt, Int.not_le, gt_iff_lt, ge_iff_le] at hs86)
                  refine TC.skip ?_
                  refine TE.next ?_
                  refine TC.seq ?_
                  refine TC.region ?_
                  refine' TL.y rfl rfl rfl ?hy91 ?_
                  case hy91 => exact Yl.assign rfl rfl
                  refine TL.nil ?_
                  refine TE.next ?_
                  refine TC.block ?_
                  refine TC.loop (σ := Nat) (fun k => [(0, .int .i64 n), (1, .slice (some ⟨b, o, none⟩) m cp), (5, .bool true), (6, .slice (some ⟨g28, 0, none⟩) m c28), (7, .int .i64 (sumF u m)), (8, .int .i64 (i : Int)), (10, .int .i64 (k : Int))]) (fun k => Hp W (fun _ => False) [ownR 3 1 (.slice (some ⟨g28, 0, none⟩) m c28) m (Vw m (splitF n m u))]) (fun k => k ≤ m) (fun k => m - k) 0 ?hF92 ?hs92 ?hm92 ?round92
                  case hF92 => exact Nat.zero_le _
                  case hs92 => exact ⟨rfl, rfl, rfl, rfl, rfl, rfl, rfl, trivial⟩
                  case hm92 => exact fun _ h => h
                  case round92 =>
                    intro k hk
                    refine TC.seq ?_
                    refine TC.seq ?_
                    refine TC.region ?_
                    refine' TL.y rfl rfl rfl ?hy93 ?_
                    case hy93 => exact Yl.move rfl rfl
                    refine' TL.y rfl rfl rfl ?hy94 ?_
                    case hy94 => exact Yl.move rfl rfl
                    refine' TL.y rfl rfl rfl ?hy95 ?_
                    case hy95 => exact Yl.len rfl rfl Try.underlying22
                    refine' TL.y rfl rfl rfl ?hy96 ?_
                    case hy96 => exact Yl.bin rfl rfl rfl (Bin.lss _ _ _ _)
                    refine TL.nil ?_
                    refine TE.next ?_
                    refine TC.cond rfl (fun hs90 => ?_) (fun hs90 => ?_)
                    · skip
                      (try simp only [decide_eq_true_eq, decide_eq_false_iff_not, beq_iff_eq, beq_eq_false_iff_ne, bne_iff_ne, ne_eq, bne_eq_false_iff_eq, Bool.not_eq_true', Bool.not_eq_false', Int.not_lt, Int.not_le, gt_iff_lt, ge_iff_le] at hs90)
                      have hk2 : k < m := by omega
                      have hnk := split_near (n := n) hsp k
                      have hqk := hok.qr hsp hk2
                      refine TC.skip ?_
                      refine TE.next ?_
                      refine TC.seq ?_
                      refine TC.block ?_
                      refine TC.seq ?_
                      refine TC.draw (k := 21) _ [] #[false, false, false, false, false, false, false, false, false, false, false, false, false, false, false, false, false, false, false, false, false] (by kernel_rfl) rfl rfl (fun _ h => h.drew) (fun _ h => h) ?_
                      refine' TA.y (i := 0) #[true, false, false, false, false, false, false, false, false, false, false, false, false, false, false, false, false, false, false, false, false] rfl rfl rfl (by kernel_rfl) (fun _ _ _ h => h) (fun _ h => by exact Hp.sub h (by repeat (first | exact List.Sublist.refl _ | apply List.Sublist.cons))) rfl ?hy97 ?_
                      case hy97 => exact Yl.move rfl rfl
                      refine' TA.y (i := 1) #[true, true, false, false, false, false, false, false, false, false, false, false, false, false, false, false, false, false, false, false, false] rfl rfl rfl (by kernel_rfl) (fun _ _ _ h => h) (fun _ h => by exact Hp.sub h (by repeat (first | exact List.Sublist.refl _ | apply List.Sublist.cons))) rfl ?hy98 ?_
                      case hy98 => exact Yl.move rfl rfl
                      refine' TA.y (i := 2) #[true, true, true, false, false, false, false, false, false, false, false, false, false, false, false, false, false, false, false, false, false] rfl rfl rfl (by kernel_rfl) (fun _ _ _ h => h) (fun _ h => by exact Hp.sub h (by repeat (first | exact List.Sublist.refl _ | apply List.Sublist.cons))) rfl ?hy99 ?_
                      case hy99 => first | exact Yl.ixn rfl rfl rfl Try.underlying22 (by kernel_rfl) (by omega) | exact Yl.ixz rfl rfl rfl Try.underlying22 (by kernel_rfl) (by omega) (by omega) | exact Yl.ixcn rfl rfl rfl Try.underlying22 (by kernel_rfl) (by omega) | exact Yl.ixcz rfl rfl rfl Try.underlying22 (by kernel_rfl) (by omega) (by omega)
                      refine' TA.y (i := 3) #[true, true, true, true, false, false, false, false, false, false, false, false, false, false, false, false, false, false, false, false, false] rfl rfl rfl (by kernel_rfl) (fun _ _ _ h => h) (fun _ h => by exact Hp.sub h (by repeat (first | exact List.Sublist.refl _ | apply List.Sublist.cons))) rfl ?hy100 ?_
                      case hy100 => first | exact Yl.load rfl rfl (by kernel_rfl) (Hp.vw mem0 (by omega)) | exact Yl.load rfl rfl (by kernel_rfl) (Sl.vw hS rfl (by omega) (fun _ h => h)) | exact Yl.load rfl rfl (by kernel_rfl) (Hp.cell mem0 rfl) | exact Yl.load rfl rfl (by kernel_rfl) (Hp.cell mem1 rfl) | exact Yl.load rfl rfl (by kernel_rfl) (Hp.cell mem2 rfl) | exact Yl.load rfl rfl (by kernel_rfl) (Hp.cell mem3 rfl) | exact Yl.load rfl rfl (by kernel_rfl) (Hp.cell mem4 rfl) | exact Yl.load rfl rfl (by kernel_rfl) (Hp.rowAt mem0 (by omega) rfl) | exact Yl.load rfl rfl (by kernel_rfl) (Hp.rowAt mem1 (by omega) rfl) | exact Yl.load rfl rfl (by kernel_rfl) (Hp.rowAt mem2 (by omega) rfl) | exact Yl.load rfl rfl (by kernel_rfl) (Hp.rowAt mem3 (by omega) rfl) | exact Yl.load rfl rfl (by kernel_rfl) (Hp.rowAt mem4 (by omega) rfl)
                      refine' TA.y (i := 4) #[true, true, true, true, true, false, false, false, false, false, false, false, false, false, false, false, false, false, false, false, false] rfl rfl rfl (by kernel_rfl) (fun _ _ _ h => h) (fun _ h => by exact Hp.sub h (by repeat (first | exact List.Sublist.refl _ | apply List.Sublist.cons))) rfl ?hy101 ?_
                      case hy101 => exact Yl.move rfl rfl
                      refine' TA.y (i := 5) #[true, true, true, true, true, true, false, false, false, false, false, false, false, false, false, false, false, false, false, false, false] rfl rfl rfl (by kernel_rfl) (fun _ _ _ h => h) (fun _ h => by exact Hp.sub h (by repeat (first | exact List.Sublist.refl _ | apply List.Sublist.cons))) rfl ?hy102 ?_
                      case hy102 => exact Yl.move rfl rfl
                      refine' TA.y (i := 6) #[true, true, true, true, true, true, true, false, false, false, false, false, false, false, false, false, false, false, false, false, false] rfl rfl rfl (by kernel_rfl) (fun _ _ _ h => h) (fun _ h => by exact Hp.sub h (by repeat (first | exact List.Sublist.refl _ | apply List.Sublist.cons))) rfl ?hy103 ?_
                      case hy103 => first | exact Yl.ixn rfl rfl rfl Try.underlying22 (by kernel_rfl) (by omega) | exact Yl.ixz rfl rfl rfl Try.underlying22 (by kernel_rfl) (by omega) (by omega) | exact Yl.ixcn rfl rfl rfl Try.underlying22 (by kernel_rfl) (by omega) | exact Yl.ixcz rfl rfl rfl Try.underlying22 (by kernel_rfl) (by omega) (by omega)
                      refine' TA.y (i := 7) #[true, true, true, true, true, true, true, true, false, false, false, false, false, false, false, false, false, false, false, false, false] rfl rfl rfl (by kernel_rfl) (fun _ _ _ h => h) (fun _ h => by exact Hp.sub h (by repeat (first | exact List.Sublist.refl _ | apply List.Sublist.cons))) rfl ?hy104 ?_
                      case hy104 => first | exact Yl.load rfl rfl (by kernel_rfl) (Hp.vw mem0 (by omega)) | exact Yl.load rfl rfl (by kernel_rfl) (Sl.vw hS rfl (by omega) (fun _ h => h)) | exact Yl.load rfl rfl (by kernel_rfl) (Hp.cell mem0 rfl) | exact Yl.load rfl rfl (by kernel_rfl) (Hp.cell mem1 rfl) | exact Yl.load rfl rfl (by kernel_rfl) (Hp.cell mem2 rfl) | exact Yl.load rfl rfl (by kernel_rfl) (Hp.cell mem3 rfl) | exact Yl.load rfl rfl (by kernel_rfl) (Hp.cell mem4 rfl) | exact Yl.load rfl rfl (by kernel_rfl) (Hp.rowAt mem0 (by omega) rfl) | exact Yl.load rfl rfl (by kernel_rfl) (Hp.rowAt mem1 (by omega) rfl) | exact Yl.load rfl rfl (by kernel_rfl) (Hp.rowAt mem2 (by omega) rfl) | exact Yl.load rfl rfl (by kernel_rfl) (Hp.rowAt mem3 (by omega) rfl) | exact Yl.load rfl rfl (by kernel_rfl) (Hp.rowAt mem4 (by omega) rfl)
                      refine' TA.y (i := 8) #[true, true, true, true, true, true, true, true, true, false, false, false, false, false, false, false, false, false, false, false, false] rfl rfl rfl (by kernel_rfl) (fun _ _ _ h => h) (fun _ h => by exact Hp.sub h (by repeat (first | exact List.Sublist.refl _ | apply List.Sublist.cons))) rfl ?hy105 ?_
                      case hy105 => exact Yl.bin rfl rfl rfl (Bin.gtr _ _ _ _)
                      refine' TA.y (i := 9) #[true, true, true, true, true, true, true, true, true, true, false, false, false, false, false, false, false, false, false, false, false] rfl rfl rfl (by kernel_rfl) (fun _ _ _ h => h) (fun _ h => by exact Hp.sub h (by repeat (first | exact List.Sublist.refl _ | apply List.Sublist.cons))) rfl ?hy106 ?_
                      case hy106 => exact Yl.move rfl rfl
                      refine TA.split (i := 102) rfl (fun hs102 => ?_) (fun hs102 => ?_)
                      · skip
                        (try simp only [decide_eq_true_eq, decide_eq_false_iff_not, beq_iff_eq, beq_eq_false_iff_ne, bne_iff_ne, ne_eq, bne_eq_false_iff_eq, Bool.not_eq_true', Bool.not_eq_false', Int.not_lt, Int.not_le, gt_iff_lt, ge_iff_le] at hs102)
                        have hor := split_order (n := n) hok hsp hi2 (show k < m by omega) (by omega)
                        refine' TA.y (i := 10) #[true, true, true, true, true, true, true, true, true, true, true, false, false, false, false, false, false, false, false, false, false] rfl rfl rfl (by kernel_rfl) (fun _ _ _ h => h) (fun _ h => by exact Hp.sub h (by repeat (first | exact List.Sublist.refl _ | apply List.Sublist.cons))) rfl ?hy107 ?_
                        case hy107 => exact Yl.move rfl rfl
                        refine' TA.y (i := 11) #[true, true, true, true, true, true, true, true, true, true, true, true, false, false, false, false, false, false, false, false, false] rfl rfl rfl (by kernel_rfl) (fun _ _ _ h => h) (fun _ h => by exact Hp.sub h (by repeat (first | exact List.Sublist.refl _ | apply List.Sublist.cons))) rfl ?hy108 ?_
                        case hy108 => exact Yl.move rfl rfl
                        refine' TA.y (i := 12) #[true, true, true, true, true, true, true, true, true, true, true, true, true, false, false, false, false, false, false, false, false] rfl rfl rfl (by kernel_rfl) (fun _ _ _ h => h) (fun _ h => by exact Hp.sub h (by repeat (first | exact List.Sublist.refl _ | apply List.Sublist.cons))) rfl ?hy109 ?_
                        case hy109 => first | exact Yl.ixn rfl rfl rfl Try.underlying22 (by kernel_rfl) (by omega) | exact Yl.ixz rfl rfl rfl Try.underlying22 (by kernel_rfl) (by omega) (by omega) | exact Yl.ixcn rfl rfl rfl Try.underlying22 (by kernel_rfl) (by omega) | exact Yl.ixcz rfl rfl rfl Try.underlying22 (by kernel_rfl) (by omega) (by omega)
                        refine' TA.y (i := 13) #[true, true, true, true, true, true, true, true, true, true, true, true, true, true, false, false, false, false, false, false, false] rfl rfl rfl (by kernel_rfl) (fun _ _ _ h => h) (fun _ h => by exact Hp.sub h (by repeat (first | exact List.Sublist.refl _ | apply List.Sublist.cons))) rfl ?hy110 ?_
                        case hy110 => first | exact Yl.load rfl rfl (by kernel_rfl) (Hp.vw mem0 (by omega)) | exact Yl.load rfl rfl (by kernel_rfl) (Sl.vw hS rfl (by omega) (fun _ h => h)) | exact Yl.load rfl rfl (by kernel_rfl) (Hp.cell mem0 rfl) | exact Yl.load rfl rfl (by kernel_rfl) (Hp.cell mem1 rfl) | exact Yl.load rfl rfl (by kernel_rfl) (Hp.cell mem2 rfl) | exact Yl.load rfl rfl (by kernel_rfl) (Hp.cell mem3 rfl) | exact Yl.load rfl rfl (by kernel_rfl) (Hp.cell mem4 rfl) | exact Yl.load rfl rfl (by kernel_rfl) (Hp.rowAt mem0 (by omega) rfl) | exact Yl.load rfl rfl (by kernel_rfl) (Hp.rowAt mem1 (by omega) rfl) | exact Yl.load rfl rfl (by kernel_rfl) (Hp.rowAt mem2 (by omega) rfl) | exact Yl.load rfl rfl (by kernel_rfl) (Hp.rowAt mem3 (by omega) rfl) | exact Yl.load rfl rfl (by kernel_rfl) (Hp.rowAt mem4 (by omega) rfl)
                        refine' TA.y (i := 14) #[true, true, true, true, true, true, true, true, true, true, true, true, true, true, true, false, false, false, false, false, false] rfl rfl rfl (by kernel_rfl) (fun _ _ _ h => h) (fun _ h => by exact Hp.sub h (by repeat (first | exact List.Sublist.refl _ | apply List.Sublist.cons))) rfl ?hy111 ?_
                        case hy111 => exact Yl.move rfl rfl
                        refine' TA.y (i := 15) #[true, true, true, true, true, true, true, true, true, true, true, true, true, true, true, true, false, false, false, false, false] rfl rfl rfl (by kernel_rfl) (fun _ _ _ h => h) (fun _ h => by exact Hp.sub h (by repeat (first | exact List.Sublist.refl _ | apply List.Sublist.cons))) rfl ?hy112 ?_
                        case hy112 => exact Yl.move rfl rfl
                        refine' TA.y (i := 16) #[true, true, true, true, true, true, true, true, true, true, true, true, true, true, true, true, true, false, false, false, false] rfl rfl rfl (by kernel_rfl) (fun _ _ _ h => h) (fun _ h => by exact Hp.sub h (by repeat (first | exact List.Sublist.refl _ | apply List.Sublist.cons))) rfl ?hy113 ?_
                        case hy113 => first | exact Yl.ixn rfl rfl rfl Try.underlying22 (by kernel_rfl) (by omega) | exact Yl.ixz rfl rfl rfl Try.underlying22 (by kernel_rfl) (by omega) (by omega) | exact Yl.ixcn rfl rfl rfl Try.underlying22 (by kernel_rfl) (by omega) | exact Yl.ixcz rfl rfl rfl Try.underlying22 (by kernel_rfl) (by omega) (by omega)
                        refine' TA.y (i := 17) #[true, true, true, true, true, true, true, true, true, true, true, true, true, true, true, true, true, true, false, false, false] rfl rfl rfl (by kernel_rfl) (fun _ _ _ h => h) (fun _ h => by exact Hp.sub h (by repeat (first | exact List.Sublist.refl _ | apply List.Sublist.cons))) rfl ?hy114 ?_
                        case hy114 => first | exact Yl.load rfl rfl (by kernel_rfl) (Hp.vw mem0 (by omega)) | exact Yl.load rfl rfl (by kernel_rfl) (Sl.vw hS rfl (by omega) (fun _ h => h)) | exact Yl.load rfl rfl (by kernel_rfl) (Hp.cell mem0 rfl) | exact Yl.load rfl rfl (by kernel_rfl) (Hp.cell mem1 rfl) | exact Yl.load rfl rfl (by kernel_rfl) (Hp.cell mem2 rfl) | exact Yl.load rfl rfl (by kernel_rfl) (Hp.cell mem3 rfl) | exact Yl.load rfl rfl (by kernel_rfl) (Hp.cell mem4 rfl) | exact Yl.load rfl rfl (by kernel_rfl) (Hp.rowAt mem0 (by omega) rfl) | exact Yl.load rfl rfl (by kernel_rfl) (Hp.rowAt mem1 (by omega) rfl) | exact Yl.load rfl rfl (by kernel_rfl) (Hp.rowAt mem2 (by omega) rfl) | exact Yl.load rfl rfl (by kernel_rfl) (Hp.rowAt mem3 (by omega) rfl) | exact Yl.load rfl rfl (by kernel_rfl) (Hp.rowAt mem4 (by omega) rfl)
                        refine' TA.y (i := 18) #[true, true, true, true, true, true, true, true, true, true, true, true, true, true, true, true, true, true, true, false, false] rfl rfl rfl (by kernel_rfl) (fun _ _ _ h => h) (fun _ h => by exact Hp.sub h (by repeat (first | exact List.Sublist.refl _ | apply List.Sublist.cons))) rfl ?hy115 ?_
                        case hy115 => first | (refine Yl.val (Yl.bin rfl rfl rfl (Bin.sub _ _ _ _)) (congrArg (Value.int .i64) (i64in ?_ ?_)) <;> omega) | exact Yl.bin rfl rfl rfl (Bin.sub _ _ _ _)
                        refine' TA.y (i := 19) #[true, true, true, true, true, true, true, true, true, true, true, true, true, true, true, true, true, true, true, true, false] rfl rfl rfl (by kernel_rfl) (fun _ _ _ h => h) (fun _ h => by exact Hp.sub h (by repeat (first | exact List.Sublist.refl _ | apply List.Sublist.cons))) rfl ?hy116 ?_
                        case hy116 => exact Yl.bin rfl rfl rfl (Bin.lss _ _ _ _)
                        refine' TA.y (i := 20) #[true, true, true, true, true, true, true, true, true, true, true, true, true, true, true, true, true, true, true, true, true] rfl rfl rfl (by kernel_rfl) (fun _ _ _ h => h) (fun _ h => by exact Hp.sub h (by repeat (first | exact List.Sublist.refl _ | apply List.Sublist.cons))) rfl ?hy117 ?_
                        case hy117 => exact Yl.pickT rfl rfl rfl
                        refine TA.done (by kernel_rfl) ?_
                        refine TE.next ?_
                        refine TC.cond rfl (fun hs113 => ?_) (fun hs113 => ?_)
                        · skip
                          (try simp only [decide_eq_true_eq, decide_eq_false_iff_not, beq_iff_eq, beq_eq_false_iff_ne, bne_iff_ne, ne_eq, bne_eq_false_iff_eq, Bool.not_eq_true', Bool.not_eq_false', Int.not_lt, Int.not_le, gt_iff_lt, ge_iff_le] at hs113)
                          refine TC.seq ?_
                          refine TC.region ?_
                          refine' TL.y rfl rfl rfl ?hy118 ?_
                          case hy118 => exact Yl.assign rfl rfl
                          refine TL.nil ?_
                          refine TE.next ?_
                          refine TC.ret ?_
                          refine TE.inRet ?_
                          refine TE.thenRet ?_
                          refine TE.thenRet ?_
                          refine TE.inRet ?_
                          refine TE.inRet ?_
                          refine TE.thenRet ?_
                          refine TE.thenRet ?_
                          refine TE.inRet ?_
                          refine TE.thenRet ?_
                          refine TE.ret1 rfl rfl ?_
                          exfalso; omega
                        · skip
                          (try simp only [decide_eq_true_eq, decide_eq_false_iff_not, beq_iff_eq, beq_eq_false_iff_ne, bne_iff_ne, ne_eq, bne_eq_false_iff_eq, Bool.not_eq_true', Bool.not_eq_false', Int.not_lt, Int.not_le, gt_iff_lt, ge_iff_le] at hs113)
                          refine TC.skip ?_
                          refine TE.inNormal ?_
                          refine TE.next ?_
                          refine TC.region ?_
                          refine' TL.y rfl rfl rfl ?hy119 ?_
                          case hy119 => exact Yl.move rfl rfl
                          refine' TL.y rfl rfl rfl ?hy120 ?_
                          case hy120 => first | (refine Yl.val (Yl.bin rfl rfl rfl (Bin.add _ _ _ _)) (congrArg (Value.int .i64) (i64in ?_ ?_)) <;> omega) | exact Yl.bin rfl rfl rfl (Bin.add _ _ _ _)
                          refine' TL.y rfl rfl rfl ?hy121 ?_
                          case hy121 => exact Yl.assign rfl rfl
                          refine TL.nil ?_
                          refine TE.round (k + 1) ?hF122 ?hlt122 ?hs122 ?hm122
                          case hF122 => omega
                          case hlt122 => omega
                          case hs122 => exact ⟨rfl, rfl, rfl, rfl, rfl, rfl, rfl, trivial⟩
                          case hm122 => exact fun _ h => h
                      · skip
                        (try simp only [decide_eq_true_eq, decide_eq_false_iff_not, beq_iff_eq, beq_eq_false_iff_ne, bne_iff_ne, ne_eq, bne_eq_false_iff_eq, Bool.not_eq_true', Bool.not_eq_false', Int.not_lt, Int.not_le, gt_iff_lt, ge_iff_le] at hs102)
                        refine TA.skip (i := 10) #[true, true, true, true, true, true, true, true, true, true, true, false, false, false, false, false, false, false, false, false, false] rfl rfl rfl (by kernel_rfl) (fun _ _ _ h => h) rfl ?_
                        refine TA.skip (i := 11) #[true, true, true, true, true, true, true, true, true, true, true, true, false, false, false, false, false, false, false, false, false] rfl rfl rfl (by kernel_rfl) (fun _ _ _ h => h) rfl ?_
                        refine TA.skip (i := 12) #[true, true, true, true, true, true, true, true, true, true, true, true, true, false, false, false, false, false, false, false, false] rfl rfl rfl (by kernel_rfl) (fun _ _ _ h => h) rfl ?_
                        refine TA.skip (i := 13) #[true, true, true, true, true, true, true, true, true, true, true, true, true, true, false, false, false, false, false, false, false] rfl rfl rfl (by kernel_rfl) (fun _ _ _ h => h) rfl ?_
                        refine TA.skip (i := 14) #[true, true, true, true, true, true, true, true, true, true, true, true, true, true, true, false, false, false, false, false, false] rfl rfl rfl (by kernel_rfl) (fun _ _ _ h => h) rfl ?_
                        refine TA.skip (i := 15) #[true, true, true, true, true, true, true, true, true, true, true, true, true, true, true, true, false, false, false, false, false] rfl rfl rfl (by kernel_rfl) (fun _ _ _ h => h) rfl ?_
                        refine TA.skip (i := 16) #[true, true, true, true, true, true, true, true, true, true, true, true, true, true, true, true, true, false, false, false, false] rfl rfl rfl (by kernel_rfl) (fun _ _ _ h => h) rfl ?_
                        refine TA.skip (i := 17) #[true, true, true, true, true, true, true, true, true, true, true, true, true, true, true, true, true, true, false, false, false] rfl rfl rfl (by kernel_rfl) (fun _ _ _ h => h) rfl ?_
                        refine TA.skip (i := 18) #[true, true, true, true, true, true, true, true, true, true, true, true, true, true, true, true, true, true, true, false, false] rfl rfl rfl (by kernel_rfl) (fun _ _ _ h => h) rfl ?_
                        refine TA.skip (i := 19) #[true, true, true, true, true, true, true, true, true, true, true, true, true, true, true, true, true, true, true, true, false] rfl rfl rfl (by kernel_rfl) (fun _ _ _ h => h) rfl ?_
                        refine' TA.y (i := 20) #[true, true, true, true, true, true, true, true, true, true, true, true, true, true, true, true, true, true, true, true, true] rfl rfl rfl (by kernel_rfl) (fun _ _ _ h => h) (fun _ h => by exact Hp.sub h (by repeat (first | exact List.Sublist.refl _ | apply List.Sublist.cons))) rfl ?hy123 ?_
                        case hy123 => exact Yl.pickF rfl rfl rfl
                        refine TA.done (by kernel_rfl) ?_
                        refine TE.next ?_
                        refine TC.no rfl rfl ?_
                        refine TC.skip ?_
                        refine TE.inNormal ?_
                        refine TE.next ?_
                        refine TC.region ?_
                        refine' TL.y rfl rfl rfl ?hy124 ?_
                        case hy124 => exact Yl.move rfl rfl
                        refine' TL.y rfl rfl rfl ?hy125 ?_
                        case hy125 => first | (refine Yl.val (Yl.bin rfl rfl rfl (Bin.add _ _ _ _)) (congrArg (Value.int .i64) (i64in ?_ ?_)) <;> omega) | exact Yl.bin rfl rfl rfl (Bin.add _ _ _ _)
                        refine' TL.y rfl rfl rfl ?hy126 ?_
                        case hy126 => exact Yl.assign rfl rfl
                        refine TL.nil ?_
                        refine TE.round (k + 1) ?hF127 ?hlt127 ?hs127 ?hm127
                        case hF127 => omega
                        case hlt127 => omega
                        case hs127 => exact ⟨rfl, rfl, rfl, rfl, rfl, rfl, rfl, trivial⟩
                        case hm127 => exact fun _ h => h
                    · skip
                      (try simp only [decide_eq_true_eq, decide_eq_false_iff_not, beq_iff_eq, beq_eq_false_iff_ne, bne_iff_ne, ne_eq, bne_eq_false_iff_eq, Bool.not_eq_true', Bool.not_eq_false', Int.not_lt, Int.not_le, gt_iff_lt, ge_iff_le] at hs90)
                      refine TC.exit ?_
                      refine TE.thenExit ?_
                      refine TE.thenExit ?_
                      refine TE.inHere ?_
                      refine TE.inNormal ?_
                      refine TE.next ?_
                      refine TC.region ?_
                      refine' TL.y rfl rfl rfl ?hy128 ?_
                      case hy128 => exact Yl.move rfl rfl
                      refine' TL.y rfl rfl rfl ?hy129 ?_
                      case hy129 => first | (refine Yl.val (Yl.bin rfl rfl rfl (Bin.add _ _ _ _)) (congrArg (Value.int .i64) (i64in ?_ ?_)) <;> omega) | exact Yl.bin rfl rfl rfl (Bin.add _ _ _ _)
                      refine' TL.y rfl rfl rfl ?hy130 ?_
                      case hy130 => exact Yl.assign rfl rfl
                      refine TL.nil ?_
                      refine TE.round (i + 1) ?hF131 ?hlt131 ?hs131 ?hm131
                      case hF131 => omega
                      case hlt131 => omega
                      case hs131 => exact ⟨rfl, rfl, rfl, rfl, rfl, rfl, trivial⟩
                      case hm131 => exact fun _ h => h
              · skip
                (try simp only [decide_eq_true_eq, decide_eq_false_iff_not, beq_iff_eq, beq_eq_false_iff_ne, bne_iff_ne, ne_eq, bne_eq_false_iff_eq, Bool.not_eq_true', Bool.not_eq_false', Int.not_lt, Int.not_le, gt_iff_lt, ge_iff_le] at hs79)
                refine TL.skip rfl rfl rfl ?_
                refine TL.skip rfl rfl rfl ?_
                refine TL.skip rfl rfl rfl ?_
                refine TL.skip rfl rfl rfl ?_
                refine TL.skip rfl rfl rfl ?_
                refine' TL.y rfl rfl rfl ?hy132 ?_
                case hy132 => exact Yl.pickF rfl rfl rfl
                refine' TL.y rfl rfl rfl ?hy133 ?_
                case hy133 => exact Yl.pickF rfl rfl rfl
                refine TL.nil ?_
                refine TE.next ?_
                refine TC.no rfl rfl ?_
                refine TC.skip ?_
                refine TE.next ?_
                refine TC.seq ?_
                refine TC.region ?_
                refine' TL.y rfl rfl rfl ?hy134 ?_
                case hy134 => exact Yl.assign rfl rfl
                refine TL.nil ?_
                refine TE.next ?_
                refine TC.block ?_
                refine TC.loop (σ := Nat) (fun k => [(0, .int .i64 n), (1, .slice (some ⟨b, o, none⟩) m cp), (5, .bool true), (6, .slice (some ⟨g28, 0, none⟩) m c28), (7, .int .i64 (sumF u m)), (8, .int .i64 (i : Int)), (10, .int .i64 (k : Int))]) (fun k => Hp W (fun _ => False) [ownR 3 1 (.slice (some ⟨g28, 0, none⟩) m c28) m (Vw m (splitF n m u))]) (fun k => k ≤ m) (fun k => m - k) 0 ?hF135 ?hs135 ?hm135 ?round135
                case hF135 => exact Nat.zero_le _
                case hs135 => exact ⟨rfl, rfl, rfl, rfl, rfl, rfl, rfl, trivial⟩
                case hm135 => exact fun _ h => h
                case round135 =>
                  intro k hk
                  refine TC.seq ?_
                  refine TC.seq ?_
                  refine TC.region ?_
                  refine' TL.y rfl rfl rfl ?hy136 ?_
                  case hy136 => exact Yl.move rfl rfl
                  refine' TL.y rfl rfl rfl ?hy137 ?_
                  case hy137 => exact Yl.move rfl rfl
                  refine' TL.y rfl rfl rfl ?hy138 ?_
                  case hy138 => exact Yl.len rfl rfl Try.underlying22
                  refine' TL.y rfl rfl rfl ?hy139 ?_
                  case hy139 => exact Yl.bin rfl rfl rfl (Bin.lss _ _ _ _)
                  refine TL.nil ?_
                  refine TE.next ?_
                  refine TC.cond rfl (fun hs90 => ?_) (fun hs90 => ?_)
                  · skip
                    (try simp only [decide_eq_true_eq, decide_eq_false_iff_not, beq_iff_eq, beq_eq_false_iff_ne, bne_iff_ne, ne_eq, bne_eq_false_iff_eq, Bool.not_eq_true', Bool.not_eq_false', Int.not_lt, Int.not_le, gt_iff_lt, ge_iff_le] at hs90)
                    have hk2 : k < m := by omega
                    have hnk := split_near (n := n) hsp k
                    have hqk := hok.qr hsp hk2
                    refine TC.skip ?_
                    refine TE.next ?_
                    refine TC.seq ?_
                    refine TC.block ?_
                    refine TC.seq ?_
                    refine TC.draw (k := 21) _ [] #[false, false, false, false, false, false, false, false, false, false, false, false, false, false, false, false, false, false, false, false, false] (by kernel_rfl) rfl rfl (fun _ h => h.drew) (fun _ h => h) ?_
                    refine' TA.y (i := 0) #[true, false, false, false, false, false, false, false, false, false, false, false, false, false, false, false, false, false, false, false, false] rfl rfl rfl (by kernel_rfl) (fun _ _ _ h => h) (fun _ h => by exact Hp.sub h (by repeat (first | exact List.Sublist.refl _ | apply List.Sublist.cons))) rfl ?hy140 ?_
                    case hy140 => exact Yl.move rfl rfl
                    refine' TA.y (i := 1) #[true, true, false, false, false, false, false, false, false, false, false, false, false, false, false, false, false, false, false, false, false] rfl rfl rfl (by kernel_rfl) (fun _ _ _ h => h) (fun _ h => by exact Hp.sub h (by repeat (first | exact List.Sublist.refl _ | apply List.Sublist.cons))) rfl ?hy141 ?_
                    case hy141 => exact Yl.move rfl rfl
                    refine' TA.y (i := 2) #[true, true, true, false, false, false, false, false, false, false, false, false, false, false, false, false, false, false, false, false, false] rfl rfl rfl (by kernel_rfl) (fun _ _ _ h => h) (fun _ h => by exact Hp.sub h (by repeat (first | exact List.Sublist.refl _ | apply List.Sublist.cons))) rfl ?hy142 ?_
                    case hy142 => first | exact Yl.ixn rfl rfl rfl Try.underlying22 (by kernel_rfl) (by omega) | exact Yl.ixz rfl rfl rfl Try.underlying22 (by kernel_rfl) (by omega) (by omega) | exact Yl.ixcn rfl rfl rfl Try.underlying22 (by kernel_rfl) (by omega) | exact Yl.ixcz rfl rfl rfl Try.underlying22 (by kernel_rfl) (by omega) (by omega)
                    refine' TA.y (i := 3) #[true, true, true, true, false, false, false, false, false, false, false, false, false, false, false, false, false, false, false, false, false] rfl rfl rfl (by kernel_rfl) (fun _ _ _ h => h) (fun _ h => by exact Hp.sub h (by repeat (first | exact List.Sublist.refl _ | apply List.Sublist.cons))) rfl ?hy143 ?_
                    case hy143 => first | exact Yl.load rfl rfl (by kernel_rfl) (Hp.vw mem0 (by omega)) | exact Yl.load rfl rfl (by kernel_rfl) (Sl.vw hS rfl (by omega) (fun _ h => h)) | exact Yl.load rfl rfl (by kernel_rfl) (Hp.cell mem0 rfl) | exact Yl.load rfl rfl (by kernel_rfl) (Hp.cell mem1 rfl) | exact Yl.load rfl rfl (by kernel_rfl) (Hp.cell mem2 rfl) | exact Yl.load rfl rfl (by kernel_rfl) (Hp.cell mem3 rfl) | exact Yl.load rfl rfl (by kernel_rfl) (Hp.cell mem4 rfl) | exact Yl.load rfl rfl (by kernel_rfl) (Hp.rowAt mem0 (by omega) rfl) | exact Yl.load rfl rfl (by kernel_rfl) (Hp.rowAt mem1 (by omega) rfl) | exact Yl.load rfl rfl (by kernel_rfl) (Hp.rowAt mem2 (by omega) rfl) | exact Yl.load rfl rfl (by kernel_rfl) (Hp.rowAt mem3 (by omega) rfl) | exact Yl.load rfl rfl (by kernel_rfl) (Hp.rowAt mem4 (by omega) rfl)
                    refine' TA.y (i := 4) #[true, true, true, true, true, false, false, false, false, false, false, false, false, false, false, false, false, false, false, false, false] rfl rfl rfl (by kernel_rfl) (fun _ _ _ h => h) (fun _ h => by exact Hp.sub h (by repeat (first | exact List.Sublist.refl _ | apply List.Sublist.cons))) rfl ?hy144 ?_
                    case hy144 => exact Yl.move rfl rfl
                    refine' TA.y (i := 5) #[true, true, true, true, true, true, false, false, false, false, false, false, false, false, false, false, false, false, false, false, false] rfl rfl rfl (by kernel_rfl) (fun _ _ _ h => h) (fun _ h => by exact Hp.sub h (by repeat (first | exact List.Sublist.refl _ | apply List.Sublist.cons))) rfl ?hy145 ?_
                    case hy145 => exact Yl.move rfl rfl
                    refine' TA.y (i := 6) #[true, true, true, true, true, true, true, false, false, false, false, false, false, false, false, false, false, false, false, false, false] rfl rfl rfl (by kernel_rfl) (fun _ _ _ h => h) (fun _ h => by exact Hp.sub h (by repeat (first | exact List.Sublist.refl _ | apply List.Sublist.cons))) rfl ?hy146 ?_
                    case hy146 => first | exact Yl.ixn rfl rfl rfl Try.underlying22 (by kernel_rfl) (by omega) | exact Yl.ixz rfl rfl rfl Try.underlying22 (by kernel_rfl) (by omega) (by omega) | exact Yl.ixcn rfl rfl rfl Try.underlying22 (by kernel_rfl) (by omega) | exact Yl.ixcz rfl rfl rfl Try.underlying22 (by kernel_rfl) (by omega) (by omega)
                    refine' TA.y (i := 7) #[true, true, true, true, true, true, true, true, false, false, false, false, false, false, false, false, false, false, false, false, false] rfl rfl rfl (by kernel_rfl) (fun _ _ _ h => h) (fun _ h => by exact Hp.sub h (by repeat (first | exact List.Sublist.refl _ | apply List.Sublist.cons))) rfl ?hy147 ?_
                    case hy147 => first | exact Yl.load rfl rfl (by kernel_rfl) (Hp.vw mem0 (by omega)) | exact Yl.load rfl rfl (by kernel_rfl) (Sl.vw hS rfl (by omega) (fun _ h => h)) | exact Yl.load rfl rfl (by kernel_rfl) (Hp.cell mem0 rfl) | exact Yl.load rfl rfl (by kernel_rfl) (Hp.cell mem1 rfl) | exact Yl.load rfl rfl (by kernel_rfl) (Hp.cell mem2 rfl) | exact Yl.load rfl rfl (by kernel_rfl) (Hp.cell mem3 rfl) | exact Yl.load rfl rfl (by kernel_rfl) (Hp.cell mem4 rfl) | exact Yl.load rfl rfl (by kernel_rfl) (Hp.rowAt mem0 (by omega) rfl) | exact Yl.load rfl rfl (by kernel_rfl) (Hp.rowAt mem1 (by omega) rfl) | exact Yl.load rfl rfl (by kernel_rfl) (Hp.rowAt mem2 (by omega) rfl) | exact Yl.load rfl rfl (by kernel_rfl) (Hp.rowAt mem3 (by omega) rfl) | exact Yl.load rfl rfl (by kernel_rfl) (Hp.rowAt mem4 (by omega) rfl)
                    refine' TA.y (i := 8) #[true, true, true, true, true, true, true, true, true, false, false, false, false, false, false, false, false, false, false, false, false] rfl rfl rfl (by kernel_rfl) (fun _ _ _ h => h) (fun _ h => by exact Hp.sub h (by repeat (first | exact List.Sublist.refl _ | apply List.Sublist.cons))) rfl ?hy148 ?_
                    case hy148 => exact Yl.bin rfl rfl rfl (Bin.gtr _ _ _ _)
                    refine' TA.y (i := 9) #[true, true, true, true, true, true, true, true, true, true, false, false, false, false, false, false, false, false, false, false, false] rfl rfl rfl (by kernel_rfl) (fun _ _ _ h => h) (fun _ h => by exact Hp.sub h (by repeat (first | exact List.Sublist.refl _ | apply List.Sublist.cons))) rfl ?hy149 ?_
                    case hy149 => exact Yl.move rfl rfl
                    refine TA.split (i := 102) rfl (fun hs102 => ?_) (fun hs102 => ?_)
                    · skip
                      (try simp only [decide_eq_true_eq, decide_eq_false_iff_not, beq_iff_eq, beq_eq_false_iff_ne, bne_iff_ne, ne_eq, bne_eq_false_iff_eq, Bool.not_eq_true', Bool.not_eq_false', Int.not_lt, Int.not_le, gt_iff_lt, ge_iff_le] at hs102)
                      have hor := split_order (n := n) hok hsp hi2 (show k < m by omega) (by omega)
                      refine' TA.y (i := 10) #[true, true, true, true, true, true, true, true, true, true, true, false, false, false, false, false, false, false, false, false, false] rfl rfl rfl (by kernel_rfl) (fun _ _ _ h => h) (fun _ h => by exact Hp.sub h (by repeat (first | exact List.Sublist.refl _ | apply List.Sublist.cons))) rfl ?hy150 ?_
                      case hy150 => exact Yl.move rfl rfl
                      refine' TA.y (i := 11) #[true, true, true, true, true, true, true, true, true, true, true, true, false, false, false, false, false, false, false, false, false] rfl rfl rfl (by kernel_rfl) (fun _ _ _ h => h) (fun _ h => by exact Hp.sub h (by repeat (first | exact List.Sublist.refl _ | apply List.Sublist.cons))) rfl ?hy151 ?_
                      case hy151 => exact Yl.move rfl rfl
                      refine' TA.y (i := 12) #[true, true, true, true, true, true, true, true, true, true, true, true, true, false, false, false, false, false, false, false, false] rfl rfl rfl (by kernel_rfl) (fun _ _ _ h => h) (fun _ h => by exact Hp.sub h (by repeat (first | exact List.Sublist.refl _ | apply List.Sublist.cons))) rfl ?hy152 ?_
                      case hy152 => first | exact Yl.ixn rfl rfl rfl Try.underlying22 (by kernel_rfl) (by omega) | exact Yl.ixz rfl rfl rfl Try.underlying22 (by kernel_rfl) (by omega) (by omega) | exact Yl.ixcn rfl rfl rfl Try.underlying22 (by kernel_rfl) (by omega) | exact Yl.ixcz rfl rfl rfl Try.underlying22 (by kernel_rfl) (by omega) (by omega)
                      refine' TA.y (i := 13) #[true, true, true, true, true, true, true, true, true, true, true, true, true, true, false, false, false, false, false, false, false] rfl rfl rfl (by kernel_rfl) (fun _ _ _ h => h) (fun _ h => by exact Hp.sub h (by repeat (first | exact List.Sublist.refl _ | apply List.Sublist.cons))) rfl ?hy153 ?_
                      case hy153 => first | exact Yl.load rfl rfl (by kernel_rfl) (Hp.vw mem0 (by omega)) | exact Yl.load rfl rfl (by kernel_rfl) (Sl.vw hS rfl (by omega) (fun _ h => h)) | exact Yl.load rfl rfl (by kernel_rfl) (Hp.cell mem0 rfl) | exact Yl.load rfl rfl (by kernel_rfl) (Hp.cell mem1 rfl) | exact Yl.load rfl rfl (by kernel_rfl) (Hp.cell mem2 rfl) | exact Yl.load rfl rfl (by kernel_rfl) (Hp.cell mem3 rfl) | exact Yl.load rfl rfl (by kernel_rfl) (Hp.cell mem4 rfl) | exact Yl.load rfl rfl (by kernel_rfl) (Hp.rowAt mem0 (by omega) rfl) | exact Yl.load rfl rfl (by kernel_rfl) (Hp.rowAt mem1 (by omega) rfl) | exact Yl.load rfl rfl (by kernel_rfl) (Hp.rowAt mem2 (by omega) rfl) | exact Yl.load rfl rfl (by kernel_rfl) (Hp.rowAt mem3 (by omega) rfl) | exact Yl.load rfl rfl (by kernel_rfl) (Hp.rowAt mem4 (by omega) rfl)
                      refine' TA.y (i := 14) #[true, true, true, true, true, true, true, true, true, true, true, true, true, true, true, false, false, false, false, false, false] rfl rfl rfl (by kernel_rfl) (fun _ _ _ h => h) (fun _ h => by exact Hp.sub h (by repeat (first | exact List.Sublist.refl _ | apply List.Sublist.cons))) rfl ?hy154 ?_
                      case hy154 => exact Yl.move rfl rfl
                      refine' TA.y (i := 15) #[true, true, true, true, true, true, true, true, true, true, true, true, true, true, true, true, false, false, false, false, false] rfl rfl rfl (by kernel_rfl) (fun _ _ _ h => h) (fun _ h => by exact Hp.sub h (by repeat (first | exact List.Sublist.refl _ | apply List.Sublist.cons))) rfl ?hy155 ?_
                      case hy155 => exact Yl.move rfl rfl
                      refine' TA.y (i := 16) #[true, true, true, true, true, true, true, true, true, true, true, true, true, true, true, true, true, false, false, false, false] rfl rfl rfl (by kernel_rfl) (fun _ _ _ h => h) (fun _ h => by exact Hp.sub h (by repeat (first | exact List.Sublist.refl _ | apply List.Sublist.cons))) rfl ?hy156 ?_
                      case hy156 => first | exact Yl.ixn rfl rfl rfl Try.underlying22 (by kernel_rfl) (by omega) | exact Yl.ixz rfl rfl rfl Try.underlying22 (by kernel_rfl) (by omega) (by omega) | exact Yl.ixcn rfl rfl rfl Try.underlying22 (by kernel_rfl) (by omega) | exact Yl.ixcz rfl rfl rfl Try.underlying22 (by kernel_rfl) (by omega) (by omega)
                      refine' TA.y (i := 17) #[true, true, true, true, true, true, true, true, true, true, true, true, true, true, true, true, true, true, false, false, false] rfl rfl rfl (by kernel_rfl) (fun _ _ _ h => h) (fun _ h => by exact Hp.sub h (by repeat (first | exact List.Sublist.refl _ | apply List.Sublist.cons))) rfl ?hy157 ?_
                      case hy157 => first | exact Yl.load rfl rfl (by kernel_rfl) (Hp.vw mem0 (by omega)) | exact Yl.load rfl rfl (by kernel_rfl) (Sl.vw hS rfl (by omega) (fun _ h => h)) | exact Yl.load rfl rfl (by kernel_rfl) (Hp.cell mem0 rfl) | exact Yl.load rfl rfl (by kernel_rfl) (Hp.cell mem1 rfl) | exact Yl.load rfl rfl (by kernel_rfl) (Hp.cell mem2 rfl) | exact Yl.load rfl rfl (by kernel_rfl) (Hp.cell mem3 rfl) | exact Yl.load rfl rfl (by kernel_rfl) (Hp.cell mem4 rfl) | exact Yl.load rfl rfl (by kernel_rfl) (Hp.rowAt mem0 (by omega) rfl) | exact Yl.load rfl rfl (by kernel_rfl) (Hp.rowAt mem1 (by omega) rfl) | exact Yl.load rfl rfl (by kernel_rfl) (Hp.rowAt mem2 (by omega) rfl) | exact Yl.load rfl rfl (by kernel_rfl) (Hp.rowAt mem3 (by omega) rfl) | exact Yl.load rfl rfl (by kernel_rfl) (Hp.rowAt mem4 (by omega) rfl)
                      refine' TA.y (i := 18) #[true, true, true, true, true, true, true, true, true, true, true, true, true, true, true, true, true, true, true, false, false] rfl rfl rfl (by kernel_rfl) (fun _ _ _ h => h) (fun _ h => by exact Hp.sub h (by repeat (first | exact List.Sublist.refl _ | apply List.Sublist.cons))) rfl ?hy158 ?_
                      case hy158 => first | (refine Yl.val (Yl.bin rfl rfl rfl (Bin.sub _ _ _ _)) (congrArg (Value.int .i64) (i64in ?_ ?_)) <;> omega) | exact Yl.bin rfl rfl rfl (Bin.sub _ _ _ _)
                      refine' TA.y (i := 19) #[true, true, true, true, true, true, true, true, true, true, true, true, true, true, true, true, true, true, true, true, false] rfl rfl rfl (by kernel_rfl) (fun _ _ _ h => h) (fun _ h => by exact Hp.sub h (by repeat (first | exact List.Sublist.refl _ | apply List.Sublist.cons))) rfl ?hy159 ?_
                      case hy159 => exact Yl.bin rfl rfl rfl (Bin.lss _ _ _ _)
                      refine' TA.y (i := 20) #[true, true, true, true, true, true, true, true, true, true, true, true, true, true, true, true, true, true, true, true, true] rfl rfl rfl (by kernel_rfl) (fun _ _ _ h => h) (fun _ h => by exact Hp.sub h (by repeat (first | exact List.Sublist.refl _ | apply List.Sublist.cons))) rfl ?hy160 ?_
                      case hy160 => exact Yl.pickT rfl rfl rfl
                      refine TA.done (by kernel_rfl) ?_
                      refine TE.next ?_
                      refine TC.cond rfl (fun hs113 => ?_) (fun hs113 => ?_)
                      · skip
                        (try simp only [decide_eq_true_eq, decide_eq_false_iff_not, beq_iff_eq, beq_eq_false_iff_ne, bne_iff_ne, ne_eq, bne_eq_false_iff_eq, Bool.not_eq_true', Bool.not_eq_false', Int.not_lt, Int.not_le, gt_iff_lt, ge_iff_le] at hs113)
                        refine TC.seq ?_
                        refine TC.region ?_
                        refine' TL.y rfl rfl rfl ?hy161 ?_
                        case hy161 => exact Yl.assign rfl rfl
                        refine TL.nil ?_
                        refine TE.next ?_
                        refine TC.ret ?_
                        refine TE.inRet ?_
                        refine TE.thenRet ?_
                        refine TE.thenRet ?_
                        refine TE.inRet ?_
                        refine TE.inRet ?_
                        refine TE.thenRet ?_
                        refine TE.thenRet ?_
                        refine TE.inRet ?_
                        refine TE.thenRet ?_
                        refine TE.ret1 rfl rfl ?_
                        exfalso; omega
                      · skip
                        (try simp only [decide_eq_true_eq, decide_eq_false_iff_not, beq_iff_eq, beq_eq_false_iff_ne, bne_iff_ne, ne_eq, bne_eq_false_iff_eq, Bool.not_eq_true', Bool.not_eq_false', Int.not_lt, Int.not_le, gt_iff_lt, ge_iff_le] at hs113)
                        refine TC.skip ?_
                        refine TE.inNormal ?_
                        refine TE.next ?_
                        refine TC.region ?_
                        refine' TL.y rfl rfl rfl ?hy162 ?_
                        case hy162 => exact Yl.move rfl rfl
                        refine' TL.y rfl rfl rfl ?hy163 ?_
                        case hy163 => first | (refine Yl.val (Yl.bin rfl rfl rfl (Bin.add _ _ _ _)) (congrArg (Value.int .i64) (i64in ?_ ?_)) <;> omega) | exact Yl.bin rfl rfl rfl (Bin.add _ _ _ _)
                        refine' TL.y rfl rfl rfl ?hy164 ?_
                        case hy164 => exact Yl.assign rfl rfl
                        refine TL.nil ?_
                        refine TE.round (k + 1) ?hF165 ?hlt165 ?hs165 ?hm165
                        case hF165 => omega
                        case hlt165 => omega
                        case hs165 => exact ⟨rfl, rfl, rfl, rfl, rfl, rfl, rfl, trivial⟩
                        case hm165 => exact fun _ h => h
                    · skip
                      (try simp only [decide_eq_true_eq, decide_eq_false_iff_not, beq_iff_eq, beq_eq_false_iff_ne, bne_iff_ne, ne_eq, bne_eq_false_iff_eq, Bool.not_eq_true', Bool.not_eq_false', Int.not_lt, Int.not_le, gt_iff_lt, ge_iff_le] at hs102)
                      refine TA.skip (i := 10) #[true, true, true, true, true, true, true, true, true, true, true, false, false, false, false, false, false, false, false, false, false] rfl rfl rfl (by kernel_rfl) (fun _ _ _ h => h) rfl ?_
                      refine TA.skip (i := 11) #[true, true, true, true, true, true, true, true, true, true, true, true, false, false, false, false, false, false, false, false, false] rfl rfl rfl (by kernel_rfl) (fun _ _ _ h => h) rfl ?_
                      refine TA.skip (i := 12) #[true, true, true, true, true, true, true, true, true, true, true, true, true, false, false, false, false, false, false, false, false] rfl rfl rfl (by kernel_rfl) (fun _ _ _ h => h) rfl ?_
                      refine TA.skip (i := 13) #[true, true, true, true, true, true, true, true, true, true, true, true, true, true, false, false, false, false, false, false, false] rfl rfl rfl (by kernel_rfl) (fun _ _ _ h => h) rfl ?_
                      refine TA.skip (i := 14) #[true, true, true, true, true, true, true, true, true, true, true, true, true, true, true, false, false, false, false, false, false] rfl rfl rfl (by kernel_rfl) (fun _ _ _ h => h) rfl ?_
                      refine TA.skip (i := 15) #[true, true, true, true, true, true, true, true, true, true, true, true, true, true, true, true, false, false, false, false, false] rfl rfl rfl (by kernel_rfl) (fun _ _ _ h => h) rfl ?_
                      refine TA.skip (i := 16) #[true, true, true, true, true, true, true, true, true, true, true, true, true, true, true, true, true, false, false, false, false] rfl rfl rfl (by kernel_rfl) (fun _ _ _ h => h) rfl ?_
                      refine TA.skip (i := 17) #[true, true, true, true, true, true, true, true, true, true, true, true, true, true, true, true, true, true, false, false, false] rfl rfl rfl (by kernel_rfl) (fun _ _ _ h => h) rfl ?_
                      refine TA.skip (i := 18) #[true, true, true, true, true, true, true, true, true, true, true, true, true, true, true, true, true, true, true, false, false] rfl rfl rfl (by kernel_rfl) (fun _ _ _ h => h) rfl ?_
                      refine TA.skip (i := 19) #[true, true, true, true, true, true, true, true, true, true, true, true, true, true, true, true, true, true, true, true, false] rfl rfl rfl (by kernel_rfl) (fun _ _ _ h => h) rfl ?_
                      refine' TA.y (i := 20) #[true, true, true, true, true, true, true, true, true, true, true, true, true, true, true, true, true, true, true, true, true] rfl rfl rfl (by kernel_rfl) (fun _ _ _ h => h) (fun _ h => by exact Hp.sub h (by repeat (first | exact List.Sublist.refl _ | apply List.Sublist.cons))) rfl ?hy166 ?_
                      case hy166 => exact Yl.pickF rfl rfl rfl
                      refine TA.done (by kernel_rfl) ?_
                      refine TE.next ?_
                      refine TC.no rfl rfl ?_
                      refine TC.skip ?_
                      refine TE.inNormal ?_
                      refine TE.next ?_
                      refine TC.region ?_
                      refine' TL.y rfl rfl rfl ?hy167 ?_
                      case hy167 => exact Yl.move rfl rfl
                      refine' TL.y rfl rfl rfl ?hy168 ?_
                      case hy168 => first | (refine Yl.val (Yl.bin rfl rfl rfl (Bin.add _ _ _ _)) (congrArg (Value.int .i64) (i64in ?_ ?_)) <;> omega) | exact Yl.bin rfl rfl rfl (Bin.add _ _ _ _)
                      refine' TL.y rfl rfl rfl ?hy169 ?_
                      case hy169 => exact Yl.assign rfl rfl
                      refine TL.nil ?_
                      refine TE.round (k + 1) ?hF170 ?hlt170 ?hs170 ?hm170
                      case hF170 => omega
                      case hlt170 => omega
                      case hs170 => exact ⟨rfl, rfl, rfl, rfl, rfl, rfl, rfl, trivial⟩
                      case hm170 => exact fun _ h => h
                  · skip
                    (try simp only [decide_eq_true_eq, decide_eq_false_iff_not, beq_iff_eq, beq_eq_false_iff_ne, bne_iff_ne, ne_eq, bne_eq_false_iff_eq, Bool.not_eq_true', Bool.not_eq_false', Int.not_lt, Int.not_le, gt_iff_lt, ge_iff_le] at hs90)
                    refine TC.exit ?_
                    refine TE.thenExit ?_
                    refine TE.thenExit ?_
                    refine TE.inHere ?_
                    refine TE.inNormal ?_
                    refine TE.next ?_
                    refine TC.region ?_
                    refine' TL.y rfl rfl rfl ?hy171 ?_
                    case hy171 => exact Yl.move rfl rfl
                    refine' TL.y rfl rfl rfl ?hy172 ?_
                    case hy172 => first | (refine Yl.val (Yl.bin rfl rfl rfl (Bin.add _ _ _ _)) (congrArg (Value.int .i64) (i64in ?_ ?_)) <;> omega) | exact Yl.bin rfl rfl rfl (Bin.add _ _ _ _)
                    refine' TL.y rfl rfl rfl ?hy173 ?_
                    case hy173 => exact Yl.assign rfl rfl
                    refine TL.nil ?_
                    refine TE.round (i + 1) ?hF174 ?hlt174 ?hs174 ?hm174
                    case hF174 => omega
                    case hlt174 => omega
                    case hs174 => exact ⟨rfl, rfl, rfl, rfl, rfl, rfl, trivial⟩
                    case hm174 => exact fun _ h => h
        · skip
          (try simp only [decide_eq_true_eq, decide_eq_false_iff_not, beq_iff_eq, beq_eq_false_iff_ne, bne_iff_ne, ne_eq, bne_eq_false_iff_eq, Bool.not_eq_true', Bool.not_eq_false', Int.not_lt, Int.not_le, gt_iff_lt, ge_iff_le] at hs47)
          refine TC.exit ?_
          refine TE.thenExit ?_
          refine TE.thenExit ?_
          refine TE.inHere ?_
          refine TE.next ?_
          refine TC.seq ?_
          refine TC.region ?_
          refine' TL.y rfl rfl rfl ?hy175 ?_
          case hy175 => exact Yl.move rfl rfl
          refine' TL.y rfl rfl rfl ?hy176 ?_
          case hy176 => exact Yl.move rfl rfl
          refine' TL.y rfl rfl rfl ?hy177 ?_
          case hy177 => exact Yl.move rfl rfl
          refine' TL.c rfl rfl rfl ?hy178 ?_
          case hy178 => exact Yc.call rfl Try.func14 (by kernel_rfl) rfl rfl (Hp.calls (fun w h => k_rsum w (h.ownVw mem0) (by omega)))
          intro _
          rw [split_sum hok hsp, i64in (x := n) (by omega) (by omega)]
          refine' TL.y rfl rfl rfl ?hy179 ?_
          case hy179 => exact Yl.move rfl rfl
          refine' TL.y rfl rfl rfl ?hy180 ?_
          case hy180 => exact Yl.bin rfl rfl rfl (Bin.eql _ _ _ _)
          refine' TL.y rfl rfl rfl ?hy181 ?_
          case hy181 => exact Yl.pickT rfl rfl rfl
          refine' TL.y rfl rfl rfl ?hy182 ?_
          case hy182 => exact Yl.assign rfl rfl
          refine TL.nil ?_
          refine TE.next ?_
          refine TC.ret ?_
          refine TE.ret1 rfl rfl ?_
          exact fun w h => ⟨by simp, (h.sub (List.nil_sublist _)).below⟩
end Go.Proofs.Ythjllhaebanplaa.Pk
