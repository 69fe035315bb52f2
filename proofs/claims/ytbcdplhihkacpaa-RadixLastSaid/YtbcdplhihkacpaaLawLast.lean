/- What was set last. -/
import Derived.Test.YtbcdplhihkacpaaRxW
import Derived.Test.YtbcdplhihkacpaaProg
import Derived.RowKit3
namespace Go.Proofs.Ytbcdplhihkacpaa.Pk
open Go Go.RowKit Go.Proofs.Ytbcdplhihkacpaa.HL Go.Proofs.Ytbcdplhihkacpaa.Ev Go.Proofs.YtbcdplhihkacpaaW.PrintWords Go.Proofs.RxP
set_option linter.unusedVariables false
set_option linter.unusedSimpArgs false
attribute [local irreducible] btw rowA nth ents Iw Aw stS stM walkL pagesL gI dpS rk nodes
theorem other_same {S : Sf} {p : Nat} {o x : Int} (h : o ≠ (p : Int)) : gt (updS S p (some x)) o = gt S o := by
  unfold gt
  split
  · rw [updS_ne (by omega)]
  · rfl
set_option maxRecDepth 100000 in
set_option maxHeartbeats 2000000 in
theorem law_last (W : World) {m : Nat} {f : Nat → Ac} {A : Option Addr} {cp : Nat} (hS : Sl W A (Aw m f)) (hm : m ≤ 9223372036854775807) (n x o : Int) : Calls Try.prog 7 #[.slice A m cp, .int .i64 n, .int .u64 x, .int .i64 o] W fun e w' => e = .returned (.bool true) ∧ Below W.heap.size W w' := by
  have hM : Hp W (fun _ => False) [] W := Hp.start
  refine TC.enter (n := 157) Try.func7 rfl rfl rfl hM ?_
  refine TC.seq ?_
  refine TC.region ?_
  refine' TL.y rfl rfl rfl ?hy1 ?_
  case hy1 => exact Yl.assign rfl rfl
  refine TL.nil ?_
  refine TE.next ?_
  refine TC.seq ?_
  refine TC.region ?_
  refine' TL.c rfl rfl rfl ?hy2 ?_
  case hy2 => exact Yc.call rfl Try.func10 (by kernel_rfl) rfl rfl (Hp.calls (fun w h => k_works w))
  intro _
  refine' TL.y rfl rfl rfl ?hy3 ?_
  case hy3 => exact Yl.assign rfl rfl
  refine TL.nil ?_
  refine TE.next ?_
  refine TC.seq ?_
  refine TC.seq ?_
  refine TC.region ?_
  refine' TL.y rfl rfl rfl ?hy4 ?_
  case hy4 => exact Yl.move rfl rfl
  refine' TL.y rfl rfl rfl ?hy5 ?_
  case hy5 => exact Yl.not rfl rfl
  refine TL.nil ?_
  refine TE.next ?_
  refine TC.no rfl rfl ?_
  refine TC.skip ?_
  refine TE.next ?_
  refine TC.seq ?_
  refine TC.seq ?_
  refine TC.region ?_
  refine' TL.y rfl rfl rfl ?hy6 ?_
  case hy6 => exact Yl.move rfl rfl
  refine' TL.y rfl rfl rfl ?hy7 ?_
  case hy7 => exact Yl.len rfl rfl Try.underlying22
  refine' TL.y rfl rfl rfl ?hy8 ?_
  case hy8 => exact Yl.bin rfl rfl rfl (Bin.gtr _ _ _ _)
  refine' TL.y rfl rfl rfl ?hy9 ?_
  case hy9 => exact Yl.move rfl rfl
  refine TL.split (i := 31) rfl (fun hs31 => ?_) (fun hs31 => ?_)
  · skip
    (try simp only [decide_eq_true_eq, decide_eq_false_iff_not, beq_iff_eq, beq_eq_false_iff_ne, bne_iff_ne, ne_eq, bne_eq_false_iff_eq, Bool.not_eq_true', Bool.not_eq_false', Int.not_lt, Int.not_le, gt_iff_lt, ge_iff_le] at hs31)
    refine TL.skip rfl rfl rfl ?_
    refine TL.skip rfl rfl rfl ?_
    refine' TL.y rfl rfl rfl ?hy10 ?_
    case hy10 => exact Yl.pickT rfl rfl rfl
    refine' TL.y rfl rfl rfl ?hy11 ?_
    case hy11 => exact Yl.move rfl rfl
    refine TL.skip rfl rfl rfl ?_
    refine TL.skip rfl rfl rfl ?_
    refine' TL.y rfl rfl rfl ?hy12 ?_
    case hy12 => exact Yl.pickT rfl rfl rfl
    refine TL.nil ?_
    refine TE.next ?_
    refine TC.yes rfl rfl ?_
    refine TC.seq ?_
    refine TC.region ?_
    refine' TL.y rfl rfl rfl ?hy13 ?_
    case hy13 => exact Yl.move rfl rfl
    refine' TL.y rfl rfl rfl ?hy14 ?_
    case hy14 => exact Yl.assign rfl rfl
    refine TL.nil ?_
    refine TE.next ?_
    refine TC.ret ?_
    refine TE.thenRet ?_
    refine TE.ret1 rfl rfl ?_
    exact fun w h => ⟨rfl, (h.sub (List.nil_sublist _)).below⟩
  · skip
    (try simp only [decide_eq_true_eq, decide_eq_false_iff_not, beq_iff_eq, beq_eq_false_iff_ne, bne_iff_ne, ne_eq, bne_eq_false_iff_eq, Bool.not_eq_true', Bool.not_eq_false', Int.not_lt, Int.not_le, gt_iff_lt, ge_iff_le] at hs31)
    refine' TL.y rfl rfl rfl ?hy15 ?_
    case hy15 => exact Yl.move rfl rfl
    refine' TL.y rfl rfl rfl ?hy16 ?_
    case hy16 => exact Yl.bin rfl rfl rfl (Bin.lss _ _ _ _)
    refine' TL.y rfl rfl rfl ?hy17 ?_
    case hy17 => exact Yl.pickF rfl rfl rfl
    refine' TL.y rfl rfl rfl ?hy18 ?_
    case hy18 => exact Yl.move rfl rfl
    refine TL.split (i := 35) rfl (fun hs35 => ?_) (fun hs35 => ?_)
    · skip
      (try simp only [decide_eq_true_eq, decide_eq_false_iff_not, beq_iff_eq, beq_eq_false_iff_ne, bne_iff_ne, ne_eq, bne_eq_false_iff_eq, Bool.not_eq_true', Bool.not_eq_false', Int.not_lt, Int.not_le, gt_iff_lt, ge_iff_le] at hs35)
      refine TL.skip rfl rfl rfl ?_
      refine TL.skip rfl rfl rfl ?_
      refine' TL.y rfl rfl rfl ?hy19 ?_
      case hy19 => exact Yl.pickT rfl rfl rfl
      refine TL.nil ?_
      refine TE.next ?_
      refine TC.yes rfl rfl ?_
      refine TC.seq ?_
      refine TC.region ?_
      refine' TL.y rfl rfl rfl ?hy20 ?_
      case hy20 => exact Yl.move rfl rfl
      refine' TL.y rfl rfl rfl ?hy21 ?_
      case hy21 => exact Yl.assign rfl rfl
      refine TL.nil ?_
      refine TE.next ?_
      refine TC.ret ?_
      refine TE.thenRet ?_
      refine TE.ret1 rfl rfl ?_
      exact fun w h => ⟨rfl, (h.sub (List.nil_sublist _)).below⟩
    · skip
      (try simp only [decide_eq_true_eq, decide_eq_false_iff_not, beq_iff_eq, beq_eq_false_iff_ne, bne_iff_ne, ne_eq, bne_eq_false_iff_eq, Bool.not_eq_true', Bool.not_eq_false', Int.not_lt, Int.not_le, gt_iff_lt, ge_iff_le] at hs35)
      refine' TL.y rfl rfl rfl ?hy22 ?_
      case hy22 => exact Yl.move rfl rfl
      refine' TL.y rfl rfl rfl ?hy23 ?_
      case hy23 => exact Yl.bin rfl rfl rfl (Bin.geq _ _ _ _)
      refine' TL.y rfl rfl rfl ?hy24 ?_
      case hy24 => exact Yl.pickF rfl rfl rfl
      refine TL.nil ?_
      refine TE.next ?_
      refine TC.cond rfl (fun hs38 => ?_) (fun hs38 => ?_)
      · skip
        (try simp only [decide_eq_true_eq, decide_eq_false_iff_not, beq_iff_eq, beq_eq_false_iff_ne, bne_iff_ne, ne_eq, bne_eq_false_iff_eq, Bool.not_eq_true', Bool.not_eq_false', Int.not_lt, Int.not_le, gt_iff_lt, ge_iff_le] at hs38)
        refine TC.seq ?_
        refine TC.region ?_
        refine' TL.y rfl rfl rfl ?hy25 ?_
        case hy25 => exact Yl.move rfl rfl
        refine' TL.y rfl rfl rfl ?hy26 ?_
        case hy26 => exact Yl.assign rfl rfl
        refine TL.nil ?_
        refine TE.next ?_
        refine TC.ret ?_
        refine TE.thenRet ?_
        refine TE.ret1 rfl rfl ?_
        exact fun w h => ⟨rfl, (h.sub (List.nil_sublist _)).below⟩
      · skip
        (try simp only [decide_eq_true_eq, decide_eq_false_iff_not, beq_iff_eq, beq_eq_false_iff_ne, bne_iff_ne, ne_eq, bne_eq_false_iff_eq, Bool.not_eq_true', Bool.not_eq_false', Int.not_lt, Int.not_le, gt_iff_lt, ge_iff_le] at hs38)
        obtain ⟨p, rfl⟩ := Int.eq_ofNat_of_zero_le (show 0 ≤ n by omega)
        have hp : p < 65536 := by omega
        refine TC.skip ?_
        refine TE.next ?_
        refine TC.seq ?_
        refine TC.region ?_
        refine' TL.c rfl rfl rfl ?hy27 ?_
        case hy27 => exact Yc.call rfl Try.func11 (by kernel_rfl) rfl rfl (Hp.news (fun w h => k_new w))
        intro b
        refine' TL.y rfl rfl rfl ?hy28 ?_
        case hy28 => exact Yl.assign rfl rfl
        refine TL.nil ?_
        refine TE.next ?_
        refine TC.seq ?_
        refine TC.seq ?_
        refine TC.region ?_
        refine' TL.y rfl rfl rfl ?hy29 ?_
        case hy29 => exact Yl.assign rfl rfl
        refine TL.nil ?_
        refine TE.next ?_
        refine TC.block ?_
        refine TC.loop (σ := Nat × St) (fun s => [(0, .slice A m cp), (1, .int .i64 (p : Int)), (2, .int .u64 x), (3, .int .i64 o), (9, .bool true), (10, .pointer (some ⟨b, 0, none⟩)), (11, .int .i64 (s.1 : Int))]) (fun s => Hp W (fun _ => False) [tabR s.2]) (fun s => s.1 ≤ m ∧ Tab s.2 (stS f s.1) b) (fun s => m - s.1) (0, st0 b) ?hF30 ?hs30 ?hm30 ?round30
        case hF30 => exact ⟨Nat.zero_le _, by show Tab _ (stS f 0) b; rw [stS]; exact Tab.new b⟩
        case hs30 => exact ⟨rfl, rfl, rfl, rfl, rfl, rfl, rfl, trivial⟩
        case hm30 => exact fun _ h => h
        case round30 =>
          rintro ⟨i, st⟩ ⟨hi, hTab⟩
          dsimp only at hi hTab ⊢
          refine TC.seq ?_
          refine TC.seq ?_
          refine TC.region ?_
          refine' TL.y rfl rfl rfl ?hy31 ?_
          case hy31 => exact Yl.move rfl rfl
          refine' TL.y rfl rfl rfl ?hy32 ?_
          case hy32 => exact Yl.move rfl rfl
          refine' TL.y rfl rfl rfl ?hy33 ?_
          case hy33 => exact Yl.len rfl rfl Try.underlying22
          refine' TL.y rfl rfl rfl ?hy34 ?_
          case hy34 => exact Yl.bin rfl rfl rfl (Bin.lss _ _ _ _)
          refine TL.nil ?_
          refine TE.next ?_
          refine TC.cond rfl (fun hs44 => ?_) (fun hs44 => ?_)
          · skip
            (try simp only [decide_eq_true_eq, decide_eq_false_iff_not, beq_iff_eq, beq_eq_false_iff_ne, bne_iff_ne, ne_eq, bne_eq_false_iff_eq, Bool.not_eq_true', Bool.not_eq_false', Int.not_lt, Int.not_le, gt_iff_lt, ge_iff_le] at hs44)
            have him : i < m := by omega
            obtain ⟨b0, o0, rfl⟩ := Sl.some2 hS (by rw [Aw_length]; omega)
            refine TC.skip ?_
            refine TE.next ?_
            refine TC.seq ?_
            refine TC.block ?_
            refine TC.draw (k := 12) (Hp W (fun _ => False) []) [] #[false, false, false, false, false, false, false, false, false, false, false, false] (by kernel_rfl) rfl rfl (fun _ h => h.drew) (fun _ h => by exact Hp.sub h (by repeat (first | exact List.Sublist.refl _ | exact List.nil_sublist _ | apply List.Sublist.cons_cons | apply List.Sublist.cons))) ?_
            refine' TA.y (i := 0) #[true, false, false, false, false, false, false, false, false, false, false, false] rfl rfl rfl (by kernel_rfl) (fun _ _ _ h => h) (fun _ h => by exact Hp.sub h (by repeat (first | exact List.Sublist.refl _ | exact List.nil_sublist _ | apply List.Sublist.cons_cons | apply List.Sublist.cons))) rfl ?hy35 ?_
            case hy35 => exact Yl.move rfl rfl
            refine' TA.y (i := 1) #[true, true, false, false, false, false, false, false, false, false, false, false] rfl rfl rfl (by kernel_rfl) (fun _ _ _ h => h) (fun _ h => by exact Hp.sub h (by repeat (first | exact List.Sublist.refl _ | exact List.nil_sublist _ | apply List.Sublist.cons_cons | apply List.Sublist.cons))) rfl ?hy36 ?_
            case hy36 => exact Yl.move rfl rfl
            refine' TA.y (i := 2) #[true, true, true, false, false, false, false, false, false, false, false, false] rfl rfl rfl (by kernel_rfl) (fun _ _ _ h => h) (fun _ h => by exact Hp.sub h (by repeat (first | exact List.Sublist.refl _ | exact List.nil_sublist _ | apply List.Sublist.cons_cons | apply List.Sublist.cons))) rfl ?hy37 ?_
            case hy37 => exact Yl.move rfl rfl
            refine' TA.y (i := 3) #[true, true, true, true, false, false, false, false, false, false, false, false] rfl rfl rfl (by kernel_rfl) (fun _ _ _ h => h) (fun _ h => by exact Hp.sub h (by repeat (first | exact List.Sublist.refl _ | exact List.nil_sublist _ | apply List.Sublist.cons_cons | apply List.Sublist.cons))) rfl ?hy38 ?_
            case hy38 => first | exact Yl.ixkn (k := 3) rfl rfl rfl Try.underlying22 (by kernel_rfl) (by omega) | exact Yl.ixkz (k := 3) rfl rfl rfl Try.underlying22 (by kernel_rfl) (by omega) (by omega)
            refine' TA.y (i := 4) #[true, true, true, true, true, false, false, false, false, false, false, false] rfl rfl rfl (by kernel_rfl) (fun _ _ _ h => h) (fun _ h => by exact Hp.sub h (by repeat (first | exact List.Sublist.refl _ | exact List.nil_sublist _ | apply List.Sublist.cons_cons | apply List.Sublist.cons))) rfl ?hy39 ?_
            case hy39 => first | exact Yl.field0 (k := 0) 0 rfl rfl Try.underlying30 rfl (by kernel_rfl) rfl | exact Yl.field (k := 0) 0 rfl rfl Try.underlying30 rfl (by kernel_rfl) rfl
            refine' TA.y (i := 5) #[true, true, true, true, true, true, false, false, false, false, false, false] rfl rfl rfl (by kernel_rfl) (fun _ _ _ h => h) (fun _ h => by exact Hp.sub h (by repeat (first | exact List.Sublist.refl _ | exact List.nil_sublist _ | apply List.Sublist.cons_cons | apply List.Sublist.cons))) rfl ?hy40 ?_
            case hy40 => exact Yl.load rfl rfl (by kernel_rfl) (Sl.aw hS (i := 0) rfl (by omega) (by decide))
            refine TA.re (i := 52) (v' := .int .i64 ((f i).1)) rfl rfl ?_
            refine' TA.y (i := 6) #[true, true, true, true, true, true, true, false, false, false, false, false] rfl rfl rfl (by kernel_rfl) (fun _ _ _ h => h) (fun _ h => by exact Hp.sub h (by repeat (first | exact List.Sublist.refl _ | exact List.nil_sublist _ | apply List.Sublist.cons_cons | apply List.Sublist.cons))) rfl ?hy41 ?_
            case hy41 => exact Yl.move rfl rfl
            refine' TA.y (i := 7) #[true, true, true, true, true, true, true, true, false, false, false, false] rfl rfl rfl (by kernel_rfl) (fun _ _ _ h => h) (fun _ h => by exact Hp.sub h (by repeat (first | exact List.Sublist.refl _ | exact List.nil_sublist _ | apply List.Sublist.cons_cons | apply List.Sublist.cons))) rfl ?hy42 ?_
            case hy42 => exact Yl.move rfl rfl
            refine' TA.y (i := 8) #[true, true, true, true, true, true, true, true, true, false, false, false] rfl rfl rfl (by kernel_rfl) (fun _ _ _ h => h) (fun _ h => by exact Hp.sub h (by repeat (first | exact List.Sublist.refl _ | exact List.nil_sublist _ | apply List.Sublist.cons_cons | apply List.Sublist.cons))) rfl ?hy43 ?_
            case hy43 => first | exact Yl.ixkn (k := 3) rfl rfl rfl Try.underlying22 (by kernel_rfl) (by omega) | exact Yl.ixkz (k := 3) rfl rfl rfl Try.underlying22 (by kernel_rfl) (by omega) (by omega)
            refine' TA.y (i := 9) #[true, true, true, true, true, true, true, true, true, true, false, false] rfl rfl rfl (by kernel_rfl) (fun _ _ _ h => h) (fun _ h => by exact Hp.sub h (by repeat (first | exact List.Sublist.refl _ | exact List.nil_sublist _ | apply List.Sublist.cons_cons | apply List.Sublist.cons))) rfl ?hy44 ?_
            case hy44 => first | exact Yl.field0 (k := 0) 1 rfl rfl Try.underlying30 rfl (by kernel_rfl) rfl | exact Yl.field (k := 0) 1 rfl rfl Try.underlying30 rfl (by kernel_rfl) rfl
            refine' TA.y (i := 10) #[true, true, true, true, true, true, true, true, true, true, true, false] rfl rfl rfl (by kernel_rfl) (fun _ _ _ h => h) (fun _ h => by exact Hp.sub h (by repeat (first | exact List.Sublist.refl _ | exact List.nil_sublist _ | apply List.Sublist.cons_cons | apply List.Sublist.cons))) rfl ?hy45 ?_
            case hy45 => exact Yl.load rfl rfl (by kernel_rfl) (Sl.aw hS (i := 1) rfl (by omega) (by decide))
            refine TA.re (i := 57) (v' := .int .u64 ((f i).2.1)) rfl rfl ?_
            refine' TA.c (i := 11) #[true, true, true, true, true, true, true, true, true, true, true, true] rfl rfl rfl (by kernel_rfl) (by decide) rfl ?hy46 ?hz46 ?_
            case hy46 => exact Yc.call rfl Try.func12 (by kernel_rfl) rfl rfl (Hp.turnx mem0 (fun s => foc0) (k_set hTab (f i).1 (f i).2.1))
            case hz46 => exact (fun _ _ h => by exact Hp.sub h (by repeat (first | exact List.Sublist.refl _ | apply List.Sublist.cons)))
            intro ⟨st2, hT2⟩
            dsimp only
            refine TA.done (by kernel_rfl) ?_
            refine TE.inNormal ?_
            refine TE.next ?_
            refine TC.region ?_
            refine' TL.y rfl rfl rfl ?hy47 ?_
            case hy47 => exact Yl.move rfl rfl
            refine' TL.y rfl rfl rfl ?hy48 ?_
            case hy48 => first | (refine Yl.val (Yl.bin rfl rfl rfl (Bin.add _ _ _ _)) (congrArg (Value.int .i64) (i64in ?_ ?_)) <;> omega) | exact Yl.bin rfl rfl rfl (Bin.add _ _ _ _)
            refine' TL.y rfl rfl rfl ?hy49 ?_
            case hy49 => exact Yl.assign rfl rfl
            refine TL.nil ?_
            refine TE.round (i + 1, st2) ?hF50 ?hlt50 ?hs50 ?hm50
            case hF50 => exact ⟨by dsimp only; omega, by show Tab st2 (stS f (i + 1)) b; rw [stS]; exact hT2⟩
            case hlt50 => dsimp only; omega
            case hs50 => exact ⟨rfl, rfl, rfl, rfl, rfl, rfl, rfl, trivial⟩
            case hm50 => exact fun _ h => h
          · skip
            (try simp only [decide_eq_true_eq, decide_eq_false_iff_not, beq_iff_eq, beq_eq_false_iff_ne, bne_iff_ne, ne_eq, bne_eq_false_iff_eq, Bool.not_eq_true', Bool.not_eq_false', Int.not_lt, Int.not_le, gt_iff_lt, ge_iff_le] at hs44)
            obtain rfl : m = i := by omega
            have hn0 : (updS (stS f m) p none) p = none := updS_at _ _ _
            have hnn := nodes_put (updS (stS f m) p none) p x
            have hnl := nodes_le (updS (stS f m) p none)
            have hrk := rk_le (updS (stS f m) p none) 65536
            refine TC.exit ?_
            refine TE.thenExit ?_
            refine TE.thenExit ?_
            refine TE.inHere ?_
            refine TE.next ?_
            refine TC.seq ?_
            refine TC.region ?_
            refine' TL.y rfl rfl rfl ?hy51 ?_
            case hy51 => exact Yl.move rfl rfl
            refine' TL.y rfl rfl rfl ?hy52 ?_
            case hy52 => exact Yl.move rfl rfl
            refine' TL.c rfl rfl rfl ?hy53 ?_
            case hy53 => exact Yc.call rfl Try.func18 (by kernel_rfl) rfl rfl (Hp.turnx mem0 (fun s => foc0) (k_drop hTab (p : Int)))
            intro ⟨st3, hT3⟩
            dsimp only
            rw [offS_nat hp] at hT3
            refine TL.nil ?_
            refine TE.next ?_
            refine TC.seq ?_
            refine TC.region ?_
            refine' TL.y rfl rfl rfl ?hy54 ?_
            case hy54 => exact Yl.move rfl rfl
            refine' TL.c rfl rfl rfl ?hy55 ?_
            case hy55 => exact Yc.call rfl Try.func17 (by kernel_rfl) rfl rfl (Hp.calls (fun w h => k_nodesT w (h.all _ mem0) hT3))
            intro _
            refine' TL.y rfl rfl rfl ?hy56 ?_
            case hy56 => exact Yl.assign rfl rfl
            refine TL.nil ?_
            refine TE.next ?_
            refine TC.seq ?_
            refine TC.region ?_
            refine' TL.y rfl rfl rfl ?hy57 ?_
            case hy57 => exact Yl.move rfl rfl
            refine' TL.c rfl rfl rfl ?hy58 ?_
            case hy58 => exact Yc.call rfl Try.func22 (by kernel_rfl) rfl rfl (Hp.calls (fun w h => k_lenT w (h.all _ mem0) hT3))
            intro _
            refine' TL.y rfl rfl rfl ?hy59 ?_
            case hy59 => exact Yl.assign rfl rfl
            refine TL.nil ?_
            refine TE.next ?_
            refine TC.seq ?_
            refine TC.region ?_
            refine' TL.y rfl rfl rfl ?hy60 ?_
            case hy60 => exact Yl.move rfl rfl
            refine' TL.y rfl rfl rfl ?hy61 ?_
            case hy61 => exact Yl.move rfl rfl
            refine' TL.c rfl rfl rfl ?hy62 ?_
            case hy62 => exact Yc.call rfl Try.func14 (by kernel_rfl) rfl rfl (Hp.calls (fun w h => k_getT w (h.all _ mem0) hT3 o))
            intro _
            refine' TL.y rfl rfl rfl ?hy63 ?_
            case hy63 => exact Yl.move rfl rfl
            refine' TL.y rfl rfl rfl ?hy64 ?_
            case hy64 => exact Yl.extract rfl rfl rfl
            refine' TL.y rfl rfl rfl ?hy65 ?_
            case hy65 => exact Yl.extract rfl rfl rfl
            refine' TL.y rfl rfl rfl ?hy66 ?_
            case hy66 => exact Yl.assign rfl rfl
            refine' TL.y rfl rfl rfl ?hy67 ?_
            case hy67 => exact Yl.assign rfl rfl
            refine TL.nil ?_
            refine TE.next ?_
            refine TC.seq ?_
            refine TC.region ?_
            refine' TL.y rfl rfl rfl ?hy68 ?_
            case hy68 => exact Yl.move rfl rfl
            refine' TL.y rfl rfl rfl ?hy69 ?_
            case hy69 => exact Yl.move rfl rfl
            refine' TL.y rfl rfl rfl ?hy70 ?_
            case hy70 => exact Yl.move rfl rfl
            refine' TL.c rfl rfl rfl ?hy71 ?_
            case hy71 => exact Yc.call rfl Try.func12 (by kernel_rfl) rfl rfl (Hp.turnx mem0 (fun s => foc0) (k_set hT3 (p : Int) x))
            intro ⟨st4, hT4⟩
            dsimp only
            rw [setS_nat hp] at hT4
            refine TL.re (i := 75) (v' := .int .i64 0) rfl (by rw [if_pos (by omega)]) ?_
            refine' TL.y rfl rfl rfl ?hy72 ?_
            case hy72 => exact Yl.assign rfl rfl
            refine TL.nil ?_
            refine TE.next ?_
            refine TC.seq ?_
            refine TC.region ?_
            refine' TL.y rfl rfl rfl ?hy73 ?_
            case hy73 => exact Yl.move rfl rfl
            refine' TL.y rfl rfl rfl ?hy74 ?_
            case hy74 => exact Yl.move rfl rfl
            refine' TL.c rfl rfl rfl ?hy75 ?_
            case hy75 => exact Yc.call rfl Try.func14 (by kernel_rfl) rfl rfl (Hp.calls (fun w h => k_getT w (h.all _ mem0) hT4 (p : Int)))
            intro _
            rw [gt_nat hp, updS_at]
            refine TL.re (i := 79) (v' := .tuple #[.int .u64 x, .bool true]) rfl rfl ?_
            refine' TL.y rfl rfl rfl ?hy76 ?_
            case hy76 => exact Yl.move rfl rfl
            refine' TL.y rfl rfl rfl ?hy77 ?_
            case hy77 => exact Yl.extract rfl rfl rfl
            refine' TL.y rfl rfl rfl ?hy78 ?_
            case hy78 => exact Yl.extract rfl rfl rfl
            refine' TL.y rfl rfl rfl ?hy79 ?_
            case hy79 => exact Yl.assign rfl rfl
            refine' TL.y rfl rfl rfl ?hy80 ?_
            case hy80 => exact Yl.assign rfl rfl
            refine TL.nil ?_
            refine TE.next ?_
            refine TC.seq ?_
            refine TC.region ?_
            refine' TL.y rfl rfl rfl ?hy81 ?_
            case hy81 => exact Yl.move rfl rfl
            refine' TL.y rfl rfl rfl ?hy82 ?_
            case hy82 => exact Yl.move rfl rfl
            refine' TL.c rfl rfl rfl ?hy83 ?_
            case hy83 => exact Yc.call rfl Try.func14 (by kernel_rfl) rfl rfl (Hp.calls (fun w h => k_getT w (h.all _ mem0) hT4 o))
            intro _
            refine' TL.y rfl rfl rfl ?hy84 ?_
            case hy84 => exact Yl.move rfl rfl
            refine' TL.y rfl rfl rfl ?hy85 ?_
            case hy85 => exact Yl.extract rfl rfl rfl
            refine' TL.y rfl rfl rfl ?hy86 ?_
            case hy86 => exact Yl.extract rfl rfl rfl
            refine' TL.y rfl rfl rfl ?hy87 ?_
            case hy87 => exact Yl.assign rfl rfl
            refine' TL.y rfl rfl rfl ?hy88 ?_
            case hy88 => exact Yl.assign rfl rfl
            refine TL.nil ?_
            refine TE.next ?_
            refine TC.seq ?_
            refine TC.region ?_
            refine' TL.y rfl rfl rfl ?hy89 ?_
            case hy89 => exact Yl.move rfl rfl
            refine' TL.c rfl rfl rfl ?hy90 ?_
            case hy90 => exact Yc.call rfl Try.func17 (by kernel_rfl) rfl rfl (Hp.calls (fun w h => k_nodesT w (h.all _ mem0) hT4))
            intro _
            refine' TL.y rfl rfl rfl ?hy91 ?_
            case hy91 => exact Yl.assign rfl rfl
            refine TL.nil ?_
            refine TE.next ?_
            refine TC.seq ?_
            refine TC.region ?_
            refine' TL.y rfl rfl rfl ?hy92 ?_
            case hy92 => exact Yl.move rfl rfl
            refine' TL.y rfl rfl rfl ?hy93 ?_
            case hy93 => exact Yl.move rfl rfl
            refine' TL.c rfl rfl rfl ?hy94 ?_
            case hy94 => exact Yc.call rfl Try.func18 (by kernel_rfl) rfl rfl (Hp.turnx mem0 (fun s => foc0) (k_drop hT4 (p : Int)))
            intro ⟨st5, hT5⟩
            dsimp only
            rw [offS_nat hp, updS_back hn0] at hT5
            refine TL.re (i := 92) (v' := .bool true) rfl (by rw [gt_nat hp, updS_at]; rfl) ?_
            refine' TL.y rfl rfl rfl ?hy95 ?_
            case hy95 => exact Yl.assign rfl rfl
            refine TL.nil ?_
            refine TE.next ?_
            refine TC.seq ?_
            refine TC.region ?_
            refine' TL.y rfl rfl rfl ?hy96 ?_
            case hy96 => exact Yl.move rfl rfl
            refine' TL.y rfl rfl rfl ?hy97 ?_
            case hy97 => exact Yl.move rfl rfl
            refine' TL.c rfl rfl rfl ?hy98 ?_
            case hy98 => exact Yc.call rfl Try.func14 (by kernel_rfl) rfl rfl (Hp.calls (fun w h => k_getT w (h.all _ mem0) hT5 (p : Int)))
            intro _
            rw [gt_nat hp, updS_at]
            refine TL.re (i := 96) (v' := .tuple #[.int .u64 0, .bool false]) rfl rfl ?_
            refine' TL.y rfl rfl rfl ?hy99 ?_
            case hy99 => exact Yl.move rfl rfl
            refine' TL.y rfl rfl rfl ?hy100 ?_
            case hy100 => exact Yl.extract rfl rfl rfl
            refine' TL.y rfl rfl rfl ?hy101 ?_
            case hy101 => exact Yl.extract rfl rfl rfl
            refine' TL.y rfl rfl rfl ?hy102 ?_
            case hy102 => exact Yl.assign rfl rfl
            refine' TL.y rfl rfl rfl ?hy103 ?_
            case hy103 => exact Yl.assign rfl rfl
            refine TL.nil ?_
            refine TE.next ?_
            refine TC.seq ?_
            refine TC.region ?_
            refine' TL.y rfl rfl rfl ?hy104 ?_
            case hy104 => exact Yl.move rfl rfl
            refine' TL.y rfl rfl rfl ?hy105 ?_
            case hy105 => exact Yl.move rfl rfl
            refine' TL.y rfl rfl rfl ?hy106 ?_
            case hy106 => exact Yl.move rfl rfl
            refine' TL.y rfl rfl rfl ?hy107 ?_
            case hy107 => exact Yl.bin rfl rfl rfl (Bin.eql _ _ _ _)
            refine' TL.y rfl rfl rfl ?hy108 ?_
            case hy108 => exact Yl.pickT rfl rfl rfl
            refine' TL.y rfl rfl rfl ?hy109 ?_
            case hy109 => exact Yl.move rfl rfl
            refine TL.re (i := 104) (v' := .bool true) rfl (congrArg Value.bool (rfl)) ?_
            refine' TL.y rfl rfl rfl ?hy110 ?_
            case hy110 => exact Yl.move rfl rfl
            refine' TL.y rfl rfl rfl ?hy111 ?_
            case hy111 => exact Yl.pickT rfl rfl rfl
            refine' TL.y rfl rfl rfl ?hy112 ?_
            case hy112 => exact Yl.move rfl rfl
            refine' TL.y rfl rfl rfl ?hy113 ?_
            case hy113 => exact Yl.move rfl rfl
            refine' TL.y rfl rfl rfl ?hy114 ?_
            case hy114 => exact Yl.move rfl rfl
            refine' TL.y rfl rfl rfl ?hy115 ?_
            case hy115 => exact Yl.bin rfl rfl rfl (Bin.eql _ _ _ _)
            refine' TL.y rfl rfl rfl ?hy116 ?_
            case hy116 => exact Yl.pickT rfl rfl rfl
            refine' TL.y rfl rfl rfl ?hy117 ?_
            case hy117 => exact Yl.move rfl rfl
            refine TL.re (i := 112) (v' := .bool true) rfl (congrArg Value.bool (by simp)) ?_
            refine' TL.y rfl rfl rfl ?hy118 ?_
            case hy118 => exact Yl.move rfl rfl
            refine' TL.y rfl rfl rfl ?hy119 ?_
            case hy119 => exact Yl.move rfl rfl
            refine' TL.y rfl rfl rfl ?hy120 ?_
            case hy120 => exact Yl.bin rfl rfl rfl (Bin.eql _ _ _ _)
            refine' TL.y rfl rfl rfl ?hy121 ?_
            case hy121 => exact Yl.move rfl rfl
            refine TL.split (i := 116) rfl (fun hs116 => ?_) (fun hs116 => ?_)
            · skip
              (try simp only [decide_eq_true_eq, decide_eq_false_iff_not, beq_iff_eq, beq_eq_false_iff_ne, bne_iff_ne, ne_eq, bne_eq_false_iff_eq, Bool.not_eq_true', Bool.not_eq_false', Int.not_lt, Int.not_le, gt_iff_lt, ge_iff_le] at hs116)
              refine TL.skip rfl rfl rfl ?_
              refine TL.skip rfl rfl rfl ?_
              refine TL.skip rfl rfl rfl ?_
              refine TL.skip rfl rfl rfl ?_
              refine TL.skip rfl rfl rfl ?_
              refine TL.skip rfl rfl rfl ?_
              refine TL.skip rfl rfl rfl ?_
              refine TL.skip rfl rfl rfl ?_
              refine' TL.y rfl rfl rfl ?hy122 ?_
              case hy122 => exact Yl.pickT rfl rfl rfl
              refine' TL.y rfl rfl rfl ?hy123 ?_
              case hy123 => exact Yl.pickT rfl rfl rfl
              refine' TL.y rfl rfl rfl ?hy124 ?_
              case hy124 => exact Yl.move rfl rfl
              refine' TL.y rfl rfl rfl ?hy125 ?_
              case hy125 => exact Yl.move rfl rfl
              refine' TL.y rfl rfl rfl ?hy126 ?_
              case hy126 => exact Yl.move rfl rfl
              refine' TL.y rfl rfl rfl ?hy127 ?_
              case hy127 => exact Yl.bin rfl rfl rfl (Bin.geq _ _ _ _)
              refine' TL.y rfl rfl rfl ?hy128 ?_
              case hy128 => exact Yl.pickT rfl rfl rfl
              refine' TL.y rfl rfl rfl ?hy129 ?_
              case hy129 => exact Yl.move rfl rfl
              refine TL.re (i := 132) (v' := .bool true) rfl (congrArg Value.bool (decide_eq_true (by omega))) ?_
              refine' TL.y rfl rfl rfl ?hy130 ?_
              case hy130 => exact Yl.move rfl rfl
              refine' TL.y rfl rfl rfl ?hy131 ?_
              case hy131 => exact Yl.move rfl rfl
              refine' TL.y rfl rfl rfl ?hy132 ?_
              case hy132 => first | (refine Yl.val (Yl.bin rfl rfl rfl (Bin.add _ _ _ _)) (congrArg (Value.int .i64) (i64in ?_ ?_)) <;> omega) | exact Yl.bin rfl rfl rfl (Bin.add _ _ _ _)
              refine' TL.y rfl rfl rfl ?hy133 ?_
              case hy133 => exact Yl.bin rfl rfl rfl (Bin.leq _ _ _ _)
              refine' TL.y rfl rfl rfl ?hy134 ?_
              case hy134 => exact Yl.pickT rfl rfl rfl
              refine' TL.y rfl rfl rfl ?hy135 ?_
              case hy135 => exact Yl.move rfl rfl
              refine TL.re (i := 138) (v' := .bool true) rfl (congrArg Value.bool (decide_eq_true (by omega))) ?_
              refine' TL.y rfl rfl rfl ?hy136 ?_
              case hy136 => exact Yl.move rfl rfl
              refine' TL.y rfl rfl rfl ?hy137 ?_
              case hy137 => exact Yl.pickT rfl rfl rfl
              refine' TL.y rfl rfl rfl ?hy138 ?_
              case hy138 => exact Yl.move rfl rfl
              refine' TL.y rfl rfl rfl ?hy139 ?_
              case hy139 => exact Yl.move rfl rfl
              refine' TL.y rfl rfl rfl ?hy140 ?_
              case hy140 => exact Yl.not rfl rfl
              refine' TL.y rfl rfl rfl ?hy141 ?_
              case hy141 => exact Yl.pickT rfl rfl rfl
              refine' TL.y rfl rfl rfl ?hy142 ?_
              case hy142 => exact Yl.move rfl rfl
              refine' TL.y rfl rfl rfl ?hy143 ?_
              case hy143 => exact Yl.move rfl rfl
              refine' TL.c rfl rfl rfl ?hy144 ?_
              case hy144 => exact Yc.call rfl Try.func17 (by kernel_rfl) rfl rfl (Hp.calls (fun w h => k_nodesT w (h.all _ mem0) hT5))
              intro _
              refine' TL.y rfl rfl rfl ?hy145 ?_
              case hy145 => exact Yl.move rfl rfl
              refine' TL.y rfl rfl rfl ?hy146 ?_
              case hy146 => exact Yl.bin rfl rfl rfl (Bin.eql _ _ _ _)
              refine' TL.y rfl rfl rfl ?hy147 ?_
              case hy147 => exact Yl.pickT rfl rfl rfl
              refine' TL.y rfl rfl rfl ?hy148 ?_
              case hy148 => exact Yl.move rfl rfl
              refine TL.re (i := 151) (v' := .bool true) rfl (congrArg Value.bool (by simp)) ?_
              refine' TL.y rfl rfl rfl ?hy149 ?_
              case hy149 => exact Yl.move rfl rfl
              refine' TL.c rfl rfl rfl ?hy150 ?_
              case hy150 => exact Yc.call rfl Try.func22 (by kernel_rfl) rfl rfl (Hp.calls (fun w h => k_lenT w (h.all _ mem0) hT5))
              intro _
              refine' TL.y rfl rfl rfl ?hy151 ?_
              case hy151 => exact Yl.move rfl rfl
              refine' TL.y rfl rfl rfl ?hy152 ?_
              case hy152 => exact Yl.bin rfl rfl rfl (Bin.eql _ _ _ _)
              refine' TL.y rfl rfl rfl ?hy153 ?_
              case hy153 => exact Yl.pickT rfl rfl rfl
              refine' TL.y rfl rfl rfl ?hy154 ?_
              case hy154 => exact Yl.assign rfl rfl
              refine TL.nil ?_
              refine TE.next ?_
              refine TC.ret ?_
              refine TE.ret1 rfl rfl ?_
              exact fun w h => ⟨by simp, (h.sub (List.nil_sublist _)).below⟩
            · skip
              (try simp only [decide_eq_true_eq, decide_eq_false_iff_not, beq_iff_eq, beq_eq_false_iff_ne, bne_iff_ne, ne_eq, bne_eq_false_iff_eq, Bool.not_eq_true', Bool.not_eq_false', Int.not_lt, Int.not_le, gt_iff_lt, ge_iff_le] at hs116)
              have hoth := other_same (S := (updS (stS f m) p none)) (x := x) (show o ≠ (p : Int) by first | exact hs116 | omega)
              refine' TL.y rfl rfl rfl ?hy155 ?_
              case hy155 => exact Yl.move rfl rfl
              refine' TL.y rfl rfl rfl ?hy156 ?_
              case hy156 => exact Yl.move rfl rfl
              refine' TL.y rfl rfl rfl ?hy157 ?_
              case hy157 => exact Yl.bin rfl rfl rfl (Bin.eql _ _ _ _)
              refine' TL.y rfl rfl rfl ?hy158 ?_
              case hy158 => exact Yl.move rfl rfl
              refine TL.re (i := 120) (v' := .bool true) rfl (congrArg Value.bool (by rw [hoth]; simp)) ?_
              refine' TL.y rfl rfl rfl ?hy159 ?_
              case hy159 => exact Yl.move rfl rfl
              refine' TL.y rfl rfl rfl ?hy160 ?_
              case hy160 => exact Yl.move rfl rfl
              refine' TL.y rfl rfl rfl ?hy161 ?_
              case hy161 => exact Yl.bin rfl rfl rfl (Bin.eqlB _ _ _ (by kernel_rfl))
              refine' TL.y rfl rfl rfl ?hy162 ?_
              case hy162 => exact Yl.pickT rfl rfl rfl
              refine' TL.y rfl rfl rfl ?hy163 ?_
              case hy163 => exact Yl.pickF rfl rfl rfl
              refine' TL.y rfl rfl rfl ?hy164 ?_
              case hy164 => exact Yl.pickT rfl rfl rfl
              refine' TL.y rfl rfl rfl ?hy165 ?_
              case hy165 => exact Yl.move rfl rfl
              refine TL.re (i := 127) (v' := .bool true) rfl (congrArg Value.bool (by rw [hoth]; simp)) ?_
              refine' TL.y rfl rfl rfl ?hy166 ?_
              case hy166 => exact Yl.move rfl rfl
              refine' TL.y rfl rfl rfl ?hy167 ?_
              case hy167 => exact Yl.move rfl rfl
              refine' TL.y rfl rfl rfl ?hy168 ?_
              case hy168 => exact Yl.bin rfl rfl rfl (Bin.geq _ _ _ _)
              refine' TL.y rfl rfl rfl ?hy169 ?_
              case hy169 => exact Yl.pickT rfl rfl rfl
              refine' TL.y rfl rfl rfl ?hy170 ?_
              case hy170 => exact Yl.move rfl rfl
              refine TL.re (i := 132) (v' := .bool true) rfl (congrArg Value.bool (decide_eq_true (by omega))) ?_
              refine' TL.y rfl rfl rfl ?hy171 ?_
              case hy171 => exact Yl.move rfl rfl
              refine' TL.y rfl rfl rfl ?hy172 ?_
              case hy172 => exact Yl.move rfl rfl
              refine' TL.y rfl rfl rfl ?hy173 ?_
              case hy173 => first | (refine Yl.val (Yl.bin rfl rfl rfl (Bin.add _ _ _ _)) (congrArg (Value.int .i64) (i64in ?_ ?_)) <;> omega) | exact Yl.bin rfl rfl rfl (Bin.add _ _ _ _)
              refine' TL.y rfl rfl rfl ?hy174 ?_
              case hy174 => exact Yl.bin rfl rfl rfl (Bin.leq _ _ _ _)
              refine' TL.y rfl rfl rfl ?hy175 ?_
              case hy175 => exact Yl.pickT rfl rfl rfl
              refine' TL.y rfl rfl rfl ?hy176 ?_
              case hy176 => exact Yl.move rfl rfl
              refine TL.re (i := 138) (v' := .bool true) rfl (congrArg Value.bool (decide_eq_true (by omega))) ?_
              refine' TL.y rfl rfl rfl ?hy177 ?_
              case hy177 => exact Yl.move rfl rfl
              refine' TL.y rfl rfl rfl ?hy178 ?_
              case hy178 => exact Yl.pickT rfl rfl rfl
              refine' TL.y rfl rfl rfl ?hy179 ?_
              case hy179 => exact Yl.move rfl rfl
              refine' TL.y rfl rfl rfl ?hy180 ?_
              case hy180 => exact Yl.move rfl rfl
              refine' TL.y rfl rfl rfl ?hy181 ?_
              case hy181 => exact Yl.not rfl rfl
              refine' TL.y rfl rfl rfl ?hy182 ?_
              case hy182 => exact Yl.pickT rfl rfl rfl
              refine' TL.y rfl rfl rfl ?hy183 ?_
              case hy183 => exact Yl.move rfl rfl
              refine' TL.y rfl rfl rfl ?hy184 ?_
              case hy184 => exact Yl.move rfl rfl
              refine' TL.c rfl rfl rfl ?hy185 ?_
              case hy185 => exact Yc.call rfl Try.func17 (by kernel_rfl) rfl rfl (Hp.calls (fun w h => k_nodesT w (h.all _ mem0) hT5))
              intro _
              refine' TL.y rfl rfl rfl ?hy186 ?_
              case hy186 => exact Yl.move rfl rfl
              refine' TL.y rfl rfl rfl ?hy187 ?_
              case hy187 => exact Yl.bin rfl rfl rfl (Bin.eql _ _ _ _)
              refine' TL.y rfl rfl rfl ?hy188 ?_
              case hy188 => exact Yl.pickT rfl rfl rfl
              refine' TL.y rfl rfl rfl ?hy189 ?_
              case hy189 => exact Yl.move rfl rfl
              refine TL.re (i := 151) (v' := .bool true) rfl (congrArg Value.bool (by simp)) ?_
              refine' TL.y rfl rfl rfl ?hy190 ?_
              case hy190 => exact Yl.move rfl rfl
              refine' TL.c rfl rfl rfl ?hy191 ?_
              case hy191 => exact Yc.call rfl Try.func22 (by kernel_rfl) rfl rfl (Hp.calls (fun w h => k_lenT w (h.all _ mem0) hT5))
              intro _
              refine' TL.y rfl rfl rfl ?hy192 ?_
              case hy192 => exact Yl.move rfl rfl
              refine' TL.y rfl rfl rfl ?hy193 ?_
              case hy193 => exact Yl.bin rfl rfl rfl (Bin.eql _ _ _ _)
              refine' TL.y rfl rfl rfl ?hy194 ?_
              case hy194 => exact Yl.pickT rfl rfl rfl
              refine' TL.y rfl rfl rfl ?hy195 ?_
              case hy195 => exact Yl.assign rfl rfl
              refine TL.nil ?_
              refine TE.next ?_
              refine TC.ret ?_
              refine TE.ret1 rfl rfl ?_
              exact fun w h => ⟨by simp, (h.sub (List.nil_sublist _)).below⟩
end Go.Proofs.Ytbcdplhihkacpaa.Pk
