/- Nodes. -/
import Derived.Test.YtbcdplhihkacpaaRxW
import Derived.Test.YtbcdplhihkacpaaProg
import Derived.RowKit3
namespace Go.Proofs.Ytbcdplhihkacpaa.Pk
open Go Go.RowKit Go.Proofs.Ytbcdplhihkacpaa.HL Go.Proofs.Ytbcdplhihkacpaa.Ev Go.Proofs.YtbcdplhihkacpaaW.PrintWords Go.Proofs.RxP
set_option linter.unusedVariables false
set_option linter.unusedSimpArgs false
attribute [local irreducible] btw rowA nth ents Iw Aw stS stM walkL pagesL gI dpS rk nodes
section
attribute [local semireducible] stM
theorem stM_out {f : Nat → Ac} {p : Nat} (hp : 65536 ≤ p) : ∀ m, stM f m p = none
  | 0 => rfl
  | m + 1 => by
    rw [stM]
    split
    · unfold offS
      split
      · rw [updS_ne (by omega)]; exact stM_out hp m
      · exact stM_out hp m
    · unfold setS
      split
      · rw [updS_ne (by omega)]; exact stM_out hp m
      · exact stM_out hp m
end
set_option maxRecDepth 100000 in
set_option maxHeartbeats 2000000 in
theorem law_nodes (W : World) {m : Nat} {f : Nat → Ac} {A : Option Addr} {cp : Nat} (hS : Sl W A (Aw m f)) (hm : m ≤ 9223372036854775807) : Calls Try.prog 8 #[.slice A m cp] W fun e w' => e = .returned (.bool true) ∧ Below W.heap.size W w' := by
  have hM : Hp W (fun _ => False) [] W := Hp.start
  refine TC.enter (n := 94) Try.func8 rfl rfl rfl hM ?_
  refine TC.seq ?_
  refine TC.region ?_
  refine' TL.y rfl rfl rfl ?hy1 ?_
  case hy1 => exact Yl.assign rfl rfl
  refine TL.nil ?_
  refine TE.next ?_
  refine TC.seq ?_
  refine TC.region ?_
  refine' TL.c rfl rfl rfl ?hy2 ?_
  case hy2 => exact Yc.call rfl Try.func10 (by kernel_rfl) rfl rfl (Hp.calls (fun w h => k_works w))
  intro _
  refine' TL.y rfl rfl rfl ?hy3 ?_
  case hy3 => exact Yl.assign rfl rfl
  refine TL.nil ?_
  refine TE.next ?_
  refine TC.seq ?_
  refine TC.seq ?_
  refine TC.region ?_
  refine' TL.y rfl rfl rfl ?hy4 ?_
  case hy4 => exact Yl.move rfl rfl
  refine' TL.y rfl rfl rfl ?hy5 ?_
  case hy5 => exact Yl.not rfl rfl
  refine TL.nil ?_
  refine TE.next ?_
  refine TC.no rfl rfl ?_
  refine TC.skip ?_
  refine TE.next ?_
  refine TC.seq ?_
  refine TC.seq ?_
  refine TC.region ?_
  refine' TL.y rfl rfl rfl ?hy6 ?_
  case hy6 => exact Yl.move rfl rfl
  refine' TL.y rfl rfl rfl ?hy7 ?_
  case hy7 => exact Yl.len rfl rfl Try.underlying22
  refine' TL.y rfl rfl rfl ?hy8 ?_
  case hy8 => exact Yl.bin rfl rfl rfl (Bin.gtr _ _ _ _)
  refine TL.nil ?_
  refine TE.next ?_
  refine TC.cond rfl (fun hs15 => ?_) (fun hs15 => ?_)
  · skip
    (try simp only [decide_eq_true_eq, decide_eq_false_iff_not, beq_iff_eq, beq_eq_false_iff_ne, bne_iff_ne, ne_eq, bne_eq_false_iff_eq, Bool.not_eq_true', Bool.not_eq_false', Int.not_lt, Int.not_le, gt_iff_lt, ge_iff_le] at hs15)
    refine TC.seq ?_
    refine TC.region ?_
    refine' TL.y rfl rfl rfl ?hy9 ?_
    case hy9 => exact Yl.move rfl rfl
    refine' TL.y rfl rfl rfl ?hy10 ?_
    case hy10 => exact Yl.assign rfl rfl
    refine TL.nil ?_
    refine TE.next ?_
    refine TC.ret ?_
    refine TE.thenRet ?_
    refine TE.ret1 rfl rfl ?_
    exact fun w h => ⟨rfl, (h.sub (List.nil_sublist _)).below⟩
  · skip
    (try simp only [decide_eq_true_eq, decide_eq_false_iff_not, beq_iff_eq, beq_eq_false_iff_ne, bne_iff_ne, ne_eq, bne_eq_false_iff_eq, Bool.not_eq_true', Bool.not_eq_false', Int.not_lt, Int.not_le, gt_iff_lt, ge_iff_le] at hs15)
    refine TC.skip ?_
    refine TE.next ?_
    refine TC.seq ?_
    refine TC.region ?_
    refine' TL.c rfl rfl rfl ?hy11 ?_
    case hy11 => exact Yc.call rfl Try.func11 (by kernel_rfl) rfl rfl (Hp.news (fun w h => k_new w))
    intro b
    refine' TL.y rfl rfl rfl ?hy12 ?_
    case hy12 => exact Yl.assign rfl rfl
    refine TL.nil ?_
    refine TE.next ?_
    refine TC.seq ?_
    refine TC.seq ?_
    refine TC.region ?_
    refine' TL.y rfl rfl rfl ?hy13 ?_
    case hy13 => exact Yl.assign rfl rfl
    refine TL.nil ?_
    refine TE.next ?_
    refine TC.block ?_
    refine TC.loop (σ := Nat × St) (fun s => [(0, .slice A m cp), (3, .bool true), (4, .pointer (some ⟨b, 0, none⟩)), (5, .int .i64 (s.1 : Int))]) (fun s => Hp W (fun _ => False) [tabR s.2]) (fun s => s.1 ≤ m ∧ Tab s.2 (stM f s.1) b) (fun s => m - s.1) (0, st0 b) ?hF14 ?hs14 ?hm14 ?round14
    case hF14 => exact ⟨Nat.zero_le _, by show Tab _ (stM f 0) b; rw [stM]; exact Tab.new b⟩
    case hs14 => exact ⟨rfl, rfl, rfl, rfl, trivial⟩
    case hm14 => exact fun _ h => h
    case round14 =>
      rintro ⟨i, st⟩ ⟨hi, hTab⟩
      dsimp only at hi hTab ⊢
      refine TC.seq ?_
      refine TC.seq ?_
      refine TC.region ?_
      refine' TL.y rfl rfl rfl ?hy15 ?_
      case hy15 => exact Yl.move rfl rfl
      refine' TL.y rfl rfl rfl ?hy16 ?_
      case hy16 => exact Yl.move rfl rfl
      refine' TL.y rfl rfl rfl ?hy17 ?_
      case hy17 => exact Yl.len rfl rfl Try.underlying22
      refine' TL.y rfl rfl rfl ?hy18 ?_
      case hy18 => exact Yl.bin rfl rfl rfl (Bin.lss _ _ _ _)
      refine TL.nil ?_
      refine TE.next ?_
      refine TC.cond rfl (fun hs21 => ?_) (fun hs21 => ?_)
      · skip
        (try simp only [decide_eq_true_eq, decide_eq_false_iff_not, beq_iff_eq, beq_eq_false_iff_ne, bne_iff_ne, ne_eq, bne_eq_false_iff_eq, Bool.not_eq_true', Bool.not_eq_false', Int.not_lt, Int.not_le, gt_iff_lt, ge_iff_le] at hs21)
        have him : i < m := by omega
        obtain ⟨b0, o0, rfl⟩ := Sl.some2 hS (by rw [Aw_length]; omega)
        refine TC.skip ?_
        refine TE.next ?_
        refine TC.seq ?_
        refine TC.block ?_
        refine TC.meet (σ := St) (fun st2 => [(0, .slice (some ⟨b0, o0, none⟩) m cp), (3, .bool true), (4, .pointer (some ⟨b, 0, none⟩)), (5, .int .i64 (i : Int))]) (fun st2 => Hp W (fun _ => False) [tabR st2]) (fun st2 => Tab st2 (stM f (i + 1)) b) ?hx19 ?hy19
        case hx19 =>
          refine TC.seq ?_
          refine TC.region ?_
          refine' TL.y rfl rfl rfl ?hy20 ?_
          case hy20 => exact Yl.move rfl rfl
          refine' TL.y rfl rfl rfl ?hy21 ?_
          case hy21 => exact Yl.move rfl rfl
          refine' TL.y rfl rfl rfl ?hy22 ?_
          case hy22 => first | exact Yl.ixkn (k := 3) rfl rfl rfl Try.underlying22 (by kernel_rfl) (by omega) | exact Yl.ixkz (k := 3) rfl rfl rfl Try.underlying22 (by kernel_rfl) (by omega) (by omega)
          refine' TL.y rfl rfl rfl ?hy23 ?_
          case hy23 => first | exact Yl.field0 (k := 0) 2 rfl rfl Try.underlying30 rfl (by kernel_rfl) rfl | exact Yl.field (k := 0) 2 rfl rfl Try.underlying30 rfl (by kernel_rfl) rfl
          refine' TL.y rfl rfl rfl ?hy24 ?_
          case hy24 => exact Yl.load rfl rfl (by kernel_rfl) (Sl.aw hS (i := 2) rfl (by omega) (by decide))
          refine TL.re (i := 28) (v' := .bool ((f i).2.2)) rfl rfl ?_
          refine TL.nil ?_
          refine TE.next ?_
          refine TC.cond rfl (fun hs28 => ?_) (fun hs28 => ?_)
          · skip
            (try simp only [decide_eq_true_eq, decide_eq_false_iff_not, beq_iff_eq, beq_eq_false_iff_ne, bne_iff_ne, ne_eq, bne_eq_false_iff_eq, Bool.not_eq_true', Bool.not_eq_false', Int.not_lt, Int.not_le, gt_iff_lt, ge_iff_le] at hs28)
            have hoff : (f i).2.2 = true := by simpa using hs28
            refine TC.region ?_
            refine' TL.y rfl rfl rfl ?hy25 ?_
            case hy25 => exact Yl.move rfl rfl
            refine' TL.y rfl rfl rfl ?hy26 ?_
            case hy26 => exact Yl.move rfl rfl
            refine' TL.y rfl rfl rfl ?hy27 ?_
            case hy27 => exact Yl.move rfl rfl
            refine' TL.y rfl rfl rfl ?hy28 ?_
            case hy28 => first | exact Yl.ixkn (k := 3) rfl rfl rfl Try.underlying22 (by kernel_rfl) (by omega) | exact Yl.ixkz (k := 3) rfl rfl rfl Try.underlying22 (by kernel_rfl) (by omega) (by omega)
            refine' TL.y rfl rfl rfl ?hy29 ?_
            case hy29 => first | exact Yl.field0 (k := 0) 0 rfl rfl Try.underlying30 rfl (by kernel_rfl) rfl | exact Yl.field (k := 0) 0 rfl rfl Try.underlying30 rfl (by kernel_rfl) rfl
            refine' TL.y rfl rfl rfl ?hy30 ?_
            case hy30 => exact Yl.load rfl rfl (by kernel_rfl) (Sl.aw hS (i := 0) rfl (by omega) (by decide))
            refine TL.re (i := 34) (v' := .int .i64 ((f i).1)) rfl rfl ?_
            refine' TL.c rfl rfl rfl ?hy31 ?_
            case hy31 => exact Yc.call rfl Try.func18 (by kernel_rfl) rfl rfl (Hp.turnx mem0 (fun s => foc0) (k_drop hTab (f i).1))
            intro ⟨st2, hT2⟩
            dsimp only
            have hT3 : Tab st2 (stM f (i + 1)) b := by rw [stM, if_pos hoff]; exact hT2
            refine TL.nil ?_
            refine TE.met st2 ?hF32 ?hs32 ?hm32
            case hF32 => exact hT3
            case hs32 => exact ⟨rfl, rfl, rfl, rfl, trivial⟩
            case hm32 => exact fun _ h => h
          · skip
            (try simp only [decide_eq_true_eq, decide_eq_false_iff_not, beq_iff_eq, beq_eq_false_iff_ne, bne_iff_ne, ne_eq, bne_eq_false_iff_eq, Bool.not_eq_true', Bool.not_eq_false', Int.not_lt, Int.not_le, gt_iff_lt, ge_iff_le] at hs28)
            have hoff : ¬ (f i).2.2 = true := by simpa using hs28
            refine TC.draw (k := 12) (Hp W (fun _ => False) []) [] #[false, false, false, false, false, false, false, false, false, false, false, false] (by kernel_rfl) rfl rfl (fun _ h => h.drew) (fun _ h => by exact Hp.sub h (by repeat (first | exact List.Sublist.refl _ | exact List.nil_sublist _ | apply List.Sublist.cons_cons | apply List.Sublist.cons))) ?_
            refine' TA.y (i := 0) #[true, false, false, false, false, false, false, false, false, false, false, false] rfl rfl rfl (by kernel_rfl) (fun _ _ _ h => h) (fun _ h => by exact Hp.sub h (by repeat (first | exact List.Sublist.refl _ | exact List.nil_sublist _ | apply List.Sublist.cons_cons | apply List.Sublist.cons))) rfl ?hy33 ?_
            case hy33 => exact Yl.move rfl rfl
            refine' TA.y (i := 1) #[true, true, false, false, false, false, false, false, false, false, false, false] rfl rfl rfl (by kernel_rfl) (fun _ _ _ h => h) (fun _ h => by exact Hp.sub h (by repeat (first | exact List.Sublist.refl _ | exact List.nil_sublist _ | apply List.Sublist.cons_cons | apply List.Sublist.cons))) rfl ?hy34 ?_
            case hy34 => exact Yl.move rfl rfl
            refine' TA.y (i := 2) #[true, true, true, false, false, false, false, false, false, false, false, false] rfl rfl rfl (by kernel_rfl) (fun _ _ _ h => h) (fun _ h => by exact Hp.sub h (by repeat (first | exact List.Sublist.refl _ | exact List.nil_sublist _ | apply List.Sublist.cons_cons | apply List.Sublist.cons))) rfl ?hy35 ?_
            case hy35 => exact Yl.move rfl rfl
            refine' TA.y (i := 3) #[true, true, true, true, false, false, false, false, false, false, false, false] rfl rfl rfl (by kernel_rfl) (fun _ _ _ h => h) (fun _ h => by exact Hp.sub h (by repeat (first | exact List.Sublist.refl _ | exact List.nil_sublist _ | apply List.Sublist.cons_cons | apply List.Sublist.cons))) rfl ?hy36 ?_
            case hy36 => first | exact Yl.ixkn (k := 3) rfl rfl rfl Try.underlying22 (by kernel_rfl) (by omega) | exact Yl.ixkz (k := 3) rfl rfl rfl Try.underlying22 (by kernel_rfl) (by omega) (by omega)
            refine' TA.y (i := 4) #[true, true, true, true, true, false, false, false, false, false, false, false] rfl rfl rfl (by kernel_rfl) (fun _ _ _ h => h) (fun _ h => by exact Hp.sub h (by repeat (first | exact List.Sublist.refl _ | exact List.nil_sublist _ | apply List.Sublist.cons_cons | apply List.Sublist.cons))) rfl ?hy37 ?_
            case hy37 => first | exact Yl.field0 (k := 0) 0 rfl rfl Try.underlying30 rfl (by kernel_rfl) rfl | exact Yl.field (k := 0) 0 rfl rfl Try.underlying30 rfl (by kernel_rfl) rfl
            refine' TA.y (i := 5) #[true, true, true, true, true, true, false, false, false, false, false, false] rfl rfl rfl (by kernel_rfl) (fun _ _ _ h => h) (fun _ h => by exact Hp.sub h (by repeat (first | exact List.Sublist.refl _ | exact List.nil_sublist _ | apply List.Sublist.cons_cons | apply List.Sublist.cons))) rfl ?hy38 ?_
            case hy38 => exact Yl.load rfl rfl (by kernel_rfl) (Sl.aw hS (i := 0) rfl (by omega) (by decide))
            refine TA.re (i := 41) (v' := .int .i64 ((f i).1)) rfl rfl ?_
            refine' TA.y (i := 6) #[true, true, true, true, true, true, true, false, false, false, false, false] rfl rfl rfl (by kernel_rfl) (fun _ _ _ h => h) (fun _ h => by exact Hp.sub h (by repeat (first | exact List.Sublist.refl _ | exact List.nil_sublist _ | apply List.Sublist.cons_cons | apply List.Sublist.cons))) rfl ?hy39 ?_
            case hy39 => exact Yl.move rfl rfl
            refine' TA.y (i := 7) #[true, true, true, true, true, true, true, true, false, false, false, false] rfl rfl rfl (by kernel_rfl) (fun _ _ _ h => h) (fun _ h => by exact Hp.sub h (by repeat (first | exact List.Sublist.refl _ | exact List.nil_sublist _ | apply List.Sublist.cons_cons | apply List.Sublist.cons))) rfl ?hy40 ?_
            case hy40 => exact Yl.move rfl rfl
            refine' TA.y (i := 8) #[true, true, true, true, true, true, true, true, true, false, false, false] rfl rfl rfl (by kernel_rfl) (fun _ _ _ h => h) (fun _ h => by exact Hp.sub h (by repeat (first | exact List.Sublist.refl _ | exact List.nil_sublist _ | apply List.Sublist.cons_cons | apply List.Sublist.cons))) rfl ?hy41 ?_
            case hy41 => first | exact Yl.ixkn (k := 3) rfl rfl rfl Try.underlying22 (by kernel_rfl) (by omega) | exact Yl.ixkz (k := 3) rfl rfl rfl Try.underlying22 (by kernel_rfl) (by omega) (by omega)
            refine' TA.y (i := 9) #[true, true, true, true, true, true, true, true, true, true, false, false] rfl rfl rfl (by kernel_rfl) (fun _ _ _ h => h) (fun _ h => by exact Hp.sub h (by repeat (first | exact List.Sublist.refl _ | exact List.nil_sublist _ | apply List.Sublist.cons_cons | apply List.Sublist.cons))) rfl ?hy42 ?_
            case hy42 => first | exact Yl.field0 (k := 0) 1 rfl rfl Try.underlying30 rfl (by kernel_rfl) rfl | exact Yl.field (k := 0) 1 rfl rfl Try.underlying30 rfl (by kernel_rfl) rfl
            refine' TA.y (i := 10) #[true, true, true, true, true, true, true, true, true, true, true, false] rfl rfl rfl (by kernel_rfl) (fun _ _ _ h => h) (fun _ h => by exact Hp.sub h (by repeat (first | exact List.Sublist.refl _ | exact List.nil_sublist _ | apply List.Sublist.cons_cons | apply List.Sublist.cons))) rfl ?hy43 ?_
            case hy43 => exact Yl.load rfl rfl (by kernel_rfl) (Sl.aw hS (i := 1) rfl (by omega) (by decide))
            refine TA.re (i := 46) (v' := .int .u64 ((f i).2.1)) rfl rfl ?_
            refine' TA.c (i := 11) #[true, true, true, true, true, true, true, true, true, true, true, true] rfl rfl rfl (by kernel_rfl) (by decide) rfl ?hy44 ?hz44 ?_
            case hy44 => exact Yc.call rfl Try.func12 (by kernel_rfl) rfl rfl (Hp.turnx mem0 (fun s => foc0) (k_set hTab (f i).1 (f i).2.1))
            case hz44 => exact (fun _ _ h => by exact Hp.sub h (by repeat (first | exact List.Sublist.refl _ | apply List.Sublist.cons)))
            intro ⟨st2, hT2⟩
            dsimp only
            have hT3 : Tab st2 (stM f (i + 1)) b := by rw [stM, if_neg hoff]; exact hT2
            refine TA.done (by kernel_rfl) ?_
            refine TE.met st2 ?hF45 ?hs45 ?hm45
            case hF45 => exact hT3
            case hs45 => exact ⟨rfl, rfl, rfl, rfl, trivial⟩
            case hm45 => exact fun _ h => h
        case hy19 =>
          intro st2 hT3
          have hnl := nodes_le (stM f (i + 1))
          have hnp := nodes_pos (S := stM f (i + 1))
          have hrk := rk_le (stM f (i + 1)) 65536
          refine TC.seq ?_
          refine TC.region ?_
          refine' TL.y rfl rfl rfl ?hy46 ?_
          case hy46 => exact Yl.move rfl rfl
          refine' TL.c rfl rfl rfl ?hy47 ?_
          case hy47 => exact Yc.call rfl Try.func17 (by kernel_rfl) rfl rfl (Hp.calls (fun w h => k_nodesT w (h.all _ mem0) hT3))
          intro _
          refine' TL.y rfl rfl rfl ?hy48 ?_
          case hy48 => exact Yl.assign rfl rfl
          refine TL.nil ?_
          refine TE.next ?_
          refine TC.seq ?_
          refine TC.region ?_
          refine' TL.y rfl rfl rfl ?hy49 ?_
          case hy49 => exact Yl.move rfl rfl
          refine' TL.c rfl rfl rfl ?hy50 ?_
          case hy50 => exact Yc.call rfl Try.func22 (by kernel_rfl) rfl rfl (Hp.calls (fun w h => k_lenT w (h.all _ mem0) hT3))
          intro _
          refine' TL.y rfl rfl rfl ?hy51 ?_
          case hy51 => exact Yl.assign rfl rfl
          refine TL.nil ?_
          refine TE.next ?_
          refine TC.seq ?_
          refine TC.region ?_
          refine' TL.y rfl rfl rfl ?hy52 ?_
          case hy52 => exact Yl.move rfl rfl
          refine' TL.y rfl rfl rfl ?hy53 ?_
          case hy53 => exact Yl.bin rfl rfl rfl (Bin.lss _ _ _ _)
          refine' TL.y rfl rfl rfl ?hy54 ?_
          case hy54 => exact Yl.move rfl rfl
          refine TL.re (i := 54) (v' := .bool false) rfl (congrArg Value.bool (decide_eq_false (by omega))) ?_
          refine' TL.y rfl rfl rfl ?hy55 ?_
          case hy55 => exact Yl.move rfl rfl
          refine' TL.y rfl rfl rfl ?hy56 ?_
          case hy56 => exact Yl.move rfl rfl
          refine' TL.y rfl rfl rfl ?hy57 ?_
          case hy57 => first | (refine Yl.val (Yl.bin rfl rfl rfl (Bin.mul _ _ _ _)) (congrArg (Value.int .i64) (i64in ?_ ?_)) <;> omega) | exact Yl.bin rfl rfl rfl (Bin.mul _ _ _ _)
          refine' TL.y rfl rfl rfl ?hy58 ?_
          case hy58 => first | (refine Yl.val (Yl.bin rfl rfl rfl (Bin.add _ _ _ _)) (congrArg (Value.int .i64) (i64in ?_ ?_)) <;> omega) | exact Yl.bin rfl rfl rfl (Bin.add _ _ _ _)
          refine' TL.y rfl rfl rfl ?hy59 ?_
          case hy59 => exact Yl.bin rfl rfl rfl (Bin.gtr _ _ _ _)
          refine' TL.y rfl rfl rfl ?hy60 ?_
          case hy60 => exact Yl.pickF rfl rfl rfl
          refine' TL.y rfl rfl rfl ?hy61 ?_
          case hy61 => exact Yl.move rfl rfl
          refine TL.re (i := 61) (v' := .bool false) rfl (congrArg Value.bool (decide_eq_false (by omega))) ?_
          refine' TL.y rfl rfl rfl ?hy62 ?_
          case hy62 => exact Yl.move rfl rfl
          refine' TL.y rfl rfl rfl ?hy63 ?_
          case hy63 => exact Yl.bin rfl rfl rfl (Bin.gtr _ _ _ _)
          refine' TL.y rfl rfl rfl ?hy64 ?_
          case hy64 => exact Yl.move rfl rfl
          refine TL.split (i := 64) rfl (fun hs64 => ?_) (fun hs64 => ?_)
          · skip
            (try simp only [decide_eq_true_eq, decide_eq_false_iff_not, beq_iff_eq, beq_eq_false_iff_ne, bne_iff_ne, ne_eq, bne_eq_false_iff_eq, Bool.not_eq_true', Bool.not_eq_false', Int.not_lt, Int.not_le, gt_iff_lt, ge_iff_le] at hs64)
            refine' TL.y rfl rfl rfl ?hy65 ?_
            case hy65 => exact Yl.move rfl rfl
            refine' TL.y rfl rfl rfl ?hy66 ?_
            case hy66 => exact Yl.bin rfl rfl rfl (Bin.lss _ _ _ _)
            refine' TL.y rfl rfl rfl ?hy67 ?_
            case hy67 => exact Yl.pickT rfl rfl rfl
            refine' TL.y rfl rfl rfl ?hy68 ?_
            case hy68 => exact Yl.pickF rfl rfl rfl
            refine TL.nil ?_
            refine TE.next ?_
            refine TC.no rfl (decide_eq_false (by omega)) ?_
            refine TC.skip ?_
            refine TE.inNormal ?_
            refine TE.next ?_
            refine TC.region ?_
            refine' TL.y rfl rfl rfl ?hy69 ?_
            case hy69 => exact Yl.move rfl rfl
            refine' TL.y rfl rfl rfl ?hy70 ?_
            case hy70 => first | (refine Yl.val (Yl.bin rfl rfl rfl (Bin.add _ _ _ _)) (congrArg (Value.int .i64) (i64in ?_ ?_)) <;> omega) | exact Yl.bin rfl rfl rfl (Bin.add _ _ _ _)
            refine' TL.y rfl rfl rfl ?hy71 ?_
            case hy71 => exact Yl.assign rfl rfl
            refine TL.nil ?_
            refine TE.round (i + 1, st2) ?hF72 ?hlt72 ?hs72 ?hm72
            case hF72 => exact ⟨by dsimp only; omega, hT3⟩
            case hlt72 => dsimp only; omega
            case hs72 => exact ⟨rfl, rfl, rfl, rfl, trivial⟩
            case hm72 => exact fun _ h => h
          · skip
            (try simp only [decide_eq_true_eq, decide_eq_false_iff_not, beq_iff_eq, beq_eq_false_iff_ne, bne_iff_ne, ne_eq, bne_eq_false_iff_eq, Bool.not_eq_true', Bool.not_eq_false', Int.not_lt, Int.not_le, gt_iff_lt, ge_iff_le] at hs64)
            refine TL.skip rfl rfl rfl ?_
            refine TL.skip rfl rfl rfl ?_
            refine' TL.y rfl rfl rfl ?hy73 ?_
            case hy73 => exact Yl.pickF rfl rfl rfl
            refine' TL.y rfl rfl rfl ?hy74 ?_
            case hy74 => exact Yl.pickF rfl rfl rfl
            refine TL.nil ?_
            refine TE.next ?_
            refine TC.no rfl rfl ?_
            refine TC.skip ?_
            refine TE.inNormal ?_
            refine TE.next ?_
            refine TC.region ?_
            refine' TL.y rfl rfl rfl ?hy75 ?_
            case hy75 => exact Yl.move rfl rfl
            refine' TL.y rfl rfl rfl ?hy76 ?_
            case hy76 => first | (refine Yl.val (Yl.bin rfl rfl rfl (Bin.add _ _ _ _)) (congrArg (Value.int .i64) (i64in ?_ ?_)) <;> omega) | exact Yl.bin rfl rfl rfl (Bin.add _ _ _ _)
            refine' TL.y rfl rfl rfl ?hy77 ?_
            case hy77 => exact Yl.assign rfl rfl
            refine TL.nil ?_
            refine TE.round (i + 1, st2) ?hF78 ?hlt78 ?hs78 ?hm78
            case hF78 => exact ⟨by dsimp only; omega, hT3⟩
            case hlt78 => dsimp only; omega
            case hs78 => exact ⟨rfl, rfl, rfl, rfl, trivial⟩
            case hm78 => exact fun _ h => h
      · skip
        (try simp only [decide_eq_true_eq, decide_eq_false_iff_not, beq_iff_eq, beq_eq_false_iff_ne, bne_iff_ne, ne_eq, bne_eq_false_iff_eq, Bool.not_eq_true', Bool.not_eq_false', Int.not_lt, Int.not_le, gt_iff_lt, ge_iff_le] at hs21)
        obtain rfl : m = i := by omega
        refine TC.exit ?_
        refine TE.thenExit ?_
        refine TE.thenExit ?_
        refine TE.inHere ?_
        refine TE.next ?_
        refine TC.seq ?_
        refine TC.region ?_
        refine' TL.y rfl rfl rfl ?hy79 ?_
        case hy79 => exact Yl.move rfl rfl
        refine' TL.c rfl rfl rfl ?hy80 ?_
        case hy80 => exact Yc.call rfl Try.func13 (by kernel_rfl) rfl rfl (Hp.news (fun w h => k_walkT w (h.all _ mem0) hTab 0 65536))
        intro v70
        refine TL.fact (fun w h => Hp.rowShape mem0 w h) ?_
        rintro ⟨A70, c70, rfl⟩
        refine' TL.y rfl rfl rfl ?hy81 ?_
        case hy81 => exact Yl.assign rfl rfl
        refine TL.nil ?_
        refine TE.next ?_
        refine TC.seq ?_
        refine TC.seq ?_
        refine TC.region ?_
        refine' TL.y rfl rfl rfl ?hy82 ?_
        case hy82 => exact Yl.assign rfl rfl
        refine TL.nil ?_
        refine TE.next ?_
        refine TC.block ?_
        refine TC.loop (σ := Nat × St) (fun s => [(3, .bool true), (4, .pointer (some ⟨b, 0, none⟩)), (8, .slice A70 (walkL (stM f m) 0 65536).length c70), (9, .int .i64 (s.1 : Int))]) (fun s => Hp W (fun _ => False) [rowI (.slice A70 (walkL (stM f m) 0 65536).length c70) (walkL (stM f m) 0 65536), tabR s.2]) (fun s => s.1 ≤ (walkL (stM f m) 0 65536).length ∧ Tab s.2 (dpS (stM f m) (walkL (stM f m) 0 65536) s.1) b) (fun s => (walkL (stM f m) 0 65536).length - s.1) (0, st) ?hF83 ?hs83 ?hm83 ?round83
        case hF83 => exact ⟨Nat.zero_le _, by show Tab _ (dpS _ _ 0) b; rw [dpS_0]; exact hTab⟩
        case hs83 => exact ⟨rfl, rfl, rfl, rfl, trivial⟩
        case hm83 => exact fun _ h => h
        case round83 =>
          rintro ⟨i, st3⟩ ⟨hi, hTab⟩
          dsimp only at hi hTab ⊢
          have hwl := walkL_len (stM f m) 0 65536
          refine TC.seq ?_
          refine TC.seq ?_
          refine TC.region ?_
          refine' TL.y rfl rfl rfl ?hy84 ?_
          case hy84 => exact Yl.move rfl rfl
          refine' TL.y rfl rfl rfl ?hy85 ?_
          case hy85 => exact Yl.move rfl rfl
          refine' TL.y rfl rfl rfl ?hy86 ?_
          case hy86 => exact Yl.len rfl rfl Try.underlying31
          refine' TL.y rfl rfl rfl ?hy87 ?_
          case hy87 => exact Yl.bin rfl rfl rfl (Bin.lss _ _ _ _)
          refine TL.nil ?_
          refine TE.next ?_
          refine TC.cond rfl (fun hs74 => ?_) (fun hs74 => ?_)
          · skip
            (try simp only [decide_eq_true_eq, decide_eq_false_iff_not, beq_iff_eq, beq_eq_false_iff_ne, bne_iff_ne, ne_eq, bne_eq_false_iff_eq, Bool.not_eq_true', Bool.not_eq_false', Int.not_lt, Int.not_le, gt_iff_lt, ge_iff_le] at hs74)
            have hil : i < (walkL (stM f m) 0 65536).length := by omega
            refine TC.fact (fun w h => Hp.rowSome mem0 (by omega) w h) ?_
            rintro ⟨g70, rfl⟩
            have hmem := walkL_mem.1 (gI_mem hil)
            refine TC.skip ?_
            refine TE.next ?_
            refine TC.seq ?_
            refine TC.block ?_
            refine TC.region ?_
            refine' TL.y rfl rfl rfl ?hy88 ?_
            case hy88 => exact Yl.move rfl rfl
            refine' TL.y rfl rfl rfl ?hy89 ?_
            case hy89 => exact Yl.move rfl rfl
            refine' TL.y rfl rfl rfl ?hy90 ?_
            case hy90 => exact Yl.move rfl rfl
            refine' TL.y rfl rfl rfl ?hy91 ?_
            case hy91 => exact Yl.ixn rfl rfl rfl Try.underlying31 (by kernel_rfl) (by omega)
            refine' TL.y rfl rfl rfl ?hy92 ?_
            case hy92 => first | exact Yl.load rfl rfl (by kernel_rfl) (Hp.rowAtI mem0 (by omega)) | exact Yl.load rfl rfl (by kernel_rfl) (Hp.cell mem0 rfl) | exact Yl.load rfl rfl (by kernel_rfl) (Hp.cell mem1 rfl) | exact Yl.load rfl rfl (by kernel_rfl) (Hp.cell mem2 rfl) | exact Yl.load rfl rfl (by kernel_rfl) (Hp.cell mem3 rfl) | exact Yl.load rfl rfl (by kernel_rfl) (Hp.cell mem4 rfl) | exact Yl.load rfl rfl (by kernel_rfl) (Hp.rowAt mem0 (by omega) rfl) | exact Yl.load rfl rfl (by kernel_rfl) (Hp.rowAt mem1 (by omega) rfl) | exact Yl.load rfl rfl (by kernel_rfl) (Hp.rowAt mem2 (by omega) rfl) | exact Yl.load rfl rfl (by kernel_rfl) (Hp.rowAt mem3 (by omega) rfl) | exact Yl.load rfl rfl (by kernel_rfl) (Hp.rowAt mem4 (by omega) rfl)
            refine' TL.c rfl rfl rfl ?hy93 ?_
            case hy93 => exact Yc.call rfl Try.func18 (by kernel_rfl) rfl rfl (Hp.turnx mem1 (fun s => foc1) (k_drop hTab (gI (walkL (stM f m) 0 65536) i)))
            intro ⟨st2, hT2⟩
            dsimp only
            refine TL.nil ?_
            refine TE.inNormal ?_
            refine TE.next ?_
            refine TC.region ?_
            refine' TL.y rfl rfl rfl ?hy94 ?_
            case hy94 => exact Yl.move rfl rfl
            refine' TL.y rfl rfl rfl ?hy95 ?_
            case hy95 => first | (refine Yl.val (Yl.bin rfl rfl rfl (Bin.add _ _ _ _)) (congrArg (Value.int .i64) (i64in ?_ ?_)) <;> omega) | exact Yl.bin rfl rfl rfl (Bin.add _ _ _ _)
            refine' TL.y rfl rfl rfl ?hy96 ?_
            case hy96 => exact Yl.assign rfl rfl
            refine TL.nil ?_
            refine TE.round (i + 1, st2) ?hF97 ?hlt97 ?hs97 ?hm97
            case hF97 => exact ⟨by dsimp only; omega, by show Tab st2 (dpS _ _ (i + 1)) b; rw [← dpS_succ hil ⟨hmem.2.1, hmem.2.2⟩]; exact hT2⟩
            case hlt97 => dsimp only; omega
            case hs97 => exact ⟨rfl, rfl, rfl, rfl, trivial⟩
            case hm97 => exact fun _ h => h
          · skip
            (try simp only [decide_eq_true_eq, decide_eq_false_iff_not, beq_iff_eq, beq_eq_false_iff_ne, bne_iff_ne, ne_eq, bne_eq_false_iff_eq, Bool.not_eq_true', Bool.not_eq_false', Int.not_lt, Int.not_le, gt_iff_lt, ge_iff_le] at hs74)
            obtain rfl : i = (walkL (stM f m) 0 65536).length := by omega
            have hall : dpS (stM f m) (walkL (stM f m) 0 65536) (walkL (stM f m) 0 65536).length = fun _ => none := dpS_all (fun p hp => stM_out hp m)
            refine TC.exit ?_
            refine TE.thenExit ?_
            refine TE.thenExit ?_
            refine TE.inHere ?_
            refine TE.next ?_
            refine TC.seq ?_
            refine TC.region ?_
            refine' TL.y rfl rfl rfl ?hy98 ?_
            case hy98 => exact Yl.move rfl rfl
            refine' TL.y rfl rfl rfl ?hy99 ?_
            case hy99 => exact Yl.move rfl rfl
            refine' TL.y rfl rfl rfl ?hy100 ?_
            case hy100 => exact Yl.move rfl rfl
            refine' TL.c rfl rfl rfl ?hy101 ?_
            case hy101 => exact Yc.call rfl Try.func17 (by kernel_rfl) rfl rfl (Hp.calls (fun w h => k_nodesT w (h.all _ mem1) hTab))
            intro _
            rw [hall, nodes_empty]
            refine' TL.y rfl rfl rfl ?hy102 ?_
            case hy102 => exact Yl.bin rfl rfl rfl (Bin.eql _ _ _ _)
            refine' TL.y rfl rfl rfl ?hy103 ?_
            case hy103 => exact Yl.pickT rfl rfl rfl
            refine' TL.y rfl rfl rfl ?hy104 ?_
            case hy104 => exact Yl.move rfl rfl
            refine TL.re (i := 89) (v' := .bool true) rfl (congrArg Value.bool (rfl)) ?_
            refine' TL.y rfl rfl rfl ?hy105 ?_
            case hy105 => exact Yl.move rfl rfl
            refine' TL.c rfl rfl rfl ?hy106 ?_
            case hy106 => exact Yc.call rfl Try.func22 (by kernel_rfl) rfl rfl (Hp.calls (fun w h => k_lenT w (h.all _ mem1) hTab))
            intro _
            rw [hall, rk_empty]
            refine' TL.y rfl rfl rfl ?hy107 ?_
            case hy107 => exact Yl.bin rfl rfl rfl (Bin.eql _ _ _ _)
            refine' TL.y rfl rfl rfl ?hy108 ?_
            case hy108 => exact Yl.pickT rfl rfl rfl
            refine' TL.y rfl rfl rfl ?hy109 ?_
            case hy109 => exact Yl.assign rfl rfl
            refine TL.nil ?_
            refine TE.next ?_
            refine TC.ret ?_
            refine TE.ret1 rfl rfl ?_
            exact fun w h => ⟨rfl, (h.sub (List.nil_sublist _)).below⟩
end Go.Proofs.Ytbcdplhihkacpaa.Pk
