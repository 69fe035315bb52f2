/- A clone. -/
import Derived.Test.YtbcdplhihkacpaaRxW
import Derived.Test.YtbcdplhihkacpaaProg
import Derived.RowKit3
namespace Go.Proofs.Ytbcdplhihkacpaa.Pk
open Go Go.RowKit Go.Proofs.Ytbcdplhihkacpaa.HL Go.Proofs.Ytbcdplhihkacpaa.Ev Go.Proofs.YtbcdplhihkacpaaW.PrintWords Go.Proofs.RxP
set_option linter.unusedVariables false
set_option linter.unusedSimpArgs false
attribute [local irreducible] btw rowA nth ents Iw Aw stS stM walkL pagesL gI dpS rk nodes
set_option maxRecDepth 100000 in
set_option maxHeartbeats 2000000 in
theorem law_clone (W : World) {m : Nat} {f : Nat → Ac} {A : Option Addr} {cp : Nat} (hS : Sl W A (Aw m f)) (hm : m ≤ 9223372036854775807) {m2 : Nat} {f2 : Nat → Ac} {B : Option Addr} {cq : Nat} (hS2 : Sl W B (Aw m2 f2)) (hm2 : m2 ≤ 9223372036854775807) : Calls Try.prog 9 #[.slice A m cp, .slice B m2 cq] W fun e w' => e = .returned (.bool true) ∧ Below W.heap.size W w' := by
  have hM : Hp W (fun _ => False) [] W := Hp.start
  refine TC.enter (n := 162) Try.func9 rfl rfl rfl hM ?_
  refine TC.seq ?_
  refine TC.region ?_
  refine' TL.y rfl rfl rfl ?hy1 ?_
  case hy1 => exact Yl.assign rfl rfl
  refine TL.nil ?_
  refine TE.next ?_
  refine TC.seq ?_
  refine TC.region ?_
  refine' TL.c rfl rfl rfl ?hy2 ?_
  case hy2 => exact Yc.call rfl Try.func10 (by kernel_rfl) rfl rfl (Hp.calls (fun w h => k_works w))
  intro _
  refine' TL.y rfl rfl rfl ?hy3 ?_
  case hy3 => exact Yl.assign rfl rfl
  refine TL.nil ?_
  refine TE.next ?_
  refine TC.seq ?_
  refine TC.seq ?_
  refine TC.region ?_
  refine' TL.y rfl rfl rfl ?hy4 ?_
  case hy4 => exact Yl.move rfl rfl
  refine' TL.y rfl rfl rfl ?hy5 ?_
  case hy5 => exact Yl.not rfl rfl
  refine TL.nil ?_
  refine TE.next ?_
  refine TC.no rfl rfl ?_
  refine TC.skip ?_
  refine TE.next ?_
  refine TC.seq ?_
  refine TC.seq ?_
  refine TC.region ?_
  refine' TL.y rfl rfl rfl ?hy6 ?_
  case hy6 => exact Yl.move rfl rfl
  refine' TL.y rfl rfl rfl ?hy7 ?_
  case hy7 => exact Yl.len rfl rfl Try.underlying22
  refine' TL.y rfl rfl rfl ?hy8 ?_
  case hy8 => exact Yl.bin rfl rfl rfl (Bin.gtr _ _ _ _)
  refine' TL.y rfl rfl rfl ?hy9 ?_
  case hy9 => exact Yl.move rfl rfl
  refine TL.split (i := 25) rfl (fun hs25 => ?_) (fun hs25 => ?_)
  · skip
    (try simp only [decide_eq_true_eq, decide_eq_false_iff_not, beq_iff_eq, beq_eq_false_iff_ne, bne_iff_ne, ne_eq, bne_eq_false_iff_eq, Bool.not_eq_true', Bool.not_eq_false', Int.not_lt, Int.not_le, gt_iff_lt, ge_iff_le] at hs25)
    refine TL.skip rfl rfl rfl ?_
    refine TL.skip rfl rfl rfl ?_
    refine TL.skip rfl rfl rfl ?_
    refine' TL.y rfl rfl rfl ?hy10 ?_
    case hy10 => exact Yl.pickT rfl rfl rfl
    refine TL.nil ?_
    refine TE.next ?_
    refine TC.yes rfl rfl ?_
    refine TC.seq ?_
    refine TC.region ?_
    refine' TL.y rfl rfl rfl ?hy11 ?_
    case hy11 => exact Yl.move rfl rfl
    refine' TL.y rfl rfl rfl ?hy12 ?_
    case hy12 => exact Yl.assign rfl rfl
    refine TL.nil ?_
    refine TE.next ?_
    refine TC.ret ?_
    refine TE.thenRet ?_
    refine TE.ret1 rfl rfl ?_
    exact fun w h => ⟨rfl, (h.sub (List.nil_sublist _)).below⟩
  · skip
    (try simp only [decide_eq_true_eq, decide_eq_false_iff_not, beq_iff_eq, beq_eq_false_iff_ne, bne_iff_ne, ne_eq, bne_eq_false_iff_eq, Bool.not_eq_true', Bool.not_eq_false', Int.not_lt, Int.not_le, gt_iff_lt, ge_iff_le] at hs25)
    refine' TL.y rfl rfl rfl ?hy13 ?_
    case hy13 => exact Yl.move rfl rfl
    refine' TL.y rfl rfl rfl ?hy14 ?_
    case hy14 => exact Yl.len rfl rfl Try.underlying22
    refine' TL.y rfl rfl rfl ?hy15 ?_
    case hy15 => exact Yl.bin rfl rfl rfl (Bin.gtr _ _ _ _)
    refine' TL.y rfl rfl rfl ?hy16 ?_
    case hy16 => exact Yl.pickF rfl rfl rfl
    refine TL.nil ?_
    refine TE.next ?_
    refine TC.cond rfl (fun hs29 => ?_) (fun hs29 => ?_)
    · skip
      (try simp only [decide_eq_true_eq, decide_eq_false_iff_not, beq_iff_eq, beq_eq_false_iff_ne, bne_iff_ne, ne_eq, bne_eq_false_iff_eq, Bool.not_eq_true', Bool.not_eq_false', Int.not_lt, Int.not_le, gt_iff_lt, ge_iff_le] at hs29)
      refine TC.seq ?_
      refine TC.region ?_
      refine' TL.y rfl rfl rfl ?hy17 ?_
      case hy17 => exact Yl.move rfl rfl
      refine' TL.y rfl rfl rfl ?hy18 ?_
      case hy18 => exact Yl.assign rfl rfl
      refine TL.nil ?_
      refine TE.next ?_
      refine TC.ret ?_
      refine TE.thenRet ?_
      refine TE.ret1 rfl rfl ?_
      exact fun w h => ⟨rfl, (h.sub (List.nil_sublist _)).below⟩
    · skip
      (try simp only [decide_eq_true_eq, decide_eq_false_iff_not, beq_iff_eq, beq_eq_false_iff_ne, bne_iff_ne, ne_eq, bne_eq_false_iff_eq, Bool.not_eq_true', Bool.not_eq_false', Int.not_lt, Int.not_le, gt_iff_lt, ge_iff_le] at hs29)
      refine TC.skip ?_
      refine TE.next ?_
      refine TC.seq ?_
      refine TC.region ?_
      refine' TL.c rfl rfl rfl ?hy19 ?_
      case hy19 => exact Yc.call rfl Try.func11 (by kernel_rfl) rfl rfl (Hp.news (fun w h => k_new w))
      intro b
      refine' TL.y rfl rfl rfl ?hy20 ?_
      case hy20 => exact Yl.assign rfl rfl
      refine TL.nil ?_
      refine TE.next ?_
      refine TC.seq ?_
      refine TC.seq ?_
      refine TC.region ?_
      refine' TL.y rfl rfl rfl ?hy21 ?_
      case hy21 => exact Yl.assign rfl rfl
      refine TL.nil ?_
      refine TE.next ?_
      refine TC.block ?_
      refine TC.loop (σ := Nat × St) (fun s => [(0, .slice A m cp), (1, .slice B m2 cq), (5, .bool true), (6, .pointer (some ⟨b, 0, none⟩)), (7, .int .i64 (s.1 : Int))]) (fun s => Hp W (fun _ => False) [tabR s.2]) (fun s => s.1 ≤ m ∧ Tab s.2 (stS f s.1) b) (fun s => m - s.1) (0, st0 b) ?hF22 ?hs22 ?hm22 ?round22
      case hF22 => exact ⟨Nat.zero_le _, by show Tab _ (stS f 0) b; rw [stS]; exact Tab.new b⟩
      case hs22 => exact ⟨rfl, rfl, rfl, rfl, rfl, trivial⟩
      case hm22 => exact fun _ h => h
      case round22 =>
        rintro ⟨i, st⟩ ⟨hi, hTab⟩
        dsimp only at hi hTab ⊢
        refine TC.seq ?_
        refine TC.seq ?_
        refine TC.region ?_
        refine' TL.y rfl rfl rfl ?hy23 ?_
        case hy23 => exact Yl.move rfl rfl
        refine' TL.y rfl rfl rfl ?hy24 ?_
        case hy24 => exact Yl.move rfl rfl
        refine' TL.y rfl rfl rfl ?hy25 ?_
        case hy25 => exact Yl.len rfl rfl Try.underlying22
        refine' TL.y rfl rfl rfl ?hy26 ?_
        case hy26 => exact Yl.bin rfl rfl rfl (Bin.lss _ _ _ _)
        refine TL.nil ?_
        refine TE.next ?_
        refine TC.cond rfl (fun hs35 => ?_) (fun hs35 => ?_)
        · skip
          (try simp only [decide_eq_true_eq, decide_eq_false_iff_not, beq_iff_eq, beq_eq_false_iff_ne, bne_iff_ne, ne_eq, bne_eq_false_iff_eq, Bool.not_eq_true', Bool.not_eq_false', Int.not_lt, Int.not_le, gt_iff_lt, ge_iff_le] at hs35)
          obtain ⟨b0, o0, rfl⟩ := Sl.some2 hS (by rw [Aw_length]; omega)
          refine TC.skip ?_
          refine TE.next ?_
          refine TC.seq ?_
          refine TC.block ?_
          refine TC.draw (k := 12) (Hp W (fun _ => False) []) [] #[false, false, false, false, false, false, false, false, false, false, false, false] (by kernel_rfl) rfl rfl (fun _ h => h.drew) (fun _ h => by exact Hp.sub h (by repeat (first | exact List.Sublist.refl _ | exact List.nil_sublist _ | apply List.Sublist.cons_cons | apply List.Sublist.cons))) ?_
          refine' TA.y (i := 0) #[true, false, false, false, false, false, false, false, false, false, false, false] rfl rfl rfl (by kernel_rfl) (fun _ _ _ h => h) (fun _ h => by exact Hp.sub h (by repeat (first | exact List.Sublist.refl _ | exact List.nil_sublist _ | apply List.Sublist.cons_cons | apply List.Sublist.cons))) rfl ?hy27 ?_
          case hy27 => exact Yl.move rfl rfl
          refine' TA.y (i := 1) #[true, true, false, false, false, false, false, false, false, false, false, false] rfl rfl rfl (by kernel_rfl) (fun _ _ _ h => h) (fun _ h => by exact Hp.sub h (by repeat (first | exact List.Sublist.refl _ | exact List.nil_sublist _ | apply List.Sublist.cons_cons | apply List.Sublist.cons))) rfl ?hy28 ?_
          case hy28 => exact Yl.move rfl rfl
          refine' TA.y (i := 2) #[true, true, true, false, false, false, false, false, false, false, false, false] rfl rfl rfl (by kernel_rfl) (fun _ _ _ h => h) (fun _ h => by exact Hp.sub h (by repeat (first | exact List.Sublist.refl _ | exact List.nil_sublist _ | apply List.Sublist.cons_cons | apply List.Sublist.cons))) rfl ?hy29 ?_
          case hy29 => exact Yl.move rfl rfl
          refine' TA.y (i := 3) #[true, true, true, true, false, false, false, false, false, false, false, false] rfl rfl rfl (by kernel_rfl) (fun _ _ _ h => h) (fun _ h => by exact Hp.sub h (by repeat (first | exact List.Sublist.refl _ | exact List.nil_sublist _ | apply List.Sublist.cons_cons | apply List.Sublist.cons))) rfl ?hy30 ?_
          case hy30 => first | exact Yl.ixkn (k := 3) rfl rfl rfl Try.underlying22 (by kernel_rfl) (by omega) | exact Yl.ixkz (k := 3) rfl rfl rfl Try.underlying22 (by kernel_rfl) (by omega) (by omega)
          refine' TA.y (i := 4) #[true, true, true, true, true, false, false, false, false, false, false, false] rfl rfl rfl (by kernel_rfl) (fun _ _ _ h => h) (fun _ h => by exact Hp.sub h (by repeat (first | exact List.Sublist.refl _ | exact List.nil_sublist _ | apply List.Sublist.cons_cons | apply List.Sublist.cons))) rfl ?hy31 ?_
          case hy31 => first | exact Yl.field0 (k := 0) 0 rfl rfl Try.underlying30 rfl (by kernel_rfl) rfl | exact Yl.field (k := 0) 0 rfl rfl Try.underlying30 rfl (by kernel_rfl) rfl
          refine' TA.y (i := 5) #[true, true, true, true, true, true, false, false, false, false, false, false] rfl rfl rfl (by kernel_rfl) (fun _ _ _ h => h) (fun _ h => by exact Hp.sub h (by repeat (first | exact List.Sublist.refl _ | exact List.nil_sublist _ | apply List.Sublist.cons_cons | apply List.Sublist.cons))) rfl ?hy32 ?_
          case hy32 => exact Yl.load rfl rfl (by kernel_rfl) (Sl.aw hS (i := 0) rfl (by omega) (by decide))
          refine TA.re (i := 43) (v' := .int .i64 ((f i).1)) rfl rfl ?_
          refine' TA.y (i := 6) #[true, true, true, true, true, true, true, false, false, false, false, false] rfl rfl rfl (by kernel_rfl) (fun _ _ _ h => h) (fun _ h => by exact Hp.sub h (by repeat (first | exact List.Sublist.refl _ | exact List.nil_sublist _ | apply List.Sublist.cons_cons | apply List.Sublist.cons))) rfl ?hy33 ?_
          case hy33 => exact Yl.move rfl rfl
          refine' TA.y (i := 7) #[true, true, true, true, true, true, true, true, false, false, false, false] rfl rfl rfl (by kernel_rfl) (fun _ _ _ h => h) (fun _ h => by exact Hp.sub h (by repeat (first | exact List.Sublist.refl _ | exact List.nil_sublist _ | apply List.Sublist.cons_cons | apply List.Sublist.cons))) rfl ?hy34 ?_
          case hy34 => exact Yl.move rfl rfl
          refine' TA.y (i := 8) #[true, true, true, true, true, true, true, true, true, false, false, false] rfl rfl rfl (by kernel_rfl) (fun _ _ _ h => h) (fun _ h => by exact Hp.sub h (by repeat (first | exact List.Sublist.refl _ | exact List.nil_sublist _ | apply List.Sublist.cons_cons | apply List.Sublist.cons))) rfl ?hy35 ?_
          case hy35 => first | exact Yl.ixkn (k := 3) rfl rfl rfl Try.underlying22 (by kernel_rfl) (by omega) | exact Yl.ixkz (k := 3) rfl rfl rfl Try.underlying22 (by kernel_rfl) (by omega) (by omega)
          refine' TA.y (i := 9) #[true, true, true, true, true, true, true, true, true, true, false, false] rfl rfl rfl (by kernel_rfl) (fun _ _ _ h => h) (fun _ h => by exact Hp.sub h (by repeat (first | exact List.Sublist.refl _ | exact List.nil_sublist _ | apply List.Sublist.cons_cons | apply List.Sublist.cons))) rfl ?hy36 ?_
          case hy36 => first | exact Yl.field0 (k := 0) 1 rfl rfl Try.underlying30 rfl (by kernel_rfl) rfl | exact Yl.field (k := 0) 1 rfl rfl Try.underlying30 rfl (by kernel_rfl) rfl
          refine' TA.y (i := 10) #[true, true, true, true, true, true, true, true, true, true, true, false] rfl rfl rfl (by kernel_rfl) (fun _ _ _ h => h) (fun _ h => by exact Hp.sub h (by repeat (first | exact List.Sublist.refl _ | exact List.nil_sublist _ | apply List.Sublist.cons_cons | apply List.Sublist.cons))) rfl ?hy37 ?_
          case hy37 => exact Yl.load rfl rfl (by kernel_rfl) (Sl.aw hS (i := 1) rfl (by omega) (by decide))
          refine TA.re (i := 48) (v' := .int .u64 ((f i).2.1)) rfl rfl ?_
          refine' TA.c (i := 11) #[true, true, true, true, true, true, true, true, true, true, true, true] rfl rfl rfl (by kernel_rfl) (by decide) rfl ?hy38 ?hz38 ?_
          case hy38 => exact Yc.call rfl Try.func12 (by kernel_rfl) rfl rfl (Hp.turnx mem0 (fun s => foc0) (k_set hTab (f i).1 (f i).2.1))
          case hz38 => exact (fun _ _ h => by exact Hp.sub h (by repeat (first | exact List.Sublist.refl _ | apply List.Sublist.cons)))
          intro ⟨st2, hT2⟩
          dsimp only
          refine TA.done (by kernel_rfl) ?_
          refine TE.inNormal ?_
          refine TE.next ?_
          refine TC.region ?_
          refine' TL.y rfl rfl rfl ?hy39 ?_
          case hy39 => exact Yl.move rfl rfl
          refine' TL.y rfl rfl rfl ?hy40 ?_
          case hy40 => first | (refine Yl.val (Yl.bin rfl rfl rfl (Bin.add _ _ _ _)) (congrArg (Value.int .i64) (i64in ?_ ?_)) <;> omega) | exact Yl.bin rfl rfl rfl (Bin.add _ _ _ _)
          refine' TL.y rfl rfl rfl ?hy41 ?_
          case hy41 => exact Yl.assign rfl rfl
          refine TL.nil ?_
          refine TE.round (i + 1, st2) ?hF42 ?hlt42 ?hs42 ?hm42
          case hF42 => exact ⟨by dsimp only; omega, by show Tab st2 (stS f (i + 1)) b; rw [stS]; exact hT2⟩
          case hlt42 => dsimp only; omega
          case hs42 => exact ⟨rfl, rfl, rfl, rfl, rfl, trivial⟩
          case hm42 => exact fun _ h => h
        · skip
          (try simp only [decide_eq_true_eq, decide_eq_false_iff_not, beq_iff_eq, beq_eq_false_iff_ne, bne_iff_ne, ne_eq, bne_eq_false_iff_eq, Bool.not_eq_true', Bool.not_eq_false', Int.not_lt, Int.not_le, gt_iff_lt, ge_iff_le] at hs35)
          obtain rfl : m = i := by omega
          refine TC.exit ?_
          refine TE.thenExit ?_
          refine TE.thenExit ?_
          refine TE.inHere ?_
          refine TE.next ?_
          refine TC.seq ?_
          refine TC.region ?_
          refine' TL.y rfl rfl rfl ?hy43 ?_
          case hy43 => exact Yl.move rfl rfl
          refine' TL.c rfl rfl rfl ?hy44 ?_
          case hy44 => exact Yc.call rfl Try.func26 (by kernel_rfl) rfl rfl (Hp.news (fun w h => k_cloneT w (h.all _ mem0) hTab))
          intro ⟨⟨c, stc⟩, hTc⟩
          dsimp only
          have hTc : Tab stc (stS f m) c := hTc
          refine' TL.y rfl rfl rfl ?hy45 ?_
          case hy45 => exact Yl.assign rfl rfl
          refine TL.nil ?_
          refine TE.next ?_
          refine TC.seq ?_
          refine TC.seq ?_
          refine TC.region ?_
          refine' TL.y rfl rfl rfl ?hy46 ?_
          case hy46 => exact Yl.move rfl rfl
          refine' TL.y rfl rfl rfl ?hy47 ?_
          case hy47 => exact Yl.bin rfl rfl rfl (Bin.eqlP _ _ _ Try.underlying24)
          refine' TL.y rfl rfl rfl ?hy48 ?_
          case hy48 => exact Yl.move rfl rfl
          refine TL.re (i := 54) (v' := .bool false) rfl (congrArg Value.bool (rfl)) ?_
          refine' TL.y rfl rfl rfl ?hy49 ?_
          case hy49 => exact Yl.move rfl rfl
          refine' TL.c rfl rfl rfl ?hy50 ?_
          case hy50 => exact Yc.call rfl Try.func22 (by kernel_rfl) rfl rfl (Hp.calls (fun w h => k_lenT w (h.all _ mem0) hTc))
          intro _
          refine' TL.y rfl rfl rfl ?hy51 ?_
          case hy51 => exact Yl.move rfl rfl
          refine' TL.c rfl rfl rfl ?hy52 ?_
          case hy52 => exact Yc.call rfl Try.func22 (by kernel_rfl) rfl rfl (Hp.calls (fun w h => k_lenT w (h.all _ mem1) hTab))
          intro _
          refine' TL.y rfl rfl rfl ?hy53 ?_
          case hy53 => exact Yl.bin rfl rfl rfl (Bin.neq _ _ _ _)
          refine' TL.y rfl rfl rfl ?hy54 ?_
          case hy54 => exact Yl.pickF rfl rfl rfl
          refine' TL.y rfl rfl rfl ?hy55 ?_
          case hy55 => exact Yl.move rfl rfl
          refine TL.re (i := 61) (v' := .bool false) rfl (congrArg Value.bool (by simp)) ?_
          refine' TL.y rfl rfl rfl ?hy56 ?_
          case hy56 => exact Yl.move rfl rfl
          refine' TL.c rfl rfl rfl ?hy57 ?_
          case hy57 => exact Yc.call rfl Try.func17 (by kernel_rfl) rfl rfl (Hp.calls (fun w h => k_nodesT w (h.all _ mem0) hTc))
          intro _
          refine' TL.y rfl rfl rfl ?hy58 ?_
          case hy58 => exact Yl.move rfl rfl
          refine' TL.c rfl rfl rfl ?hy59 ?_
          case hy59 => exact Yc.call rfl Try.func17 (by kernel_rfl) rfl rfl (Hp.calls (fun w h => k_nodesT w (h.all _ mem1) hTab))
          intro _
          refine' TL.y rfl rfl rfl ?hy60 ?_
          case hy60 => exact Yl.bin rfl rfl rfl (Bin.neq _ _ _ _)
          refine' TL.y rfl rfl rfl ?hy61 ?_
          case hy61 => exact Yl.pickF rfl rfl rfl
          refine TL.nil ?_
          refine TE.next ?_
          refine TC.no rfl (by simp) ?_
          refine TC.skip ?_
          refine TE.next ?_
          refine TC.seq ?_
          refine TC.region ?_
          refine' TL.y rfl rfl rfl ?hy62 ?_
          case hy62 => exact Yl.move rfl rfl
          refine' TL.c rfl rfl rfl ?hy63 ?_
          case hy63 => exact Yc.call rfl Try.func13 (by kernel_rfl) rfl rfl (Hp.news (fun w h => k_walkT w (h.all _ mem1) hTab 0 65536))
          intro v69
          refine TL.fact (fun w h => Hp.rowShape mem0 w h) ?_
          rintro ⟨A69, c69, rfl⟩
          refine' TL.y rfl rfl rfl ?hy64 ?_
          case hy64 => exact Yl.assign rfl rfl
          refine TL.nil ?_
          refine TE.next ?_
          refine TC.seq ?_
          refine TC.seq ?_
          refine TC.region ?_
          refine' TL.y rfl rfl rfl ?hy65 ?_
          case hy65 => exact Yl.assign rfl rfl
          refine TL.nil ?_
          refine TE.next ?_
          refine TC.block ?_
          refine TC.loop (σ := Nat × St × Sf) (fun s => [(0, .slice A m cp), (1, .slice B m2 cq), (5, .bool true), (6, .pointer (some ⟨b, 0, none⟩)), (8, .pointer (some ⟨c, 0, none⟩)), (9, .slice A69 (walkL (stS f m) 0 65536).length c69), (10, .int .i64 (s.1 : Int))]) (fun s => Hp W (fun _ => False) [rowI (.slice A69 (walkL (stS f m) 0 65536).length c69) (walkL (stS f m) 0 65536), tabR s.2.1, tabR st]) (fun s => s.1 ≤ m2 ∧ Tab s.2.1 s.2.2 c) (fun s => m2 - s.1) (0, stc, (stS f m)) ?hF66 ?hs66 ?hm66 ?round66
          case hF66 => exact ⟨Nat.zero_le _, hTc⟩
          case hs66 => exact ⟨rfl, rfl, rfl, rfl, rfl, rfl, rfl, trivial⟩
          case hm66 => exact fun _ h => h
          case round66 =>
            rintro ⟨i, std, Sd⟩ ⟨hi, hTd⟩
            dsimp only at hi hTd ⊢
            refine TC.seq ?_
            refine TC.seq ?_
            refine TC.region ?_
            refine' TL.y rfl rfl rfl ?hy67 ?_
            case hy67 => exact Yl.move rfl rfl
            refine' TL.y rfl rfl rfl ?hy68 ?_
            case hy68 => exact Yl.move rfl rfl
            refine' TL.y rfl rfl rfl ?hy69 ?_
            case hy69 => exact Yl.len rfl rfl Try.underlying22
            refine' TL.y rfl rfl rfl ?hy70 ?_
            case hy70 => exact Yl.bin rfl rfl rfl (Bin.lss _ _ _ _)
            refine TL.nil ?_
            refine TE.next ?_
            refine TC.cond rfl (fun hs73 => ?_) (fun hs73 => ?_)
            · skip
              (try simp only [decide_eq_true_eq, decide_eq_false_iff_not, beq_iff_eq, beq_eq_false_iff_ne, bne_iff_ne, ne_eq, bne_eq_false_iff_eq, Bool.not_eq_true', Bool.not_eq_false', Int.not_lt, Int.not_le, gt_iff_lt, ge_iff_le] at hs73)
              obtain ⟨b1, o1, rfl⟩ := Sl.some2 hS2 (by rw [Aw_length]; omega)
              refine TC.skip ?_
              refine TE.next ?_
              refine TC.seq ?_
              refine TC.block ?_
              refine TC.seq ?_
              refine TC.region ?_
              refine' TL.y rfl rfl rfl ?hy71 ?_
              case hy71 => exact Yl.move rfl rfl
              refine' TL.y rfl rfl rfl ?hy72 ?_
              case hy72 => exact Yl.move rfl rfl
              refine' TL.y rfl rfl rfl ?hy73 ?_
              case hy73 => first | exact Yl.ixkn (k := 3) rfl rfl rfl Try.underlying22 (by kernel_rfl) (by omega) | exact Yl.ixkz (k := 3) rfl rfl rfl Try.underlying22 (by kernel_rfl) (by omega) (by omega)
              refine' TL.y rfl rfl rfl ?hy74 ?_
              case hy74 => first | exact Yl.field0 (k := 0) 2 rfl rfl Try.underlying30 rfl (by kernel_rfl) rfl | exact Yl.field (k := 0) 2 rfl rfl Try.underlying30 rfl (by kernel_rfl) rfl
              refine' TL.y rfl rfl rfl ?hy75 ?_
              case hy75 => exact Yl.load rfl rfl (by kernel_rfl) (Sl.aw hS2 (i := 2) rfl (by omega) (by decide))
              refine TL.re (i := 80) (v' := .bool ((f2 i).2.2)) rfl rfl ?_
              refine TL.nil ?_
              refine TE.next ?_
              refine TC.cond rfl (fun hs80 => ?_) (fun hs80 => ?_)
              · skip
                (try simp only [decide_eq_true_eq, decide_eq_false_iff_not, beq_iff_eq, beq_eq_false_iff_ne, bne_iff_ne, ne_eq, bne_eq_false_iff_eq, Bool.not_eq_true', Bool.not_eq_false', Int.not_lt, Int.not_le, gt_iff_lt, ge_iff_le] at hs80)
                refine TC.region ?_
                refine' TL.y rfl rfl rfl ?hy76 ?_
                case hy76 => exact Yl.move rfl rfl
                refine' TL.y rfl rfl rfl ?hy77 ?_
                case hy77 => exact Yl.move rfl rfl
                refine' TL.y rfl rfl rfl ?hy78 ?_
                case hy78 => exact Yl.move rfl rfl
                refine' TL.y rfl rfl rfl ?hy79 ?_
                case hy79 => first | exact Yl.ixkn (k := 3) rfl rfl rfl Try.underlying22 (by kernel_rfl) (by omega) | exact Yl.ixkz (k := 3) rfl rfl rfl Try.underlying22 (by kernel_rfl) (by omega) (by omega)
                refine' TL.y rfl rfl rfl ?hy80 ?_
                case hy80 => first | exact Yl.field0 (k := 0) 0 rfl rfl Try.underlying30 rfl (by kernel_rfl) rfl | exact Yl.field (k := 0) 0 rfl rfl Try.underlying30 rfl (by kernel_rfl) rfl
                refine' TL.y rfl rfl rfl ?hy81 ?_
                case hy81 => exact Yl.load rfl rfl (by kernel_rfl) (Sl.aw hS2 (i := 0) rfl (by omega) (by decide))
                refine TL.re (i := 86) (v' := .int .i64 ((f2 i).1)) rfl rfl ?_
                refine' TL.c rfl rfl rfl ?hy82 ?_
                case hy82 => exact Yc.call rfl Try.func18 (by kernel_rfl) rfl rfl (Hp.turnx mem1 (fun s => foc1) (k_drop hTd (f2 i).1))
                intro ⟨st2, hT2⟩
                dsimp only
                refine TL.nil ?_
                refine TE.inNormal ?_
                refine TE.next ?_
                refine TC.region ?_
                refine' TL.y rfl rfl rfl ?hy83 ?_
                case hy83 => exact Yl.move rfl rfl
                refine' TL.y rfl rfl rfl ?hy84 ?_
                case hy84 => first | (refine Yl.val (Yl.bin rfl rfl rfl (Bin.add _ _ _ _)) (congrArg (Value.int .i64) (i64in ?_ ?_)) <;> omega) | exact Yl.bin rfl rfl rfl (Bin.add _ _ _ _)
                refine' TL.y rfl rfl rfl ?hy85 ?_
                case hy85 => exact Yl.assign rfl rfl
                refine TL.nil ?_
                refine TE.round (i + 1, st2, offS Sd (f2 i).1) ?hF86 ?hlt86 ?hs86 ?hm86
                case hF86 => exact ⟨by dsimp only; omega, hT2⟩
                case hlt86 => dsimp only; omega
                case hs86 => exact ⟨rfl, rfl, rfl, rfl, rfl, rfl, rfl, trivial⟩
                case hm86 => exact fun _ h => h
              · skip
                (try simp only [decide_eq_true_eq, decide_eq_false_iff_not, beq_iff_eq, beq_eq_false_iff_ne, bne_iff_ne, ne_eq, bne_eq_false_iff_eq, Bool.not_eq_true', Bool.not_eq_false', Int.not_lt, Int.not_le, gt_iff_lt, ge_iff_le] at hs80)
                refine TC.draw (k := 13) (Hp W (fun _ => False) []) [] #[false, false, false, false, false, false, false, false, false, false, false, false, false] (by kernel_rfl) rfl rfl (fun _ h => h.drew) (fun _ h => by exact Hp.sub h (by repeat (first | exact List.Sublist.refl _ | exact List.nil_sublist _ | apply List.Sublist.cons_cons | apply List.Sublist.cons))) ?_
                refine' TA.y (i := 0) #[true, false, false, false, false, false, false, false, false, false, false, false, false] rfl rfl rfl (by kernel_rfl) (fun _ _ _ h => h) (fun _ h => by exact Hp.sub h (by repeat (first | exact List.Sublist.refl _ | exact List.nil_sublist _ | apply List.Sublist.cons_cons | apply List.Sublist.cons))) rfl ?hy87 ?_
                case hy87 => exact Yl.move rfl rfl
                refine' TA.y (i := 1) #[true, true, false, false, false, false, false, false, false, false, false, false, false] rfl rfl rfl (by kernel_rfl) (fun _ _ _ h => h) (fun _ h => by exact Hp.sub h (by repeat (first | exact List.Sublist.refl _ | exact List.nil_sublist _ | apply List.Sublist.cons_cons | apply List.Sublist.cons))) rfl ?hy88 ?_
                case hy88 => exact Yl.move rfl rfl
                refine' TA.y (i := 2) #[true, true, true, false, false, false, false, false, false, false, false, false, false] rfl rfl rfl (by kernel_rfl) (fun _ _ _ h => h) (fun _ h => by exact Hp.sub h (by repeat (first | exact List.Sublist.refl _ | exact List.nil_sublist _ | apply List.Sublist.cons_cons | apply List.Sublist.cons))) rfl ?hy89 ?_
                case hy89 => exact Yl.move rfl rfl
                refine' TA.y (i := 3) #[true, true, true, true, false, false, false, false, false, false, false, false, false] rfl rfl rfl (by kernel_rfl) (fun _ _ _ h => h) (fun _ h => by exact Hp.sub h (by repeat (first | exact List.Sublist.refl _ | exact List.nil_sublist _ | apply List.Sublist.cons_cons | apply List.Sublist.cons))) rfl ?hy90 ?_
                case hy90 => first | exact Yl.ixkn (k := 3) rfl rfl rfl Try.underlying22 (by kernel_rfl) (by omega) | exact Yl.ixkz (k := 3) rfl rfl rfl Try.underlying22 (by kernel_rfl) (by omega) (by omega)
                refine' TA.y (i := 4) #[true, true, true, true, true, false, false, false, false, false, false, false, false] rfl rfl rfl (by kernel_rfl) (fun _ _ _ h => h) (fun _ h => by exact Hp.sub h (by repeat (first | exact List.Sublist.refl _ | exact List.nil_sublist _ | apply List.Sublist.cons_cons | apply List.Sublist.cons))) rfl ?hy91 ?_
                case hy91 => first | exact Yl.field0 (k := 0) 0 rfl rfl Try.underlying30 rfl (by kernel_rfl) rfl | exact Yl.field (k := 0) 0 rfl rfl Try.underlying30 rfl (by kernel_rfl) rfl
                refine' TA.y (i := 5) #[true, true, true, true, true, true, false, false, false, false, false, false, false] rfl rfl rfl (by kernel_rfl) (fun _ _ _ h => h) (fun _ h => by exact Hp.sub h (by repeat (first | exact List.Sublist.refl _ | exact List.nil_sublist _ | apply List.Sublist.cons_cons | apply List.Sublist.cons))) rfl ?hy92 ?_
                case hy92 => exact Yl.load rfl rfl (by kernel_rfl) (Sl.aw hS2 (i := 0) rfl (by omega) (by decide))
                refine TA.re (i := 93) (v' := .int .i64 ((f2 i).1)) rfl rfl ?_
                refine' TA.y (i := 6) #[true, true, true, true, true, true, true, false, false, false, false, false, false] rfl rfl rfl (by kernel_rfl) (fun _ _ _ h => h) (fun _ h => by exact Hp.sub h (by repeat (first | exact List.Sublist.refl _ | exact List.nil_sublist _ | apply List.Sublist.cons_cons | apply List.Sublist.cons))) rfl ?hy93 ?_
                case hy93 => exact Yl.move rfl rfl
                refine' TA.y (i := 7) #[true, true, true, true, true, true, true, true, false, false, false, false, false] rfl rfl rfl (by kernel_rfl) (fun _ _ _ h => h) (fun _ h => by exact Hp.sub h (by repeat (first | exact List.Sublist.refl _ | exact List.nil_sublist _ | apply List.Sublist.cons_cons | apply List.Sublist.cons))) rfl ?hy94 ?_
                case hy94 => exact Yl.move rfl rfl
                refine' TA.y (i := 8) #[true, true, true, true, true, true, true, true, true, false, false, false, false] rfl rfl rfl (by kernel_rfl) (fun _ _ _ h => h) (fun _ h => by exact Hp.sub h (by repeat (first | exact List.Sublist.refl _ | exact List.nil_sublist _ | apply List.Sublist.cons_cons | apply List.Sublist.cons))) rfl ?hy95 ?_
                case hy95 => first | exact Yl.ixkn (k := 3) rfl rfl rfl Try.underlying22 (by kernel_rfl) (by omega) | exact Yl.ixkz (k := 3) rfl rfl rfl Try.underlying22 (by kernel_rfl) (by omega) (by omega)
                refine' TA.y (i := 9) #[true, true, true, true, true, true, true, true, true, true, false, false, false] rfl rfl rfl (by kernel_rfl) (fun _ _ _ h => h) (fun _ h => by exact Hp.sub h (by repeat (first | exact List.Sublist.refl _ | exact List.nil_sublist _ | apply List.Sublist.cons_cons | apply List.Sublist.cons))) rfl ?hy96 ?_
                case hy96 => first | exact Yl.field0 (k := 0) 1 rfl rfl Try.underlying30 rfl (by kernel_rfl) rfl | exact Yl.field (k := 0) 1 rfl rfl Try.underlying30 rfl (by kernel_rfl) rfl
                refine' TA.y (i := 10) #[true, true, true, true, true, true, true, true, true, true, true, false, false] rfl rfl rfl (by kernel_rfl) (fun _ _ _ h => h) (fun _ h => by exact Hp.sub h (by repeat (first | exact List.Sublist.refl _ | exact List.nil_sublist _ | apply List.Sublist.cons_cons | apply List.Sublist.cons))) rfl ?hy97 ?_
                case hy97 => exact Yl.load rfl rfl (by kernel_rfl) (Sl.aw hS2 (i := 1) rfl (by omega) (by decide))
                refine TA.re (i := 98) (v' := .int .u64 ((f2 i).2.1)) rfl rfl ?_
                refine' TA.y (i := 11) #[true, true, true, true, true, true, true, true, true, true, true, true, false] rfl rfl rfl (by kernel_rfl) (fun _ _ _ h => h) (fun _ h => by exact Hp.sub h (by repeat (first | exact List.Sublist.refl _ | exact List.nil_sublist _ | apply List.Sublist.cons_cons | apply List.Sublist.cons))) rfl ?hy98 ?_
                case hy98 => first | (refine Yl.val (Yl.bin rfl rfl rfl (Bin.add _ _ _ _)) (congrArg (Value.int .u64) (u64in ?_ ?_)) <;> omega) | exact Yl.bin rfl rfl rfl (Bin.add _ _ _ _)
                refine' TA.c (i := 12) #[true, true, true, true, true, true, true, true, true, true, true, true, true] rfl rfl rfl (by kernel_rfl) (by decide) rfl ?hy99 ?hz99 ?_
                case hy99 => exact Yc.call rfl Try.func12 (by kernel_rfl) rfl rfl (Hp.turnx mem1 (fun s => foc1) (k_set hTd (f2 i).1 _))
                case hz99 => exact (fun _ _ h => by exact Hp.sub h (by repeat (first | exact List.Sublist.refl _ | apply List.Sublist.cons)))
                intro ⟨st2, hT2⟩
                dsimp only
                refine TA.done (by kernel_rfl) ?_
                refine TE.inNormal ?_
                refine TE.next ?_
                refine TC.region ?_
                refine' TL.y rfl rfl rfl ?hy100 ?_
                case hy100 => exact Yl.move rfl rfl
                refine' TL.y rfl rfl rfl ?hy101 ?_
                case hy101 => first | (refine Yl.val (Yl.bin rfl rfl rfl (Bin.add _ _ _ _)) (congrArg (Value.int .i64) (i64in ?_ ?_)) <;> omega) | exact Yl.bin rfl rfl rfl (Bin.add _ _ _ _)
                refine' TL.y rfl rfl rfl ?hy102 ?_
                case hy102 => exact Yl.assign rfl rfl
                refine TL.nil ?_
                refine TE.round (i + 1, st2, setS Sd (f2 i).1 (IntKind.u64.wrap ((f2 i).2.1 + 1))) ?hF103 ?hlt103 ?hs103 ?hm103
                case hF103 => exact ⟨by dsimp only; omega, hT2⟩
                case hlt103 => dsimp only; omega
                case hs103 => exact ⟨rfl, rfl, rfl, rfl, rfl, rfl, rfl, trivial⟩
                case hm103 => exact fun _ h => h
            · skip
              (try simp only [decide_eq_true_eq, decide_eq_false_iff_not, beq_iff_eq, beq_eq_false_iff_ne, bne_iff_ne, ne_eq, bne_eq_false_iff_eq, Bool.not_eq_true', Bool.not_eq_false', Int.not_lt, Int.not_le, gt_iff_lt, ge_iff_le] at hs73)
              refine TC.exit ?_
              refine TE.thenExit ?_
              refine TE.thenExit ?_
              refine TE.inHere ?_
              refine TE.next ?_
              refine TC.seq ?_
              refine TC.region ?_
              refine' TL.y rfl rfl rfl ?hy104 ?_
              case hy104 => exact Yl.move rfl rfl
              refine' TL.c rfl rfl rfl ?hy105 ?_
              case hy105 => exact Yc.call rfl Try.func13 (by kernel_rfl) rfl rfl (Hp.news (fun w h => k_walkT w (h.all _ mem2) hTab 0 65536))
              intro v102
              refine TL.fact (fun w h => Hp.rowShape mem0 w h) ?_
              rintro ⟨A102, c102, rfl⟩
              refine' TL.y rfl rfl rfl ?hy106 ?_
              case hy106 => exact Yl.assign rfl rfl
              refine TL.nil ?_
              refine TE.next ?_
              refine TC.seq ?_
              refine TC.seq ?_
              refine TC.region ?_
              refine' TL.y rfl rfl rfl ?hy107 ?_
              case hy107 => exact Yl.move rfl rfl
              refine' TL.y rfl rfl rfl ?hy108 ?_
              case hy108 => exact Yl.move rfl rfl
              refine' TL.c rfl rfl rfl ?hy109 ?_
              case hy109 => exact Yc.call rfl Try.func15 (by kernel_rfl) rfl rfl (Hp.calls (fun w h => k_rowL w (Hp.rowSl mem1 w h) (Hp.rowSl mem0 w h) (by have := walkL_len (stS f m) 0 65536; omega)))
              intro _
              refine TL.re (i := 105) (v' := .bool true) rfl (congrArg Value.bool (decide_eq_true rfl)) ?_
              refine' TL.y rfl rfl rfl ?hy110 ?_
              case hy110 => exact Yl.not rfl rfl
              refine TL.nil ?_
              refine TE.next ?_
              refine TC.no rfl rfl ?_
              refine TC.skip ?_
              refine TE.next ?_
              refine TC.seq ?_
              refine TC.region ?_
              refine' TL.c rfl rfl rfl ?hy111 ?_
              case hy111 => exact Yc.call rfl Try.func11 (by kernel_rfl) rfl rfl (Hp.news (fun w h => k_new w))
              intro d
              refine' TL.y rfl rfl rfl ?hy112 ?_
              case hy112 => exact Yl.assign rfl rfl
              refine TL.nil ?_
              refine TE.next ?_
              refine TC.seq ?_
              refine TC.seq ?_
              refine TC.region ?_
              refine' TL.y rfl rfl rfl ?hy113 ?_
              case hy113 => exact Yl.assign rfl rfl
              refine TL.nil ?_
              refine TE.next ?_
              refine TC.block ?_
              refine TC.loop (σ := Nat × St) (fun s => [(0, .slice A m cp), (5, .bool true), (6, .pointer (some ⟨b, 0, none⟩)), (11, .slice A102 (walkL (stS f m) 0 65536).length c102), (12, .pointer (some ⟨d, 0, none⟩)), (13, .int .i64 (s.1 : Int))]) (fun s => Hp W (fun _ => False) [tabR s.2, rowI (.slice A102 (walkL (stS f m) 0 65536).length c102) (walkL (stS f m) 0 65536), tabR st]) (fun s => s.1 ≤ m ∧ Tab s.2 (stS f s.1) d) (fun s => m - s.1) (0, st0 d) ?hF114 ?hs114 ?hm114 ?round114
              case hF114 => exact ⟨Nat.zero_le _, by show Tab _ (stS f 0) d; rw [stS]; exact Tab.new d⟩
              case hs114 => exact ⟨rfl, rfl, rfl, rfl, rfl, rfl, trivial⟩
              case hm114 => exact fun w h => h.sub (.cons_cons _ (.cons_cons _ (.cons _ (.cons _ (List.Sublist.refl _)))))
              case round114 =>
                rintro ⟨i, stu⟩ ⟨hi, hTu⟩
                dsimp only at hi hTu ⊢
                refine TC.seq ?_
                refine TC.seq ?_
                refine TC.region ?_
                refine' TL.y rfl rfl rfl ?hy115 ?_
                case hy115 => exact Yl.move rfl rfl
                refine' TL.y rfl rfl rfl ?hy116 ?_
                case hy116 => exact Yl.move rfl rfl
                refine' TL.y rfl rfl rfl ?hy117 ?_
                case hy117 => exact Yl.len rfl rfl Try.underlying22
                refine' TL.y rfl rfl rfl ?hy118 ?_
                case hy118 => exact Yl.bin rfl rfl rfl (Bin.lss _ _ _ _)
                refine TL.nil ?_
                refine TE.next ?_
                refine TC.cond rfl (fun hs111 => ?_) (fun hs111 => ?_)
                · skip
                  (try simp only [decide_eq_true_eq, decide_eq_false_iff_not, beq_iff_eq, beq_eq_false_iff_ne, bne_iff_ne, ne_eq, bne_eq_false_iff_eq, Bool.not_eq_true', Bool.not_eq_false', Int.not_lt, Int.not_le, gt_iff_lt, ge_iff_le] at hs111)
                  first | (obtain ⟨b0, o0, rfl⟩ := Sl.some2 hS (by rw [Aw_length]; omega)) | skip
                  refine TC.skip ?_
                  refine TE.next ?_
                  refine TC.seq ?_
                  refine TC.block ?_
                  refine TC.draw (k := 12) (Hp W (fun _ => False) []) [] #[false, false, false, false, false, false, false, false, false, false, false, false] (by kernel_rfl) rfl rfl (fun _ h => h.drew) (fun _ h => by exact Hp.sub h (by repeat (first | exact List.Sublist.refl _ | exact List.nil_sublist _ | apply List.Sublist.cons_cons | apply List.Sublist.cons))) ?_
                  refine' TA.y (i := 0) #[true, false, false, false, false, false, false, false, false, false, false, false] rfl rfl rfl (by kernel_rfl) (fun _ _ _ h => h) (fun _ h => by exact Hp.sub h (by repeat (first | exact List.Sublist.refl _ | exact List.nil_sublist _ | apply List.Sublist.cons_cons | apply List.Sublist.cons))) rfl ?hy119 ?_
                  case hy119 => exact Yl.move rfl rfl
                  refine' TA.y (i := 1) #[true, true, false, false, false, false, false, false, false, false, false, false] rfl rfl rfl (by kernel_rfl) (fun _ _ _ h => h) (fun _ h => by exact Hp.sub h (by repeat (first | exact List.Sublist.refl _ | exact List.nil_sublist _ | apply List.Sublist.cons_cons | apply List.Sublist.cons))) rfl ?hy120 ?_
                  case hy120 => exact Yl.move rfl rfl
                  refine' TA.y (i := 2) #[true, true, true, false, false, false, false, false, false, false, false, false] rfl rfl rfl (by kernel_rfl) (fun _ _ _ h => h) (fun _ h => by exact Hp.sub h (by repeat (first | exact List.Sublist.refl _ | exact List.nil_sublist _ | apply List.Sublist.cons_cons | apply List.Sublist.cons))) rfl ?hy121 ?_
                  case hy121 => exact Yl.move rfl rfl
                  refine' TA.y (i := 3) #[true, true, true, true, false, false, false, false, false, false, false, false] rfl rfl rfl (by kernel_rfl) (fun _ _ _ h => h) (fun _ h => by exact Hp.sub h (by repeat (first | exact List.Sublist.refl _ | exact List.nil_sublist _ | apply List.Sublist.cons_cons | apply List.Sublist.cons))) rfl ?hy122 ?_
                  case hy122 => first | exact Yl.ixkn (k := 3) rfl rfl rfl Try.underlying22 (by kernel_rfl) (by omega) | exact Yl.ixkz (k := 3) rfl rfl rfl Try.underlying22 (by kernel_rfl) (by omega) (by omega)
                  refine' TA.y (i := 4) #[true, true, true, true, true, false, false, false, false, false, false, false] rfl rfl rfl (by kernel_rfl) (fun _ _ _ h => h) (fun _ h => by exact Hp.sub h (by repeat (first | exact List.Sublist.refl _ | exact List.nil_sublist _ | apply List.Sublist.cons_cons | apply List.Sublist.cons))) rfl ?hy123 ?_
                  case hy123 => first | exact Yl.field0 (k := 0) 0 rfl rfl Try.underlying30 rfl (by kernel_rfl) rfl | exact Yl.field (k := 0) 0 rfl rfl Try.underlying30 rfl (by kernel_rfl) rfl
                  refine' TA.y (i := 5) #[true, true, true, true, true, true, false, false, false, false, false, false] rfl rfl rfl (by kernel_rfl) (fun _ _ _ h => h) (fun _ h => by exact Hp.sub h (by repeat (first | exact List.Sublist.refl _ | exact List.nil_sublist _ | apply List.Sublist.cons_cons | apply List.Sublist.cons))) rfl ?hy124 ?_
                  case hy124 => exact Yl.load rfl rfl (by kernel_rfl) (Sl.aw hS (i := 0) rfl (by omega) (by decide))
                  refine TA.re (i := 119) (v' := .int .i64 ((f i).1)) rfl rfl ?_
                  refine' TA.y (i := 6) #[true, true, true, true, true, true, true, false, false, false, false, false] rfl rfl rfl (by kernel_rfl) (fun _ _ _ h => h) (fun _ h => by exact Hp.sub h (by repeat (first | exact List.Sublist.refl _ | exact List.nil_sublist _ | apply List.Sublist.cons_cons | apply List.Sublist.cons))) rfl ?hy125 ?_
                  case hy125 => exact Yl.move rfl rfl
                  refine' TA.y (i := 7) #[true, true, true, true, true, true, true, true, false, false, false, false] rfl rfl rfl (by kernel_rfl) (fun _ _ _ h => h) (fun _ h => by exact Hp.sub h (by repeat (first | exact List.Sublist.refl _ | exact List.nil_sublist _ | apply List.Sublist.cons_cons | apply List.Sublist.cons))) rfl ?hy126 ?_
                  case hy126 => exact Yl.move rfl rfl
                  refine' TA.y (i := 8) #[true, true, true, true, true, true, true, true, true, false, false, false] rfl rfl rfl (by kernel_rfl) (fun _ _ _ h => h) (fun _ h => by exact Hp.sub h (by repeat (first | exact List.Sublist.refl _ | exact List.nil_sublist _ | apply List.Sublist.cons_cons | apply List.Sublist.cons))) rfl ?hy127 ?_
                  case hy127 => first | exact Yl.ixkn (k := 3) rfl rfl rfl Try.underlying22 (by kernel_rfl) (by omega) | exact Yl.ixkz (k := 3) rfl rfl rfl Try.underlying22 (by kernel_rfl) (by omega) (by omega)
                  refine' TA.y (i := 9) #[true, true, true, true, true, true, true, true, true, true, false, false] rfl rfl rfl (by kernel_rfl) (fun _ _ _ h => h) (fun _ h => by exact Hp.sub h (by repeat (first | exact List.Sublist.refl _ | exact List.nil_sublist _ | apply List.Sublist.cons_cons | apply List.Sublist.cons))) rfl ?hy128 ?_
                  case hy128 => first | exact Yl.field0 (k := 0) 1 rfl rfl Try.underlying30 rfl (by kernel_rfl) rfl | exact Yl.field (k := 0) 1 rfl rfl Try.underlying30 rfl (by kernel_rfl) rfl
                  refine' TA.y (i := 10) #[true, true, true, true, true, true, true, true, true, true, true, false] rfl rfl rfl (by kernel_rfl) (fun _ _ _ h => h) (fun _ h => by exact Hp.sub h (by repeat (first | exact List.Sublist.refl _ | exact List.nil_sublist _ | apply List.Sublist.cons_cons | apply List.Sublist.cons))) rfl ?hy129 ?_
                  case hy129 => exact Yl.load rfl rfl (by kernel_rfl) (Sl.aw hS (i := 1) rfl (by omega) (by decide))
                  refine TA.re (i := 124) (v' := .int .u64 ((f i).2.1)) rfl rfl ?_
                  refine' TA.c (i := 11) #[true, true, true, true, true, true, true, true, true, true, true, true] rfl rfl rfl (by kernel_rfl) (by decide) rfl ?hy130 ?hz130 ?_
                  case hy130 => exact Yc.call rfl Try.func12 (by kernel_rfl) rfl rfl (Hp.turnx mem0 (fun s => foc0) (k_set hTu (f i).1 (f i).2.1))
                  case hz130 => exact (fun _ _ h => by exact Hp.sub h (by repeat (first | exact List.Sublist.refl _ | apply List.Sublist.cons)))
                  intro ⟨st2, hT2⟩
                  dsimp only
                  refine TA.done (by kernel_rfl) ?_
                  refine TE.inNormal ?_
                  refine TE.next ?_
                  refine TC.region ?_
                  refine' TL.y rfl rfl rfl ?hy131 ?_
                  case hy131 => exact Yl.move rfl rfl
                  refine' TL.y rfl rfl rfl ?hy132 ?_
                  case hy132 => first | (refine Yl.val (Yl.bin rfl rfl rfl (Bin.add _ _ _ _)) (congrArg (Value.int .i64) (i64in ?_ ?_)) <;> omega) | exact Yl.bin rfl rfl rfl (Bin.add _ _ _ _)
                  refine' TL.y rfl rfl rfl ?hy133 ?_
                  case hy133 => exact Yl.assign rfl rfl
                  refine TL.nil ?_
                  refine TE.round (i + 1, st2) ?hF134 ?hlt134 ?hs134 ?hm134
                  case hF134 => exact ⟨by dsimp only; omega, by show Tab st2 (stS f (i + 1)) d; rw [stS]; exact hT2⟩
                  case hlt134 => dsimp only; omega
                  case hs134 => exact ⟨rfl, rfl, rfl, rfl, rfl, rfl, trivial⟩
                  case hm134 => exact fun _ h => h
                · skip
                  (try simp only [decide_eq_true_eq, decide_eq_false_iff_not, beq_iff_eq, beq_eq_false_iff_ne, bne_iff_ne, ne_eq, bne_eq_false_iff_eq, Bool.not_eq_true', Bool.not_eq_false', Int.not_lt, Int.not_le, gt_iff_lt, ge_iff_le] at hs111)
                  obtain rfl : m = i := by omega
                  refine TC.exit ?_
                  refine TE.thenExit ?_
                  refine TE.thenExit ?_
                  refine TE.inHere ?_
                  refine TE.next ?_
                  refine TC.seq ?_
                  refine TC.seq ?_
                  refine TC.region ?_
                  refine' TL.y rfl rfl rfl ?hy135 ?_
                  case hy135 => exact Yl.assign rfl rfl
                  refine TL.nil ?_
                  refine TE.next ?_
                  refine TC.block ?_
                  refine TC.loop (σ := Nat) (fun i => [(5, .bool true), (6, .pointer (some ⟨b, 0, none⟩)), (11, .slice A102 (walkL (stS f m) 0 65536).length c102), (12, .pointer (some ⟨d, 0, none⟩)), (14, .int .i64 (i : Int))]) (fun i => Hp W (fun _ => False) [tabR stu, rowI (.slice A102 (walkL (stS f m) 0 65536).length c102) (walkL (stS f m) 0 65536), tabR st]) (fun i => i ≤ (walkL (stS f m) 0 65536).length) (fun i => (walkL (stS f m) 0 65536).length - i) 0 ?hF136 ?hs136 ?hm136 ?round136
                  case hF136 => exact Nat.zero_le _
                  case hs136 => exact ⟨rfl, rfl, rfl, rfl, rfl, trivial⟩
                  case hm136 => exact fun _ h => h
                  case round136 =>
                    intro i hi
                    have hwl := walkL_len (stS f m) 0 65536
                    refine TC.seq ?_
                    refine TC.seq ?_
                    refine TC.region ?_
                    refine' TL.y rfl rfl rfl ?hy137 ?_
                    case hy137 => exact Yl.move rfl rfl
                    refine' TL.y rfl rfl rfl ?hy138 ?_
                    case hy138 => exact Yl.move rfl rfl
                    refine' TL.y rfl rfl rfl ?hy139 ?_
                    case hy139 => exact Yl.len rfl rfl Try.underlying31
                    refine' TL.y rfl rfl rfl ?hy140 ?_
                    case hy140 => exact Yl.bin rfl rfl rfl (Bin.lss _ _ _ _)
                    refine TL.nil ?_
                    refine TE.next ?_
                    refine TC.cond rfl (fun hs129 => ?_) (fun hs129 => ?_)
                    · skip
                      (try simp only [decide_eq_true_eq, decide_eq_false_iff_not, beq_iff_eq, beq_eq_false_iff_ne, bne_iff_ne, ne_eq, bne_eq_false_iff_eq, Bool.not_eq_true', Bool.not_eq_false', Int.not_lt, Int.not_le, gt_iff_lt, ge_iff_le] at hs129)
                      have hil : i < (walkL (stS f m) 0 65536).length := by omega
                      refine TC.fact (fun w h => Hp.rowSome mem1 (by omega) w h) ?_
                      rintro ⟨g102, rfl⟩
                      have hmem := walkL_mem.1 (gI_mem hil)
                      obtain ⟨y, hy⟩ := Option.isSome_iff_exists.1 hmem.1
                      have hok : Value.tuple #[.int .u64 ((gt (stS f m) (gI (walkL (stS f m) 0 65536) i)).getD 0), .bool (gt (stS f m) (gI (walkL (stS f m) 0 65536) i)).isSome] = .tuple #[.int .u64 y, .bool true] := by rw [hy]; rfl
                      refine TC.skip ?_
                      refine TE.next ?_
                      refine TC.seq ?_
                      refine TC.block ?_
                      refine TC.seq ?_
                      refine TC.region ?_
                      refine' TL.y rfl rfl rfl ?hy141 ?_
                      case hy141 => exact Yl.move rfl rfl
                      refine' TL.y rfl rfl rfl ?hy142 ?_
                      case hy142 => exact Yl.move rfl rfl
                      refine' TL.y rfl rfl rfl ?hy143 ?_
                      case hy143 => exact Yl.move rfl rfl
                      refine' TL.y rfl rfl rfl ?hy144 ?_
                      case hy144 => exact Yl.ixn rfl rfl rfl Try.underlying31 (by kernel_rfl) (by omega)
                      refine' TL.y rfl rfl rfl ?hy145 ?_
                      case hy145 => first | exact Yl.load rfl rfl (by kernel_rfl) (Hp.rowAtI mem1 (by omega)) | exact Yl.load rfl rfl (by kernel_rfl) (Hp.cell mem0 rfl) | exact Yl.load rfl rfl (by kernel_rfl) (Hp.cell mem1 rfl) | exact Yl.load rfl rfl (by kernel_rfl) (Hp.cell mem2 rfl) | exact Yl.load rfl rfl (by kernel_rfl) (Hp.cell mem3 rfl) | exact Yl.load rfl rfl (by kernel_rfl) (Hp.cell mem4 rfl) | exact Yl.load rfl rfl (by kernel_rfl) (Hp.rowAt mem0 (by omega) rfl) | exact Yl.load rfl rfl (by kernel_rfl) (Hp.rowAt mem1 (by omega) rfl) | exact Yl.load rfl rfl (by kernel_rfl) (Hp.rowAt mem2 (by omega) rfl) | exact Yl.load rfl rfl (by kernel_rfl) (Hp.rowAt mem3 (by omega) rfl) | exact Yl.load rfl rfl (by kernel_rfl) (Hp.rowAt mem4 (by omega) rfl)
                      refine' TL.c rfl rfl rfl ?hy146 ?_
                      case hy146 => exact Yc.call rfl Try.func14 (by kernel_rfl) rfl rfl (Hp.calls (fun w h => k_getT w (h.all _ mem2) hTab (gI (walkL (stS f m) 0 65536) i)))
                      intro _
                      rw [hok]
                      refine' TL.y rfl rfl rfl ?hy147 ?_
                      case hy147 => exact Yl.move rfl rfl
                      refine' TL.y rfl rfl rfl ?hy148 ?_
                      case hy148 => exact Yl.extract rfl rfl rfl
                      refine' TL.y rfl rfl rfl ?hy149 ?_
                      case hy149 => exact Yl.extract rfl rfl rfl
                      refine' TL.y rfl rfl rfl ?hy150 ?_
                      case hy150 => exact Yl.assign rfl rfl
                      refine' TL.y rfl rfl rfl ?hy151 ?_
                      case hy151 => exact Yl.assign rfl rfl
                      refine TL.nil ?_
                      refine TE.next ?_
                      refine TC.seq ?_
                      refine TC.region ?_
                      refine' TL.y rfl rfl rfl ?hy152 ?_
                      case hy152 => exact Yl.move rfl rfl
                      refine' TL.y rfl rfl rfl ?hy153 ?_
                      case hy153 => exact Yl.move rfl rfl
                      refine' TL.y rfl rfl rfl ?hy154 ?_
                      case hy154 => exact Yl.move rfl rfl
                      refine' TL.y rfl rfl rfl ?hy155 ?_
                      case hy155 => exact Yl.ixn rfl rfl rfl Try.underlying31 (by kernel_rfl) (by omega)
                      refine' TL.y rfl rfl rfl ?hy156 ?_
                      case hy156 => first | exact Yl.load rfl rfl (by kernel_rfl) (Hp.rowAtI mem1 (by omega)) | exact Yl.load rfl rfl (by kernel_rfl) (Hp.cell mem0 rfl) | exact Yl.load rfl rfl (by kernel_rfl) (Hp.cell mem1 rfl) | exact Yl.load rfl rfl (by kernel_rfl) (Hp.cell mem2 rfl) | exact Yl.load rfl rfl (by kernel_rfl) (Hp.cell mem3 rfl) | exact Yl.load rfl rfl (by kernel_rfl) (Hp.cell mem4 rfl) | exact Yl.load rfl rfl (by kernel_rfl) (Hp.rowAt mem0 (by omega) rfl) | exact Yl.load rfl rfl (by kernel_rfl) (Hp.rowAt mem1 (by omega) rfl) | exact Yl.load rfl rfl (by kernel_rfl) (Hp.rowAt mem2 (by omega) rfl) | exact Yl.load rfl rfl (by kernel_rfl) (Hp.rowAt mem3 (by omega) rfl) | exact Yl.load rfl rfl (by kernel_rfl) (Hp.rowAt mem4 (by omega) rfl)
                      refine' TL.c rfl rfl rfl ?hy157 ?_
                      case hy157 => exact Yc.call rfl Try.func14 (by kernel_rfl) rfl rfl (Hp.calls (fun w h => k_getT w (h.all _ mem0) hTu (gI (walkL (stS f m) 0 65536) i)))
                      intro _
                      rw [hok]
                      refine' TL.y rfl rfl rfl ?hy158 ?_
                      case hy158 => exact Yl.move rfl rfl
                      refine' TL.y rfl rfl rfl ?hy159 ?_
                      case hy159 => exact Yl.extract rfl rfl rfl
                      refine' TL.y rfl rfl rfl ?hy160 ?_
                      case hy160 => exact Yl.extract rfl rfl rfl
                      refine' TL.y rfl rfl rfl ?hy161 ?_
                      case hy161 => exact Yl.assign rfl rfl
                      refine' TL.y rfl rfl rfl ?hy162 ?_
                      case hy162 => exact Yl.assign rfl rfl
                      refine TL.nil ?_
                      refine TE.next ?_
                      refine TC.seq ?_
                      refine TC.region ?_
                      refine' TL.y rfl rfl rfl ?hy163 ?_
                      case hy163 => exact Yl.move rfl rfl
                      refine' TL.y rfl rfl rfl ?hy164 ?_
                      case hy164 => exact Yl.move rfl rfl
                      refine' TL.y rfl rfl rfl ?hy165 ?_
                      case hy165 => exact Yl.bin rfl rfl rfl (Bin.neq _ _ _ _)
                      refine' TL.y rfl rfl rfl ?hy166 ?_
                      case hy166 => exact Yl.move rfl rfl
                      refine TL.re (i := 153) (v' := .bool false) rfl (congrArg Value.bool (by simp)) ?_
                      refine' TL.y rfl rfl rfl ?hy167 ?_
                      case hy167 => exact Yl.move rfl rfl
                      refine' TL.y rfl rfl rfl ?hy168 ?_
                      case hy168 => exact Yl.not rfl rfl
                      refine' TL.y rfl rfl rfl ?hy169 ?_
                      case hy169 => exact Yl.pickF rfl rfl rfl
                      refine' TL.y rfl rfl rfl ?hy170 ?_
                      case hy170 => exact Yl.move rfl rfl
                      refine' TL.y rfl rfl rfl ?hy171 ?_
                      case hy171 => exact Yl.move rfl rfl
                      refine' TL.y rfl rfl rfl ?hy172 ?_
                      case hy172 => exact Yl.not rfl rfl
                      refine' TL.y rfl rfl rfl ?hy173 ?_
                      case hy173 => exact Yl.pickF rfl rfl rfl
                      refine TL.nil ?_
                      refine TE.next ?_
                      refine TC.no rfl rfl ?_
                      refine TC.skip ?_
                      refine TE.inNormal ?_
                      refine TE.next ?_
                      refine TC.region ?_
                      refine' TL.y rfl rfl rfl ?hy174 ?_
                      case hy174 => exact Yl.move rfl rfl
                      refine' TL.y rfl rfl rfl ?hy175 ?_
                      case hy175 => first | (refine Yl.val (Yl.bin rfl rfl rfl (Bin.add _ _ _ _)) (congrArg (Value.int .i64) (i64in ?_ ?_)) <;> omega) | exact Yl.bin rfl rfl rfl (Bin.add _ _ _ _)
                      refine' TL.y rfl rfl rfl ?hy176 ?_
                      case hy176 => exact Yl.assign rfl rfl
                      refine TL.nil ?_
                      refine TE.round (i + 1) ?hF177 ?hlt177 ?hs177 ?hm177
                      case hF177 => omega
                      case hlt177 => omega
                      case hs177 => exact ⟨rfl, rfl, rfl, rfl, rfl, trivial⟩
                      case hm177 => exact fun _ h => h
                    · skip
                      (try simp only [decide_eq_true_eq, decide_eq_false_iff_not, beq_iff_eq, beq_eq_false_iff_ne, bne_iff_ne, ne_eq, bne_eq_false_iff_eq, Bool.not_eq_true', Bool.not_eq_false', Int.not_lt, Int.not_le, gt_iff_lt, ge_iff_le] at hs129)
                      refine TC.exit ?_
                      refine TE.thenExit ?_
                      refine TE.thenExit ?_
                      refine TE.inHere ?_
                      refine TE.next ?_
                      refine TC.seq ?_
                      refine TC.region ?_
                      refine' TL.y rfl rfl rfl ?hy178 ?_
                      case hy178 => exact Yl.move rfl rfl
                      refine' TL.y rfl rfl rfl ?hy179 ?_
                      case hy179 => exact Yl.assign rfl rfl
                      refine TL.nil ?_
                      refine TE.next ?_
                      refine TC.ret ?_
                      refine TE.ret1 rfl rfl ?_
                      exact fun w h => ⟨rfl, (h.sub (List.nil_sublist _)).below⟩
end Go.Proofs.Ytbcdplhihkacpaa.Pk
