/- Walks in parts. -/
import Derived.Test.YtbcdplhihkacpaaRxW
import Derived.Test.YtbcdplhihkacpaaProg
import Derived.RowKit3
namespace Go.Proofs.Ytbcdplhihkacpaa.Pk
open Go Go.RowKit Go.Proofs.Ytbcdplhihkacpaa.HL Go.Proofs.Ytbcdplhihkacpaa.Ev Go.Proofs.YtbcdplhihkacpaaW.PrintWords Go.Proofs.RxP
set_option linter.unusedVariables false
set_option linter.unusedSimpArgs false
attribute [local irreducible] btw rowA nth ents Iw Aw stS stM walkL pagesL gI dpS rk nodes
section
attribute [local semireducible] Iw
theorem Iw_len (l : List Int) : (Iw l).length = l.length := by unfold Iw; rw [List.length_map]
theorem Iw_one {l : List Int} : ∀ x ∈ Iw l, x.oneCell' = true := fun x hx => by unfold Iw at hx; obtain ⟨_, _, rfl⟩ := List.mem_map.1 hx; rfl
theorem rowI_app (v : Value) (l r : List Int) : ownR 3 1 v (l.length + r.length) (Iw l ++ Iw r) = rowI v (l ++ r) := by unfold rowI Iw; rw [List.length_append, List.map_append]
end
set_option maxRecDepth 100000 in
set_option maxHeartbeats 2000000 in
theorem law_walks (W : World) {m : Nat} {f : Nat → Ac} {A : Option Addr} {cp : Nat} (hS : Sl W A (Aw m f)) (hm : m ≤ 9223372036854775807) (a c t : Int) : Calls Try.prog 3 #[.slice A m cp, .int .i64 a, .int .i64 c, .int .i64 t] W fun e w' => e = .returned (.bool true) ∧ Below W.heap.size W w' := by
  have hM : Hp W (fun _ => False) [] W := Hp.start
  refine TC.enter (n := 124) Try.func3 rfl rfl rfl hM ?_
  refine TC.seq ?_
  refine TC.region ?_
  refine' TL.y rfl rfl rfl ?hy1 ?_
  case hy1 => exact Yl.assign rfl rfl
  refine TL.nil ?_
  refine TE.next ?_
  refine TC.seq ?_
  refine TC.region ?_
  refine' TL.c rfl rfl rfl ?hy2 ?_
  case hy2 => exact Yc.call rfl Try.func10 (by kernel_rfl) rfl rfl (Hp.calls (fun w h => k_works w))
  intro _
  refine' TL.y rfl rfl rfl ?hy3 ?_
  case hy3 => exact Yl.assign rfl rfl
  refine TL.nil ?_
  refine TE.next ?_
  refine TC.seq ?_
  refine TC.seq ?_
  refine TC.region ?_
  refine' TL.y rfl rfl rfl ?hy4 ?_
  case hy4 => exact Yl.move rfl rfl
  refine' TL.y rfl rfl rfl ?hy5 ?_
  case hy5 => exact Yl.not rfl rfl
  refine TL.nil ?_
  refine TE.next ?_
  refine TC.no rfl rfl ?_
  refine TC.skip ?_
  refine TE.next ?_
  refine TC.seq ?_
  refine TC.seq ?_
  refine TC.region ?_
  refine' TL.y rfl rfl rfl ?hy6 ?_
  case hy6 => exact Yl.move rfl rfl
  refine' TL.y rfl rfl rfl ?hy7 ?_
  case hy7 => exact Yl.len rfl rfl Try.underlying22
  refine' TL.y rfl rfl rfl ?hy8 ?_
  case hy8 => exact Yl.bin rfl rfl rfl (Bin.gtr _ _ _ _)
  refine' TL.y rfl rfl rfl ?hy9 ?_
  case hy9 => exact Yl.move rfl rfl
  refine TL.split (i := 24) rfl (fun hs24 => ?_) (fun hs24 => ?_)
  · skip
    (try simp only [decide_eq_true_eq, decide_eq_false_iff_not, beq_iff_eq, beq_eq_false_iff_ne, bne_iff_ne, ne_eq, bne_eq_false_iff_eq, Bool.not_eq_true', Bool.not_eq_false', Int.not_lt, Int.not_le, gt_iff_lt, ge_iff_le] at hs24)
    refine TL.skip rfl rfl rfl ?_
    refine TL.skip rfl rfl rfl ?_
    refine TL.skip rfl rfl rfl ?_
    refine' TL.y rfl rfl rfl ?hy10 ?_
    case hy10 => exact Yl.pickT rfl rfl rfl
    refine' TL.y rfl rfl rfl ?hy11 ?_
    case hy11 => exact Yl.move rfl rfl
    refine TL.skip rfl rfl rfl ?_
    refine TL.skip rfl rfl rfl ?_
    refine TL.skip rfl rfl rfl ?_
    refine' TL.y rfl rfl rfl ?hy12 ?_
    case hy12 => exact Yl.pickT rfl rfl rfl
    refine TL.nil ?_
    refine TE.next ?_
    refine TC.yes rfl rfl ?_
    refine TC.seq ?_
    refine TC.region ?_
    refine' TL.y rfl rfl rfl ?hy13 ?_
    case hy13 => exact Yl.move rfl rfl
    refine' TL.y rfl rfl rfl ?hy14 ?_
    case hy14 => exact Yl.assign rfl rfl
    refine TL.nil ?_
    refine TE.next ?_
    refine TC.ret ?_
    refine TE.thenRet ?_
    refine TE.ret1 rfl rfl ?_
    exact fun w h => ⟨rfl, (h.sub (List.nil_sublist _)).below⟩
  · skip
    (try simp only [decide_eq_true_eq, decide_eq_false_iff_not, beq_iff_eq, beq_eq_false_iff_ne, bne_iff_ne, ne_eq, bne_eq_false_iff_eq, Bool.not_eq_true', Bool.not_eq_false', Int.not_lt, Int.not_le, gt_iff_lt, ge_iff_le] at hs24)
    refine' TL.y rfl rfl rfl ?hy15 ?_
    case hy15 => exact Yl.move rfl rfl
    refine' TL.y rfl rfl rfl ?hy16 ?_
    case hy16 => exact Yl.move rfl rfl
    refine' TL.y rfl rfl rfl ?hy17 ?_
    case hy17 => exact Yl.bin rfl rfl rfl (Bin.gtr _ _ _ _)
    refine' TL.y rfl rfl rfl ?hy18 ?_
    case hy18 => exact Yl.pickF rfl rfl rfl
    refine' TL.y rfl rfl rfl ?hy19 ?_
    case hy19 => exact Yl.move rfl rfl
    refine TL.split (i := 29) rfl (fun hs29 => ?_) (fun hs29 => ?_)
    · skip
      (try simp only [decide_eq_true_eq, decide_eq_false_iff_not, beq_iff_eq, beq_eq_false_iff_ne, bne_iff_ne, ne_eq, bne_eq_false_iff_eq, Bool.not_eq_true', Bool.not_eq_false', Int.not_lt, Int.not_le, gt_iff_lt, ge_iff_le] at hs29)
      refine TL.skip rfl rfl rfl ?_
      refine TL.skip rfl rfl rfl ?_
      refine TL.skip rfl rfl rfl ?_
      refine' TL.y rfl rfl rfl ?hy20 ?_
      case hy20 => exact Yl.pickT rfl rfl rfl
      refine TL.nil ?_
      refine TE.next ?_
      refine TC.yes rfl rfl ?_
      refine TC.seq ?_
      refine TC.region ?_
      refine' TL.y rfl rfl rfl ?hy21 ?_
      case hy21 => exact Yl.move rfl rfl
      refine' TL.y rfl rfl rfl ?hy22 ?_
      case hy22 => exact Yl.assign rfl rfl
      refine TL.nil ?_
      refine TE.next ?_
      refine TC.ret ?_
      refine TE.thenRet ?_
      refine TE.ret1 rfl rfl ?_
      exact fun w h => ⟨rfl, (h.sub (List.nil_sublist _)).below⟩
    · skip
      (try simp only [decide_eq_true_eq, decide_eq_false_iff_not, beq_iff_eq, beq_eq_false_iff_ne, bne_iff_ne, ne_eq, bne_eq_false_iff_eq, Bool.not_eq_true', Bool.not_eq_false', Int.not_lt, Int.not_le, gt_iff_lt, ge_iff_le] at hs29)
      refine' TL.y rfl rfl rfl ?hy23 ?_
      case hy23 => exact Yl.move rfl rfl
      refine' TL.y rfl rfl rfl ?hy24 ?_
      case hy24 => exact Yl.move rfl rfl
      refine' TL.y rfl rfl rfl ?hy25 ?_
      case hy25 => exact Yl.bin rfl rfl rfl (Bin.gtr _ _ _ _)
      refine' TL.y rfl rfl rfl ?hy26 ?_
      case hy26 => exact Yl.pickF rfl rfl rfl
      refine TL.nil ?_
      refine TE.next ?_
      refine TC.cond rfl (fun hs33 => ?_) (fun hs33 => ?_)
      · skip
        (try simp only [decide_eq_true_eq, decide_eq_false_iff_not, beq_iff_eq, beq_eq_false_iff_ne, bne_iff_ne, ne_eq, bne_eq_false_iff_eq, Bool.not_eq_true', Bool.not_eq_false', Int.not_lt, Int.not_le, gt_iff_lt, ge_iff_le] at hs33)
        refine TC.seq ?_
        refine TC.region ?_
        refine' TL.y rfl rfl rfl ?hy27 ?_
        case hy27 => exact Yl.move rfl rfl
        refine' TL.y rfl rfl rfl ?hy28 ?_
        case hy28 => exact Yl.assign rfl rfl
        refine TL.nil ?_
        refine TE.next ?_
        refine TC.ret ?_
        refine TE.thenRet ?_
        refine TE.ret1 rfl rfl ?_
        exact fun w h => ⟨rfl, (h.sub (List.nil_sublist _)).below⟩
      · skip
        (try simp only [decide_eq_true_eq, decide_eq_false_iff_not, beq_iff_eq, beq_eq_false_iff_ne, bne_iff_ne, ne_eq, bne_eq_false_iff_eq, Bool.not_eq_true', Bool.not_eq_false', Int.not_lt, Int.not_le, gt_iff_lt, ge_iff_le] at hs33)
        refine TC.skip ?_
        refine TE.next ?_
        refine TC.seq ?_
        refine TC.region ?_
        refine' TL.c rfl rfl rfl ?hy29 ?_
        case hy29 => exact Yc.call rfl Try.func11 (by kernel_rfl) rfl rfl (Hp.news (fun w h => k_new w))
        intro b
        refine' TL.y rfl rfl rfl ?hy30 ?_
        case hy30 => exact Yl.assign rfl rfl
        refine TL.nil ?_
        refine TE.next ?_
        refine TC.seq ?_
        refine TC.seq ?_
        refine TC.region ?_
        refine' TL.y rfl rfl rfl ?hy31 ?_
        case hy31 => exact Yl.assign rfl rfl
        refine TL.nil ?_
        refine TE.next ?_
        refine TC.block ?_
        refine TC.loop (σ := Nat × St) (fun s => [(0, .slice A m cp), (1, .int .i64 a), (2, .int .i64 c), (3, .int .i64 t), (9, .bool true), (10, .pointer (some ⟨b, 0, none⟩)), (11, .int .i64 (s.1 : Int))]) (fun s => Hp W (fun _ => False) [tabR s.2]) (fun s => s.1 ≤ m ∧ Tab s.2 (stS f s.1) b) (fun s => m - s.1) (0, st0 b) ?hF32 ?hs32 ?hm32 ?round32
        case hF32 => exact ⟨Nat.zero_le _, by show Tab _ (stS f 0) b; rw [stS]; exact Tab.new b⟩
        case hs32 => exact ⟨rfl, rfl, rfl, rfl, rfl, rfl, rfl, trivial⟩
        case hm32 => exact fun _ h => h
        case round32 =>
          rintro ⟨i, st⟩ ⟨hi, hTab⟩
          dsimp only at hi hTab ⊢
          refine TC.seq ?_
          refine TC.seq ?_
          refine TC.region ?_
          refine' TL.y rfl rfl rfl ?hy33 ?_
          case hy33 => exact Yl.move rfl rfl
          refine' TL.y rfl rfl rfl ?hy34 ?_
          case hy34 => exact Yl.move rfl rfl
          refine' TL.y rfl rfl rfl ?hy35 ?_
          case hy35 => exact Yl.len rfl rfl Try.underlying22
          refine' TL.y rfl rfl rfl ?hy36 ?_
          case hy36 => exact Yl.bin rfl rfl rfl (Bin.lss _ _ _ _)
          refine TL.nil ?_
          refine TE.next ?_
          refine TC.cond rfl (fun hs39 => ?_) (fun hs39 => ?_)
          · skip
            (try simp only [decide_eq_true_eq, decide_eq_false_iff_not, beq_iff_eq, beq_eq_false_iff_ne, bne_iff_ne, ne_eq, bne_eq_false_iff_eq, Bool.not_eq_true', Bool.not_eq_false', Int.not_lt, Int.not_le, gt_iff_lt, ge_iff_le] at hs39)
            obtain ⟨b0, o0, rfl⟩ := Sl.some2 hS (by rw [Aw_length]; omega)
            refine TC.skip ?_
            refine TE.next ?_
            refine TC.seq ?_
            refine TC.block ?_
            refine TC.draw (k := 12) (Hp W (fun _ => False) []) [] #[false, false, false, false, false, false, false, false, false, false, false, false] (by kernel_rfl) rfl rfl (fun _ h => h.drew) (fun _ h => by exact Hp.sub h (by repeat (first | exact List.Sublist.refl _ | exact List.nil_sublist _ | apply List.Sublist.cons_cons | apply List.Sublist.cons))) ?_
            refine' TA.y (i := 0) #[true, false, false, false, false, false, false, false, false, false, false, false] rfl rfl rfl (by kernel_rfl) (fun _ _ _ h => h) (fun _ h => by exact Hp.sub h (by repeat (first | exact List.Sublist.refl _ | exact List.nil_sublist _ | apply List.Sublist.cons_cons | apply List.Sublist.cons))) rfl ?hy37 ?_
            case hy37 => exact Yl.move rfl rfl
            refine' TA.y (i := 1) #[true, true, false, false, false, false, false, false, false, false, false, false] rfl rfl rfl (by kernel_rfl) (fun _ _ _ h => h) (fun _ h => by exact Hp.sub h (by repeat (first | exact List.Sublist.refl _ | exact List.nil_sublist _ | apply List.Sublist.cons_cons | apply List.Sublist.cons))) rfl ?hy38 ?_
            case hy38 => exact Yl.move rfl rfl
            refine' TA.y (i := 2) #[true, true, true, false, false, false, false, false, false, false, false, false] rfl rfl rfl (by kernel_rfl) (fun _ _ _ h => h) (fun _ h => by exact Hp.sub h (by repeat (first | exact List.Sublist.refl _ | exact List.nil_sublist _ | apply List.Sublist.cons_cons | apply List.Sublist.cons))) rfl ?hy39 ?_
            case hy39 => exact Yl.move rfl rfl
            refine' TA.y (i := 3) #[true, true, true, true, false, false, false, false, false, false, false, false] rfl rfl rfl (by kernel_rfl) (fun _ _ _ h => h) (fun _ h => by exact Hp.sub h (by repeat (first | exact List.Sublist.refl _ | exact List.nil_sublist _ | apply List.Sublist.cons_cons | apply List.Sublist.cons))) rfl ?hy40 ?_
            case hy40 => first | exact Yl.ixkn (k := 3) rfl rfl rfl Try.underlying22 (by kernel_rfl) (by omega) | exact Yl.ixkz (k := 3) rfl rfl rfl Try.underlying22 (by kernel_rfl) (by omega) (by omega)
            refine' TA.y (i := 4) #[true, true, true, true, true, false, false, false, false, false, false, false] rfl rfl rfl (by kernel_rfl) (fun _ _ _ h => h) (fun _ h => by exact Hp.sub h (by repeat (first | exact List.Sublist.refl _ | exact List.nil_sublist _ | apply List.Sublist.cons_cons | apply List.Sublist.cons))) rfl ?hy41 ?_
            case hy41 => first | exact Yl.field0 (k := 0) 0 rfl rfl Try.underlying30 rfl (by kernel_rfl) rfl | exact Yl.field (k := 0) 0 rfl rfl Try.underlying30 rfl (by kernel_rfl) rfl
            refine' TA.y (i := 5) #[true, true, true, true, true, true, false, false, false, false, false, false] rfl rfl rfl (by kernel_rfl) (fun _ _ _ h => h) (fun _ h => by exact Hp.sub h (by repeat (first | exact List.Sublist.refl _ | exact List.nil_sublist _ | apply List.Sublist.cons_cons | apply List.Sublist.cons))) rfl ?hy42 ?_
            case hy42 => exact Yl.load rfl rfl (by kernel_rfl) (Sl.aw hS (i := 0) rfl (by omega) (by decide))
            refine TA.re (i := 47) (v' := .int .i64 ((f i).1)) rfl rfl ?_
            refine' TA.y (i := 6) #[true, true, true, true, true, true, true, false, false, false, false, false] rfl rfl rfl (by kernel_rfl) (fun _ _ _ h => h) (fun _ h => by exact Hp.sub h (by repeat (first | exact List.Sublist.refl _ | exact List.nil_sublist _ | apply List.Sublist.cons_cons | apply List.Sublist.cons))) rfl ?hy43 ?_
            case hy43 => exact Yl.move rfl rfl
            refine' TA.y (i := 7) #[true, true, true, true, true, true, true, true, false, false, false, false] rfl rfl rfl (by kernel_rfl) (fun _ _ _ h => h) (fun _ h => by exact Hp.sub h (by repeat (first | exact List.Sublist.refl _ | exact List.nil_sublist _ | apply List.Sublist.cons_cons | apply List.Sublist.cons))) rfl ?hy44 ?_
            case hy44 => exact Yl.move rfl rfl
            refine' TA.y (i := 8) #[true, true, true, true, true, true, true, true, true, false, false, false] rfl rfl rfl (by kernel_rfl) (fun _ _ _ h => h) (fun _ h => by exact Hp.sub h (by repeat (first | exact List.Sublist.refl _ | exact List.nil_sublist _ | apply List.Sublist.cons_cons | apply List.Sublist.cons))) rfl ?hy45 ?_
            case hy45 => first | exact Yl.ixkn (k := 3) rfl rfl rfl Try.underlying22 (by kernel_rfl) (by omega) | exact Yl.ixkz (k := 3) rfl rfl rfl Try.underlying22 (by kernel_rfl) (by omega) (by omega)
            refine' TA.y (i := 9) #[true, true, true, true, true, true, true, true, true, true, false, false] rfl rfl rfl (by kernel_rfl) (fun _ _ _ h => h) (fun _ h => by exact Hp.sub h (by repeat (first | exact List.Sublist.refl _ | exact List.nil_sublist _ | apply List.Sublist.cons_cons | apply List.Sublist.cons))) rfl ?hy46 ?_
            case hy46 => first | exact Yl.field0 (k := 0) 1 rfl rfl Try.underlying30 rfl (by kernel_rfl) rfl | exact Yl.field (k := 0) 1 rfl rfl Try.underlying30 rfl (by kernel_rfl) rfl
            refine' TA.y (i := 10) #[true, true, true, true, true, true, true, true, true, true, true, false] rfl rfl rfl (by kernel_rfl) (fun _ _ _ h => h) (fun _ h => by exact Hp.sub h (by repeat (first | exact List.Sublist.refl _ | exact List.nil_sublist _ | apply List.Sublist.cons_cons | apply List.Sublist.cons))) rfl ?hy47 ?_
            case hy47 => exact Yl.load rfl rfl (by kernel_rfl) (Sl.aw hS (i := 1) rfl (by omega) (by decide))
            refine TA.re (i := 52) (v' := .int .u64 ((f i).2.1)) rfl rfl ?_
            refine' TA.c (i := 11) #[true, true, true, true, true, true, true, true, true, true, true, true] rfl rfl rfl (by kernel_rfl) (by decide) rfl ?hy48 ?hz48 ?_
            case hy48 => exact Yc.call rfl Try.func12 (by kernel_rfl) rfl rfl (Hp.turnx mem0 (fun s => foc0) (k_set hTab (f i).1 (f i).2.1))
            case hz48 => exact (fun _ _ h => by exact Hp.sub h (by repeat (first | exact List.Sublist.refl _ | apply List.Sublist.cons)))
            intro ⟨st2, hT2⟩
            dsimp only
            refine TA.done (by kernel_rfl) ?_
            refine TE.inNormal ?_
            refine TE.next ?_
            refine TC.region ?_
            refine' TL.y rfl rfl rfl ?hy49 ?_
            case hy49 => exact Yl.move rfl rfl
            refine' TL.y rfl rfl rfl ?hy50 ?_
            case hy50 => first | (refine Yl.val (Yl.bin rfl rfl rfl (Bin.add _ _ _ _)) (congrArg (Value.int .i64) (i64in ?_ ?_)) <;> omega) | exact Yl.bin rfl rfl rfl (Bin.add _ _ _ _)
            refine' TL.y rfl rfl rfl ?hy51 ?_
            case hy51 => exact Yl.assign rfl rfl
            refine TL.nil ?_
            refine TE.round (i + 1, st2) ?hF52 ?hlt52 ?hs52 ?hm52
            case hF52 => exact ⟨by dsimp only; omega, by show Tab st2 (stS f (i + 1)) b; rw [stS]; exact hT2⟩
            case hlt52 => dsimp only; omega
            case hs52 => exact ⟨rfl, rfl, rfl, rfl, rfl, rfl, rfl, trivial⟩
            case hm52 => exact fun _ h => h
          · skip
            (try simp only [decide_eq_true_eq, decide_eq_false_iff_not, beq_iff_eq, beq_eq_false_iff_ne, bne_iff_ne, ne_eq, bne_eq_false_iff_eq, Bool.not_eq_true', Bool.not_eq_false', Int.not_lt, Int.not_le, gt_iff_lt, ge_iff_le] at hs39)
            obtain rfl : m = i := by omega
            refine TC.exit ?_
            refine TE.thenExit ?_
            refine TE.thenExit ?_
            refine TE.inHere ?_
            refine TE.next ?_
            refine TC.seq ?_
            refine TC.region ?_
            refine' TL.y rfl rfl rfl ?hy53 ?_
            case hy53 => exact Yl.move rfl rfl
            refine' TL.y rfl rfl rfl ?hy54 ?_
            case hy54 => exact Yl.move rfl rfl
            refine' TL.y rfl rfl rfl ?hy55 ?_
            case hy55 => exact Yl.move rfl rfl
            refine' TL.c rfl rfl rfl ?hy56 ?_
            case hy56 => exact Yc.call rfl Try.func13 (by kernel_rfl) rfl rfl (Hp.news (fun w h => k_walkT w (h.all _ mem0) hTab a t))
            intro v57
            refine TL.fact (fun w h => Hp.rowShape mem0 w h) ?_
            rintro ⟨A57, c57, rfl⟩
            refine' TL.y rfl rfl rfl ?hy57 ?_
            case hy57 => exact Yl.assign rfl rfl
            refine TL.nil ?_
            refine TE.next ?_
            refine TC.seq ?_
            refine TC.region ?_
            refine' TL.y rfl rfl rfl ?hy58 ?_
            case hy58 => exact Yl.move rfl rfl
            refine' TL.y rfl rfl rfl ?hy59 ?_
            case hy59 => exact Yl.move rfl rfl
            refine' TL.y rfl rfl rfl ?hy60 ?_
            case hy60 => exact Yl.move rfl rfl
            refine' TL.c rfl rfl rfl ?hy61 ?_
            case hy61 => exact Yc.call rfl Try.func13 (by kernel_rfl) rfl rfl (Hp.news (fun w h => k_walkT w (h.all _ mem1) hTab a c))
            intro v61
            refine TL.fact (fun w h => Hp.rowShape mem0 w h) ?_
            rintro ⟨A61, c61, rfl⟩
            refine' TL.y rfl rfl rfl ?hy62 ?_
            case hy62 => exact Yl.assign rfl rfl
            refine TL.nil ?_
            refine TE.next ?_
            refine TC.seq ?_
            refine TC.region ?_
            refine' TL.y rfl rfl rfl ?hy63 ?_
            case hy63 => exact Yl.move rfl rfl
            refine' TL.y rfl rfl rfl ?hy64 ?_
            case hy64 => exact Yl.move rfl rfl
            refine' TL.y rfl rfl rfl ?hy65 ?_
            case hy65 => exact Yl.move rfl rfl
            refine' TL.c rfl rfl rfl ?hy66 ?_
            case hy66 => exact Yc.call rfl Try.func13 (by kernel_rfl) rfl rfl (Hp.news (fun w h => k_walkT w (h.all _ mem2) hTab c t))
            intro v65
            refine TL.fact (fun w h => Hp.rowShape mem0 w h) ?_
            rintro ⟨A65, c65, rfl⟩
            refine' TL.y rfl rfl rfl ?hy67 ?_
            case hy67 => exact Yl.assign rfl rfl
            refine TL.nil ?_
            refine TE.next ?_
            refine TC.seq ?_
            refine TC.region ?_
            refine' TL.y rfl rfl rfl ?hy68 ?_
            case hy68 => exact Yl.move rfl rfl
            refine' TL.y rfl rfl rfl ?hy69 ?_
            case hy69 => exact Yl.move rfl rfl
            refine' TL.mx rfl rfl rfl ?hy70 ?_
            case hy70 => exact Ym.appendSl (e := 3) (m := (walkL (stS f m) a c).length) (xs := Iw (walkL (stS f m) a c)) (news := Iw (walkL (stS f m) c t)) rfl Try.underlying31 (by kernel_rfl) (z := .int .i64 0) (size := 1) (bytes := 8) rfl (by decide) (by decide) rfl rfl (by rw [Iw_len, Nat.mul_one]) (fun w h => Hp.rowSl mem0 w h) Iw_one (by have := walkL_len (stS f m) a c; have := walkL_len (stS f m) c t; omega) (fun v' => foc1)
            intro v68
            refine TL.wk (M' := Hp W (fun _ => False) [rowI (.slice A65 (walkL (stS f m) c t).length c65) (walkL (stS f m) c t), rowI v68 (walkL (stS f m) a c ++ walkL (stS f m) c t), rowI (.slice A57 (walkL (stS f m) a t).length c57) (walkL (stS f m) a t), tabR st]) (fun w h => by rw [← rowI_app]; exact h) ?_
            refine TL.fact (fun w h => Hp.rowShape mem1 w h) ?_
            rintro ⟨A68, c68, rfl⟩
            refine' TL.y rfl rfl rfl ?hy71 ?_
            case hy71 => exact Yl.assign rfl rfl
            refine TL.nil ?_
            refine TE.next ?_
            refine TC.seq ?_
            refine TC.seq ?_
            refine TC.region ?_
            refine' TL.y rfl rfl rfl ?hy72 ?_
            case hy72 => exact Yl.assign rfl rfl
            refine TL.nil ?_
            refine TE.next ?_
            refine TC.block ?_
            refine TC.loop (σ := Nat) (fun i => [(1, .int .i64 a), (3, .int .i64 t), (9, .bool true), (10, .pointer (some ⟨b, 0, none⟩)), (12, .slice A57 (walkL (stS f m) a t).length c57), (13, .slice A68 (walkL (stS f m) a c ++ walkL (stS f m) c t).length c68), (15, .int .i64 (i : Int))]) (fun i => Hp W (fun _ => False) [rowI (.slice A65 (walkL (stS f m) c t).length c65) (walkL (stS f m) c t), rowI (.slice A68 (walkL (stS f m) a c ++ walkL (stS f m) c t).length c68) (walkL (stS f m) a c ++ walkL (stS f m) c t), rowI (.slice A57 (walkL (stS f m) a t).length c57) (walkL (stS f m) a t), tabR st]) (fun i => i ≤ (walkL (stS f m) a t).length) (fun i => (walkL (stS f m) a t).length - i) 0 ?hF73 ?hs73 ?hm73 ?round73
            case hF73 => exact Nat.zero_le _
            case hs73 => exact ⟨rfl, rfl, rfl, rfl, rfl, rfl, rfl, trivial⟩
            case hm73 => exact fun _ h => h
            case round73 =>
              intro i hi
              have hwl := walkL_len (stS f m) a t
              refine TC.seq ?_
              refine TC.seq ?_
              refine TC.region ?_
              refine' TL.y rfl rfl rfl ?hy74 ?_
              case hy74 => exact Yl.move rfl rfl
              refine' TL.y rfl rfl rfl ?hy75 ?_
              case hy75 => exact Yl.move rfl rfl
              refine' TL.y rfl rfl rfl ?hy76 ?_
              case hy76 => exact Yl.len rfl rfl Try.underlying31
              refine' TL.y rfl rfl rfl ?hy77 ?_
              case hy77 => exact Yl.bin rfl rfl rfl (Bin.lss _ _ _ _)
              refine TL.nil ?_
              refine TE.next ?_
              refine TC.cond rfl (fun hs72 => ?_) (fun hs72 => ?_)
              · skip
                (try simp only [decide_eq_true_eq, decide_eq_false_iff_not, beq_iff_eq, beq_eq_false_iff_ne, bne_iff_ne, ne_eq, bne_eq_false_iff_eq, Bool.not_eq_true', Bool.not_eq_false', Int.not_lt, Int.not_le, gt_iff_lt, ge_iff_le] at hs72)
                have hil : i < (walkL (stS f m) a t).length := by omega
                refine TC.fact (fun w h => Hp.rowSome mem2 (by omega) w h) ?_
                rintro ⟨g57, rfl⟩
                have hmem := walkL_mem.1 (gI_mem hil)
                obtain ⟨y, hy⟩ := Option.isSome_iff_exists.1 hmem.1
                have hok : Value.tuple #[.int .u64 ((gt (stS f m) (gI (walkL (stS f m) a t) i)).getD 0), .bool (gt (stS f m) (gI (walkL (stS f m) a t) i)).isSome] = .tuple #[.int .u64 y, .bool true] := by rw [hy]; rfl
                refine TC.skip ?_
                refine TE.next ?_
                refine TC.seq ?_
                refine TC.block ?_
                refine TC.seq ?_
                refine TC.region ?_
                refine' TL.y rfl rfl rfl ?hy78 ?_
                case hy78 => exact Yl.move rfl rfl
                refine' TL.y rfl rfl rfl ?hy79 ?_
                case hy79 => exact Yl.move rfl rfl
                refine' TL.y rfl rfl rfl ?hy80 ?_
                case hy80 => exact Yl.move rfl rfl
                refine' TL.y rfl rfl rfl ?hy81 ?_
                case hy81 => first | exact Yl.ixn rfl rfl rfl Try.underlying31 (by kernel_rfl) (by omega)
                refine' TL.y rfl rfl rfl ?hy82 ?_
                case hy82 => first | exact Yl.load rfl rfl (by kernel_rfl) (Hp.rowAtI mem2 (by omega)) | exact Yl.load rfl rfl (by kernel_rfl) (Hp.cell mem0 rfl) | exact Yl.load rfl rfl (by kernel_rfl) (Hp.cell mem1 rfl) | exact Yl.load rfl rfl (by kernel_rfl) (Hp.cell mem2 rfl) | exact Yl.load rfl rfl (by kernel_rfl) (Hp.cell mem3 rfl) | exact Yl.load rfl rfl (by kernel_rfl) (Hp.cell mem4 rfl) | exact Yl.load rfl rfl (by kernel_rfl) (Hp.rowAt mem0 (by omega) rfl) | exact Yl.load rfl rfl (by kernel_rfl) (Hp.rowAt mem1 (by omega) rfl) | exact Yl.load rfl rfl (by kernel_rfl) (Hp.rowAt mem2 (by omega) rfl) | exact Yl.load rfl rfl (by kernel_rfl) (Hp.rowAt mem3 (by omega) rfl) | exact Yl.load rfl rfl (by kernel_rfl) (Hp.rowAt mem4 (by omega) rfl)
                refine' TL.c rfl rfl rfl ?hy83 ?_
                case hy83 => exact Yc.call rfl Try.func14 (by kernel_rfl) rfl rfl (Hp.calls (fun w h => k_getT w (h.all _ mem3) hTab (gI (walkL (stS f m) a t) i)))
                intro _
                rw [hok]
                refine' TL.y rfl rfl rfl ?hy84 ?_
                case hy84 => exact Yl.move rfl rfl
                refine' TL.y rfl rfl rfl ?hy85 ?_
                case hy85 => exact Yl.extract rfl rfl rfl
                refine' TL.y rfl rfl rfl ?hy86 ?_
                case hy86 => exact Yl.extract rfl rfl rfl
                refine' TL.y rfl rfl rfl ?hy87 ?_
                case hy87 => exact Yl.assign rfl rfl
                refine' TL.y rfl rfl rfl ?hy88 ?_
                case hy88 => exact Yl.assign rfl rfl
                refine TL.nil ?_
                refine TE.next ?_
                refine TC.seq ?_
                refine TC.draw (k := 34) _ [] #[false, false, false, false, false, false, false, false, false, false, false, false, false, false, false, false, false, false, false, false, false, false, false, false, false, false, false, false, false, false, false, false, false, false] (by kernel_rfl) rfl rfl (fun _ h => h.drew) (fun _ h => h) ?_
                refine' TA.y (i := 0) #[true, false, false, false, false, false, false, false, false, false, false, false, false, false, false, false, false, false, false, false, false, false, false, false, false, false, false, false, false, false, false, false, false, false] rfl rfl rfl (by kernel_rfl) (fun _ _ _ h => h) (fun _ h => by exact Hp.sub h (by repeat (first | exact List.Sublist.refl _ | apply List.Sublist.cons))) rfl ?hy89 ?_
                case hy89 => exact Yl.move rfl rfl
                refine' TA.y (i := 1) #[true, true, false, false, false, false, false, false, false, false, false, false, false, false, false, false, false, false, false, false, false, false, false, false, false, false, false, false, false, false, false, false, false, false] rfl rfl rfl (by kernel_rfl) (fun _ _ _ h => h) (fun _ h => by exact Hp.sub h (by repeat (first | exact List.Sublist.refl _ | apply List.Sublist.cons))) rfl ?hy90 ?_
                case hy90 => exact Yl.not rfl rfl
                refine' TA.y (i := 2) #[true, true, true, false, false, false, false, false, false, false, false, false, false, false, false, false, false, false, false, false, false, false, false, false, false, false, false, false, false, false, false, false, false, false] rfl rfl rfl (by kernel_rfl) (fun _ _ _ h => h) (fun _ h => by exact Hp.sub h (by repeat (first | exact List.Sublist.refl _ | apply List.Sublist.cons))) rfl ?hy91 ?_
                case hy91 => exact Yl.move rfl rfl
                refine' TA.y (i := 3) #[true, true, true, true, false, false, false, false, false, false, false, false, false, false, false, false, false, false, false, false, false, false, false, false, false, false, false, false, false, false, false, false, false, false] rfl rfl rfl (by kernel_rfl) (fun _ _ _ h => h) (fun _ h => by exact Hp.sub h (by repeat (first | exact List.Sublist.refl _ | apply List.Sublist.cons))) rfl ?hy92 ?_
                case hy92 => exact Yl.move rfl rfl
                refine' TA.y (i := 4) #[true, true, true, true, true, false, false, false, false, false, false, false, false, false, false, false, false, false, false, false, false, false, false, false, false, false, false, false, false, false, false, false, false, false] rfl rfl rfl (by kernel_rfl) (fun _ _ _ h => h) (fun _ h => by exact Hp.sub h (by repeat (first | exact List.Sublist.refl _ | apply List.Sublist.cons))) rfl ?hy93 ?_
                case hy93 => exact Yl.move rfl rfl
                refine' TA.y (i := 5) #[true, true, true, true, true, true, false, false, false, false, false, false, false, false, false, false, false, false, false, false, false, false, false, false, false, false, false, false, false, false, false, false, false, false] rfl rfl rfl (by kernel_rfl) (fun _ _ _ h => h) (fun _ h => by exact Hp.sub h (by repeat (first | exact List.Sublist.refl _ | apply List.Sublist.cons))) rfl ?hy94 ?_
                case hy94 => first | exact Yl.ixn rfl rfl rfl Try.underlying31 (by kernel_rfl) (by omega)
                refine' TA.y (i := 6) #[true, true, true, true, true, true, true, false, false, false, false, false, false, false, false, false, false, false, false, false, false, false, false, false, false, false, false, false, false, false, false, false, false, false] rfl rfl rfl (by kernel_rfl) (fun _ _ _ h => h) (fun _ h => by exact Hp.sub h (by repeat (first | exact List.Sublist.refl _ | apply List.Sublist.cons))) rfl ?hy95 ?_
                case hy95 => first | exact Yl.load rfl rfl (by kernel_rfl) (Hp.rowAtI mem2 (by omega)) | exact Yl.load rfl rfl (by kernel_rfl) (Hp.cell mem0 rfl) | exact Yl.load rfl rfl (by kernel_rfl) (Hp.cell mem1 rfl) | exact Yl.load rfl rfl (by kernel_rfl) (Hp.cell mem2 rfl) | exact Yl.load rfl rfl (by kernel_rfl) (Hp.cell mem3 rfl) | exact Yl.load rfl rfl (by kernel_rfl) (Hp.cell mem4 rfl) | exact Yl.load rfl rfl (by kernel_rfl) (Hp.rowAt mem0 (by omega) rfl) | exact Yl.load rfl rfl (by kernel_rfl) (Hp.rowAt mem1 (by omega) rfl) | exact Yl.load rfl rfl (by kernel_rfl) (Hp.rowAt mem2 (by omega) rfl) | exact Yl.load rfl rfl (by kernel_rfl) (Hp.rowAt mem3 (by omega) rfl) | exact Yl.load rfl rfl (by kernel_rfl) (Hp.rowAt mem4 (by omega) rfl)
                refine' TA.y (i := 7) #[true, true, true, true, true, true, true, true, false, false, false, false, false, false, false, false, false, false, false, false, false, false, false, false, false, false, false, false, false, false, false, false, false, false] rfl rfl rfl (by kernel_rfl) (fun _ _ _ h => h) (fun _ h => by exact Hp.sub h (by repeat (first | exact List.Sublist.refl _ | apply List.Sublist.cons))) rfl ?hy96 ?_
                case hy96 => exact Yl.move rfl rfl
                refine' TA.y (i := 8) #[true, true, true, true, true, true, true, true, true, false, false, false, false, false, false, false, false, false, false, false, false, false, false, false, false, false, false, false, false, false, false, false, false, false] rfl rfl rfl (by kernel_rfl) (fun _ _ _ h => h) (fun _ h => by exact Hp.sub h (by repeat (first | exact List.Sublist.refl _ | apply List.Sublist.cons))) rfl ?hy97 ?_
                case hy97 => exact Yl.bin rfl rfl rfl (Bin.lss _ _ _ _)
                refine' TA.y (i := 9) #[true, true, true, true, true, true, true, true, true, true, false, false, false, false, false, false, false, false, false, false, false, false, false, false, false, false, false, false, false, false, false, false, false, false] rfl rfl rfl (by kernel_rfl) (fun _ _ _ h => h) (fun _ h => by exact Hp.sub h (by repeat (first | exact List.Sublist.refl _ | apply List.Sublist.cons))) rfl ?hy98 ?_
                case hy98 => exact Yl.pickF rfl rfl rfl
                refine' TA.y (i := 10) #[true, true, true, true, true, true, true, true, true, true, true, false, false, false, false, false, false, false, false, false, false, false, false, false, false, false, false, false, false, false, false, false, false, false] rfl rfl rfl (by kernel_rfl) (fun _ _ _ h => h) (fun _ h => by exact Hp.sub h (by repeat (first | exact List.Sublist.refl _ | apply List.Sublist.cons))) rfl ?hy99 ?_
                case hy99 => exact Yl.move rfl rfl
                refine TA.re (i := 94) (v' := .bool false) rfl (congrArg Value.bool (decide_eq_false (by omega))) ?_
                refine' TA.y (i := 11) #[true, true, true, true, true, true, true, true, true, true, true, true, false, false, false, false, false, false, false, false, false, false, false, false, false, false, false, false, false, false, false, false, false, false] rfl rfl rfl (by kernel_rfl) (fun _ _ _ h => h) (fun _ h => by exact Hp.sub h (by repeat (first | exact List.Sublist.refl _ | apply List.Sublist.cons))) rfl ?hy100 ?_
                case hy100 => exact Yl.move rfl rfl
                refine' TA.y (i := 12) #[true, true, true, true, true, true, true, true, true, true, true, true, true, false, false, false, false, false, false, false, false, false, false, false, false, false, false, false, false, false, false, false, false, false] rfl rfl rfl (by kernel_rfl) (fun _ _ _ h => h) (fun _ h => by exact Hp.sub h (by repeat (first | exact List.Sublist.refl _ | apply List.Sublist.cons))) rfl ?hy101 ?_
                case hy101 => exact Yl.move rfl rfl
                refine' TA.y (i := 13) #[true, true, true, true, true, true, true, true, true, true, true, true, true, true, false, false, false, false, false, false, false, false, false, false, false, false, false, false, false, false, false, false, false, false] rfl rfl rfl (by kernel_rfl) (fun _ _ _ h => h) (fun _ h => by exact Hp.sub h (by repeat (first | exact List.Sublist.refl _ | apply List.Sublist.cons))) rfl ?hy102 ?_
                case hy102 => first | exact Yl.ixn rfl rfl rfl Try.underlying31 (by kernel_rfl) (by omega)
                refine' TA.y (i := 14) #[true, true, true, true, true, true, true, true, true, true, true, true, true, true, true, false, false, false, false, false, false, false, false, false, false, false, false, false, false, false, false, false, false, false] rfl rfl rfl (by kernel_rfl) (fun _ _ _ h => h) (fun _ h => by exact Hp.sub h (by repeat (first | exact List.Sublist.refl _ | apply List.Sublist.cons))) rfl ?hy103 ?_
                case hy103 => first | exact Yl.load rfl rfl (by kernel_rfl) (Hp.rowAtI mem2 (by omega)) | exact Yl.load rfl rfl (by kernel_rfl) (Hp.cell mem0 rfl) | exact Yl.load rfl rfl (by kernel_rfl) (Hp.cell mem1 rfl) | exact Yl.load rfl rfl (by kernel_rfl) (Hp.cell mem2 rfl) | exact Yl.load rfl rfl (by kernel_rfl) (Hp.cell mem3 rfl) | exact Yl.load rfl rfl (by kernel_rfl) (Hp.cell mem4 rfl) | exact Yl.load rfl rfl (by kernel_rfl) (Hp.rowAt mem0 (by omega) rfl) | exact Yl.load rfl rfl (by kernel_rfl) (Hp.rowAt mem1 (by omega) rfl) | exact Yl.load rfl rfl (by kernel_rfl) (Hp.rowAt mem2 (by omega) rfl) | exact Yl.load rfl rfl (by kernel_rfl) (Hp.rowAt mem3 (by omega) rfl) | exact Yl.load rfl rfl (by kernel_rfl) (Hp.rowAt mem4 (by omega) rfl)
                refine' TA.y (i := 15) #[true, true, true, true, true, true, true, true, true, true, true, true, true, true, true, true, false, false, false, false, false, false, false, false, false, false, false, false, false, false, false, false, false, false] rfl rfl rfl (by kernel_rfl) (fun _ _ _ h => h) (fun _ h => by exact Hp.sub h (by repeat (first | exact List.Sublist.refl _ | apply List.Sublist.cons))) rfl ?hy104 ?_
                case hy104 => exact Yl.move rfl rfl
                refine' TA.y (i := 16) #[true, true, true, true, true, true, true, true, true, true, true, true, true, true, true, true, true, false, false, false, false, false, false, false, false, false, false, false, false, false, false, false, false, false] rfl rfl rfl (by kernel_rfl) (fun _ _ _ h => h) (fun _ h => by exact Hp.sub h (by repeat (first | exact List.Sublist.refl _ | apply List.Sublist.cons))) rfl ?hy105 ?_
                case hy105 => exact Yl.bin rfl rfl rfl (Bin.geq _ _ _ _)
                refine' TA.y (i := 17) #[true, true, true, true, true, true, true, true, true, true, true, true, true, true, true, true, true, true, false, false, false, false, false, false, false, false, false, false, false, false, false, false, false, false] rfl rfl rfl (by kernel_rfl) (fun _ _ _ h => h) (fun _ h => by exact Hp.sub h (by repeat (first | exact List.Sublist.refl _ | apply List.Sublist.cons))) rfl ?hy106 ?_
                case hy106 => exact Yl.pickF rfl rfl rfl
                refine' TA.y (i := 18) #[true, true, true, true, true, true, true, true, true, true, true, true, true, true, true, true, true, true, true, false, false, false, false, false, false, false, false, false, false, false, false, false, false, false] rfl rfl rfl (by kernel_rfl) (fun _ _ _ h => h) (fun _ h => by exact Hp.sub h (by repeat (first | exact List.Sublist.refl _ | apply List.Sublist.cons))) rfl ?hy107 ?_
                case hy107 => exact Yl.move rfl rfl
                refine TA.re (i := 102) (v' := .bool false) rfl (congrArg Value.bool (decide_eq_false (by omega))) ?_
                refine' TA.y (i := 19) #[true, true, true, true, true, true, true, true, true, true, true, true, true, true, true, true, true, true, true, true, false, false, false, false, false, false, false, false, false, false, false, false, false, false] rfl rfl rfl (by kernel_rfl) (fun _ _ _ h => h) (fun _ h => by exact Hp.sub h (by repeat (first | exact List.Sublist.refl _ | apply List.Sublist.cons))) rfl ?hy108 ?_
                case hy108 => exact Yl.move rfl rfl
                refine' TA.y (i := 20) #[true, true, true, true, true, true, true, true, true, true, true, true, true, true, true, true, true, true, true, true, true, false, false, false, false, false, false, false, false, false, false, false, false, false] rfl rfl rfl (by kernel_rfl) (fun _ _ _ h => h) (fun _ h => by exact Hp.sub h (by repeat (first | exact List.Sublist.refl _ | apply List.Sublist.cons))) rfl ?hy109 ?_
                case hy109 => exact Yl.bin rfl rfl rfl (Bin.gtr _ _ _ _)
                refine' TA.y (i := 21) #[true, true, true, true, true, true, true, true, true, true, true, true, true, true, true, true, true, true, true, true, true, true, false, false, false, false, false, false, false, false, false, false, false, false] rfl rfl rfl (by kernel_rfl) (fun _ _ _ h => h) (fun _ h => by exact Hp.sub h (by repeat (first | exact List.Sublist.refl _ | apply List.Sublist.cons))) rfl ?hy110 ?_
                case hy110 => exact Yl.move rfl rfl
                refine TA.split (i := 105) rfl (fun hs105 => ?_) (fun hs105 => ?_)
                · skip
                  (try simp only [decide_eq_true_eq, decide_eq_false_iff_not, beq_iff_eq, beq_eq_false_iff_ne, bne_iff_ne, ne_eq, bne_eq_false_iff_eq, Bool.not_eq_true', Bool.not_eq_false', Int.not_lt, Int.not_le, gt_iff_lt, ge_iff_le] at hs105)
                  have hrs := gI_lt (walkL_rise (stS f m) a t) (show i - 1 < i by omega) hil
                  refine' TA.y (i := 22) #[true, true, true, true, true, true, true, true, true, true, true, true, true, true, true, true, true, true, true, true, true, true, true, false, false, false, false, false, false, false, false, false, false, false] rfl rfl rfl (by kernel_rfl) (fun _ _ _ h => h) (fun _ h => by exact Hp.sub h (by repeat (first | exact List.Sublist.refl _ | apply List.Sublist.cons))) rfl ?hy111 ?_
                  case hy111 => exact Yl.move rfl rfl
                  refine' TA.y (i := 23) #[true, true, true, true, true, true, true, true, true, true, true, true, true, true, true, true, true, true, true, true, true, true, true, true, false, false, false, false, false, false, false, false, false, false] rfl rfl rfl (by kernel_rfl) (fun _ _ _ h => h) (fun _ h => by exact Hp.sub h (by repeat (first | exact List.Sublist.refl _ | apply List.Sublist.cons))) rfl ?hy112 ?_
                  case hy112 => exact Yl.move rfl rfl
                  refine' TA.y (i := 24) #[true, true, true, true, true, true, true, true, true, true, true, true, true, true, true, true, true, true, true, true, true, true, true, true, true, false, false, false, false, false, false, false, false, false] rfl rfl rfl (by kernel_rfl) (fun _ _ _ h => h) (fun _ h => by exact Hp.sub h (by repeat (first | exact List.Sublist.refl _ | apply List.Sublist.cons))) rfl ?hy113 ?_
                  case hy113 => first | (refine Yl.val (Yl.bin rfl rfl rfl (Bin.sub _ _ _ _)) (congrArg (Value.int .i64) (i64in ?_ ?_)) <;> omega) | exact Yl.bin rfl rfl rfl (Bin.sub _ _ _ _)
                  refine TA.re (i := 108) (v' := .int .i64 ((i - 1 : Nat) : Int)) rfl (congrArg (Value.int .i64) (by omega)) ?_
                  refine' TA.y (i := 25) #[true, true, true, true, true, true, true, true, true, true, true, true, true, true, true, true, true, true, true, true, true, true, true, true, true, true, false, false, false, false, false, false, false, false] rfl rfl rfl (by kernel_rfl) (fun _ _ _ h => h) (fun _ h => by exact Hp.sub h (by repeat (first | exact List.Sublist.refl _ | apply List.Sublist.cons))) rfl ?hy114 ?_
                  case hy114 => first | exact Yl.ixn rfl rfl rfl Try.underlying31 (by kernel_rfl) (by omega)
                  refine' TA.y (i := 26) #[true, true, true, true, true, true, true, true, true, true, true, true, true, true, true, true, true, true, true, true, true, true, true, true, true, true, true, false, false, false, false, false, false, false] rfl rfl rfl (by kernel_rfl) (fun _ _ _ h => h) (fun _ h => by exact Hp.sub h (by repeat (first | exact List.Sublist.refl _ | apply List.Sublist.cons))) rfl ?hy115 ?_
                  case hy115 => first | exact Yl.load rfl rfl (by kernel_rfl) (Hp.rowAtI mem2 (by omega)) | exact Yl.load rfl rfl (by kernel_rfl) (Hp.cell mem0 rfl) | exact Yl.load rfl rfl (by kernel_rfl) (Hp.cell mem1 rfl) | exact Yl.load rfl rfl (by kernel_rfl) (Hp.cell mem2 rfl) | exact Yl.load rfl rfl (by kernel_rfl) (Hp.cell mem3 rfl) | exact Yl.load rfl rfl (by kernel_rfl) (Hp.cell mem4 rfl) | exact Yl.load rfl rfl (by kernel_rfl) (Hp.rowAt mem0 (by omega) rfl) | exact Yl.load rfl rfl (by kernel_rfl) (Hp.rowAt mem1 (by omega) rfl) | exact Yl.load rfl rfl (by kernel_rfl) (Hp.rowAt mem2 (by omega) rfl) | exact Yl.load rfl rfl (by kernel_rfl) (Hp.rowAt mem3 (by omega) rfl) | exact Yl.load rfl rfl (by kernel_rfl) (Hp.rowAt mem4 (by omega) rfl)
                  refine' TA.y (i := 27) #[true, true, true, true, true, true, true, true, true, true, true, true, true, true, true, true, true, true, true, true, true, true, true, true, true, true, true, true, false, false, false, false, false, false] rfl rfl rfl (by kernel_rfl) (fun _ _ _ h => h) (fun _ h => by exact Hp.sub h (by repeat (first | exact List.Sublist.refl _ | apply List.Sublist.cons))) rfl ?hy116 ?_
                  case hy116 => exact Yl.move rfl rfl
                  refine' TA.y (i := 28) #[true, true, true, true, true, true, true, true, true, true, true, true, true, true, true, true, true, true, true, true, true, true, true, true, true, true, true, true, true, false, false, false, false, false] rfl rfl rfl (by kernel_rfl) (fun _ _ _ h => h) (fun _ h => by exact Hp.sub h (by repeat (first | exact List.Sublist.refl _ | apply List.Sublist.cons))) rfl ?hy117 ?_
                  case hy117 => exact Yl.move rfl rfl
                  refine' TA.y (i := 29) #[true, true, true, true, true, true, true, true, true, true, true, true, true, true, true, true, true, true, true, true, true, true, true, true, true, true, true, true, true, true, false, false, false, false] rfl rfl rfl (by kernel_rfl) (fun _ _ _ h => h) (fun _ h => by exact Hp.sub h (by repeat (first | exact List.Sublist.refl _ | apply List.Sublist.cons))) rfl ?hy118 ?_
                  case hy118 => first | exact Yl.ixn rfl rfl rfl Try.underlying31 (by kernel_rfl) (by omega)
                  refine' TA.y (i := 30) #[true, true, true, true, true, true, true, true, true, true, true, true, true, true, true, true, true, true, true, true, true, true, true, true, true, true, true, true, true, true, true, false, false, false] rfl rfl rfl (by kernel_rfl) (fun _ _ _ h => h) (fun _ h => by exact Hp.sub h (by repeat (first | exact List.Sublist.refl _ | apply List.Sublist.cons))) rfl ?hy119 ?_
                  case hy119 => first | exact Yl.load rfl rfl (by kernel_rfl) (Hp.rowAtI mem2 (by omega)) | exact Yl.load rfl rfl (by kernel_rfl) (Hp.cell mem0 rfl) | exact Yl.load rfl rfl (by kernel_rfl) (Hp.cell mem1 rfl) | exact Yl.load rfl rfl (by kernel_rfl) (Hp.cell mem2 rfl) | exact Yl.load rfl rfl (by kernel_rfl) (Hp.cell mem3 rfl) | exact Yl.load rfl rfl (by kernel_rfl) (Hp.cell mem4 rfl) | exact Yl.load rfl rfl (by kernel_rfl) (Hp.rowAt mem0 (by omega) rfl) | exact Yl.load rfl rfl (by kernel_rfl) (Hp.rowAt mem1 (by omega) rfl) | exact Yl.load rfl rfl (by kernel_rfl) (Hp.rowAt mem2 (by omega) rfl) | exact Yl.load rfl rfl (by kernel_rfl) (Hp.rowAt mem3 (by omega) rfl) | exact Yl.load rfl rfl (by kernel_rfl) (Hp.rowAt mem4 (by omega) rfl)
                  refine' TA.y (i := 31) #[true, true, true, true, true, true, true, true, true, true, true, true, true, true, true, true, true, true, true, true, true, true, true, true, true, true, true, true, true, true, true, true, false, false] rfl rfl rfl (by kernel_rfl) (fun _ _ _ h => h) (fun _ h => by exact Hp.sub h (by repeat (first | exact List.Sublist.refl _ | apply List.Sublist.cons))) rfl ?hy120 ?_
                  case hy120 => exact Yl.bin rfl rfl rfl (Bin.geq _ _ _ _)
                  refine' TA.y (i := 32) #[true, true, true, true, true, true, true, true, true, true, true, true, true, true, true, true, true, true, true, true, true, true, true, true, true, true, true, true, true, true, true, true, true, false] rfl rfl rfl (by kernel_rfl) (fun _ _ _ h => h) (fun _ h => by exact Hp.sub h (by repeat (first | exact List.Sublist.refl _ | apply List.Sublist.cons))) rfl ?hy121 ?_
                  case hy121 => exact Yl.pickT rfl rfl rfl
                  refine' TA.y (i := 33) #[true, true, true, true, true, true, true, true, true, true, true, true, true, true, true, true, true, true, true, true, true, true, true, true, true, true, true, true, true, true, true, true, true, true] rfl rfl rfl (by kernel_rfl) (fun _ _ _ h => h) (fun _ h => by exact Hp.sub h (by repeat (first | exact List.Sublist.refl _ | apply List.Sublist.cons))) rfl ?hy122 ?_
                  case hy122 => exact Yl.pickF rfl rfl rfl
                  refine TA.done (by kernel_rfl) ?_
                  refine TE.next ?_
                  refine TC.no rfl (decide_eq_false (by omega)) ?_
                  refine TC.skip ?_
                  refine TE.inNormal ?_
                  refine TE.next ?_
                  refine TC.region ?_
                  refine' TL.y rfl rfl rfl ?hy123 ?_
                  case hy123 => exact Yl.move rfl rfl
                  refine' TL.y rfl rfl rfl ?hy124 ?_
                  case hy124 => first | (refine Yl.val (Yl.bin rfl rfl rfl (Bin.add _ _ _ _)) (congrArg (Value.int .i64) (i64in ?_ ?_)) <;> omega) | exact Yl.bin rfl rfl rfl (Bin.add _ _ _ _)
                  refine' TL.y rfl rfl rfl ?hy125 ?_
                  case hy125 => exact Yl.assign rfl rfl
                  refine TL.nil ?_
                  refine TE.round (i + 1) ?hF126 ?hlt126 ?hs126 ?hm126
                  case hF126 => omega
                  case hlt126 => omega
                  case hs126 => exact ⟨rfl, rfl, rfl, rfl, rfl, rfl, rfl, trivial⟩
                  case hm126 => exact fun _ h => h
                · skip
                  (try simp only [decide_eq_true_eq, decide_eq_false_iff_not, beq_iff_eq, beq_eq_false_iff_ne, bne_iff_ne, ne_eq, bne_eq_false_iff_eq, Bool.not_eq_true', Bool.not_eq_false', Int.not_lt, Int.not_le, gt_iff_lt, ge_iff_le] at hs105)
                  refine TA.skip (i := 22) #[true, true, true, true, true, true, true, true, true, true, true, true, true, true, true, true, true, true, true, true, true, true, true, false, false, false, false, false, false, false, false, false, false, false] rfl rfl rfl (by kernel_rfl) (fun _ _ _ h => h) rfl ?_
                  refine TA.skip (i := 23) #[true, true, true, true, true, true, true, true, true, true, true, true, true, true, true, true, true, true, true, true, true, true, true, true, false, false, false, false, false, false, false, false, false, false] rfl rfl rfl (by kernel_rfl) (fun _ _ _ h => h) rfl ?_
                  refine TA.skip (i := 24) #[true, true, true, true, true, true, true, true, true, true, true, true, true, true, true, true, true, true, true, true, true, true, true, true, true, false, false, false, false, false, false, false, false, false] rfl rfl rfl (by kernel_rfl) (fun _ _ _ h => h) rfl ?_
                  refine TA.skip (i := 25) #[true, true, true, true, true, true, true, true, true, true, true, true, true, true, true, true, true, true, true, true, true, true, true, true, true, true, false, false, false, false, false, false, false, false] rfl rfl rfl (by kernel_rfl) (fun _ _ _ h => h) rfl ?_
                  refine TA.skip (i := 26) #[true, true, true, true, true, true, true, true, true, true, true, true, true, true, true, true, true, true, true, true, true, true, true, true, true, true, true, false, false, false, false, false, false, false] rfl rfl rfl (by kernel_rfl) (fun _ _ _ h => h) rfl ?_
                  refine TA.skip (i := 27) #[true, true, true, true, true, true, true, true, true, true, true, true, true, true, true, true, true, true, true, true, true, true, true, true, true, true, true, true, false, false, false, false, false, false] rfl rfl rfl (by kernel_rfl) (fun _ _ _ h => h) rfl ?_
                  refine TA.skip (i := 28) #[true, true, true, true, true, true, true, true, true, true, true, true, true, true, true, true, true, true, true, true, true, true, true, true, true, true, true, true, true, false, false, false, false, false] rfl rfl rfl (by kernel_rfl) (fun _ _ _ h => h) rfl ?_
                  refine TA.skip (i := 29) #[true, true, true, true, true, true, true, true, true, true, true, true, true, true, true, true, true, true, true, true, true, true, true, true, true, true, true, true, true, true, false, false, false, false] rfl rfl rfl (by kernel_rfl) (fun _ _ _ h => h) rfl ?_
                  refine TA.skip (i := 30) #[true, true, true, true, true, true, true, true, true, true, true, true, true, true, true, true, true, true, true, true, true, true, true, true, true, true, true, true, true, true, true, false, false, false] rfl rfl rfl (by kernel_rfl) (fun _ _ _ h => h) rfl ?_
                  refine TA.skip (i := 31) #[true, true, true, true, true, true, true, true, true, true, true, true, true, true, true, true, true, true, true, true, true, true, true, true, true, true, true, true, true, true, true, true, false, false] rfl rfl rfl (by kernel_rfl) (fun _ _ _ h => h) rfl ?_
                  refine' TA.y (i := 32) #[true, true, true, true, true, true, true, true, true, true, true, true, true, true, true, true, true, true, true, true, true, true, true, true, true, true, true, true, true, true, true, true, true, false] rfl rfl rfl (by kernel_rfl) (fun _ _ _ h => h) (fun _ h => by exact Hp.sub h (by repeat (first | exact List.Sublist.refl _ | apply List.Sublist.cons))) rfl ?hy127 ?_
                  case hy127 => exact Yl.pickF rfl rfl rfl
                  refine' TA.y (i := 33) #[true, true, true, true, true, true, true, true, true, true, true, true, true, true, true, true, true, true, true, true, true, true, true, true, true, true, true, true, true, true, true, true, true, true] rfl rfl rfl (by kernel_rfl) (fun _ _ _ h => h) (fun _ h => by exact Hp.sub h (by repeat (first | exact List.Sublist.refl _ | apply List.Sublist.cons))) rfl ?hy128 ?_
                  case hy128 => exact Yl.pickF rfl rfl rfl
                  refine TA.done (by kernel_rfl) ?_
                  refine TE.next ?_
                  refine TC.no rfl rfl ?_
                  refine TC.skip ?_
                  refine TE.inNormal ?_
                  refine TE.next ?_
                  refine TC.region ?_
                  refine' TL.y rfl rfl rfl ?hy129 ?_
                  case hy129 => exact Yl.move rfl rfl
                  refine' TL.y rfl rfl rfl ?hy130 ?_
                  case hy130 => first | (refine Yl.val (Yl.bin rfl rfl rfl (Bin.add _ _ _ _)) (congrArg (Value.int .i64) (i64in ?_ ?_)) <;> omega) | exact Yl.bin rfl rfl rfl (Bin.add _ _ _ _)
                  refine' TL.y rfl rfl rfl ?hy131 ?_
                  case hy131 => exact Yl.assign rfl rfl
                  refine TL.nil ?_
                  refine TE.round (i + 1) ?hF132 ?hlt132 ?hs132 ?hm132
                  case hF132 => omega
                  case hlt132 => omega
                  case hs132 => exact ⟨rfl, rfl, rfl, rfl, rfl, rfl, rfl, trivial⟩
                  case hm132 => exact fun _ h => h
              · skip
                (try simp only [decide_eq_true_eq, decide_eq_false_iff_not, beq_iff_eq, beq_eq_false_iff_ne, bne_iff_ne, ne_eq, bne_eq_false_iff_eq, Bool.not_eq_true', Bool.not_eq_false', Int.not_lt, Int.not_le, gt_iff_lt, ge_iff_le] at hs72)
                refine TC.exit ?_
                refine TE.thenExit ?_
                refine TE.thenExit ?_
                refine TE.inHere ?_
                refine TE.next ?_
                refine TC.seq ?_
                refine TC.region ?_
                refine' TL.y rfl rfl rfl ?hy133 ?_
                case hy133 => exact Yl.move rfl rfl
                refine' TL.y rfl rfl rfl ?hy134 ?_
                case hy134 => exact Yl.move rfl rfl
                refine' TL.y rfl rfl rfl ?hy135 ?_
                case hy135 => exact Yl.move rfl rfl
                refine' TL.y rfl rfl rfl ?hy136 ?_
                case hy136 => exact Yl.move rfl rfl
                refine' TL.c rfl rfl rfl ?hy137 ?_
                case hy137 => exact Yc.call rfl Try.func15 (by kernel_rfl) rfl rfl (Hp.calls (fun w h => k_rowL w (Hp.rowSl mem2 w h) (Hp.rowSl mem1 w h) (by have := walkL_len (stS f m) a t; omega)))
                intro _
                refine' TL.y rfl rfl rfl ?hy138 ?_
                case hy138 => exact Yl.pickT rfl rfl rfl
                refine' TL.y rfl rfl rfl ?hy139 ?_
                case hy139 => exact Yl.assign rfl rfl
                refine TL.nil ?_
                refine TE.next ?_
                refine TC.ret ?_
                refine TE.ret1 rfl rfl ?_
                have hpt := walk_parts (stS f m) (show a ≤ c by omega) (show c ≤ t by omega)
                exact fun w h => ⟨by rw [decide_eq_true hpt], (h.sub (List.nil_sublist _)).below⟩
end Go.Proofs.Ytbcdplhihkacpaa.Pk
