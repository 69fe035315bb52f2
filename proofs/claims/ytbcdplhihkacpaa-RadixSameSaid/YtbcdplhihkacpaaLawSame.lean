/- In whatever order. -/
import Derived.Test.YtbcdplhihkacpaaRxW
import Derived.Test.YtbcdplhihkacpaaProg
import Derived.RowKit3
namespace Go.Proofs.Ytbcdplhihkacpaa.Pk
open Go Go.RowKit Go.Proofs.Ytbcdplhihkacpaa.HL Go.Proofs.Ytbcdplhihkacpaa.Ev Go.Proofs.YtbcdplhihkacpaaW.PrintWords Go.Proofs.RxP
set_option linter.unusedVariables false
set_option linter.unusedSimpArgs false
attribute [local irreducible] btw rowA nth ents Iw Aw stS stM walkL pagesL gI dpS rk nodes
set_option maxRecDepth 100000 in
set_option maxHeartbeats 2000000 in
theorem law_same (W : World) {m : Nat} {f : Nat → Ac} {A : Option Addr} {cp : Nat} (hS : Sl W A (Aw m f)) (hm : m ≤ 9223372036854775807) : Calls Try.prog 5 #[.slice A m cp] W fun e w' => e = .returned (.bool true) ∧ Below W.heap.size W w' := by
  have hM : Hp W (fun _ => False) [] W := Hp.start
  refine TC.enter (n := 127) Try.func5 rfl rfl rfl hM ?_
  refine TC.seq ?_
  refine TC.region ?_
  refine' TL.y rfl rfl rfl ?hy1 ?_
  case hy1 => exact Yl.assign rfl rfl
  refine TL.nil ?_
  refine TE.next ?_
  refine TC.seq ?_
  refine TC.region ?_
  refine' TL.c rfl rfl rfl ?hy2 ?_
  case hy2 => exact Yc.call rfl Try.func10 (by kernel_rfl) rfl rfl (Hp.calls (fun w h => k_works w))
  intro _
  refine' TL.y rfl rfl rfl ?hy3 ?_
  case hy3 => exact Yl.assign rfl rfl
  refine TL.nil ?_
  refine TE.next ?_
  refine TC.seq ?_
  refine TC.seq ?_
  refine TC.region ?_
  refine' TL.y rfl rfl rfl ?hy4 ?_
  case hy4 => exact Yl.move rfl rfl
  refine' TL.y rfl rfl rfl ?hy5 ?_
  case hy5 => exact Yl.not rfl rfl
  refine TL.nil ?_
  refine TE.next ?_
  refine TC.no rfl rfl ?_
  refine TC.skip ?_
  refine TE.next ?_
  refine TC.seq ?_
  refine TC.seq ?_
  refine TC.region ?_
  refine' TL.y rfl rfl rfl ?hy6 ?_
  case hy6 => exact Yl.move rfl rfl
  refine' TL.y rfl rfl rfl ?hy7 ?_
  case hy7 => exact Yl.len rfl rfl Try.underlying22
  refine' TL.y rfl rfl rfl ?hy8 ?_
  case hy8 => exact Yl.bin rfl rfl rfl (Bin.gtr _ _ _ _)
  refine TL.nil ?_
  refine TE.next ?_
  refine TC.cond rfl (fun hs20 => ?_) (fun hs20 => ?_)
  · skip
    (try simp only [decide_eq_true_eq, decide_eq_false_iff_not, beq_iff_eq, beq_eq_false_iff_ne, bne_iff_ne, ne_eq, bne_eq_false_iff_eq, Bool.not_eq_true', Bool.not_eq_false', Int.not_lt, Int.not_le, gt_iff_lt, ge_iff_le] at hs20)
    refine TC.seq ?_
    refine TC.region ?_
    refine' TL.y rfl rfl rfl ?hy9 ?_
    case hy9 => exact Yl.move rfl rfl
    refine' TL.y rfl rfl rfl ?hy10 ?_
    case hy10 => exact Yl.assign rfl rfl
    refine TL.nil ?_
    refine TE.next ?_
    refine TC.ret ?_
    refine TE.thenRet ?_
    refine TE.ret1 rfl rfl ?_
    exact fun w h => ⟨rfl, (h.sub (List.nil_sublist _)).below⟩
  · skip
    (try simp only [decide_eq_true_eq, decide_eq_false_iff_not, beq_iff_eq, beq_eq_false_iff_ne, bne_iff_ne, ne_eq, bne_eq_false_iff_eq, Bool.not_eq_true', Bool.not_eq_false', Int.not_lt, Int.not_le, gt_iff_lt, ge_iff_le] at hs20)
    refine TC.skip ?_
    refine TE.next ?_
    refine TC.seq ?_
    refine TC.region ?_
    refine' TL.c rfl rfl rfl ?hy11 ?_
    case hy11 => exact Yc.call rfl Try.func11 (by kernel_rfl) rfl rfl (Hp.news (fun w h => k_new w))
    intro b
    refine' TL.y rfl rfl rfl ?hy12 ?_
    case hy12 => exact Yl.assign rfl rfl
    refine TL.nil ?_
    refine TE.next ?_
    refine TC.seq ?_
    refine TC.region ?_
    refine' TL.c rfl rfl rfl ?hy13 ?_
    case hy13 => exact Yc.call rfl Try.func11 (by kernel_rfl) rfl rfl (Hp.news (fun w h => k_new w))
    intro d
    refine' TL.y rfl rfl rfl ?hy14 ?_
    case hy14 => exact Yl.assign rfl rfl
    refine TL.nil ?_
    refine TE.next ?_
    refine TC.seq ?_
    refine TC.seq ?_
    refine TC.region ?_
    refine' TL.y rfl rfl rfl ?hy15 ?_
    case hy15 => exact Yl.assign rfl rfl
    refine TL.nil ?_
    refine TE.next ?_
    refine TC.block ?_
    refine TC.loop (σ := Nat) (fun i => [(0, .slice A m cp), (3, .bool true), (4, .pointer (some ⟨b, 0, none⟩)), (5, .pointer (some ⟨d, 0, none⟩)), (6, .int .i64 (i : Int))]) (fun i => Hp W (fun _ => False) [tabR (st0 d), tabR (st0 b)]) (fun i => i ≤ m ∧ Dst f i) (fun i => m - i) 0 ?hF16 ?hs16 ?hm16 ?round16
    case hF16 => exact ⟨Nat.zero_le _, fun a b h1 h2 => by omega⟩
    case hs16 => exact ⟨rfl, rfl, rfl, rfl, rfl, trivial⟩
    case hm16 => exact fun _ h => h
    case round16 =>
      rintro i ⟨hi, hd⟩
      refine TC.seq ?_
      refine TC.seq ?_
      refine TC.region ?_
      refine' TL.y rfl rfl rfl ?hy17 ?_
      case hy17 => exact Yl.move rfl rfl
      refine' TL.y rfl rfl rfl ?hy18 ?_
      case hy18 => exact Yl.move rfl rfl
      refine' TL.y rfl rfl rfl ?hy19 ?_
      case hy19 => exact Yl.len rfl rfl Try.underlying22
      refine' TL.y rfl rfl rfl ?hy20 ?_
      case hy20 => exact Yl.bin rfl rfl rfl (Bin.lss _ _ _ _)
      refine TL.nil ?_
      refine TE.next ?_
      refine TC.cond rfl (fun hs27 => ?_) (fun hs27 => ?_)
      · skip
        (try simp only [decide_eq_true_eq, decide_eq_false_iff_not, beq_iff_eq, beq_eq_false_iff_ne, bne_iff_ne, ne_eq, bne_eq_false_iff_eq, Bool.not_eq_true', Bool.not_eq_false', Int.not_lt, Int.not_le, gt_iff_lt, ge_iff_le] at hs27)
        have him : i < m := by omega
        obtain ⟨b0, o0, rfl⟩ := Sl.some2 hS (by rw [Aw_length]; omega)
        refine TC.skip ?_
        refine TE.next ?_
        refine TC.seq ?_
        refine TC.block ?_
        refine TC.seq ?_
        refine TC.region ?_
        refine' TL.y rfl rfl rfl ?hy21 ?_
        case hy21 => exact Yl.assign rfl rfl
        refine TL.nil ?_
        refine TE.next ?_
        refine TC.block ?_
        refine TC.loop (σ := Nat) (fun k => [(0, .slice (some ⟨b0, o0, none⟩) m cp), (3, .bool true), (4, .pointer (some ⟨b, 0, none⟩)), (5, .pointer (some ⟨d, 0, none⟩)), (6, .int .i64 (i : Int)), (7, .int .i64 (k : Int))]) (fun k => Hp W (fun _ => False) [tabR (st0 d), tabR (st0 b)]) (fun k => k ≤ i ∧ ∀ a, a < k → (f a).1 ≠ (f i).1) (fun k => i - k) 0 ?hF22 ?hs22 ?hm22 ?round22
        case hF22 => exact ⟨Nat.zero_le _, fun a h => by omega⟩
        case hs22 => exact ⟨rfl, rfl, rfl, rfl, rfl, rfl, trivial⟩
        case hm22 => exact fun _ h => h
        case round22 =>
          rintro k ⟨hk0, hk⟩
          refine TC.seq ?_
          refine TC.seq ?_
          refine TC.region ?_
          refine' TL.y rfl rfl rfl ?hy23 ?_
          case hy23 => exact Yl.move rfl rfl
          refine' TL.y rfl rfl rfl ?hy24 ?_
          case hy24 => exact Yl.move rfl rfl
          refine' TL.y rfl rfl rfl ?hy25 ?_
          case hy25 => exact Yl.bin rfl rfl rfl (Bin.lss _ _ _ _)
          refine TL.nil ?_
          refine TE.next ?_
          refine TC.cond rfl (fun hs32 => ?_) (fun hs32 => ?_)
          · skip
            (try simp only [decide_eq_true_eq, decide_eq_false_iff_not, beq_iff_eq, beq_eq_false_iff_ne, bne_iff_ne, ne_eq, bne_eq_false_iff_eq, Bool.not_eq_true', Bool.not_eq_false', Int.not_lt, Int.not_le, gt_iff_lt, ge_iff_le] at hs32)
            refine TC.skip ?_
            refine TE.next ?_
            refine TC.seq ?_
            refine TC.block ?_
            refine TC.seq ?_
            refine TC.draw (k := 11) _ [] #[false, false, false, false, false, false, false, false, false, false, false] (by kernel_rfl) rfl rfl (fun _ h => h.drew) (fun _ h => h) ?_
            refine' TA.y (i := 0) #[true, false, false, false, false, false, false, false, false, false, false] rfl rfl rfl (by kernel_rfl) (fun _ _ _ h => h) (fun _ h => by exact Hp.sub h (by repeat (first | exact List.Sublist.refl _ | apply List.Sublist.cons))) rfl ?hy26 ?_
            case hy26 => exact Yl.move rfl rfl
            refine' TA.y (i := 1) #[true, true, false, false, false, false, false, false, false, false, false] rfl rfl rfl (by kernel_rfl) (fun _ _ _ h => h) (fun _ h => by exact Hp.sub h (by repeat (first | exact List.Sublist.refl _ | apply List.Sublist.cons))) rfl ?hy27 ?_
            case hy27 => exact Yl.move rfl rfl
            refine' TA.y (i := 2) #[true, true, true, false, false, false, false, false, false, false, false] rfl rfl rfl (by kernel_rfl) (fun _ _ _ h => h) (fun _ h => by exact Hp.sub h (by repeat (first | exact List.Sublist.refl _ | apply List.Sublist.cons))) rfl ?hy28 ?_
            case hy28 => first | exact Yl.ixkn (k := 3) rfl rfl rfl Try.underlying22 (by kernel_rfl) (by omega) | exact Yl.ixkz (k := 3) rfl rfl rfl Try.underlying22 (by kernel_rfl) (by omega) (by omega)
            refine' TA.y (i := 3) #[true, true, true, true, false, false, false, false, false, false, false] rfl rfl rfl (by kernel_rfl) (fun _ _ _ h => h) (fun _ h => by exact Hp.sub h (by repeat (first | exact List.Sublist.refl _ | apply List.Sublist.cons))) rfl ?hy29 ?_
            case hy29 => first | exact Yl.field0 (k := 0) 0 rfl rfl Try.underlying30 rfl (by kernel_rfl) rfl | exact Yl.field (k := 0) 0 rfl rfl Try.underlying30 rfl (by kernel_rfl) rfl
            refine' TA.y (i := 4) #[true, true, true, true, true, false, false, false, false, false, false] rfl rfl rfl (by kernel_rfl) (fun _ _ _ h => h) (fun _ h => by exact Hp.sub h (by repeat (first | exact List.Sublist.refl _ | apply List.Sublist.cons))) rfl ?hy30 ?_
            case hy30 => exact Yl.load rfl rfl (by kernel_rfl) (Sl.aw hS (i := 0) rfl (by omega) (by decide))
            refine TA.re (i := 39) (v' := .int .i64 ((f k).1)) rfl rfl ?_
            refine' TA.y (i := 5) #[true, true, true, true, true, true, false, false, false, false, false] rfl rfl rfl (by kernel_rfl) (fun _ _ _ h => h) (fun _ h => by exact Hp.sub h (by repeat (first | exact List.Sublist.refl _ | apply List.Sublist.cons))) rfl ?hy31 ?_
            case hy31 => exact Yl.move rfl rfl
            refine' TA.y (i := 6) #[true, true, true, true, true, true, true, false, false, false, false] rfl rfl rfl (by kernel_rfl) (fun _ _ _ h => h) (fun _ h => by exact Hp.sub h (by repeat (first | exact List.Sublist.refl _ | apply List.Sublist.cons))) rfl ?hy32 ?_
            case hy32 => exact Yl.move rfl rfl
            refine' TA.y (i := 7) #[true, true, true, true, true, true, true, true, false, false, false] rfl rfl rfl (by kernel_rfl) (fun _ _ _ h => h) (fun _ h => by exact Hp.sub h (by repeat (first | exact List.Sublist.refl _ | apply List.Sublist.cons))) rfl ?hy33 ?_
            case hy33 => first | exact Yl.ixkn (k := 3) rfl rfl rfl Try.underlying22 (by kernel_rfl) (by omega) | exact Yl.ixkz (k := 3) rfl rfl rfl Try.underlying22 (by kernel_rfl) (by omega) (by omega)
            refine' TA.y (i := 8) #[true, true, true, true, true, true, true, true, true, false, false] rfl rfl rfl (by kernel_rfl) (fun _ _ _ h => h) (fun _ h => by exact Hp.sub h (by repeat (first | exact List.Sublist.refl _ | apply List.Sublist.cons))) rfl ?hy34 ?_
            case hy34 => first | exact Yl.field0 (k := 0) 0 rfl rfl Try.underlying30 rfl (by kernel_rfl) rfl | exact Yl.field (k := 0) 0 rfl rfl Try.underlying30 rfl (by kernel_rfl) rfl
            refine' TA.y (i := 9) #[true, true, true, true, true, true, true, true, true, true, false] rfl rfl rfl (by kernel_rfl) (fun _ _ _ h => h) (fun _ h => by exact Hp.sub h (by repeat (first | exact List.Sublist.refl _ | apply List.Sublist.cons))) rfl ?hy35 ?_
            case hy35 => exact Yl.load rfl rfl (by kernel_rfl) (Sl.aw hS (i := 0) rfl (by omega) (by decide))
            refine TA.re (i := 44) (v' := .int .i64 ((f i).1)) rfl rfl ?_
            refine' TA.y (i := 10) #[true, true, true, true, true, true, true, true, true, true, true] rfl rfl rfl (by kernel_rfl) (fun _ _ _ h => h) (fun _ h => by exact Hp.sub h (by repeat (first | exact List.Sublist.refl _ | apply List.Sublist.cons))) rfl ?hy36 ?_
            case hy36 => exact Yl.bin rfl rfl rfl (Bin.eql _ _ _ _)
            refine TA.done (by kernel_rfl) ?_
            refine TE.next ?_
            refine TC.cond rfl (fun hs45 => ?_) (fun hs45 => ?_)
            · skip
              (try simp only [decide_eq_true_eq, decide_eq_false_iff_not, beq_iff_eq, beq_eq_false_iff_ne, bne_iff_ne, ne_eq, bne_eq_false_iff_eq, Bool.not_eq_true', Bool.not_eq_false', Int.not_lt, Int.not_le, gt_iff_lt, ge_iff_le] at hs45)
              refine TC.seq ?_
              refine TC.region ?_
              refine' TL.y rfl rfl rfl ?hy37 ?_
              case hy37 => exact Yl.move rfl rfl
              refine' TL.y rfl rfl rfl ?hy38 ?_
              case hy38 => exact Yl.assign rfl rfl
              refine TL.nil ?_
              refine TE.next ?_
              refine TC.ret ?_
              refine TE.inRet ?_
              refine TE.thenRet ?_
              refine TE.thenRet ?_
              refine TE.inRet ?_
              refine TE.inRet ?_
              refine TE.thenRet ?_
              refine TE.thenRet ?_
              refine TE.inRet ?_
              refine TE.thenRet ?_
              refine TE.ret1 rfl rfl ?_
              exact fun w h => ⟨rfl, (h.sub (List.nil_sublist _)).below⟩
            · skip
              (try simp only [decide_eq_true_eq, decide_eq_false_iff_not, beq_iff_eq, beq_eq_false_iff_ne, bne_iff_ne, ne_eq, bne_eq_false_iff_eq, Bool.not_eq_true', Bool.not_eq_false', Int.not_lt, Int.not_le, gt_iff_lt, ge_iff_le] at hs45)
              refine TC.skip ?_
              refine TE.inNormal ?_
              refine TE.next ?_
              refine TC.region ?_
              refine' TL.y rfl rfl rfl ?hy39 ?_
              case hy39 => exact Yl.move rfl rfl
              refine' TL.y rfl rfl rfl ?hy40 ?_
              case hy40 => first | (refine Yl.val (Yl.bin rfl rfl rfl (Bin.add _ _ _ _)) (congrArg (Value.int .i64) (i64in ?_ ?_)) <;> omega) | exact Yl.bin rfl rfl rfl (Bin.add _ _ _ _)
              refine' TL.y rfl rfl rfl ?hy41 ?_
              case hy41 => exact Yl.assign rfl rfl
              refine TL.nil ?_
              refine TE.round (k + 1) ?hF42 ?hlt42 ?hs42 ?hm42
              case hF42 => exact ⟨by omega, fun a h1 => by
                by_cases e : a = k
                · rw [e]; exact hs45
                · exact hk a (by omega)⟩
              case hlt42 => omega
              case hs42 => exact ⟨rfl, rfl, rfl, rfl, rfl, rfl, trivial⟩
              case hm42 => exact fun _ h => h
          · skip
            (try simp only [decide_eq_true_eq, decide_eq_false_iff_not, beq_iff_eq, beq_eq_false_iff_ne, bne_iff_ne, ne_eq, bne_eq_false_iff_eq, Bool.not_eq_true', Bool.not_eq_false', Int.not_lt, Int.not_le, gt_iff_lt, ge_iff_le] at hs32)
            obtain rfl : i = k := by omega
            refine TC.exit ?_
            refine TE.thenExit ?_
            refine TE.thenExit ?_
            refine TE.inHere ?_
            refine TE.inNormal ?_
            refine TE.next ?_
            refine TC.region ?_
            refine' TL.y rfl rfl rfl ?hy43 ?_
            case hy43 => exact Yl.move rfl rfl
            refine' TL.y rfl rfl rfl ?hy44 ?_
            case hy44 => first | (refine Yl.val (Yl.bin rfl rfl rfl (Bin.add _ _ _ _)) (congrArg (Value.int .i64) (i64in ?_ ?_)) <;> omega) | exact Yl.bin rfl rfl rfl (Bin.add _ _ _ _)
            refine' TL.y rfl rfl rfl ?hy45 ?_
            case hy45 => exact Yl.assign rfl rfl
            refine TL.nil ?_
            refine TE.round (i + 1) ?hF46 ?hlt46 ?hs46 ?hm46
            case hF46 => exact ⟨by omega, fun a c h1 h2 => by
              by_cases e : c = i
              · rw [e]; exact hk a (by omega)
              · exact hd a c h1 (by omega)⟩
            case hlt46 => omega
            case hs46 => exact ⟨rfl, rfl, rfl, rfl, rfl, trivial⟩
            case hm46 => exact fun _ h => h
      · skip
        (try simp only [decide_eq_true_eq, decide_eq_false_iff_not, beq_iff_eq, beq_eq_false_iff_ne, bne_iff_ne, ne_eq, bne_eq_false_iff_eq, Bool.not_eq_true', Bool.not_eq_false', Int.not_lt, Int.not_le, gt_iff_lt, ge_iff_le] at hs27)
        obtain rfl : m = i := by omega
        refine TC.exit ?_
        refine TE.thenExit ?_
        refine TE.thenExit ?_
        refine TE.inHere ?_
        refine TE.next ?_
        refine TC.seq ?_
        refine TC.seq ?_
        refine TC.region ?_
        refine' TL.y rfl rfl rfl ?hy47 ?_
        case hy47 => exact Yl.assign rfl rfl
        refine TL.nil ?_
        refine TE.next ?_
        refine TC.block ?_
        refine TC.loop (σ := Nat × St × St) (fun s => [(0, .slice A m cp), (3, .bool true), (4, .pointer (some ⟨b, 0, none⟩)), (5, .pointer (some ⟨d, 0, none⟩)), (8, .int .i64 (s.1 : Int))]) (fun s => Hp W (fun _ => False) [tabR s.2.2, tabR s.2.1]) (fun s => s.1 ≤ m ∧ Tab s.2.1 (stS f s.1) b ∧ Tab s.2.2 (stS (fun j => f (m - 1 - j)) s.1) d) (fun s => m - s.1) (0, st0 b, st0 d) ?hF48 ?hs48 ?hm48 ?round48
        case hF48 => exact ⟨Nat.zero_le _, by show Tab _ (stS f 0) b; rw [stS]; exact Tab.new b, by show Tab _ (stS _ 0) d; rw [stS]; exact Tab.new d⟩
        case hs48 => exact ⟨rfl, rfl, rfl, rfl, rfl, trivial⟩
        case hm48 => exact fun _ h => h
        case round48 =>
          rintro ⟨i, sta, stb⟩ ⟨hi, hTa, hTb⟩
          dsimp only at hi hTa hTb ⊢
          refine TC.seq ?_
          refine TC.seq ?_
          refine TC.region ?_
          refine' TL.y rfl rfl rfl ?hy49 ?_
          case hy49 => exact Yl.move rfl rfl
          refine' TL.y rfl rfl rfl ?hy50 ?_
          case hy50 => exact Yl.move rfl rfl
          refine' TL.y rfl rfl rfl ?hy51 ?_
          case hy51 => exact Yl.len rfl rfl Try.underlying22
          refine' TL.y rfl rfl rfl ?hy52 ?_
          case hy52 => exact Yl.bin rfl rfl rfl (Bin.lss _ _ _ _)
          refine TL.nil ?_
          refine TE.next ?_
          refine TC.cond rfl (fun hs50 => ?_) (fun hs50 => ?_)
          · skip
            (try simp only [decide_eq_true_eq, decide_eq_false_iff_not, beq_iff_eq, beq_eq_false_iff_ne, bne_iff_ne, ne_eq, bne_eq_false_iff_eq, Bool.not_eq_true', Bool.not_eq_false', Int.not_lt, Int.not_le, gt_iff_lt, ge_iff_le] at hs50)
            have him : i < m := by omega
            obtain ⟨b0, o0, rfl⟩ := Sl.some2 hS (by rw [Aw_length]; omega)
            refine TC.skip ?_
            refine TE.next ?_
            refine TC.seq ?_
            refine TC.block ?_
            refine TC.seq ?_
            refine TC.draw (k := 12) (Hp W (fun _ => False) []) [] #[false, false, false, false, false, false, false, false, false, false, false, false] (by kernel_rfl) rfl rfl (fun _ h => h.drew) (fun _ h => by exact Hp.sub h (by repeat (first | exact List.Sublist.refl _ | exact List.nil_sublist _ | apply List.Sublist.cons_cons | apply List.Sublist.cons))) ?_
            refine' TA.y (i := 0) #[true, false, false, false, false, false, false, false, false, false, false, false] rfl rfl rfl (by kernel_rfl) (fun _ _ _ h => h) (fun _ h => by exact Hp.sub h (by repeat (first | exact List.Sublist.refl _ | exact List.nil_sublist _ | apply List.Sublist.cons_cons | apply List.Sublist.cons))) rfl ?hy53 ?_
            case hy53 => exact Yl.move rfl rfl
            refine' TA.y (i := 1) #[true, true, false, false, false, false, false, false, false, false, false, false] rfl rfl rfl (by kernel_rfl) (fun _ _ _ h => h) (fun _ h => by exact Hp.sub h (by repeat (first | exact List.Sublist.refl _ | exact List.nil_sublist _ | apply List.Sublist.cons_cons | apply List.Sublist.cons))) rfl ?hy54 ?_
            case hy54 => exact Yl.move rfl rfl
            refine' TA.y (i := 2) #[true, true, true, false, false, false, false, false, false, false, false, false] rfl rfl rfl (by kernel_rfl) (fun _ _ _ h => h) (fun _ h => by exact Hp.sub h (by repeat (first | exact List.Sublist.refl _ | exact List.nil_sublist _ | apply List.Sublist.cons_cons | apply List.Sublist.cons))) rfl ?hy55 ?_
            case hy55 => exact Yl.move rfl rfl
            refine' TA.y (i := 3) #[true, true, true, true, false, false, false, false, false, false, false, false] rfl rfl rfl (by kernel_rfl) (fun _ _ _ h => h) (fun _ h => by exact Hp.sub h (by repeat (first | exact List.Sublist.refl _ | exact List.nil_sublist _ | apply List.Sublist.cons_cons | apply List.Sublist.cons))) rfl ?hy56 ?_
            case hy56 => first | exact Yl.ixkn (k := 3) rfl rfl rfl Try.underlying22 (by kernel_rfl) (by omega) | exact Yl.ixkz (k := 3) rfl rfl rfl Try.underlying22 (by kernel_rfl) (by omega) (by omega)
            refine' TA.y (i := 4) #[true, true, true, true, true, false, false, false, false, false, false, false] rfl rfl rfl (by kernel_rfl) (fun _ _ _ h => h) (fun _ h => by exact Hp.sub h (by repeat (first | exact List.Sublist.refl _ | exact List.nil_sublist _ | apply List.Sublist.cons_cons | apply List.Sublist.cons))) rfl ?hy57 ?_
            case hy57 => first | exact Yl.field0 (k := 0) 0 rfl rfl Try.underlying30 rfl (by kernel_rfl) rfl | exact Yl.field (k := 0) 0 rfl rfl Try.underlying30 rfl (by kernel_rfl) rfl
            refine' TA.y (i := 5) #[true, true, true, true, true, true, false, false, false, false, false, false] rfl rfl rfl (by kernel_rfl) (fun _ _ _ h => h) (fun _ h => by exact Hp.sub h (by repeat (first | exact List.Sublist.refl _ | exact List.nil_sublist _ | apply List.Sublist.cons_cons | apply List.Sublist.cons))) rfl ?hy58 ?_
            case hy58 => exact Yl.load rfl rfl (by kernel_rfl) (Sl.aw hS (i := 0) rfl (by omega) (by decide))
            refine TA.re (i := 58) (v' := .int .i64 ((f i).1)) rfl rfl ?_
            refine' TA.y (i := 6) #[true, true, true, true, true, true, true, false, false, false, false, false] rfl rfl rfl (by kernel_rfl) (fun _ _ _ h => h) (fun _ h => by exact Hp.sub h (by repeat (first | exact List.Sublist.refl _ | exact List.nil_sublist _ | apply List.Sublist.cons_cons | apply List.Sublist.cons))) rfl ?hy59 ?_
            case hy59 => exact Yl.move rfl rfl
            refine' TA.y (i := 7) #[true, true, true, true, true, true, true, true, false, false, false, false] rfl rfl rfl (by kernel_rfl) (fun _ _ _ h => h) (fun _ h => by exact Hp.sub h (by repeat (first | exact List.Sublist.refl _ | exact List.nil_sublist _ | apply List.Sublist.cons_cons | apply List.Sublist.cons))) rfl ?hy60 ?_
            case hy60 => exact Yl.move rfl rfl
            refine' TA.y (i := 8) #[true, true, true, true, true, true, true, true, true, false, false, false] rfl rfl rfl (by kernel_rfl) (fun _ _ _ h => h) (fun _ h => by exact Hp.sub h (by repeat (first | exact List.Sublist.refl _ | exact List.nil_sublist _ | apply List.Sublist.cons_cons | apply List.Sublist.cons))) rfl ?hy61 ?_
            case hy61 => first | exact Yl.ixkn (k := 3) rfl rfl rfl Try.underlying22 (by kernel_rfl) (by omega) | exact Yl.ixkz (k := 3) rfl rfl rfl Try.underlying22 (by kernel_rfl) (by omega) (by omega)
            refine' TA.y (i := 9) #[true, true, true, true, true, true, true, true, true, true, false, false] rfl rfl rfl (by kernel_rfl) (fun _ _ _ h => h) (fun _ h => by exact Hp.sub h (by repeat (first | exact List.Sublist.refl _ | exact List.nil_sublist _ | apply List.Sublist.cons_cons | apply List.Sublist.cons))) rfl ?hy62 ?_
            case hy62 => first | exact Yl.field0 (k := 0) 1 rfl rfl Try.underlying30 rfl (by kernel_rfl) rfl | exact Yl.field (k := 0) 1 rfl rfl Try.underlying30 rfl (by kernel_rfl) rfl
            refine' TA.y (i := 10) #[true, true, true, true, true, true, true, true, true, true, true, false] rfl rfl rfl (by kernel_rfl) (fun _ _ _ h => h) (fun _ h => by exact Hp.sub h (by repeat (first | exact List.Sublist.refl _ | exact List.nil_sublist _ | apply List.Sublist.cons_cons | apply List.Sublist.cons))) rfl ?hy63 ?_
            case hy63 => exact Yl.load rfl rfl (by kernel_rfl) (Sl.aw hS (i := 1) rfl (by omega) (by decide))
            refine TA.re (i := 63) (v' := .int .u64 ((f i).2.1)) rfl rfl ?_
            refine' TA.c (i := 11) #[true, true, true, true, true, true, true, true, true, true, true, true] rfl rfl rfl (by kernel_rfl) (by decide) rfl ?hy64 ?hz64 ?_
            case hy64 => exact Yc.call rfl Try.func12 (by kernel_rfl) rfl rfl (Hp.turnx mem1 (fun s => foc1) (k_set hTa (f i).1 (f i).2.1))
            case hz64 => exact (fun _ _ h => by exact Hp.sub h (by repeat (first | exact List.Sublist.refl _ | apply List.Sublist.cons)))
            intro ⟨st2, hT2⟩
            dsimp only
            refine TA.done (by kernel_rfl) ?_
            refine TE.next ?_
            refine TC.draw (k := 20) (Hp W (fun _ => False) []) [] #[false, false, false, false, false, false, false, false, false, false, false, false, false, false, false, false, false, false, false, false] (by kernel_rfl) rfl rfl (fun _ h => h.drew) (fun _ h => by exact Hp.sub h (by repeat (first | exact List.Sublist.refl _ | exact List.nil_sublist _ | apply List.Sublist.cons_cons | apply List.Sublist.cons))) ?_
            refine' TA.y (i := 0) #[true, false, false, false, false, false, false, false, false, false, false, false, false, false, false, false, false, false, false, false] rfl rfl rfl (by kernel_rfl) (fun _ _ _ h => h) (fun _ h => by exact Hp.sub h (by repeat (first | exact List.Sublist.refl _ | exact List.nil_sublist _ | apply List.Sublist.cons_cons | apply List.Sublist.cons))) rfl ?hy65 ?_
            case hy65 => exact Yl.move rfl rfl
            refine' TA.y (i := 1) #[true, true, false, false, false, false, false, false, false, false, false, false, false, false, false, false, false, false, false, false] rfl rfl rfl (by kernel_rfl) (fun _ _ _ h => h) (fun _ h => by exact Hp.sub h (by repeat (first | exact List.Sublist.refl _ | exact List.nil_sublist _ | apply List.Sublist.cons_cons | apply List.Sublist.cons))) rfl ?hy66 ?_
            case hy66 => exact Yl.move rfl rfl
            refine' TA.y (i := 2) #[true, true, true, false, false, false, false, false, false, false, false, false, false, false, false, false, false, false, false, false] rfl rfl rfl (by kernel_rfl) (fun _ _ _ h => h) (fun _ h => by exact Hp.sub h (by repeat (first | exact List.Sublist.refl _ | exact List.nil_sublist _ | apply List.Sublist.cons_cons | apply List.Sublist.cons))) rfl ?hy67 ?_
            case hy67 => exact Yl.move rfl rfl
            refine' TA.y (i := 3) #[true, true, true, true, false, false, false, false, false, false, false, false, false, false, false, false, false, false, false, false] rfl rfl rfl (by kernel_rfl) (fun _ _ _ h => h) (fun _ h => by exact Hp.sub h (by repeat (first | exact List.Sublist.refl _ | exact List.nil_sublist _ | apply List.Sublist.cons_cons | apply List.Sublist.cons))) rfl ?hy68 ?_
            case hy68 => exact Yl.len rfl rfl Try.underlying22
            refine' TA.y (i := 4) #[true, true, true, true, true, false, false, false, false, false, false, false, false, false, false, false, false, false, false, false] rfl rfl rfl (by kernel_rfl) (fun _ _ _ h => h) (fun _ h => by exact Hp.sub h (by repeat (first | exact List.Sublist.refl _ | exact List.nil_sublist _ | apply List.Sublist.cons_cons | apply List.Sublist.cons))) rfl ?hy69 ?_
            case hy69 => first | (refine Yl.val (Yl.bin rfl rfl rfl (Bin.sub _ _ _ _)) (congrArg (Value.int .i64) (i64in ?_ ?_)) <;> omega) | exact Yl.bin rfl rfl rfl (Bin.sub _ _ _ _)
            refine' TA.y (i := 5) #[true, true, true, true, true, true, false, false, false, false, false, false, false, false, false, false, false, false, false, false] rfl rfl rfl (by kernel_rfl) (fun _ _ _ h => h) (fun _ h => by exact Hp.sub h (by repeat (first | exact List.Sublist.refl _ | exact List.nil_sublist _ | apply List.Sublist.cons_cons | apply List.Sublist.cons))) rfl ?hy70 ?_
            case hy70 => exact Yl.move rfl rfl
            refine' TA.y (i := 6) #[true, true, true, true, true, true, true, false, false, false, false, false, false, false, false, false, false, false, false, false] rfl rfl rfl (by kernel_rfl) (fun _ _ _ h => h) (fun _ h => by exact Hp.sub h (by repeat (first | exact List.Sublist.refl _ | exact List.nil_sublist _ | apply List.Sublist.cons_cons | apply List.Sublist.cons))) rfl ?hy71 ?_
            case hy71 => first | (refine Yl.val (Yl.bin rfl rfl rfl (Bin.sub _ _ _ _)) (congrArg (Value.int .i64) (i64in ?_ ?_)) <;> omega) | exact Yl.bin rfl rfl rfl (Bin.sub _ _ _ _)
            refine TA.re (i := 71) (v' := .int .i64 ((m - 1 - i : Nat) : Int)) rfl (congrArg (Value.int .i64) (by omega)) ?_
            refine' TA.y (i := 7) #[true, true, true, true, true, true, true, true, false, false, false, false, false, false, false, false, false, false, false, false] rfl rfl rfl (by kernel_rfl) (fun _ _ _ h => h) (fun _ h => by exact Hp.sub h (by repeat (first | exact List.Sublist.refl _ | exact List.nil_sublist _ | apply List.Sublist.cons_cons | apply List.Sublist.cons))) rfl ?hy72 ?_
            case hy72 => first | exact Yl.ixkn (k := 3) rfl rfl rfl Try.underlying22 (by kernel_rfl) (by omega) | exact Yl.ixkz (k := 3) rfl rfl rfl Try.underlying22 (by kernel_rfl) (by omega) (by omega)
            refine' TA.y (i := 8) #[true, true, true, true, true, true, true, true, true, false, false, false, false, false, false, false, false, false, false, false] rfl rfl rfl (by kernel_rfl) (fun _ _ _ h => h) (fun _ h => by exact Hp.sub h (by repeat (first | exact List.Sublist.refl _ | exact List.nil_sublist _ | apply List.Sublist.cons_cons | apply List.Sublist.cons))) rfl ?hy73 ?_
            case hy73 => first | exact Yl.field0 (k := 0) 0 rfl rfl Try.underlying30 rfl (by kernel_rfl) rfl | exact Yl.field (k := 0) 0 rfl rfl Try.underlying30 rfl (by kernel_rfl) rfl
            refine' TA.y (i := 9) #[true, true, true, true, true, true, true, true, true, true, false, false, false, false, false, false, false, false, false, false] rfl rfl rfl (by kernel_rfl) (fun _ _ _ h => h) (fun _ h => by exact Hp.sub h (by repeat (first | exact List.Sublist.refl _ | exact List.nil_sublist _ | apply List.Sublist.cons_cons | apply List.Sublist.cons))) rfl ?hy74 ?_
            case hy74 => exact Yl.load rfl rfl (by kernel_rfl) (Sl.aw hS (i := 0) rfl (by omega) (by decide))
            refine TA.re (i := 74) (v' := .int .i64 ((f (m - 1 - i)).1)) rfl rfl ?_
            refine' TA.y (i := 10) #[true, true, true, true, true, true, true, true, true, true, true, false, false, false, false, false, false, false, false, false] rfl rfl rfl (by kernel_rfl) (fun _ _ _ h => h) (fun _ h => by exact Hp.sub h (by repeat (first | exact List.Sublist.refl _ | exact List.nil_sublist _ | apply List.Sublist.cons_cons | apply List.Sublist.cons))) rfl ?hy75 ?_
            case hy75 => exact Yl.move rfl rfl
            refine' TA.y (i := 11) #[true, true, true, true, true, true, true, true, true, true, true, true, false, false, false, false, false, false, false, false] rfl rfl rfl (by kernel_rfl) (fun _ _ _ h => h) (fun _ h => by exact Hp.sub h (by repeat (first | exact List.Sublist.refl _ | exact List.nil_sublist _ | apply List.Sublist.cons_cons | apply List.Sublist.cons))) rfl ?hy76 ?_
            case hy76 => exact Yl.move rfl rfl
            refine' TA.y (i := 12) #[true, true, true, true, true, true, true, true, true, true, true, true, true, false, false, false, false, false, false, false] rfl rfl rfl (by kernel_rfl) (fun _ _ _ h => h) (fun _ h => by exact Hp.sub h (by repeat (first | exact List.Sublist.refl _ | exact List.nil_sublist _ | apply List.Sublist.cons_cons | apply List.Sublist.cons))) rfl ?hy77 ?_
            case hy77 => exact Yl.len rfl rfl Try.underlying22
            refine' TA.y (i := 13) #[true, true, true, true, true, true, true, true, true, true, true, true, true, true, false, false, false, false, false, false] rfl rfl rfl (by kernel_rfl) (fun _ _ _ h => h) (fun _ h => by exact Hp.sub h (by repeat (first | exact List.Sublist.refl _ | exact List.nil_sublist _ | apply List.Sublist.cons_cons | apply List.Sublist.cons))) rfl ?hy78 ?_
            case hy78 => first | (refine Yl.val (Yl.bin rfl rfl rfl (Bin.sub _ _ _ _)) (congrArg (Value.int .i64) (i64in ?_ ?_)) <;> omega) | exact Yl.bin rfl rfl rfl (Bin.sub _ _ _ _)
            refine' TA.y (i := 14) #[true, true, true, true, true, true, true, true, true, true, true, true, true, true, true, false, false, false, false, false] rfl rfl rfl (by kernel_rfl) (fun _ _ _ h => h) (fun _ h => by exact Hp.sub h (by repeat (first | exact List.Sublist.refl _ | exact List.nil_sublist _ | apply List.Sublist.cons_cons | apply List.Sublist.cons))) rfl ?hy79 ?_
            case hy79 => exact Yl.move rfl rfl
            refine' TA.y (i := 15) #[true, true, true, true, true, true, true, true, true, true, true, true, true, true, true, true, false, false, false, false] rfl rfl rfl (by kernel_rfl) (fun _ _ _ h => h) (fun _ h => by exact Hp.sub h (by repeat (first | exact List.Sublist.refl _ | exact List.nil_sublist _ | apply List.Sublist.cons_cons | apply List.Sublist.cons))) rfl ?hy80 ?_
            case hy80 => first | (refine Yl.val (Yl.bin rfl rfl rfl (Bin.sub _ _ _ _)) (congrArg (Value.int .i64) (i64in ?_ ?_)) <;> omega) | exact Yl.bin rfl rfl rfl (Bin.sub _ _ _ _)
            refine TA.re (i := 80) (v' := .int .i64 ((m - 1 - i : Nat) : Int)) rfl (congrArg (Value.int .i64) (by omega)) ?_
            refine' TA.y (i := 16) #[true, true, true, true, true, true, true, true, true, true, true, true, true, true, true, true, true, false, false, false] rfl rfl rfl (by kernel_rfl) (fun _ _ _ h => h) (fun _ h => by exact Hp.sub h (by repeat (first | exact List.Sublist.refl _ | exact List.nil_sublist _ | apply List.Sublist.cons_cons | apply List.Sublist.cons))) rfl ?hy81 ?_
            case hy81 => first | exact Yl.ixkn (k := 3) rfl rfl rfl Try.underlying22 (by kernel_rfl) (by omega) | exact Yl.ixkz (k := 3) rfl rfl rfl Try.underlying22 (by kernel_rfl) (by omega) (by omega)
            refine' TA.y (i := 17) #[true, true, true, true, true, true, true, true, true, true, true, true, true, true, true, true, true, true, false, false] rfl rfl rfl (by kernel_rfl) (fun _ _ _ h => h) (fun _ h => by exact Hp.sub h (by repeat (first | exact List.Sublist.refl _ | exact List.nil_sublist _ | apply List.Sublist.cons_cons | apply List.Sublist.cons))) rfl ?hy82 ?_
            case hy82 => first | exact Yl.field0 (k := 0) 1 rfl rfl Try.underlying30 rfl (by kernel_rfl) rfl | exact Yl.field (k := 0) 1 rfl rfl Try.underlying30 rfl (by kernel_rfl) rfl
            refine' TA.y (i := 18) #[true, true, true, true, true, true, true, true, true, true, true, true, true, true, true, true, true, true, true, false] rfl rfl rfl (by kernel_rfl) (fun _ _ _ h => h) (fun _ h => by exact Hp.sub h (by repeat (first | exact List.Sublist.refl _ | exact List.nil_sublist _ | apply List.Sublist.cons_cons | apply List.Sublist.cons))) rfl ?hy83 ?_
            case hy83 => exact Yl.load rfl rfl (by kernel_rfl) (Sl.aw hS (i := 1) rfl (by omega) (by decide))
            refine TA.re (i := 83) (v' := .int .u64 ((f (m - 1 - i)).2.1)) rfl rfl ?_
            refine' TA.c (i := 19) #[true, true, true, true, true, true, true, true, true, true, true, true, true, true, true, true, true, true, true, true] rfl rfl rfl (by kernel_rfl) (by decide) rfl ?hy84 ?hz84 ?_
            case hy84 => exact Yc.call rfl Try.func12 (by kernel_rfl) rfl rfl (Hp.turnx mem0 (fun s => foc0) (k_set hTb (f (m - 1 - i)).1 (f (m - 1 - i)).2.1))
            case hz84 => exact (fun _ _ h => by exact Hp.sub h (by repeat (first | exact List.Sublist.refl _ | apply List.Sublist.cons)))
            intro ⟨st3, hT3⟩
            dsimp only
            refine TA.done (by kernel_rfl) ?_
            refine TE.inNormal ?_
            refine TE.next ?_
            refine TC.region ?_
            refine' TL.y rfl rfl rfl ?hy85 ?_
            case hy85 => exact Yl.move rfl rfl
            refine' TL.y rfl rfl rfl ?hy86 ?_
            case hy86 => first | (refine Yl.val (Yl.bin rfl rfl rfl (Bin.add _ _ _ _)) (congrArg (Value.int .i64) (i64in ?_ ?_)) <;> omega) | exact Yl.bin rfl rfl rfl (Bin.add _ _ _ _)
            refine' TL.y rfl rfl rfl ?hy87 ?_
            case hy87 => exact Yl.assign rfl rfl
            refine TL.nil ?_
            refine TE.round (i + 1, st2, st3) ?hF88 ?hlt88 ?hs88 ?hm88
            case hF88 => exact ⟨by dsimp only; omega, by show Tab st2 (stS f (i + 1)) b; rw [stS]; exact hT2, by show Tab st3 (stS _ (i + 1)) d; rw [stS]; exact hT3⟩
            case hlt88 => dsimp only; omega
            case hs88 => exact ⟨rfl, rfl, rfl, rfl, rfl, trivial⟩
            case hm88 => exact fun _ h => h
          · skip
            (try simp only [decide_eq_true_eq, decide_eq_false_iff_not, beq_iff_eq, beq_eq_false_iff_ne, bne_iff_ne, ne_eq, bne_eq_false_iff_eq, Bool.not_eq_true', Bool.not_eq_false', Int.not_lt, Int.not_le, gt_iff_lt, ge_iff_le] at hs50)
            obtain rfl : m = i := by omega
            have hrev : (stS (fun j => f (m - 1 - j)) m) = (stS f m) := stS_rev hd (fun _ _ => rfl)
            refine TC.exit ?_
            refine TE.thenExit ?_
            refine TE.thenExit ?_
            refine TE.inHere ?_
            refine TE.next ?_
            refine TC.seq ?_
            refine TC.region ?_
            refine' TL.y rfl rfl rfl ?hy89 ?_
            case hy89 => exact Yl.move rfl rfl
            refine' TL.c rfl rfl rfl ?hy90 ?_
            case hy90 => exact Yc.call rfl Try.func13 (by kernel_rfl) rfl rfl (Hp.news (fun w h => k_walkT w (h.all _ mem1) hTa 0 65536))
            intro v86
            refine TL.fact (fun w h => Hp.rowShape mem0 w h) ?_
            rintro ⟨A86, c86, rfl⟩
            refine' TL.y rfl rfl rfl ?hy91 ?_
            case hy91 => exact Yl.assign rfl rfl
            refine TL.nil ?_
            refine TE.next ?_
            refine TC.seq ?_
            refine TC.seq ?_
            refine TC.region ?_
            refine' TL.y rfl rfl rfl ?hy92 ?_
            case hy92 => exact Yl.move rfl rfl
            refine' TL.y rfl rfl rfl ?hy93 ?_
            case hy93 => exact Yl.move rfl rfl
            refine' TL.c rfl rfl rfl ?hy94 ?_
            case hy94 => exact Yc.call rfl Try.func13 (by kernel_rfl) rfl rfl (Hp.news (fun w h => k_walkT w (h.all _ mem1) hTb 0 65536))
            intro v89
            refine TL.fact (fun w h => Hp.rowShape mem0 w h) ?_
            rintro ⟨A89, c89, rfl⟩
            refine' TL.c rfl rfl rfl ?hy95 ?_
            case hy95 => exact Yc.call rfl Try.func15 (by kernel_rfl) rfl rfl (Hp.calls (fun w h => k_rowL w (Hp.rowSl mem1 w h) (Hp.rowSl mem0 w h) (by have := walkL_len (stS f m) 0 65536; omega)))
            intro _
            refine TL.re (i := 90) (v' := .bool true) rfl (congrArg Value.bool (decide_eq_true (by rw [hrev]))) ?_
            refine' TL.y rfl rfl rfl ?hy96 ?_
            case hy96 => exact Yl.not rfl rfl
            refine' TL.y rfl rfl rfl ?hy97 ?_
            case hy97 => exact Yl.move rfl rfl
            refine' TL.y rfl rfl rfl ?hy98 ?_
            case hy98 => exact Yl.move rfl rfl
            refine' TL.c rfl rfl rfl ?hy99 ?_
            case hy99 => exact Yc.call rfl Try.func17 (by kernel_rfl) rfl rfl (Hp.calls (fun w h => k_nodesT w (h.all _ mem3) hTa))
            intro _
            refine' TL.y rfl rfl rfl ?hy100 ?_
            case hy100 => exact Yl.move rfl rfl
            refine' TL.c rfl rfl rfl ?hy101 ?_
            case hy101 => exact Yc.call rfl Try.func17 (by kernel_rfl) rfl rfl (Hp.calls (fun w h => k_nodesT w (h.all _ mem2) hTb))
            intro _
            rw [hrev]
            refine' TL.y rfl rfl rfl ?hy102 ?_
            case hy102 => exact Yl.bin rfl rfl rfl (Bin.neq _ _ _ _)
            refine' TL.y rfl rfl rfl ?hy103 ?_
            case hy103 => exact Yl.pickF rfl rfl rfl
            refine TL.nil ?_
            refine TE.next ?_
            refine TC.no rfl (by simp) ?_
            refine TC.skip ?_
            refine TE.next ?_
            refine TC.seq ?_
            refine TC.seq ?_
            refine TC.region ?_
            refine' TL.y rfl rfl rfl ?hy104 ?_
            case hy104 => exact Yl.assign rfl rfl
            refine TL.nil ?_
            refine TE.next ?_
            refine TC.block ?_
            refine TC.loop (σ := Nat) (fun i => [(3, .bool true), (4, .pointer (some ⟨b, 0, none⟩)), (5, .pointer (some ⟨d, 0, none⟩)), (9, .slice A86 (walkL (stS f m) 0 65536).length c86), (10, .int .i64 (i : Int))]) (fun i => Hp W (fun _ => False) [rowI (.slice A86 (walkL (stS f m) 0 65536).length c86) (walkL (stS f m) 0 65536), tabR stb, tabR sta]) (fun i => i ≤ (walkL (stS f m) 0 65536).length) (fun i => (walkL (stS f m) 0 65536).length - i) 0 ?hF105 ?hs105 ?hm105 ?round105
            case hF105 => exact Nat.zero_le _
            case hs105 => exact ⟨rfl, rfl, rfl, rfl, rfl, trivial⟩
            case hm105 => exact fun w h => h.sub (List.sublist_cons_self _ _)
            case round105 =>
              intro i hi
              have hwl := walkL_len (stS f m) 0 65536
              refine TC.seq ?_
              refine TC.seq ?_
              refine TC.region ?_
              refine' TL.y rfl rfl rfl ?hy106 ?_
              case hy106 => exact Yl.move rfl rfl
              refine' TL.y rfl rfl rfl ?hy107 ?_
              case hy107 => exact Yl.move rfl rfl
              refine' TL.y rfl rfl rfl ?hy108 ?_
              case hy108 => exact Yl.len rfl rfl Try.underlying31
              refine' TL.y rfl rfl rfl ?hy109 ?_
              case hy109 => exact Yl.bin rfl rfl rfl (Bin.lss _ _ _ _)
              refine TL.nil ?_
              refine TE.next ?_
              refine TC.cond rfl (fun hs102 => ?_) (fun hs102 => ?_)
              · skip
                (try simp only [decide_eq_true_eq, decide_eq_false_iff_not, beq_iff_eq, beq_eq_false_iff_ne, bne_iff_ne, ne_eq, bne_eq_false_iff_eq, Bool.not_eq_true', Bool.not_eq_false', Int.not_lt, Int.not_le, gt_iff_lt, ge_iff_le] at hs102)
                have hil : i < (walkL (stS f m) 0 65536).length := by omega
                refine TC.fact (fun w h => Hp.rowSome mem0 (by omega) w h) ?_
                rintro ⟨g86, rfl⟩
                refine TC.skip ?_
                refine TE.next ?_
                refine TC.seq ?_
                refine TC.block ?_
                refine TC.seq ?_
                refine TC.region ?_
                refine' TL.y rfl rfl rfl ?hy110 ?_
                case hy110 => exact Yl.move rfl rfl
                refine' TL.y rfl rfl rfl ?hy111 ?_
                case hy111 => exact Yl.move rfl rfl
                refine' TL.y rfl rfl rfl ?hy112 ?_
                case hy112 => exact Yl.move rfl rfl
                refine' TL.y rfl rfl rfl ?hy113 ?_
                case hy113 => exact Yl.ixn rfl rfl rfl Try.underlying31 (by kernel_rfl) (by omega)
                refine' TL.y rfl rfl rfl ?hy114 ?_
                case hy114 => first | exact Yl.load rfl rfl (by kernel_rfl) (Hp.rowAtI mem0 (by omega)) | exact Yl.load rfl rfl (by kernel_rfl) (Hp.cell mem0 rfl) | exact Yl.load rfl rfl (by kernel_rfl) (Hp.cell mem1 rfl) | exact Yl.load rfl rfl (by kernel_rfl) (Hp.cell mem2 rfl) | exact Yl.load rfl rfl (by kernel_rfl) (Hp.cell mem3 rfl) | exact Yl.load rfl rfl (by kernel_rfl) (Hp.cell mem4 rfl) | exact Yl.load rfl rfl (by kernel_rfl) (Hp.rowAt mem0 (by omega) rfl) | exact Yl.load rfl rfl (by kernel_rfl) (Hp.rowAt mem1 (by omega) rfl) | exact Yl.load rfl rfl (by kernel_rfl) (Hp.rowAt mem2 (by omega) rfl) | exact Yl.load rfl rfl (by kernel_rfl) (Hp.rowAt mem3 (by omega) rfl) | exact Yl.load rfl rfl (by kernel_rfl) (Hp.rowAt mem4 (by omega) rfl)
                refine' TL.c rfl rfl rfl ?hy115 ?_
                case hy115 => exact Yc.call rfl Try.func14 (by kernel_rfl) rfl rfl (Hp.calls (fun w h => k_getT w (h.all _ mem2) hTa (gI (walkL (stS f m) 0 65536) i)))
                intro _
                refine' TL.y rfl rfl rfl ?hy116 ?_
                case hy116 => exact Yl.move rfl rfl
                refine' TL.y rfl rfl rfl ?hy117 ?_
                case hy117 => exact Yl.extract rfl rfl rfl
                refine' TL.y rfl rfl rfl ?hy118 ?_
                case hy118 => exact Yl.extract rfl rfl rfl
                refine' TL.y rfl rfl rfl ?hy119 ?_
                case hy119 => exact Yl.assign rfl rfl
                refine' TL.y rfl rfl rfl ?hy120 ?_
                case hy120 => exact Yl.assign rfl rfl
                refine TL.nil ?_
                refine TE.next ?_
                refine TC.seq ?_
                refine TC.region ?_
                refine' TL.y rfl rfl rfl ?hy121 ?_
                case hy121 => exact Yl.move rfl rfl
                refine' TL.y rfl rfl rfl ?hy122 ?_
                case hy122 => exact Yl.move rfl rfl
                refine' TL.y rfl rfl rfl ?hy123 ?_
                case hy123 => exact Yl.move rfl rfl
                refine' TL.y rfl rfl rfl ?hy124 ?_
                case hy124 => exact Yl.ixn rfl rfl rfl Try.underlying31 (by kernel_rfl) (by omega)
                refine' TL.y rfl rfl rfl ?hy125 ?_
                case hy125 => first | exact Yl.load rfl rfl (by kernel_rfl) (Hp.rowAtI mem0 (by omega)) | exact Yl.load rfl rfl (by kernel_rfl) (Hp.cell mem0 rfl) | exact Yl.load rfl rfl (by kernel_rfl) (Hp.cell mem1 rfl) | exact Yl.load rfl rfl (by kernel_rfl) (Hp.cell mem2 rfl) | exact Yl.load rfl rfl (by kernel_rfl) (Hp.cell mem3 rfl) | exact Yl.load rfl rfl (by kernel_rfl) (Hp.cell mem4 rfl) | exact Yl.load rfl rfl (by kernel_rfl) (Hp.rowAt mem0 (by omega) rfl) | exact Yl.load rfl rfl (by kernel_rfl) (Hp.rowAt mem1 (by omega) rfl) | exact Yl.load rfl rfl (by kernel_rfl) (Hp.rowAt mem2 (by omega) rfl) | exact Yl.load rfl rfl (by kernel_rfl) (Hp.rowAt mem3 (by omega) rfl) | exact Yl.load rfl rfl (by kernel_rfl) (Hp.rowAt mem4 (by omega) rfl)
                refine' TL.c rfl rfl rfl ?hy126 ?_
                case hy126 => exact Yc.call rfl Try.func14 (by kernel_rfl) rfl rfl (Hp.calls (fun w h => k_getT w (h.all _ mem1) hTb (gI (walkL (stS f m) 0 65536) i)))
                intro _
                rw [hrev]
                refine' TL.y rfl rfl rfl ?hy127 ?_
                case hy127 => exact Yl.move rfl rfl
                refine' TL.y rfl rfl rfl ?hy128 ?_
                case hy128 => exact Yl.extract rfl rfl rfl
                refine' TL.y rfl rfl rfl ?hy129 ?_
                case hy129 => exact Yl.extract rfl rfl rfl
                refine' TL.y rfl rfl rfl ?hy130 ?_
                case hy130 => exact Yl.assign rfl rfl
                refine' TL.y rfl rfl rfl ?hy131 ?_
                case hy131 => exact Yl.assign rfl rfl
                refine TL.nil ?_
                refine TE.next ?_
                refine TC.seq ?_
                refine TC.region ?_
                refine' TL.y rfl rfl rfl ?hy132 ?_
                case hy132 => exact Yl.move rfl rfl
                refine' TL.y rfl rfl rfl ?hy133 ?_
                case hy133 => exact Yl.move rfl rfl
                refine' TL.y rfl rfl rfl ?hy134 ?_
                case hy134 => exact Yl.bin rfl rfl rfl (Bin.neq _ _ _ _)
                refine TL.nil ?_
                refine TE.next ?_
                refine TC.no rfl (by simp) ?_
                refine TC.skip ?_
                refine TE.inNormal ?_
                refine TE.next ?_
                refine TC.region ?_
                refine' TL.y rfl rfl rfl ?hy135 ?_
                case hy135 => exact Yl.move rfl rfl
                refine' TL.y rfl rfl rfl ?hy136 ?_
                case hy136 => first | (refine Yl.val (Yl.bin rfl rfl rfl (Bin.add _ _ _ _)) (congrArg (Value.int .i64) (i64in ?_ ?_)) <;> omega) | exact Yl.bin rfl rfl rfl (Bin.add _ _ _ _)
                refine' TL.y rfl rfl rfl ?hy137 ?_
                case hy137 => exact Yl.assign rfl rfl
                refine TL.nil ?_
                refine TE.round (i + 1) ?hF138 ?hlt138 ?hs138 ?hm138
                case hF138 => omega
                case hlt138 => omega
                case hs138 => exact ⟨rfl, rfl, rfl, rfl, rfl, trivial⟩
                case hm138 => exact fun _ h => h
              · skip
                (try simp only [decide_eq_true_eq, decide_eq_false_iff_not, beq_iff_eq, beq_eq_false_iff_ne, bne_iff_ne, ne_eq, bne_eq_false_iff_eq, Bool.not_eq_true', Bool.not_eq_false', Int.not_lt, Int.not_le, gt_iff_lt, ge_iff_le] at hs102)
                refine TC.exit ?_
                refine TE.thenExit ?_
                refine TE.thenExit ?_
                refine TE.inHere ?_
                refine TE.next ?_
                refine TC.seq ?_
                refine TC.region ?_
                refine' TL.y rfl rfl rfl ?hy139 ?_
                case hy139 => exact Yl.move rfl rfl
                refine' TL.y rfl rfl rfl ?hy140 ?_
                case hy140 => exact Yl.assign rfl rfl
                refine TL.nil ?_
                refine TE.next ?_
                refine TC.ret ?_
                refine TE.ret1 rfl rfl ?_
                exact fun w h => ⟨rfl, (h.sub (List.nil_sublist _)).below⟩
end Go.Proofs.Ytbcdplhihkacpaa.Pk
