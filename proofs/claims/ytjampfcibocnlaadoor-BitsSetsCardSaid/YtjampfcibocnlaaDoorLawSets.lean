/- The walk through BitsSets. -/
import Derived.Test.YtjampfcibocnlaaDoorWorks
import Derived.Test.YtjampfcibocnlaaDoorOpen
import Derived.Test.YtjampfcibocnlaaDoorProg
import Derived.RowKit3
namespace Go.Proofs.YtjampfcibocnlaaDoor.Pk
open Go Go.RowKit Go.Proofs.YtjampfcibocnlaaDoor.HL Go.Proofs.YtjampfcibocnlaaDoor.BM
set_option linter.unusedVariables false
set_option linter.unusedSimpArgs false
attribute [local irreducible] rowA mapR rowR
set_option maxRecDepth 100000 in
set_option maxHeartbeats 2000000 in
theorem law_Sets (W : World) (hT : TabOK W) (n : Int) (l : List Open.E31) (A : Option Addr) (cp : Nat) (hS : Sl W A (l.flatMap Open.E31.cells)) (hw : ∀ x ∈ l, Open.wf31 x) (xl : l.length ≤ 9223372036854775807) (from_ : Int) (hf : from_ ≤ 9223372036854775807) (on : Bool) : Calls Tryd.prog 3 #[.int .i64 n, .slice A l.length cp, .int .i64 from_, .bool on] W fun e w' => e = .returned (.bool true) ∧ Below W.heap.size W w' := by
  have hM : Hp W (fun _ => False) [] W := Hp.start
  refine TC.enter (n := 121) Tryd.func3 rfl rfl rfl hM ?_
  refine TC.seq ?_
  refine TC.region ?_
  refine' TL.y rfl rfl rfl ?hy1 ?_
  case hy1 => exact Yl.assign rfl rfl
  refine TL.nil ?_
  refine TE.next ?_
  refine TC.seq ?_
  refine TC.region ?_
  refine' TL.c rfl rfl rfl ?hy2 ?_
  case hy2 => exact Yc.call rfl Tryd.func11 (by kernel_rfl) rfl rfl (Hp.calls (fun w h => k_works w (hT.below h.below)))
  intro _
  refine' TL.y rfl rfl rfl ?hy3 ?_
  case hy3 => exact Yl.assign rfl rfl
  refine TL.nil ?_
  refine TE.next ?_
  refine TC.seq ?_
  refine TC.seq ?_
  refine TC.region ?_
  refine' TL.y rfl rfl rfl ?hy4 ?_
  case hy4 => exact Yl.move rfl rfl
  refine' TL.y rfl rfl rfl ?hy5 ?_
  case hy5 => exact Yl.not rfl rfl
  refine TL.nil ?_
  refine TE.next ?_
  refine TC.no rfl rfl ?_
  refine TC.skip ?_
  refine TE.next ?_
  refine TC.meet (σ := Unit) (fun _ => [(0, .int .i64 n), (1, .slice A l.length cp), (2, .int .i64 from_), (3, .bool on), (9, .bool true)]) (fun _ => Hp W (fun _ => False) []) (fun _ => l.length ≤ 100) ?hx6 ?hy6
  case hx6 =>
    refine TC.seq ?_
    refine TC.region ?_
    refine' TL.y rfl rfl rfl ?hy7 ?_
    case hy7 => exact Yl.move rfl rfl
    refine' TL.y rfl rfl rfl ?hy8 ?_
    case hy8 => exact Yl.bin rfl rfl rfl (Bin.gtr _ _ _ _)
    refine' TL.y rfl rfl rfl ?hy9 ?_
    case hy9 => exact Yl.move rfl rfl
    refine TL.split (i := 20) rfl (fun hs20 => ?_) (fun hs20 => ?_)
    · skip
      (try simp only [decide_eq_true_eq, decide_eq_false_iff_not, beq_iff_eq, beq_eq_false_iff_ne, bne_iff_ne, ne_eq, bne_eq_false_iff_eq, Bool.not_eq_true', Bool.not_eq_false', Int.not_lt, Int.not_le, gt_iff_lt, ge_iff_le] at hs20)
      refine' TL.y rfl rfl rfl ?hy10 ?_
      case hy10 => exact Yl.move rfl rfl
      refine' TL.y rfl rfl rfl ?hy11 ?_
      case hy11 => exact Yl.bin rfl rfl rfl (Bin.leq _ _ _ _)
      refine' TL.y rfl rfl rfl ?hy12 ?_
      case hy12 => exact Yl.pickT rfl rfl rfl
      refine' TL.y rfl rfl rfl ?hy13 ?_
      case hy13 => exact Yl.move rfl rfl
      refine TL.split (i := 24) rfl (fun hs24 => ?_) (fun hs24 => ?_)
      · skip
        (try simp only [decide_eq_true_eq, decide_eq_false_iff_not, beq_iff_eq, beq_eq_false_iff_ne, bne_iff_ne, ne_eq, bne_eq_false_iff_eq, Bool.not_eq_true', Bool.not_eq_false', Int.not_lt, Int.not_le, gt_iff_lt, ge_iff_le] at hs24)
        refine TL.skip rfl rfl rfl ?_
        refine TL.skip rfl rfl rfl ?_
        refine TL.skip rfl rfl rfl ?_
        refine' TL.y rfl rfl rfl ?hy14 ?_
        case hy14 => exact Yl.pickT rfl rfl rfl
        refine TL.nil ?_
        refine TE.next ?_
        refine TC.yes rfl rfl ?_
        refine TC.seq ?_
        refine TC.region ?_
        refine' TL.y rfl rfl rfl ?hy15 ?_
        case hy15 => exact Yl.move rfl rfl
        refine' TL.y rfl rfl rfl ?hy16 ?_
        case hy16 => exact Yl.assign rfl rfl
        refine TL.nil ?_
        refine TE.next ?_
        refine TC.ret ?_
        refine TE.thenRet ?_
        refine TE.ret1 rfl rfl ?_
        exact fun w h => ⟨congrArg (fun b => Ending.returned (Value.bool b)) (by first | rfl | (simp; done) : _ = true), h.below⟩
      · skip
        (try simp only [decide_eq_true_eq, decide_eq_false_iff_not, beq_iff_eq, beq_eq_false_iff_ne, bne_iff_ne, ne_eq, bne_eq_false_iff_eq, Bool.not_eq_true', Bool.not_eq_false', Int.not_lt, Int.not_le, gt_iff_lt, ge_iff_le] at hs24)
        refine' TL.y rfl rfl rfl ?hy17 ?_
        case hy17 => exact Yl.move rfl rfl
        refine' TL.y rfl rfl rfl ?hy18 ?_
        case hy18 => exact Yl.len rfl rfl Tryd.underlying22
        refine' TL.y rfl rfl rfl ?hy19 ?_
        case hy19 => exact Yl.bin rfl rfl rfl (Bin.gtr _ _ _ _)
        refine' TL.y rfl rfl rfl ?hy20 ?_
        case hy20 => exact Yl.pickF rfl rfl rfl
        refine TL.nil ?_
        refine TE.next ?_
        refine TC.cond rfl (fun hs28 => ?_) (fun hs28 => ?_)
        · skip
          (try simp only [decide_eq_true_eq, decide_eq_false_iff_not, beq_iff_eq, beq_eq_false_iff_ne, bne_iff_ne, ne_eq, bne_eq_false_iff_eq, Bool.not_eq_true', Bool.not_eq_false', Int.not_lt, Int.not_le, gt_iff_lt, ge_iff_le] at hs28)
          refine TC.seq ?_
          refine TC.region ?_
          refine' TL.y rfl rfl rfl ?hy21 ?_
          case hy21 => exact Yl.move rfl rfl
          refine' TL.y rfl rfl rfl ?hy22 ?_
          case hy22 => exact Yl.assign rfl rfl
          refine TL.nil ?_
          refine TE.next ?_
          refine TC.ret ?_
          refine TE.thenRet ?_
          refine TE.ret1 rfl rfl ?_
          exact fun w h => ⟨congrArg (fun b => Ending.returned (Value.bool b)) (by first | rfl | (simp; done) : _ = true), h.below⟩
        · skip
          (try simp only [decide_eq_true_eq, decide_eq_false_iff_not, beq_iff_eq, beq_eq_false_iff_ne, bne_iff_ne, ne_eq, bne_eq_false_iff_eq, Bool.not_eq_true', Bool.not_eq_false', Int.not_lt, Int.not_le, gt_iff_lt, ge_iff_le] at hs28)
          refine TC.skip ?_
          refine TE.met () ?hF23 ?hs23 ?hm23
          case hF23 => omega
          case hs23 => exact ⟨rfl, rfl, rfl, rfl, rfl, trivial⟩
          case hm23 => exact fun _ h => h
    · skip
      (try simp only [decide_eq_true_eq, decide_eq_false_iff_not, beq_iff_eq, beq_eq_false_iff_ne, bne_iff_ne, ne_eq, bne_eq_false_iff_eq, Bool.not_eq_true', Bool.not_eq_false', Int.not_lt, Int.not_le, gt_iff_lt, ge_iff_le] at hs20)
      refine TL.skip rfl rfl rfl ?_
      refine TL.skip rfl rfl rfl ?_
      refine' TL.y rfl rfl rfl ?hy24 ?_
      case hy24 => exact Yl.pickF rfl rfl rfl
      refine' TL.y rfl rfl rfl ?hy25 ?_
      case hy25 => exact Yl.move rfl rfl
      refine' TL.y rfl rfl rfl ?hy26 ?_
      case hy26 => exact Yl.move rfl rfl
      refine' TL.y rfl rfl rfl ?hy27 ?_
      case hy27 => exact Yl.len rfl rfl Tryd.underlying22
      refine' TL.y rfl rfl rfl ?hy28 ?_
      case hy28 => exact Yl.bin rfl rfl rfl (Bin.gtr _ _ _ _)
      refine' TL.y rfl rfl rfl ?hy29 ?_
      case hy29 => exact Yl.pickF rfl rfl rfl
      refine TL.nil ?_
      refine TE.next ?_
      refine TC.cond rfl (fun hs28 => ?_) (fun hs28 => ?_)
      · skip
        (try simp only [decide_eq_true_eq, decide_eq_false_iff_not, beq_iff_eq, beq_eq_false_iff_ne, bne_iff_ne, ne_eq, bne_eq_false_iff_eq, Bool.not_eq_true', Bool.not_eq_false', Int.not_lt, Int.not_le, gt_iff_lt, ge_iff_le] at hs28)
        refine TC.seq ?_
        refine TC.region ?_
        refine' TL.y rfl rfl rfl ?hy30 ?_
        case hy30 => exact Yl.move rfl rfl
        refine' TL.y rfl rfl rfl ?hy31 ?_
        case hy31 => exact Yl.assign rfl rfl
        refine TL.nil ?_
        refine TE.next ?_
        refine TC.ret ?_
        refine TE.thenRet ?_
        refine TE.ret1 rfl rfl ?_
        exact fun w h => ⟨congrArg (fun b => Ending.returned (Value.bool b)) (by first | rfl | (simp; done) : _ = true), h.below⟩
      · skip
        (try simp only [decide_eq_true_eq, decide_eq_false_iff_not, beq_iff_eq, beq_eq_false_iff_ne, bne_iff_ne, ne_eq, bne_eq_false_iff_eq, Bool.not_eq_true', Bool.not_eq_false', Int.not_lt, Int.not_le, gt_iff_lt, ge_iff_le] at hs28)
        refine TC.skip ?_
        refine TE.met () ?hF32 ?hs32 ?hm32
        case hF32 => omega
        case hs32 => exact ⟨rfl, rfl, rfl, rfl, rfl, trivial⟩
        case hm32 => exact fun _ h => h
  case hy6 =>
    intro _ hlen
    refine TC.seq ?_
    refine TC.region ?_
    refine' TL.y rfl rfl rfl ?hy33 ?_
    case hy33 => exact Yl.move rfl rfl
    refine' TL.c rfl rfl rfl ?hy34 ?_
    case hy34 => exact Yc.call rfl Tryd.func12 (by kernel_rfl) rfl rfl (Hp.makes (k_new n))
    intro ⟨bm, gm⟩
    refine' TL.y rfl rfl rfl ?hy35 ?_
    case hy35 => exact Yl.assign rfl rfl
    refine TL.nil ?_
    refine TE.next ?_
    refine TC.seq ?_
    refine TC.region ?_
    refine' TL.y rfl rfl rfl ?hy36 ?_
    case hy36 => exact Yl.move rfl rfl
    refine' TL.c rfl rfl rfl ?hy37 ?_
    case hy37 => exact Yc.call rfl Tryd.func13 (by kernel_rfl) rfl rfl (Hp.makes (k_rnew n))
    intro c
    refine' TL.y rfl rfl rfl ?hy38 ?_
    case hy38 => exact Yl.assign rfl rfl
    refine TL.nil ?_
    refine TE.next ?_
    refine TC.seq ?_
    refine TC.seq ?_
    refine TC.region ?_
    refine' TL.y rfl rfl rfl ?hy39 ?_
    case hy39 => exact Yl.move rfl rfl
    refine' TL.c rfl rfl rfl ?hy40 ?_
    case hy40 => exact Yc.call rfl Tryd.func14 (by kernel_rfl) rfl rfl (Hp.calls (fun w h => k_len w (h.all _ mem1)))
    intro _
    refine' TL.y rfl rfl rfl ?hy41 ?_
    case hy41 => exact Yl.move rfl rfl
    refine' TL.y rfl rfl rfl ?hy42 ?_
    case hy42 => exact Yl.len rfl rfl Tryd.underlying26
    refine' TL.y rfl rfl rfl ?hy43 ?_
    case hy43 => exact Yl.bin rfl rfl rfl (Bin.neq _ _ _ _)
    refine TL.nil ?_
    refine TE.next ?_
    refine TC.no rfl (by first | rfl | (simp; done)) ?_
    refine TC.skip ?_
    refine TE.next ?_
    refine TC.seq ?_
    refine TC.seq ?_
    refine TC.region ?_
    refine' TL.y rfl rfl rfl ?hy44 ?_
    case hy44 => exact Yl.assign rfl rfl
    refine TL.nil ?_
    refine TE.next ?_
    refine TC.block ?_
    refine TC.loop (σ := Nat × (Nat → Bool)) (fun s => [(1, .slice A l.length cp), (2, .int .i64 from_), (3, .bool on), (9, .bool true), (10, .pointer (some ⟨bm, 0, none⟩)), (11, .slice (some ⟨c, 0, none⟩) (newN n) (newN n)), (12, .int .i64 (s.1 : Int))]) (fun s => Hp W (fun _ => False) [rowR c (newN n) s.2, mapR bm gm (newN n) s.2]) (fun s => s.1 ≤ l.length) (fun s => l.length - s.1) (0, fun _ => false) ?hF45 ?hs45 ?hm45 ?round45
    case hF45 => exact Nat.zero_le _
    case hs45 => exact ⟨rfl, rfl, rfl, rfl, rfl, rfl, rfl, trivial⟩
    case hm45 => exact fun _ h => h
    case round45 =>
      rintro ⟨i, f⟩ h1
      dsimp only at h1 ⊢
      refine TC.seq ?_
      refine TC.seq ?_
      refine TC.region ?_
      refine' TL.y rfl rfl rfl ?hy46 ?_
      case hy46 => exact Yl.move rfl rfl
      refine' TL.y rfl rfl rfl ?hy47 ?_
      case hy47 => exact Yl.move rfl rfl
      refine' TL.y rfl rfl rfl ?hy48 ?_
      case hy48 => exact Yl.len rfl rfl Tryd.underlying22
      refine' TL.y rfl rfl rfl ?hy49 ?_
      case hy49 => exact Yl.bin rfl rfl rfl (Bin.lss _ _ _ _)
      refine TL.nil ?_
      refine TE.next ?_
      refine TC.cond rfl (fun hs42 => ?_) (fun hs42 => ?_)
      · skip
        (try simp only [decide_eq_true_eq, decide_eq_false_iff_not, beq_iff_eq, beq_eq_false_iff_ne, bne_iff_ne, ne_eq, bne_eq_false_iff_eq, Bool.not_eq_true', Bool.not_eq_false', Int.not_lt, Int.not_le, gt_iff_lt, ge_iff_le] at hs42)
        have hlt : i < l.length := by omega
        obtain ⟨bb, oo, rfl⟩ := Sl.some2 hS (by have := Open.at31_0 l i hlt; rw [List.getElem?_eq_some_iff] at this; obtain ⟨h1, _⟩ := this; omega)
        have hwi := hw _ (List.getElem_mem hlt)
        refine TC.skip ?_
        refine TE.next ?_
        refine TC.seq ?_
        refine TC.block ?_
        refine TC.seq ?_
        refine TC.draw (k := 13) (Hp W (fun _ => False) []) [] #[false, false, false, false, false, false, false, false, false, false, false, false, false] (by kernel_rfl) rfl rfl (fun _ h => h.drew) (fun _ h => h.sub (List.nil_sublist _)) ?_
        refine' TA.y (i := 0) #[true, false, false, false, false, false, false, false, false, false, false, false, false] rfl rfl rfl (by kernel_rfl) (fun _ _ _ h => h) (fun _ h => by exact Hp.sub h (by repeat (first | exact List.Sublist.refl _ | apply List.Sublist.cons))) rfl ?hy50 ?_
        case hy50 => exact Yl.move rfl rfl
        refine' TA.y (i := 1) #[true, true, false, false, false, false, false, false, false, false, false, false, false] rfl rfl rfl (by kernel_rfl) (fun _ _ _ h => h) (fun _ h => by exact Hp.sub h (by repeat (first | exact List.Sublist.refl _ | apply List.Sublist.cons))) rfl ?hy51 ?_
        case hy51 => exact Yl.move rfl rfl
        refine' TA.y (i := 2) #[true, true, true, false, false, false, false, false, false, false, false, false, false] rfl rfl rfl (by kernel_rfl) (fun _ _ _ h => h) (fun _ h => by exact Hp.sub h (by repeat (first | exact List.Sublist.refl _ | apply List.Sublist.cons))) rfl ?hy52 ?_
        case hy52 => exact Yl.move rfl rfl
        refine' TA.y (i := 3) #[true, true, true, true, false, false, false, false, false, false, false, false, false] rfl rfl rfl (by kernel_rfl) (fun _ _ _ h => h) (fun _ h => by exact Hp.sub h (by repeat (first | exact List.Sublist.refl _ | apply List.Sublist.cons))) rfl ?hy53 ?_
        case hy53 => first | exact Yl.ixkn (k := 2) rfl rfl rfl Tryd.underlying22 (by kernel_rfl) (by omega) | exact Yl.ixkz (k := 2) rfl rfl rfl Tryd.underlying22 (by kernel_rfl) (by omega) (by omega)
        refine' TA.y (i := 4) #[true, true, true, true, true, false, false, false, false, false, false, false, false] rfl rfl rfl (by kernel_rfl) (fun _ _ _ h => h) (fun _ h => by exact Hp.sub h (by repeat (first | exact List.Sublist.refl _ | apply List.Sublist.cons))) rfl ?hy54 ?_
        case hy54 => first | exact Yl.field0 (k := 0) 0 rfl rfl Tryd.underlying31 rfl (by kernel_rfl) rfl | exact Yl.field (k := 0) 0 rfl rfl Tryd.underlying31 rfl (by kernel_rfl) rfl
        refine' TA.y (i := 5) #[true, true, true, true, true, true, false, false, false, false, false, false, false] rfl rfl rfl (by kernel_rfl) (fun _ _ _ h => h) (fun _ h => by exact Hp.sub h (by repeat (first | exact List.Sublist.refl _ | apply List.Sublist.cons))) rfl ?hy55 ?_
        case hy55 => exact Yl.load rfl rfl (by kernel_rfl) (Sl.cellAt hS (Open.at31_0 l i hlt) (fun _ => id) (by omega))
        refine' TA.y (i := 6) #[true, true, true, true, true, true, true, false, false, false, false, false, false] rfl rfl rfl (by kernel_rfl) (fun _ _ _ h => h) (fun _ h => by exact Hp.sub h (by repeat (first | exact List.Sublist.refl _ | apply List.Sublist.cons))) rfl ?hy56 ?_
        case hy56 => exact Yl.move rfl rfl
        refine' TA.y (i := 7) #[true, true, true, true, true, true, true, true, false, false, false, false, false] rfl rfl rfl (by kernel_rfl) (fun _ _ _ h => h) (fun _ h => by exact Hp.sub h (by repeat (first | exact List.Sublist.refl _ | apply List.Sublist.cons))) rfl ?hy57 ?_
        case hy57 => exact Yl.move rfl rfl
        refine' TA.y (i := 8) #[true, true, true, true, true, true, true, true, true, false, false, false, false] rfl rfl rfl (by kernel_rfl) (fun _ _ _ h => h) (fun _ h => by exact Hp.sub h (by repeat (first | exact List.Sublist.refl _ | apply List.Sublist.cons))) rfl ?hy58 ?_
        case hy58 => first | exact Yl.ixkn (k := 2) rfl rfl rfl Tryd.underlying22 (by kernel_rfl) (by omega) | exact Yl.ixkz (k := 2) rfl rfl rfl Tryd.underlying22 (by kernel_rfl) (by omega) (by omega)
        refine' TA.y (i := 9) #[true, true, true, true, true, true, true, true, true, true, false, false, false] rfl rfl rfl (by kernel_rfl) (fun _ _ _ h => h) (fun _ h => by exact Hp.sub h (by repeat (first | exact List.Sublist.refl _ | apply List.Sublist.cons))) rfl ?hy59 ?_
        case hy59 => first | exact Yl.field0 (k := 0) 1 rfl rfl Tryd.underlying31 rfl (by kernel_rfl) rfl | exact Yl.field (k := 0) 1 rfl rfl Tryd.underlying31 rfl (by kernel_rfl) rfl
        refine' TA.y (i := 10) #[true, true, true, true, true, true, true, true, true, true, true, false, false] rfl rfl rfl (by kernel_rfl) (fun _ _ _ h => h) (fun _ h => by exact Hp.sub h (by repeat (first | exact List.Sublist.refl _ | apply List.Sublist.cons))) rfl ?hy60 ?_
        case hy60 => exact Yl.load rfl rfl (by kernel_rfl) (Sl.cellAt hS (Open.at31_1 l i hlt) (fun _ => id) (by omega))
        refine' TA.c (i := 11) #[true, true, true, true, true, true, true, true, true, true, true, true, false] rfl rfl rfl (by kernel_rfl) (by decide) rfl ?hy61 ?hz61 ?_
        case hy61 => exact Yc.call rfl Tryd.func15 (by kernel_rfl) rfl rfl (Hp.turn1 mem1 foc1 (k_set (l[i]'hlt).f0 (l[i]'hlt).f1))
        case hz61 => exact (fun _ _ h => by exact Hp.sub h (by repeat (first | exact List.Sublist.refl _ | apply List.Sublist.cons)))
        intro _
        refine' TA.y (i := 12) #[true, true, true, true, true, true, true, true, true, true, true, true, true] rfl rfl rfl (by kernel_rfl) (fun _ _ _ h => h) (fun _ h => by exact Hp.sub h (by repeat (first | exact List.Sublist.refl _ | apply List.Sublist.cons))) rfl ?hy62 ?_
        case hy62 => exact Yl.assign rfl rfl
        refine TA.done (by kernel_rfl) ?_
        refine TE.next ?_
        refine TC.seq ?_
        refine TC.draw (k := 13) (Hp W (fun _ => False) []) [] #[false, false, false, false, false, false, false, false, false, false, false, false, false] (by kernel_rfl) rfl rfl (fun _ h => h.drew) (fun _ h => h.sub (List.nil_sublist _)) ?_
        refine' TA.y (i := 0) #[true, false, false, false, false, false, false, false, false, false, false, false, false] rfl rfl rfl (by kernel_rfl) (fun _ _ _ h => h) (fun _ h => by exact Hp.sub h (by repeat (first | exact List.Sublist.refl _ | apply List.Sublist.cons))) rfl ?hy63 ?_
        case hy63 => exact Yl.move rfl rfl
        refine' TA.y (i := 1) #[true, true, false, false, false, false, false, false, false, false, false, false, false] rfl rfl rfl (by kernel_rfl) (fun _ _ _ h => h) (fun _ h => by exact Hp.sub h (by repeat (first | exact List.Sublist.refl _ | apply List.Sublist.cons))) rfl ?hy64 ?_
        case hy64 => exact Yl.move rfl rfl
        refine' TA.y (i := 2) #[true, true, true, false, false, false, false, false, false, false, false, false, false] rfl rfl rfl (by kernel_rfl) (fun _ _ _ h => h) (fun _ h => by exact Hp.sub h (by repeat (first | exact List.Sublist.refl _ | apply List.Sublist.cons))) rfl ?hy65 ?_
        case hy65 => exact Yl.move rfl rfl
        refine' TA.y (i := 3) #[true, true, true, true, false, false, false, false, false, false, false, false, false] rfl rfl rfl (by kernel_rfl) (fun _ _ _ h => h) (fun _ h => by exact Hp.sub h (by repeat (first | exact List.Sublist.refl _ | apply List.Sublist.cons))) rfl ?hy66 ?_
        case hy66 => first | exact Yl.ixkn (k := 2) rfl rfl rfl Tryd.underlying22 (by kernel_rfl) (by omega) | exact Yl.ixkz (k := 2) rfl rfl rfl Tryd.underlying22 (by kernel_rfl) (by omega) (by omega)
        refine' TA.y (i := 4) #[true, true, true, true, true, false, false, false, false, false, false, false, false] rfl rfl rfl (by kernel_rfl) (fun _ _ _ h => h) (fun _ h => by exact Hp.sub h (by repeat (first | exact List.Sublist.refl _ | apply List.Sublist.cons))) rfl ?hy67 ?_
        case hy67 => first | exact Yl.field0 (k := 0) 0 rfl rfl Tryd.underlying31 rfl (by kernel_rfl) rfl | exact Yl.field (k := 0) 0 rfl rfl Tryd.underlying31 rfl (by kernel_rfl) rfl
        refine' TA.y (i := 5) #[true, true, true, true, true, true, false, false, false, false, false, false, false] rfl rfl rfl (by kernel_rfl) (fun _ _ _ h => h) (fun _ h => by exact Hp.sub h (by repeat (first | exact List.Sublist.refl _ | apply List.Sublist.cons))) rfl ?hy68 ?_
        case hy68 => exact Yl.load rfl rfl (by kernel_rfl) (Sl.cellAt hS (Open.at31_0 l i hlt) (fun _ => id) (by omega))
        refine' TA.y (i := 6) #[true, true, true, true, true, true, true, false, false, false, false, false, false] rfl rfl rfl (by kernel_rfl) (fun _ _ _ h => h) (fun _ h => by exact Hp.sub h (by repeat (first | exact List.Sublist.refl _ | apply List.Sublist.cons))) rfl ?hy69 ?_
        case hy69 => exact Yl.move rfl rfl
        refine' TA.y (i := 7) #[true, true, true, true, true, true, true, true, false, false, false, false, false] rfl rfl rfl (by kernel_rfl) (fun _ _ _ h => h) (fun _ h => by exact Hp.sub h (by repeat (first | exact List.Sublist.refl _ | apply List.Sublist.cons))) rfl ?hy70 ?_
        case hy70 => exact Yl.move rfl rfl
        refine' TA.y (i := 8) #[true, true, true, true, true, true, true, true, true, false, false, false, false] rfl rfl rfl (by kernel_rfl) (fun _ _ _ h => h) (fun _ h => by exact Hp.sub h (by repeat (first | exact List.Sublist.refl _ | apply List.Sublist.cons))) rfl ?hy71 ?_
        case hy71 => first | exact Yl.ixkn (k := 2) rfl rfl rfl Tryd.underlying22 (by kernel_rfl) (by omega) | exact Yl.ixkz (k := 2) rfl rfl rfl Tryd.underlying22 (by kernel_rfl) (by omega) (by omega)
        refine' TA.y (i := 9) #[true, true, true, true, true, true, true, true, true, true, false, false, false] rfl rfl rfl (by kernel_rfl) (fun _ _ _ h => h) (fun _ h => by exact Hp.sub h (by repeat (first | exact List.Sublist.refl _ | apply List.Sublist.cons))) rfl ?hy72 ?_
        case hy72 => first | exact Yl.field0 (k := 0) 1 rfl rfl Tryd.underlying31 rfl (by kernel_rfl) rfl | exact Yl.field (k := 0) 1 rfl rfl Tryd.underlying31 rfl (by kernel_rfl) rfl
        refine' TA.y (i := 10) #[true, true, true, true, true, true, true, true, true, true, true, false, false] rfl rfl rfl (by kernel_rfl) (fun _ _ _ h => h) (fun _ h => by exact Hp.sub h (by repeat (first | exact List.Sublist.refl _ | apply List.Sublist.cons))) rfl ?hy73 ?_
        case hy73 => exact Yl.load rfl rfl (by kernel_rfl) (Sl.cellAt hS (Open.at31_1 l i hlt) (fun _ => id) (by omega))
        refine' TA.c (i := 11) #[true, true, true, true, true, true, true, true, true, true, true, true, false] rfl rfl rfl (by kernel_rfl) (by decide) rfl ?hy74 ?hz74 ?_
        case hy74 => exact Yc.call rfl Tryd.func16 (by kernel_rfl) rfl rfl (Hp.turn1 mem0 foc0 (k_rset (l[i]'hlt).f0 (l[i]'hlt).f1 (newN_le n)))
        case hz74 => exact (fun _ _ h => by exact Hp.sub h (by repeat (first | exact List.Sublist.refl _ | apply List.Sublist.cons)))
        intro _
        obtain ⟨F, hF⟩ : ∃ F, setF f (newN n) (l[i]'hlt).f0 (l[i]'hlt).f1 = F := ⟨_, rfl⟩
        rw [hF]
        refine' TA.y (i := 12) #[true, true, true, true, true, true, true, true, true, true, true, true, true] rfl rfl rfl (by kernel_rfl) (fun _ _ _ h => h) (fun _ h => by exact Hp.sub h (by repeat (first | exact List.Sublist.refl _ | apply List.Sublist.cons))) rfl ?hy75 ?_
        case hy75 => exact Yl.assign rfl rfl
        refine TA.done (by kernel_rfl) ?_
        refine TE.next ?_
        refine TC.seq ?_
        refine TC.draw (k := 38) (Hp W (fun _ => False) []) [] #[false, false, false, false, false, false, false, false, false, false, false, false, false, false, false, false, false, false, false, false, false, false, false, false, false, false, false, false, false, false, false, false, false, false, false, false, false, false] (by kernel_rfl) rfl rfl (fun _ h => h.drew) (fun _ h => h.sub (List.nil_sublist _)) ?_
        refine' TA.y (i := 0) #[true, false, false, false, false, false, false, false, false, false, false, false, false, false, false, false, false, false, false, false, false, false, false, false, false, false, false, false, false, false, false, false, false, false, false, false, false, false] rfl rfl rfl (by kernel_rfl) (fun _ _ _ h => h) (fun _ h => by exact Hp.sub h (by repeat (first | exact List.Sublist.refl _ | apply List.Sublist.cons))) rfl ?hy76 ?_
        case hy76 => exact Yl.move rfl rfl
        refine' TA.y (i := 1) #[true, true, false, false, false, false, false, false, false, false, false, false, false, false, false, false, false, false, false, false, false, false, false, false, false, false, false, false, false, false, false, false, false, false, false, false, false, false] rfl rfl rfl (by kernel_rfl) (fun _ _ _ h => h) (fun _ h => by exact Hp.sub h (by repeat (first | exact List.Sublist.refl _ | apply List.Sublist.cons))) rfl ?hy77 ?_
        case hy77 => exact Yl.move rfl rfl
        refine' TA.y (i := 2) #[true, true, true, false, false, false, false, false, false, false, false, false, false, false, false, false, false, false, false, false, false, false, false, false, false, false, false, false, false, false, false, false, false, false, false, false, false, false] rfl rfl rfl (by kernel_rfl) (fun _ _ _ h => h) (fun _ h => by exact Hp.sub h (by repeat (first | exact List.Sublist.refl _ | apply List.Sublist.cons))) rfl ?hy78 ?_
        case hy78 => exact Yl.bin rfl rfl rfl (Bin.neqB _ _ _ (by kernel_rfl))
        refine' TA.y (i := 3) #[true, true, true, true, false, false, false, false, false, false, false, false, false, false, false, false, false, false, false, false, false, false, false, false, false, false, false, false, false, false, false, false, false, false, false, false, false, false] rfl rfl rfl (by kernel_rfl) (fun _ _ _ h => h) (fun _ h => by exact Hp.sub h (by repeat (first | exact List.Sublist.refl _ | apply List.Sublist.cons))) rfl ?hy79 ?_
        case hy79 => exact Yl.move rfl rfl
        refine TA.re (i := 72) (v' := .bool false) rfl (congrArg Value.bool (by first | rfl | (simp; done))) ?_
        refine' TA.y (i := 4) #[true, true, true, true, true, false, false, false, false, false, false, false, false, false, false, false, false, false, false, false, false, false, false, false, false, false, false, false, false, false, false, false, false, false, false, false, false, false] rfl rfl rfl (by kernel_rfl) (fun _ _ _ h => h) (fun _ h => by exact Hp.sub h (by repeat (first | exact List.Sublist.refl _ | apply List.Sublist.cons))) rfl ?hy80 ?_
        case hy80 => exact Yl.move rfl rfl
        refine' TA.y (i := 5) #[true, true, true, true, true, true, false, false, false, false, false, false, false, false, false, false, false, false, false, false, false, false, false, false, false, false, false, false, false, false, false, false, false, false, false, false, false, false] rfl rfl rfl (by kernel_rfl) (fun _ _ _ h => h) (fun _ h => by exact Hp.sub h (by repeat (first | exact List.Sublist.refl _ | apply List.Sublist.cons))) rfl ?hy81 ?_
        case hy81 => exact Yl.move rfl rfl
        refine' TA.y (i := 6) #[true, true, true, true, true, true, true, false, false, false, false, false, false, false, false, false, false, false, false, false, false, false, false, false, false, false, false, false, false, false, false, false, false, false, false, false, false, false] rfl rfl rfl (by kernel_rfl) (fun _ _ _ h => h) (fun _ h => by exact Hp.sub h (by repeat (first | exact List.Sublist.refl _ | apply List.Sublist.cons))) rfl ?hy82 ?_
        case hy82 => exact Yl.move rfl rfl
        refine' TA.y (i := 7) #[true, true, true, true, true, true, true, true, false, false, false, false, false, false, false, false, false, false, false, false, false, false, false, false, false, false, false, false, false, false, false, false, false, false, false, false, false, false] rfl rfl rfl (by kernel_rfl) (fun _ _ _ h => h) (fun _ h => by exact Hp.sub h (by repeat (first | exact List.Sublist.refl _ | apply List.Sublist.cons))) rfl ?hy83 ?_
        case hy83 => first | exact Yl.ixkn (k := 2) rfl rfl rfl Tryd.underlying22 (by kernel_rfl) (by omega) | exact Yl.ixkz (k := 2) rfl rfl rfl Tryd.underlying22 (by kernel_rfl) (by omega) (by omega)
        refine' TA.y (i := 8) #[true, true, true, true, true, true, true, true, true, false, false, false, false, false, false, false, false, false, false, false, false, false, false, false, false, false, false, false, false, false, false, false, false, false, false, false, false, false] rfl rfl rfl (by kernel_rfl) (fun _ _ _ h => h) (fun _ h => by exact Hp.sub h (by repeat (first | exact List.Sublist.refl _ | apply List.Sublist.cons))) rfl ?hy84 ?_
        case hy84 => first | exact Yl.field0 (k := 0) 0 rfl rfl Tryd.underlying31 rfl (by kernel_rfl) rfl | exact Yl.field (k := 0) 0 rfl rfl Tryd.underlying31 rfl (by kernel_rfl) rfl
        refine' TA.y (i := 9) #[true, true, true, true, true, true, true, true, true, true, false, false, false, false, false, false, false, false, false, false, false, false, false, false, false, false, false, false, false, false, false, false, false, false, false, false, false, false] rfl rfl rfl (by kernel_rfl) (fun _ _ _ h => h) (fun _ h => by exact Hp.sub h (by repeat (first | exact List.Sublist.refl _ | apply List.Sublist.cons))) rfl ?hy85 ?_
        case hy85 => exact Yl.load rfl rfl (by kernel_rfl) (Sl.cellAt hS (Open.at31_0 l i hlt) (fun _ => id) (by omega))
        refine' TA.y (i := 11) #[true, true, true, true, true, true, true, true, true, true, false, true, false, false, false, false, false, false, false, false, false, false, false, false, false, false, false, false, false, false, false, false, false, false, false, false, false, false] rfl rfl rfl (by kernel_rfl) (fun _ _ _ h => h) (fun _ h => by exact Hp.sub h (by repeat (first | exact List.Sublist.refl _ | apply List.Sublist.cons))) rfl ?hy86 ?_
        case hy86 => exact Yl.move rfl rfl
        refine' TA.y (i := 12) #[true, true, true, true, true, true, true, true, true, true, false, true, true, false, false, false, false, false, false, false, false, false, false, false, false, false, false, false, false, false, false, false, false, false, false, false, false, false] rfl rfl rfl (by kernel_rfl) (fun _ _ _ h => h) (fun _ h => by exact Hp.sub h (by repeat (first | exact List.Sublist.refl _ | apply List.Sublist.cons))) rfl ?hy87 ?_
        case hy87 => exact Yl.move rfl rfl
        refine' TA.y (i := 13) #[true, true, true, true, true, true, true, true, true, true, false, true, true, true, false, false, false, false, false, false, false, false, false, false, false, false, false, false, false, false, false, false, false, false, false, false, false, false] rfl rfl rfl (by kernel_rfl) (fun _ _ _ h => h) (fun _ h => by exact Hp.sub h (by repeat (first | exact List.Sublist.refl _ | apply List.Sublist.cons))) rfl ?hy88 ?_
        case hy88 => exact Yl.move rfl rfl
        refine' TA.y (i := 14) #[true, true, true, true, true, true, true, true, true, true, false, true, true, true, true, false, false, false, false, false, false, false, false, false, false, false, false, false, false, false, false, false, false, false, false, false, false, false] rfl rfl rfl (by kernel_rfl) (fun _ _ _ h => h) (fun _ h => by exact Hp.sub h (by repeat (first | exact List.Sublist.refl _ | apply List.Sublist.cons))) rfl ?hy89 ?_
        case hy89 => first | exact Yl.ixkn (k := 2) rfl rfl rfl Tryd.underlying22 (by kernel_rfl) (by omega) | exact Yl.ixkz (k := 2) rfl rfl rfl Tryd.underlying22 (by kernel_rfl) (by omega) (by omega)
        refine' TA.y (i := 15) #[true, true, true, true, true, true, true, true, true, true, false, true, true, true, true, true, false, false, false, false, false, false, false, false, false, false, false, false, false, false, false, false, false, false, false, false, false, false] rfl rfl rfl (by kernel_rfl) (fun _ _ _ h => h) (fun _ h => by exact Hp.sub h (by repeat (first | exact List.Sublist.refl _ | apply List.Sublist.cons))) rfl ?hy90 ?_
        case hy90 => first | exact Yl.field0 (k := 0) 0 rfl rfl Tryd.underlying31 rfl (by kernel_rfl) rfl | exact Yl.field (k := 0) 0 rfl rfl Tryd.underlying31 rfl (by kernel_rfl) rfl
        refine' TA.y (i := 16) #[true, true, true, true, true, true, true, true, true, true, false, true, true, true, true, true, true, false, false, false, false, false, false, false, false, false, false, false, false, false, false, false, false, false, false, false, false, false] rfl rfl rfl (by kernel_rfl) (fun _ _ _ h => h) (fun _ h => by exact Hp.sub h (by repeat (first | exact List.Sublist.refl _ | apply List.Sublist.cons))) rfl ?hy91 ?_
        case hy91 => exact Yl.load rfl rfl (by kernel_rfl) (Sl.cellAt hS (Open.at31_0 l i hlt) (fun _ => id) (by omega))
        refine' TA.c (i := 10) #[true, true, true, true, true, true, true, true, true, true, true, true, true, true, true, true, true, false, false, false, false, false, false, false, false, false, false, false, false, false, false, false, false, false, false, false, false, false] rfl rfl rfl (by kernel_rfl) (by decide) rfl ?hy92 ?hz92 ?_
        case hy92 => exact Yc.call rfl Tryd.func17 (by kernel_rfl) rfl rfl (Hp.calls (fun w h => k_get w (h.all _ mem1) (l[i]'hlt).f0))
        case hz92 => exact (fun _ _ h => by exact Hp.sub h (by repeat (first | exact List.Sublist.refl _ | apply List.Sublist.cons)))
        intro _
        refine' TA.c (i := 17) #[true, true, true, true, true, true, true, true, true, true, true, true, true, true, true, true, true, true, false, false, false, false, false, false, false, false, false, false, false, false, false, false, false, false, false, false, false, false] rfl rfl rfl (by kernel_rfl) (by decide) rfl ?hy93 ?hz93 ?_
        case hy93 => exact Yc.call rfl Tryd.func18 (by kernel_rfl) rfl rfl (Hp.calls (fun w h => k_rget w (newN_le n) (h.all _ mem0) (l[i]'hlt).f0))
        case hz93 => exact (fun _ _ h => by exact Hp.sub h (by repeat (first | exact List.Sublist.refl _ | apply List.Sublist.cons)))
        intro _
        refine' TA.y (i := 18) #[true, true, true, true, true, true, true, true, true, true, true, true, true, true, true, true, true, true, true, false, false, false, false, false, false, false, false, false, false, false, false, false, false, false, false, false, false, false] rfl rfl rfl (by kernel_rfl) (fun _ _ _ h => h) (fun _ h => by exact Hp.sub h (by repeat (first | exact List.Sublist.refl _ | apply List.Sublist.cons))) rfl ?hy94 ?_
        case hy94 => exact Yl.bin rfl rfl rfl (Bin.neqB _ _ _ (by kernel_rfl))
        refine' TA.y (i := 19) #[true, true, true, true, true, true, true, true, true, true, true, true, true, true, true, true, true, true, true, true, false, false, false, false, false, false, false, false, false, false, false, false, false, false, false, false, false, false] rfl rfl rfl (by kernel_rfl) (fun _ _ _ h => h) (fun _ h => by exact Hp.sub h (by repeat (first | exact List.Sublist.refl _ | apply List.Sublist.cons))) rfl ?hy95 ?_
        case hy95 => exact Yl.pickF rfl rfl rfl
        refine' TA.y (i := 20) #[true, true, true, true, true, true, true, true, true, true, true, true, true, true, true, true, true, true, true, true, true, false, false, false, false, false, false, false, false, false, false, false, false, false, false, false, false, false] rfl rfl rfl (by kernel_rfl) (fun _ _ _ h => h) (fun _ h => by exact Hp.sub h (by repeat (first | exact List.Sublist.refl _ | apply List.Sublist.cons))) rfl ?hy96 ?_
        case hy96 => exact Yl.move rfl rfl
        refine TA.re (i := 89) (v' := .bool false) rfl (congrArg Value.bool (by first | rfl | (simp; done))) ?_
        refine' TA.y (i := 21) #[true, true, true, true, true, true, true, true, true, true, true, true, true, true, true, true, true, true, true, true, true, true, false, false, false, false, false, false, false, false, false, false, false, false, false, false, false, false] rfl rfl rfl (by kernel_rfl) (fun _ _ _ h => h) (fun _ h => by exact Hp.sub h (by repeat (first | exact List.Sublist.refl _ | apply List.Sublist.cons))) rfl ?hy97 ?_
        case hy97 => exact Yl.move rfl rfl
        refine' TA.y (i := 23) #[true, true, true, true, true, true, true, true, true, true, true, true, true, true, true, true, true, true, true, true, true, true, false, true, false, false, false, false, false, false, false, false, false, false, false, false, false, false] rfl rfl rfl (by kernel_rfl) (fun _ _ _ h => h) (fun _ h => by exact Hp.sub h (by repeat (first | exact List.Sublist.refl _ | apply List.Sublist.cons))) rfl ?hy98 ?_
        case hy98 => exact Yl.move rfl rfl
        refine' TA.c (i := 22) #[true, true, true, true, true, true, true, true, true, true, true, true, true, true, true, true, true, true, true, true, true, true, true, true, false, false, false, false, false, false, false, false, false, false, false, false, false, false] rfl rfl rfl (by kernel_rfl) (by decide) rfl ?hy99 ?hz99 ?_
        case hy99 => exact Yc.call rfl Tryd.func19 (by kernel_rfl) rfl rfl (Hp.calls (fun w h => k_count w (h.all _ mem1)))
        case hz99 => exact (fun _ _ h => by exact Hp.sub h (by repeat (first | exact List.Sublist.refl _ | apply List.Sublist.cons)))
        intro _
        refine' TA.c (i := 24) #[true, true, true, true, true, true, true, true, true, true, true, true, true, true, true, true, true, true, true, true, true, true, true, true, true, false, false, false, false, false, false, false, false, false, false, false, false, false] rfl rfl rfl (by kernel_rfl) (by decide) rfl ?hy100 ?hz100 ?_
        case hy100 => exact Yc.call rfl Tryd.func20 (by kernel_rfl) rfl rfl (Hp.calls (fun w h => k_rcount w (newN_le n) (h.all _ mem0)))
        case hz100 => exact (fun _ _ h => by exact Hp.sub h (by repeat (first | exact List.Sublist.refl _ | apply List.Sublist.cons)))
        intro _
        refine' TA.y (i := 25) #[true, true, true, true, true, true, true, true, true, true, true, true, true, true, true, true, true, true, true, true, true, true, true, true, true, true, false, false, false, false, false, false, false, false, false, false, false, false] rfl rfl rfl (by kernel_rfl) (fun _ _ _ h => h) (fun _ h => by exact Hp.sub h (by repeat (first | exact List.Sublist.refl _ | apply List.Sublist.cons))) rfl ?hy101 ?_
        case hy101 => exact Yl.bin rfl rfl rfl (Bin.neq _ _ _ _)
        refine' TA.y (i := 26) #[true, true, true, true, true, true, true, true, true, true, true, true, true, true, true, true, true, true, true, true, true, true, true, true, true, true, true, false, false, false, false, false, false, false, false, false, false, false] rfl rfl rfl (by kernel_rfl) (fun _ _ _ h => h) (fun _ h => by exact Hp.sub h (by repeat (first | exact List.Sublist.refl _ | apply List.Sublist.cons))) rfl ?hy102 ?_
        case hy102 => exact Yl.pickF rfl rfl rfl
        refine' TA.y (i := 27) #[true, true, true, true, true, true, true, true, true, true, true, true, true, true, true, true, true, true, true, true, true, true, true, true, true, true, true, true, false, false, false, false, false, false, false, false, false, false] rfl rfl rfl (by kernel_rfl) (fun _ _ _ h => h) (fun _ h => by exact Hp.sub h (by repeat (first | exact List.Sublist.refl _ | apply List.Sublist.cons))) rfl ?hy103 ?_
        case hy103 => exact Yl.move rfl rfl
        refine TA.re (i := 96) (v' := .bool false) rfl (congrArg Value.bool (by first | rfl | (simp; done))) ?_
        refine' TA.y (i := 28) #[true, true, true, true, true, true, true, true, true, true, true, true, true, true, true, true, true, true, true, true, true, true, true, true, true, true, true, true, true, false, false, false, false, false, false, false, false, false] rfl rfl rfl (by kernel_rfl) (fun _ _ _ h => h) (fun _ h => by exact Hp.sub h (by repeat (first | exact List.Sublist.refl _ | apply List.Sublist.cons))) rfl ?hy104 ?_
        case hy104 => exact Yl.move rfl rfl
        refine' TA.y (i := 29) #[true, true, true, true, true, true, true, true, true, true, true, true, true, true, true, true, true, true, true, true, true, true, true, true, true, true, true, true, true, true, false, false, false, false, false, false, false, false] rfl rfl rfl (by kernel_rfl) (fun _ _ _ h => h) (fun _ h => by exact Hp.sub h (by repeat (first | exact List.Sublist.refl _ | apply List.Sublist.cons))) rfl ?hy105 ?_
        case hy105 => exact Yl.move rfl rfl
        refine' TA.y (i := 30) #[true, true, true, true, true, true, true, true, true, true, true, true, true, true, true, true, true, true, true, true, true, true, true, true, true, true, true, true, true, true, true, false, false, false, false, false, false, false] rfl rfl rfl (by kernel_rfl) (fun _ _ _ h => h) (fun _ h => by exact Hp.sub h (by repeat (first | exact List.Sublist.refl _ | apply List.Sublist.cons))) rfl ?hy106 ?_
        case hy106 => exact Yl.move rfl rfl
        refine' TA.y (i := 32) #[true, true, true, true, true, true, true, true, true, true, true, true, true, true, true, true, true, true, true, true, true, true, true, true, true, true, true, true, true, true, true, false, true, false, false, false, false, false] rfl rfl rfl (by kernel_rfl) (fun _ _ _ h => h) (fun _ h => by exact Hp.sub h (by repeat (first | exact List.Sublist.refl _ | apply List.Sublist.cons))) rfl ?hy107 ?_
        case hy107 => exact Yl.move rfl rfl
        refine' TA.y (i := 33) #[true, true, true, true, true, true, true, true, true, true, true, true, true, true, true, true, true, true, true, true, true, true, true, true, true, true, true, true, true, true, true, false, true, true, false, false, false, false] rfl rfl rfl (by kernel_rfl) (fun _ _ _ h => h) (fun _ h => by exact Hp.sub h (by repeat (first | exact List.Sublist.refl _ | apply List.Sublist.cons))) rfl ?hy108 ?_
        case hy108 => exact Yl.move rfl rfl
        refine' TA.y (i := 34) #[true, true, true, true, true, true, true, true, true, true, true, true, true, true, true, true, true, true, true, true, true, true, true, true, true, true, true, true, true, true, true, false, true, true, true, false, false, false] rfl rfl rfl (by kernel_rfl) (fun _ _ _ h => h) (fun _ h => by exact Hp.sub h (by repeat (first | exact List.Sublist.refl _ | apply List.Sublist.cons))) rfl ?hy109 ?_
        case hy109 => exact Yl.move rfl rfl
        refine' TA.c (i := 31) #[true, true, true, true, true, true, true, true, true, true, true, true, true, true, true, true, true, true, true, true, true, true, true, true, true, true, true, true, true, true, true, true, true, true, true, false, false, false] rfl rfl rfl (by kernel_rfl) (by decide) rfl ?hy110 ?hz110 ?_
        case hy110 => exact Yc.call rfl Tryd.func21 (by kernel_rfl) rfl rfl (Hp.calls (fun w h => k_next w (h.all _ mem1) (hT.below h.below) from_ hf _))
        case hz110 => exact (fun _ _ h => by exact Hp.sub h (by repeat (first | exact List.Sublist.refl _ | apply List.Sublist.cons)))
        intro _
        refine' TA.c (i := 35) #[true, true, true, true, true, true, true, true, true, true, true, true, true, true, true, true, true, true, true, true, true, true, true, true, true, true, true, true, true, true, true, true, true, true, true, true, false, false] rfl rfl rfl (by kernel_rfl) (by decide) rfl ?hy111 ?hz111 ?_
        case hy111 => exact Yc.call rfl Tryd.func22 (by kernel_rfl) rfl rfl (Hp.calls (fun w h => k_rnext w (newN_le n) (h.all _ mem0) from_ hf _))
        case hz111 => exact (fun _ _ h => by exact Hp.sub h (by repeat (first | exact List.Sublist.refl _ | apply List.Sublist.cons)))
        intro _
        refine' TA.y (i := 36) #[true, true, true, true, true, true, true, true, true, true, true, true, true, true, true, true, true, true, true, true, true, true, true, true, true, true, true, true, true, true, true, true, true, true, true, true, true, false] rfl rfl rfl (by kernel_rfl) (fun _ _ _ h => h) (fun _ h => by exact Hp.sub h (by repeat (first | exact List.Sublist.refl _ | apply List.Sublist.cons))) rfl ?hy112 ?_
        case hy112 => exact Yl.bin rfl rfl rfl (Bin.neq _ _ _ _)
        refine' TA.y (i := 37) #[true, true, true, true, true, true, true, true, true, true, true, true, true, true, true, true, true, true, true, true, true, true, true, true, true, true, true, true, true, true, true, true, true, true, true, true, true, true] rfl rfl rfl (by kernel_rfl) (fun _ _ _ h => h) (fun _ h => by exact Hp.sub h (by repeat (first | exact List.Sublist.refl _ | apply List.Sublist.cons))) rfl ?hy113 ?_
        case hy113 => exact Yl.pickF rfl rfl rfl
        refine TA.done (by kernel_rfl) ?_
        refine TE.next ?_
        refine TC.no rfl (by first | rfl | (simp; done)) ?_
        refine TC.skip ?_
        refine TE.inNormal ?_
        refine TE.next ?_
        refine TC.region ?_
        refine' TL.y rfl rfl rfl ?hy114 ?_
        case hy114 => exact Yl.move rfl rfl
        refine' TL.y rfl rfl rfl ?hy115 ?_
        case hy115 => first | (refine Yl.val (Yl.bin rfl rfl rfl (Bin.add _ _ _ _)) (congrArg (Value.int .i64) (i64in ?_ ?_)) <;> omega) | exact Yl.bin rfl rfl rfl (Bin.add _ _ _ _)
        refine' TL.y rfl rfl rfl ?hy116 ?_
        case hy116 => exact Yl.assign rfl rfl
        refine TL.nil ?_
        refine TE.round (i + 1, F) ?hF117 ?hlt117 ?hs117 ?hm117
        case hF117 => dsimp only; omega
        case hlt117 => dsimp only; omega
        case hs117 => exact ⟨rfl, rfl, rfl, rfl, rfl, rfl, rfl, trivial⟩
        case hm117 => exact fun _ h => h
      · skip
        (try simp only [decide_eq_true_eq, decide_eq_false_iff_not, beq_iff_eq, beq_eq_false_iff_ne, bne_iff_ne, ne_eq, bne_eq_false_iff_eq, Bool.not_eq_true', Bool.not_eq_false', Int.not_lt, Int.not_le, gt_iff_lt, ge_iff_le] at hs42)
        refine TC.exit ?_
        refine TE.thenExit ?_
        refine TE.thenExit ?_
        refine TE.inHere ?_
        refine TE.next ?_
        refine TC.seq ?_
        refine TC.region ?_
        refine' TL.y rfl rfl rfl ?hy118 ?_
        case hy118 => exact Yl.move rfl rfl
        refine' TL.y rfl rfl rfl ?hy119 ?_
        case hy119 => exact Yl.move rfl rfl
        refine' TL.y rfl rfl rfl ?hy120 ?_
        case hy120 => exact Yl.move rfl rfl
        refine' TL.y rfl rfl rfl ?hy121 ?_
        case hy121 => exact Yl.move rfl rfl
        refine' TL.y rfl rfl rfl ?hy122 ?_
        case hy122 => exact Yl.move rfl rfl
        refine' TL.y rfl rfl rfl ?hy123 ?_
        case hy123 => exact Yl.not rfl rfl
        refine' TL.c rfl rfl rfl ?hy124 ?_
        case hy124 => exact Yc.call rfl Tryd.func21 (by kernel_rfl) rfl rfl (Hp.calls (fun w h => k_next w (h.all _ mem1) (hT.below h.below) from_ hf _))
        intro _
        refine' TL.y rfl rfl rfl ?hy125 ?_
        case hy125 => exact Yl.move rfl rfl
        refine' TL.y rfl rfl rfl ?hy126 ?_
        case hy126 => exact Yl.move rfl rfl
        refine' TL.y rfl rfl rfl ?hy127 ?_
        case hy127 => exact Yl.move rfl rfl
        refine' TL.y rfl rfl rfl ?hy128 ?_
        case hy128 => exact Yl.not rfl rfl
        refine' TL.c rfl rfl rfl ?hy129 ?_
        case hy129 => exact Yc.call rfl Tryd.func22 (by kernel_rfl) rfl rfl (Hp.calls (fun w h => k_rnext w (newN_le n) (h.all _ mem0) from_ hf _))
        intro _
        refine' TL.y rfl rfl rfl ?hy130 ?_
        case hy130 => exact Yl.bin rfl rfl rfl (Bin.eql _ _ _ _)
        refine' TL.y rfl rfl rfl ?hy131 ?_
        case hy131 => exact Yl.pickT rfl rfl rfl
        refine' TL.y rfl rfl rfl ?hy132 ?_
        case hy132 => exact Yl.assign rfl rfl
        refine TL.nil ?_
        refine TE.next ?_
        refine TC.ret ?_
        refine TE.ret1 rfl rfl ?_
        exact fun w h => ⟨congrArg (fun b => Ending.returned (Value.bool b)) (by first | rfl | (simp; done) : _ = true), h.below⟩
end Go.Proofs.YtjampfcibocnlaaDoor.Pk
