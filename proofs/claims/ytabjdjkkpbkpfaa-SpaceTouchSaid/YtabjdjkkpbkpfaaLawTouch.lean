/- What is touched. -/
import Derived.Test.YtabjdjkkpbkpfaaSpW
import Derived.Test.YtabjdjkkpbkpfaaProg
import Derived.RowKit3
namespace Go.Proofs.Ytabjdjkkpbkpfaa.Pk
open Go Go.RowKit Go.Proofs.Ytabjdjkkpbkpfaa.HL Go.Proofs.Ytabjdjkkpbkpfaa.Ev Go.Proofs.YtabjdjkkpbkpfaaW.PrintWords Go.Proofs.RgP Go.Proofs.RxP Go.Proofs.Ytabjdjkkpbkpfaa.BM
set_option linter.unusedVariables false
set_option linter.unusedSimpArgs false
attribute [local irreducible] Rw atG ents Iw Aw atA pgsE idsL restC sizeS cutL addL
section
attribute [local semireducible] Iw
theorem Iw_get2 {l : List Int} {i : Nat} (h : i < l.length) : (Iw l)[i]? = some (.int .i64 (gI l i)) := by unfold Iw; rw [List.getElem?_map, gI_get h]; rfl
theorem Iw_len (l : List Int) : (Iw l).length = l.length := by unfold Iw; rw [List.length_map]
end
theorem Sl.iw {W0 : World} {H : List Res} {b c i q : Nat} {l : List Int} (hs : Sl W0 (.some ⟨b, c, none⟩) (Iw l)) (hq : c + i = q) (hi : i < l.length) : ∀ w, Hp W0 (fun _ => False) H w → w.cell? ⟨b, q, none⟩ = .some (.int .i64 (gI l i)) := Sl.cellAt hs (Iw_get2 hi) (fun _ h => h) hq
set_option maxRecDepth 100000 in
set_option maxHeartbeats 2000000 in
theorem law_touch (W : World) {l : List A18} {A : Option Addr} {cp : Nat} (hS : Sl W A (Aw l)) (hm : l.length ≤ 9223372036854775807) (hw : ∀ i, i < l.length → wfI (vsE (atA l i).e)) {ps : List Int} {B : Option Addr} {cq : Nat} (hS2 : Sl W B (Iw ps)) (hm2 : ps.length ≤ 9223372036854775807) : Calls Try.prog 5 #[.slice A l.length cp, .slice B ps.length cq] W fun e w' => e = .returned (.bool true) ∧ Below W.heap.size W w' := by
  have hM : Hp W (fun _ => False) [] W := Hp.start
  refine TC.enter (n := 149) Try.func5 rfl rfl rfl hM ?_
  refine TC.seq ?_
  refine TC.region ?_
  refine' TL.y rfl rfl rfl ?hy1 ?_
  case hy1 => exact Yl.assign rfl rfl
  refine TL.nil ?_
  refine TE.next ?_
  refine TC.seq ?_
  refine TC.region ?_
  refine' TL.c rfl rfl rfl ?hy2 ?_
  case hy2 => exact Yc.call rfl Try.func9 (by kernel_rfl) rfl rfl (Hp.calls (fun w h => k_works w))
  intro _
  refine' TL.y rfl rfl rfl ?hy3 ?_
  case hy3 => exact Yl.assign rfl rfl
  refine TL.nil ?_
  refine TE.next ?_
  refine TC.seq ?_
  refine TC.seq ?_
  refine TC.region ?_
  refine' TL.y rfl rfl rfl ?hy4 ?_
  case hy4 => exact Yl.move rfl rfl
  refine' TL.y rfl rfl rfl ?hy5 ?_
  case hy5 => exact Yl.not rfl rfl
  refine TL.nil ?_
  refine TE.next ?_
  refine TC.no rfl rfl ?_
  refine TC.skip ?_
  refine TE.next ?_
  refine TC.seq ?_
  refine TC.seq ?_
  refine TC.region ?_
  refine' TL.y rfl rfl rfl ?hy6 ?_
  case hy6 => exact Yl.move rfl rfl
  refine' TL.y rfl rfl rfl ?hy7 ?_
  case hy7 => exact Yl.len rfl rfl Try.underlying22
  refine' TL.y rfl rfl rfl ?hy8 ?_
  case hy8 => exact Yl.bin rfl rfl rfl (Bin.gtr _ _ _ _)
  refine' TL.y rfl rfl rfl ?hy9 ?_
  case hy9 => exact Yl.move rfl rfl
  refine TL.split (i := 22) rfl (fun hs22 => ?_) (fun hs22 => ?_)
  · skip
    (try simp only [decide_eq_true_eq, decide_eq_false_iff_not, beq_iff_eq, beq_eq_false_iff_ne, bne_iff_ne, ne_eq, bne_eq_false_iff_eq, Bool.not_eq_true', Bool.not_eq_false', Int.not_lt, Int.not_le, gt_iff_lt, ge_iff_le] at hs22)
    refine TL.skip rfl rfl rfl ?_
    refine TL.skip rfl rfl rfl ?_
    refine TL.skip rfl rfl rfl ?_
    refine' TL.y rfl rfl rfl ?hy10 ?_
    case hy10 => exact Yl.pickT rfl rfl rfl
    refine TL.nil ?_
    refine TE.next ?_
    refine TC.yes rfl rfl ?_
    refine TC.seq ?_
    refine TC.region ?_
    refine' TL.y rfl rfl rfl ?hy11 ?_
    case hy11 => exact Yl.move rfl rfl
    refine' TL.y rfl rfl rfl ?hy12 ?_
    case hy12 => exact Yl.assign rfl rfl
    refine TL.nil ?_
    refine TE.next ?_
    refine TC.ret ?_
    refine TE.thenRet ?_
    refine TE.ret1 rfl rfl ?_
    exact fun w h => ⟨rfl, (h.sub (List.nil_sublist _)).below⟩
  · skip
    (try simp only [decide_eq_true_eq, decide_eq_false_iff_not, beq_iff_eq, beq_eq_false_iff_ne, bne_iff_ne, ne_eq, bne_eq_false_iff_eq, Bool.not_eq_true', Bool.not_eq_false', Int.not_lt, Int.not_le, gt_iff_lt, ge_iff_le] at hs22)
    refine' TL.y rfl rfl rfl ?hy13 ?_
    case hy13 => exact Yl.move rfl rfl
    refine' TL.y rfl rfl rfl ?hy14 ?_
    case hy14 => exact Yl.len rfl rfl Try.underlying36
    refine' TL.y rfl rfl rfl ?hy15 ?_
    case hy15 => exact Yl.bin rfl rfl rfl (Bin.gtr _ _ _ _)
    refine' TL.y rfl rfl rfl ?hy16 ?_
    case hy16 => exact Yl.pickF rfl rfl rfl
    refine TL.nil ?_
    refine TE.next ?_
    refine TC.cond rfl (fun hs26 => ?_) (fun hs26 => ?_)
    · skip
      (try simp only [decide_eq_true_eq, decide_eq_false_iff_not, beq_iff_eq, beq_eq_false_iff_ne, bne_iff_ne, ne_eq, bne_eq_false_iff_eq, Bool.not_eq_true', Bool.not_eq_false', Int.not_lt, Int.not_le, gt_iff_lt, ge_iff_le] at hs26)
      refine TC.seq ?_
      refine TC.region ?_
      refine' TL.y rfl rfl rfl ?hy17 ?_
      case hy17 => exact Yl.move rfl rfl
      refine' TL.y rfl rfl rfl ?hy18 ?_
      case hy18 => exact Yl.assign rfl rfl
      refine TL.nil ?_
      refine TE.next ?_
      refine TC.ret ?_
      refine TE.thenRet ?_
      refine TE.ret1 rfl rfl ?_
      exact fun w h => ⟨rfl, (h.sub (List.nil_sublist _)).below⟩
    · skip
      (try simp only [decide_eq_true_eq, decide_eq_false_iff_not, beq_iff_eq, beq_eq_false_iff_ne, bne_iff_ne, ne_eq, bne_eq_false_iff_eq, Bool.not_eq_true', Bool.not_eq_false', Int.not_lt, Int.not_le, gt_iff_lt, ge_iff_le] at hs26)
      refine TC.skip ?_
      refine TE.next ?_
      refine TC.seq ?_
      refine TC.region ?_
      refine' TL.c rfl rfl rfl ?hy19 ?_
      case hy19 => exact Yc.call rfl Try.func10 (by kernel_rfl) rfl rfl (Hp.news (fun w h => k_snew w))
      intro ⟨x1, hx1⟩
      dsimp only
      refine' TL.y rfl rfl rfl ?hy20 ?_
      case hy20 => exact Yl.assign rfl rfl
      refine TL.nil ?_
      refine TE.next ?_
      refine TC.seq ?_
      refine TC.seq ?_
      refine TC.region ?_
      refine' TL.y rfl rfl rfl ?hy21 ?_
      case hy21 => exact Yl.assign rfl rfl
      refine TL.nil ?_
      refine TE.next ?_
      refine TC.block ?_
      refine TC.loop (σ := Nat × Sp × SS) (fun q => [(0, .slice A l.length cp), (1, .slice B ps.length cq), (5, .bool true), (6, .pointer (some ⟨x1.s, 0, none⟩)), (7, .int .i64 (q.1 : Int))]) (fun q => Hp W (fun _ => False) [spR q.2.1 q.2.2]) (fun q => q.1 ≤ l.length ∧ q.2.1.Is q.2.2 x1.s) (fun q => l.length - q.1) (0, x1, newS) ?hF22 ?hs22 ?hm22 ?round22
      case hF22 => exact ⟨Nat.zero_le _, hx1⟩
      case hs22 => exact ⟨rfl, rfl, rfl, rfl, rfl, trivial⟩
      case hm22 => exact fun _ h => h
      case round22 =>
        rintro ⟨i, x, u⟩ ⟨hi, hx⟩
        dsimp only at hi hx ⊢
        refine TC.seq ?_
        refine TC.seq ?_
        refine TC.region ?_
        refine' TL.y rfl rfl rfl ?hy23 ?_
        case hy23 => exact Yl.move rfl rfl
        refine' TL.y rfl rfl rfl ?hy24 ?_
        case hy24 => exact Yl.move rfl rfl
        refine' TL.y rfl rfl rfl ?hy25 ?_
        case hy25 => exact Yl.len rfl rfl Try.underlying22
        refine' TL.y rfl rfl rfl ?hy26 ?_
        case hy26 => exact Yl.bin rfl rfl rfl (Bin.lss _ _ _ _)
        refine TL.nil ?_
        refine TE.next ?_
        refine TC.cond rfl (fun hs32 => ?_) (fun hs32 => ?_)
        · skip
          (try simp only [decide_eq_true_eq, decide_eq_false_iff_not, beq_iff_eq, beq_eq_false_iff_ne, bne_iff_ne, ne_eq, bne_eq_false_iff_eq, Bool.not_eq_true', Bool.not_eq_false', Int.not_lt, Int.not_le, gt_iff_lt, ge_iff_le] at hs32)
          obtain ⟨b0, o0, rfl⟩ := Sl.some2 hS (by rw [Aw_length]; omega)
          refine TC.skip ?_
          refine TE.next ?_
          refine TC.seq ?_
          refine TC.block ?_
          refine TC.seq ?_
          refine TC.region ?_
          refine' TL.y rfl rfl rfl ?hy27 ?_
          case hy27 => exact Yl.move rfl rfl
          refine' TL.y rfl rfl rfl ?hy28 ?_
          case hy28 => exact Yl.move rfl rfl
          refine' TL.y rfl rfl rfl ?hy29 ?_
          case hy29 => exact Yl.move rfl rfl
          refine' TL.y rfl rfl rfl ?hy30 ?_
          case hy30 => first | exact Yl.ixkn (k := 13) rfl rfl rfl Try.underlying22 (by kernel_rfl) (by omega) | exact Yl.ixkz (k := 13) rfl rfl rfl Try.underlying22 (by kernel_rfl) (by omega) (by omega)
          refine' TL.y rfl rfl rfl ?hy31 ?_
          case hy31 => first | exact Yl.field0 (k := 5) 1 rfl rfl Try.underlying32 rfl (by kernel_rfl) rfl | exact Yl.field (k := 5) 1 rfl rfl Try.underlying32 rfl (by kernel_rfl) rfl
          refine' TL.y rfl rfl rfl ?hy32 ?_
          case hy32 => exact Yl.loads (cs := [.int .i64 ((atA l i).x).f0, .int .i64 ((atA l i).x).f1, .int .i64 ((atA l i).x).f2, .int .i64 ((atA l i).x).f3, .int .i64 ((atA l i).x).f4, .bool ((atA l i).x).f5]) rfl rfl (by kernel_rfl) (by kernel_rfl) (Sl.awX hS (i := i) rfl (by omega))
          refine' TL.c rfl rfl rfl ?hy33 ?_
          case hy33 => exact Yc.call rfl Try.func11 (by kernel_rfl) rfl rfl (Hp.turnx mem0 (fun s => foc0) (k_smap hx (atA l i).x))
          intro ⟨x2, hx2⟩
          dsimp only
          refine TL.nil ?_
          refine TE.next ?_
          refine TC.draw (k := 12) (Hp W (fun _ => False) []) [] #[false, false, false, false, false, false, false, false, false, false, false, false] (by kernel_rfl) rfl rfl (fun _ h => h.drew) (fun _ h => by exact Hp.sub h (by repeat (first | exact List.Sublist.refl _ | exact List.nil_sublist _ | apply List.Sublist.cons_cons | apply List.Sublist.cons))) ?_
          refine' TA.y (i := 0) #[true, false, false, false, false, false, false, false, false, false, false, false] rfl rfl rfl (by kernel_rfl) (fun _ _ _ h => h) (fun _ h => by exact Hp.sub h (by repeat (first | exact List.Sublist.refl _ | exact List.nil_sublist _ | apply List.Sublist.cons_cons | apply List.Sublist.cons))) rfl ?hy34 ?_
          case hy34 => exact Yl.move rfl rfl
          refine' TA.y (i := 1) #[true, true, false, false, false, false, false, false, false, false, false, false] rfl rfl rfl (by kernel_rfl) (fun _ _ _ h => h) (fun _ h => by exact Hp.sub h (by repeat (first | exact List.Sublist.refl _ | exact List.nil_sublist _ | apply List.Sublist.cons_cons | apply List.Sublist.cons))) rfl ?hy35 ?_
          case hy35 => exact Yl.move rfl rfl
          refine' TA.y (i := 2) #[true, true, true, false, false, false, false, false, false, false, false, false] rfl rfl rfl (by kernel_rfl) (fun _ _ _ h => h) (fun _ h => by exact Hp.sub h (by repeat (first | exact List.Sublist.refl _ | exact List.nil_sublist _ | apply List.Sublist.cons_cons | apply List.Sublist.cons))) rfl ?hy36 ?_
          case hy36 => exact Yl.move rfl rfl
          refine' TA.y (i := 3) #[true, true, true, true, false, false, false, false, false, false, false, false] rfl rfl rfl (by kernel_rfl) (fun _ _ _ h => h) (fun _ h => by exact Hp.sub h (by repeat (first | exact List.Sublist.refl _ | exact List.nil_sublist _ | apply List.Sublist.cons_cons | apply List.Sublist.cons))) rfl ?hy37 ?_
          case hy37 => first | exact Yl.ixkn (k := 13) rfl rfl rfl Try.underlying22 (by kernel_rfl) (by omega) | exact Yl.ixkz (k := 13) rfl rfl rfl Try.underlying22 (by kernel_rfl) (by omega) (by omega)
          refine' TA.y (i := 4) #[true, true, true, true, true, false, false, false, false, false, false, false] rfl rfl rfl (by kernel_rfl) (fun _ _ _ h => h) (fun _ h => by exact Hp.sub h (by repeat (first | exact List.Sublist.refl _ | exact List.nil_sublist _ | apply List.Sublist.cons_cons | apply List.Sublist.cons))) rfl ?hy38 ?_
          case hy38 => first | exact Yl.field0 (k := 0) 11 rfl rfl Try.underlying32 rfl (by kernel_rfl) rfl | exact Yl.field (k := 0) 11 rfl rfl Try.underlying32 rfl (by kernel_rfl) rfl
          refine' TA.y (i := 5) #[true, true, true, true, true, true, false, false, false, false, false, false] rfl rfl rfl (by kernel_rfl) (fun _ _ _ h => h) (fun _ h => by exact Hp.sub h (by repeat (first | exact List.Sublist.refl _ | exact List.nil_sublist _ | apply List.Sublist.cons_cons | apply List.Sublist.cons))) rfl ?hy39 ?_
          case hy39 => exact Yl.load (v := .int .i64 (atA l i).a) rfl rfl (by kernel_rfl) (Sl.aw hS (i := i) (j := 11) rfl (by omega) (by decide))
          refine' TA.y (i := 6) #[true, true, true, true, true, true, true, false, false, false, false, false] rfl rfl rfl (by kernel_rfl) (fun _ _ _ h => h) (fun _ h => by exact Hp.sub h (by repeat (first | exact List.Sublist.refl _ | exact List.nil_sublist _ | apply List.Sublist.cons_cons | apply List.Sublist.cons))) rfl ?hy40 ?_
          case hy40 => exact Yl.move rfl rfl
          refine' TA.y (i := 7) #[true, true, true, true, true, true, true, true, false, false, false, false] rfl rfl rfl (by kernel_rfl) (fun _ _ _ h => h) (fun _ h => by exact Hp.sub h (by repeat (first | exact List.Sublist.refl _ | exact List.nil_sublist _ | apply List.Sublist.cons_cons | apply List.Sublist.cons))) rfl ?hy41 ?_
          case hy41 => exact Yl.move rfl rfl
          refine' TA.y (i := 8) #[true, true, true, true, true, true, true, true, true, false, false, false] rfl rfl rfl (by kernel_rfl) (fun _ _ _ h => h) (fun _ h => by exact Hp.sub h (by repeat (first | exact List.Sublist.refl _ | exact List.nil_sublist _ | apply List.Sublist.cons_cons | apply List.Sublist.cons))) rfl ?hy42 ?_
          case hy42 => first | exact Yl.ixkn (k := 13) rfl rfl rfl Try.underlying22 (by kernel_rfl) (by omega) | exact Yl.ixkz (k := 13) rfl rfl rfl Try.underlying22 (by kernel_rfl) (by omega) (by omega)
          refine' TA.y (i := 9) #[true, true, true, true, true, true, true, true, true, true, false, false] rfl rfl rfl (by kernel_rfl) (fun _ _ _ h => h) (fun _ h => by exact Hp.sub h (by repeat (first | exact List.Sublist.refl _ | exact List.nil_sublist _ | apply List.Sublist.cons_cons | apply List.Sublist.cons))) rfl ?hy43 ?_
          case hy43 => first | exact Yl.field0 (k := 3) 7 rfl rfl Try.underlying32 rfl (by kernel_rfl) rfl | exact Yl.field (k := 3) 7 rfl rfl Try.underlying32 rfl (by kernel_rfl) rfl
          refine' TA.y (i := 10) #[true, true, true, true, true, true, true, true, true, true, true, false] rfl rfl rfl (by kernel_rfl) (fun _ _ _ h => h) (fun _ h => by exact Hp.sub h (by repeat (first | exact List.Sublist.refl _ | exact List.nil_sublist _ | apply List.Sublist.cons_cons | apply List.Sublist.cons))) rfl ?hy44 ?_
          case hy44 => exact Yl.loads (cs := [.int .i64 ((atA l i).e).k, .int .i64 ((atA l i).e).pg, .bool ((atA l i).e).w, .bool ((atA l i).e).t]) rfl rfl (by kernel_rfl) (by kernel_rfl) (Sl.awE hS (i := i) rfl (by omega))
          refine' TA.c (i := 11) #[true, true, true, true, true, true, true, true, true, true, true, true] rfl rfl rfl (by kernel_rfl) (by decide) rfl ?hy45 ?hz45 ?_
          case hy45 => exact Yc.call rfl Try.func12 (by kernel_rfl) rfl rfl (Hp.turnx mem0 (fun s => foc0) (k_sset hx2 (atA l i).a (atA l i).e (hw i (by omega))))
          case hz45 => exact (fun _ _ h => by exact Hp.sub h (by repeat (first | exact List.Sublist.refl _ | exact List.nil_sublist _ | apply List.Sublist.cons_cons | apply List.Sublist.cons)))
          intro ⟨x3, hx3⟩
          dsimp only
          refine TA.done (by kernel_rfl) ?_
          refine TE.inNormal ?_
          refine TE.next ?_
          refine TC.region ?_
          refine' TL.y rfl rfl rfl ?hy46 ?_
          case hy46 => exact Yl.move rfl rfl
          refine' TL.y rfl rfl rfl ?hy47 ?_
          case hy47 => first | (refine Yl.val (Yl.bin rfl rfl rfl (Bin.add _ _ _ _)) (congrArg (Value.int .i64) (i64in ?_ ?_)) <;> omega) | exact Yl.bin rfl rfl rfl (Bin.add _ _ _ _)
          refine' TL.y rfl rfl rfl ?hy48 ?_
          case hy48 => exact Yl.assign rfl rfl
          refine TL.nil ?_
          refine TE.round (i + 1, x3, (sset (mapS u (atA l i).x) (atA l i).a (atA l i).e).1) ?hF49 ?hlt49 ?hs49 ?hm49
          case hF49 => exact ⟨by dsimp only; omega, hx3⟩
          case hlt49 => dsimp only; omega
          case hs49 => exact ⟨rfl, rfl, rfl, rfl, rfl, trivial⟩
          case hm49 => exact fun _ h => h
        · skip
          (try simp only [decide_eq_true_eq, decide_eq_false_iff_not, beq_iff_eq, beq_eq_false_iff_ne, bne_iff_ne, ne_eq, bne_eq_false_iff_eq, Bool.not_eq_true', Bool.not_eq_false', Int.not_lt, Int.not_le, gt_iff_lt, ge_iff_le] at hs32)
          refine TC.exit ?_
          refine TE.thenExit ?_
          refine TE.thenExit ?_
          refine TE.inHere ?_
          refine TE.next ?_
          refine TC.seq ?_
          refine TC.region ?_
          refine' TL.y rfl rfl rfl ?hy50 ?_
          case hy50 => exact Yl.move rfl rfl
          refine' TL.c rfl rfl rfl ?hy51 ?_
          case hy51 => exact Yc.call rfl Try.func20 (by kernel_rfl) rfl rfl (Hp.turnx mem0 (fun s => foc0) (k_srest hx))
          intro ⟨x4, hx4⟩
          dsimp only
          refine TL.nil ?_
          refine TE.next ?_
          refine TC.seq ?_
          refine TC.region ?_
          refine' TL.y rfl rfl rfl ?hy52 ?_
          case hy52 => exact Yl.assign rfl rfl
          refine TL.nil ?_
          refine TE.next ?_
          refine TC.seq ?_
          refine TC.seq ?_
          refine TC.region ?_
          refine' TL.y rfl rfl rfl ?hy53 ?_
          case hy53 => exact Yl.assign rfl rfl
          refine TL.nil ?_
          refine TE.next ?_
          refine TC.block ?_
          refine TC.loop (σ := Nat × Sp × SS) (fun q => [(1, .slice B ps.length cq), (5, .bool true), (6, .pointer (some ⟨x1.s, 0, none⟩)), (8, .int .i64 (restC q.2.2 : Int)), (9, .int .i64 (q.1 : Int))]) (fun q => Hp W (fun _ => False) [spR q.2.1 q.2.2]) (fun q => q.1 ≤ ps.length ∧ q.2.1.Is q.2.2 x1.s ∧ restC q.2.2 ≤ q.1) (fun q => ps.length - q.1) (0, x4, srest u) ?hF54 ?hs54 ?hm54 ?round54
          case hF54 => exact ⟨Nat.zero_le _, hx4, by dsimp only; rw [restC_rest]; exact Nat.le_refl _⟩
          case hs54 => exact ⟨rfl, rfl, rfl, congrArg (fun x : Nat => some (Value.int .i64 (x : Int))) (restC_rest u).symm, rfl, trivial⟩
          case hm54 => exact fun _ h => h
          case round54 =>
            rintro ⟨i, x, u⟩ ⟨hi, hx, hct⟩
            dsimp only at hi hx hct ⊢
            refine TC.seq ?_
            refine TC.seq ?_
            refine TC.region ?_
            refine' TL.y rfl rfl rfl ?hy55 ?_
            case hy55 => exact Yl.move rfl rfl
            refine' TL.y rfl rfl rfl ?hy56 ?_
            case hy56 => exact Yl.move rfl rfl
            refine' TL.y rfl rfl rfl ?hy57 ?_
            case hy57 => exact Yl.len rfl rfl Try.underlying36
            refine' TL.y rfl rfl rfl ?hy58 ?_
            case hy58 => exact Yl.bin rfl rfl rfl (Bin.lss _ _ _ _)
            refine TL.nil ?_
            refine TE.next ?_
            refine TC.cond rfl (fun hs59 => ?_) (fun hs59 => ?_)
            · skip
              (try simp only [decide_eq_true_eq, decide_eq_false_iff_not, beq_iff_eq, beq_eq_false_iff_ne, bne_iff_ne, ne_eq, bne_eq_false_iff_eq, Bool.not_eq_true', Bool.not_eq_false', Int.not_lt, Int.not_le, gt_iff_lt, ge_iff_le] at hs59)
              obtain ⟨b1, o1, rfl⟩ := Sl.some2 hS2 (by rw [Iw_len]; omega)
              refine TC.skip ?_
              refine TE.next ?_
              refine TC.seq ?_
              refine TC.block ?_
              refine TC.seq ?_
              refine TC.region ?_
              refine' TL.y rfl rfl rfl ?hy59 ?_
              case hy59 => exact Yl.move rfl rfl
              refine' TL.y rfl rfl rfl ?hy60 ?_
              case hy60 => exact Yl.move rfl rfl
              refine' TL.y rfl rfl rfl ?hy61 ?_
              case hy61 => exact Yl.move rfl rfl
              refine' TL.y rfl rfl rfl ?hy62 ?_
              case hy62 => first | exact Yl.ixn rfl rfl rfl Try.underlying36 (by kernel_rfl) (by omega) | exact Yl.ixkn (k := 1) rfl rfl rfl Try.underlying36 (by kernel_rfl) (by omega)
              refine' TL.y rfl rfl rfl ?hy63 ?_
              case hy63 => exact Yl.load (v := .int .i64 (gI ps i)) rfl rfl (by kernel_rfl) (Sl.iw hS2 (i := i) (by omega) (by omega))
              refine' TL.c rfl rfl rfl ?hy64 ?_
              case hy64 => exact Yc.call rfl Try.func14 (by kernel_rfl) rfl rfl (Hp.calls (fun w h => k_sentry w (h.all _ mem0) hx (gI ps i)))
              intro _
              refine' TL.y rfl rfl rfl ?hy65 ?_
              case hy65 => exact Yl.move rfl rfl
              refine' TL.y rfl rfl rfl ?hy66 ?_
              case hy66 => exact Yl.extract rfl rfl rfl
              refine' TL.y rfl rfl rfl ?hy67 ?_
              case hy67 => exact Yl.extract rfl rfl rfl
              refine' TL.mx rfl rfl rfl ?hy68 ?_
              case hy68 => exact Ym.alloc (z := .agg #[.int .i64 0, .int .i64 0, .bool false, .bool false]) rfl (by kernel_rfl)
              intro b10
              refine' TL.s rfl rfl ?hy69 ?_
              case hy69 => exact Ys.store (seg := [.int .i64 (((gE (u) (gI ps i)).getD zEn)).k, .int .i64 (((gE (u) (gI ps i)).getD zEn)).pg, .bool (((gE (u) (gI ps i)).getD zEn)).w, .bool (((gE (u) (gI ps i)).getD zEn)).t]) (c' := #[.int .i64 (((gE (u) (gI ps i)).getD zEn)).k, .int .i64 (((gE (u) (gI ps i)).getD zEn)).pg, .bool (((gE (u) (gI ps i)).getD zEn)).w, .bool (((gE (u) (gI ps i)).getD zEn)).t]) rfl rfl rfl (by simp [Value.cells]) (by kernel_rfl) (by simp [Value.oneCell']) foc0 (by simp [Value.cells]) rfl
              refine' TL.y rfl rfl rfl ?hy70 ?_
              case hy70 => exact Yl.assign rfl rfl
              refine TL.nil ?_
              refine TE.next ?_
              refine TC.seq ?_
              refine TC.region ?_
              refine' TL.y rfl rfl rfl ?hy71 ?_
              case hy71 => exact Yl.move rfl rfl
              refine' TL.y rfl rfl rfl ?hy72 ?_
              case hy72 => exact Yl.move rfl rfl
              refine' TL.y rfl rfl rfl ?hy73 ?_
              case hy73 => exact Yl.move rfl rfl
              refine' TL.y rfl rfl rfl ?hy74 ?_
              case hy74 => first | exact Yl.ixn rfl rfl rfl Try.underlying36 (by kernel_rfl) (by omega) | exact Yl.ixkn (k := 1) rfl rfl rfl Try.underlying36 (by kernel_rfl) (by omega)
              refine' TL.y rfl rfl rfl ?hy75 ?_
              case hy75 => exact Yl.load (v := .int .i64 (gI ps i)) rfl rfl (by kernel_rfl) (Sl.iw hS2 (i := i) (by omega) (by omega))
              refine' TL.c rfl rfl rfl ?hy76 ?_
              case hy76 => exact Yc.call rfl Try.func19 (by kernel_rfl) rfl rfl (Hp.turnx mem1 (fun s => foc1) (k_stouch hx (gI ps i)))
              intro ⟨x5, hx5⟩
              dsimp only
              refine' TL.y rfl rfl rfl ?hy77 ?_
              case hy77 => exact Yl.assign rfl rfl
              refine TL.nil ?_
              refine TE.next ?_
              refine TC.seq ?_
              refine TC.region ?_
              refine' TL.y rfl rfl rfl ?hy78 ?_
              case hy78 => exact Yl.move rfl rfl
              refine' TL.y rfl rfl rfl ?hy79 ?_
              case hy79 => exact Yl.move rfl rfl
              refine' TL.y rfl rfl rfl ?hy80 ?_
              case hy80 => exact Yl.move rfl rfl
              refine' TL.y rfl rfl rfl ?hy81 ?_
              case hy81 => first | exact Yl.ixn rfl rfl rfl Try.underlying36 (by kernel_rfl) (by omega) | exact Yl.ixkn (k := 1) rfl rfl rfl Try.underlying36 (by kernel_rfl) (by omega)
              refine' TL.y rfl rfl rfl ?hy82 ?_
              case hy82 => exact Yl.load (v := .int .i64 (gI ps i)) rfl rfl (by kernel_rfl) (Sl.iw hS2 (i := i) (by omega) (by omega))
              refine' TL.c rfl rfl rfl ?hy83 ?_
              case hy83 => exact Yc.call rfl Try.func14 (by kernel_rfl) rfl rfl (Hp.calls (fun w h => k_sentry w (h.all _ mem1) hx5 (gI ps i)))
              intro _
              refine' TL.y rfl rfl rfl ?hy84 ?_
              case hy84 => exact Yl.move rfl rfl
              refine' TL.y rfl rfl rfl ?hy85 ?_
              case hy85 => exact Yl.extract rfl rfl rfl
              refine' TL.y rfl rfl rfl ?hy86 ?_
              case hy86 => exact Yl.extract rfl rfl rfl
              refine' TL.mx rfl rfl rfl ?hy87 ?_
              case hy87 => exact Ym.alloc (z := .agg #[.int .i64 0, .int .i64 0, .bool false, .bool false]) rfl (by kernel_rfl)
              intro b13
              refine' TL.s rfl rfl ?hy88 ?_
              case hy88 => exact Ys.store (seg := [.int .i64 (((gE (stouch u (gI ps i)) (gI ps i)).getD zEn)).k, .int .i64 (((gE (stouch u (gI ps i)) (gI ps i)).getD zEn)).pg, .bool (((gE (stouch u (gI ps i)) (gI ps i)).getD zEn)).w, .bool (((gE (stouch u (gI ps i)) (gI ps i)).getD zEn)).t]) (c' := #[.int .i64 (((gE (stouch u (gI ps i)) (gI ps i)).getD zEn)).k, .int .i64 (((gE (stouch u (gI ps i)) (gI ps i)).getD zEn)).pg, .bool (((gE (stouch u (gI ps i)) (gI ps i)).getD zEn)).w, .bool (((gE (stouch u (gI ps i)) (gI ps i)).getD zEn)).t]) rfl rfl rfl (by simp [Value.cells]) (by kernel_rfl) (by simp [Value.oneCell']) foc0 (by simp [Value.cells]) rfl
              refine' TL.y rfl rfl rfl ?hy89 ?_
              case hy89 => exact Yl.assign rfl rfl
              refine TL.nil ?_
              refine TE.next ?_
              refine TC.seq ?_
              refine TC.seq ?_
              refine TC.region ?_
              refine' TL.y rfl rfl rfl ?hy90 ?_
              case hy90 => exact Yl.move rfl rfl
              refine' TL.y rfl rfl rfl ?hy91 ?_
              case hy91 => exact Yl.move rfl rfl
              refine' TL.y rfl rfl rfl ?hy92 ?_
              case hy92 => exact Yl.bin rfl rfl rfl (Bin.neqB _ _ _ (by kernel_rfl))
              refine' TL.y rfl rfl rfl ?hy93 ?_
              case hy93 => exact Yl.move rfl rfl
              refine TL.re (i := 89) (v' := .bool false) rfl (congrArg Value.bool (by simp)) ?_
              refine' TL.y rfl rfl rfl ?hy94 ?_
              case hy94 => exact Yl.move rfl rfl
              refine' TL.y rfl rfl rfl ?hy95 ?_
              case hy95 => exact Yl.move rfl rfl
              refine TL.split (i := 91) rfl (fun hs91 => ?_) (fun hs91 => ?_)
              · skip
                (try simp only [decide_eq_true_eq, decide_eq_false_iff_not, beq_iff_eq, beq_eq_false_iff_ne, bne_iff_ne, ne_eq, bne_eq_false_iff_eq, Bool.not_eq_true', Bool.not_eq_false', Int.not_lt, Int.not_le, gt_iff_lt, ge_iff_le] at hs91)
                obtain ⟨en, he⟩ : ∃ en, gE u (gI ps i) = some en := Option.isSome_iff_exists.1 (by simpa using hs91)
                have ht : gE (stouch u (gI ps i)) (gI ps i) = some (tch en true) := by rw [gE_touch, if_pos rfl, he]; rfl
                have hcn := restC_touch he
                rw [ht, he]
                dsimp only [Option.getD_some, Option.isSome_some]
                refine' TL.y rfl rfl rfl ?hy96 ?_
                case hy96 => first | exact Yl.field0 (k := 0) 3 rfl rfl Try.underlying30 rfl (by kernel_rfl) rfl | exact Yl.field (k := 0) 3 rfl rfl Try.underlying30 rfl (by kernel_rfl) rfl
                refine' TL.y rfl rfl rfl ?hy97 ?_
                case hy97 => first | exact Yl.load rfl rfl (by kernel_rfl) (Hp.cell mem0 rfl) | exact Yl.load rfl rfl (by kernel_rfl) (Hp.cell mem1 rfl) | exact Yl.load rfl rfl (by kernel_rfl) (Hp.cell mem2 rfl) | exact Yl.load rfl rfl (by kernel_rfl) (Hp.cell mem3 rfl) | exact Yl.load rfl rfl (by kernel_rfl) (Hp.cell mem4 rfl) | exact Yl.load rfl rfl (by kernel_rfl) (Hp.rowAt mem0 (by omega) rfl) | exact Yl.load rfl rfl (by kernel_rfl) (Hp.rowAt mem1 (by omega) rfl) | exact Yl.load rfl rfl (by kernel_rfl) (Hp.rowAt mem2 (by omega) rfl) | exact Yl.load rfl rfl (by kernel_rfl) (Hp.rowAt mem3 (by omega) rfl) | exact Yl.load rfl rfl (by kernel_rfl) (Hp.rowAt mem4 (by omega) rfl)
                refine' TL.y rfl rfl rfl ?hy98 ?_
                case hy98 => exact Yl.not rfl rfl
                refine' TL.y rfl rfl rfl ?hy99 ?_
                case hy99 => exact Yl.pickT rfl rfl rfl
                refine' TL.y rfl rfl rfl ?hy100 ?_
                case hy100 => exact Yl.pickF rfl rfl rfl
                refine' TL.y rfl rfl rfl ?hy101 ?_
                case hy101 => exact Yl.move rfl rfl
                refine TL.re (i := 97) (v' := .bool false) rfl (congrArg Value.bool (rfl)) ?_
                refine' TL.y rfl rfl rfl ?hy102 ?_
                case hy102 => exact Yl.move rfl rfl
                refine' TL.y rfl rfl rfl ?hy103 ?_
                case hy103 => exact Yl.move rfl rfl
                refine TL.re (i := 99) (v' := .bool true) rfl (congrArg Value.bool (rfl)) ?_
                refine' TL.y rfl rfl rfl ?hy104 ?_
                case hy104 => first | exact Yl.field0 (k := 0) 1 rfl rfl Try.underlying30 rfl (by kernel_rfl) rfl | exact Yl.field (k := 0) 1 rfl rfl Try.underlying30 rfl (by kernel_rfl) rfl
                refine' TL.y rfl rfl rfl ?hy105 ?_
                case hy105 => first | exact Yl.load rfl rfl (by kernel_rfl) (Hp.cell mem0 rfl) | exact Yl.load rfl rfl (by kernel_rfl) (Hp.cell mem1 rfl) | exact Yl.load rfl rfl (by kernel_rfl) (Hp.cell mem2 rfl) | exact Yl.load rfl rfl (by kernel_rfl) (Hp.cell mem3 rfl) | exact Yl.load rfl rfl (by kernel_rfl) (Hp.cell mem4 rfl) | exact Yl.load rfl rfl (by kernel_rfl) (Hp.rowAt mem0 (by omega) rfl) | exact Yl.load rfl rfl (by kernel_rfl) (Hp.rowAt mem1 (by omega) rfl) | exact Yl.load rfl rfl (by kernel_rfl) (Hp.rowAt mem2 (by omega) rfl) | exact Yl.load rfl rfl (by kernel_rfl) (Hp.rowAt mem3 (by omega) rfl) | exact Yl.load rfl rfl (by kernel_rfl) (Hp.rowAt mem4 (by omega) rfl)
                refine' TL.y rfl rfl rfl ?hy106 ?_
                case hy106 => first | exact Yl.field0 (k := 0) 1 rfl rfl Try.underlying30 rfl (by kernel_rfl) rfl | exact Yl.field (k := 0) 1 rfl rfl Try.underlying30 rfl (by kernel_rfl) rfl
                refine' TL.y rfl rfl rfl ?hy107 ?_
                case hy107 => first | exact Yl.load rfl rfl (by kernel_rfl) (Hp.cell mem0 rfl) | exact Yl.load rfl rfl (by kernel_rfl) (Hp.cell mem1 rfl) | exact Yl.load rfl rfl (by kernel_rfl) (Hp.cell mem2 rfl) | exact Yl.load rfl rfl (by kernel_rfl) (Hp.cell mem3 rfl) | exact Yl.load rfl rfl (by kernel_rfl) (Hp.cell mem4 rfl) | exact Yl.load rfl rfl (by kernel_rfl) (Hp.rowAt mem0 (by omega) rfl) | exact Yl.load rfl rfl (by kernel_rfl) (Hp.rowAt mem1 (by omega) rfl) | exact Yl.load rfl rfl (by kernel_rfl) (Hp.rowAt mem2 (by omega) rfl) | exact Yl.load rfl rfl (by kernel_rfl) (Hp.rowAt mem3 (by omega) rfl) | exact Yl.load rfl rfl (by kernel_rfl) (Hp.rowAt mem4 (by omega) rfl)
                refine' TL.y rfl rfl rfl ?hy108 ?_
                case hy108 => exact Yl.bin rfl rfl rfl (Bin.neq _ _ _ _)
                refine' TL.y rfl rfl rfl ?hy109 ?_
                case hy109 => exact Yl.move rfl rfl
                refine TL.re (i := 105) (v' := .bool false) rfl (congrArg Value.bool (by simp [tch])) ?_
                refine' TL.y rfl rfl rfl ?hy110 ?_
                case hy110 => first | exact Yl.field0 (k := 0) 0 rfl rfl Try.underlying30 rfl (by kernel_rfl) rfl | exact Yl.field (k := 0) 0 rfl rfl Try.underlying30 rfl (by kernel_rfl) rfl
                refine' TL.y rfl rfl rfl ?hy111 ?_
                case hy111 => first | exact Yl.load rfl rfl (by kernel_rfl) (Hp.cell mem0 rfl) | exact Yl.load rfl rfl (by kernel_rfl) (Hp.cell mem1 rfl) | exact Yl.load rfl rfl (by kernel_rfl) (Hp.cell mem2 rfl) | exact Yl.load rfl rfl (by kernel_rfl) (Hp.cell mem3 rfl) | exact Yl.load rfl rfl (by kernel_rfl) (Hp.cell mem4 rfl) | exact Yl.load rfl rfl (by kernel_rfl) (Hp.rowAt mem0 (by omega) rfl) | exact Yl.load rfl rfl (by kernel_rfl) (Hp.rowAt mem1 (by omega) rfl) | exact Yl.load rfl rfl (by kernel_rfl) (Hp.rowAt mem2 (by omega) rfl) | exact Yl.load rfl rfl (by kernel_rfl) (Hp.rowAt mem3 (by omega) rfl) | exact Yl.load rfl rfl (by kernel_rfl) (Hp.rowAt mem4 (by omega) rfl)
                refine' TL.y rfl rfl rfl ?hy112 ?_
                case hy112 => first | exact Yl.field0 (k := 0) 0 rfl rfl Try.underlying30 rfl (by kernel_rfl) rfl | exact Yl.field (k := 0) 0 rfl rfl Try.underlying30 rfl (by kernel_rfl) rfl
                refine' TL.y rfl rfl rfl ?hy113 ?_
                case hy113 => first | exact Yl.load rfl rfl (by kernel_rfl) (Hp.cell mem0 rfl) | exact Yl.load rfl rfl (by kernel_rfl) (Hp.cell mem1 rfl) | exact Yl.load rfl rfl (by kernel_rfl) (Hp.cell mem2 rfl) | exact Yl.load rfl rfl (by kernel_rfl) (Hp.cell mem3 rfl) | exact Yl.load rfl rfl (by kernel_rfl) (Hp.cell mem4 rfl) | exact Yl.load rfl rfl (by kernel_rfl) (Hp.rowAt mem0 (by omega) rfl) | exact Yl.load rfl rfl (by kernel_rfl) (Hp.rowAt mem1 (by omega) rfl) | exact Yl.load rfl rfl (by kernel_rfl) (Hp.rowAt mem2 (by omega) rfl) | exact Yl.load rfl rfl (by kernel_rfl) (Hp.rowAt mem3 (by omega) rfl) | exact Yl.load rfl rfl (by kernel_rfl) (Hp.rowAt mem4 (by omega) rfl)
                refine' TL.y rfl rfl rfl ?hy114 ?_
                case hy114 => exact Yl.bin rfl rfl rfl (Bin.neq _ _ _ _)
                refine' TL.y rfl rfl rfl ?hy115 ?_
                case hy115 => exact Yl.pickF rfl rfl rfl
                refine' TL.y rfl rfl rfl ?hy116 ?_
                case hy116 => exact Yl.move rfl rfl
                refine TL.re (i := 112) (v' := .bool false) rfl (congrArg Value.bool (by simp [tch])) ?_
                refine' TL.y rfl rfl rfl ?hy117 ?_
                case hy117 => first | exact Yl.field0 (k := 0) 2 rfl rfl Try.underlying30 rfl (by kernel_rfl) rfl | exact Yl.field (k := 0) 2 rfl rfl Try.underlying30 rfl (by kernel_rfl) rfl
                refine' TL.y rfl rfl rfl ?hy118 ?_
                case hy118 => first | exact Yl.load rfl rfl (by kernel_rfl) (Hp.cell mem0 rfl) | exact Yl.load rfl rfl (by kernel_rfl) (Hp.cell mem1 rfl) | exact Yl.load rfl rfl (by kernel_rfl) (Hp.cell mem2 rfl) | exact Yl.load rfl rfl (by kernel_rfl) (Hp.cell mem3 rfl) | exact Yl.load rfl rfl (by kernel_rfl) (Hp.cell mem4 rfl) | exact Yl.load rfl rfl (by kernel_rfl) (Hp.rowAt mem0 (by omega) rfl) | exact Yl.load rfl rfl (by kernel_rfl) (Hp.rowAt mem1 (by omega) rfl) | exact Yl.load rfl rfl (by kernel_rfl) (Hp.rowAt mem2 (by omega) rfl) | exact Yl.load rfl rfl (by kernel_rfl) (Hp.rowAt mem3 (by omega) rfl) | exact Yl.load rfl rfl (by kernel_rfl) (Hp.rowAt mem4 (by omega) rfl)
                refine' TL.y rfl rfl rfl ?hy119 ?_
                case hy119 => first | exact Yl.field0 (k := 0) 2 rfl rfl Try.underlying30 rfl (by kernel_rfl) rfl | exact Yl.field (k := 0) 2 rfl rfl Try.underlying30 rfl (by kernel_rfl) rfl
                refine' TL.y rfl rfl rfl ?hy120 ?_
                case hy120 => first | exact Yl.load rfl rfl (by kernel_rfl) (Hp.cell mem0 rfl) | exact Yl.load rfl rfl (by kernel_rfl) (Hp.cell mem1 rfl) | exact Yl.load rfl rfl (by kernel_rfl) (Hp.cell mem2 rfl) | exact Yl.load rfl rfl (by kernel_rfl) (Hp.cell mem3 rfl) | exact Yl.load rfl rfl (by kernel_rfl) (Hp.cell mem4 rfl) | exact Yl.load rfl rfl (by kernel_rfl) (Hp.rowAt mem0 (by omega) rfl) | exact Yl.load rfl rfl (by kernel_rfl) (Hp.rowAt mem1 (by omega) rfl) | exact Yl.load rfl rfl (by kernel_rfl) (Hp.rowAt mem2 (by omega) rfl) | exact Yl.load rfl rfl (by kernel_rfl) (Hp.rowAt mem3 (by omega) rfl) | exact Yl.load rfl rfl (by kernel_rfl) (Hp.rowAt mem4 (by omega) rfl)
                refine' TL.y rfl rfl rfl ?hy121 ?_
                case hy121 => exact Yl.bin rfl rfl rfl (Bin.neqB _ _ _ (by kernel_rfl))
                refine' TL.y rfl rfl rfl ?hy122 ?_
                case hy122 => exact Yl.pickF rfl rfl rfl
                refine' TL.y rfl rfl rfl ?hy123 ?_
                case hy123 => exact Yl.pickT rfl rfl rfl
                refine' TL.y rfl rfl rfl ?hy124 ?_
                case hy124 => exact Yl.pickF rfl rfl rfl
                refine TL.nil ?_
                refine TE.next ?_
                refine TC.no rfl (by first | rfl | simp [tch]) ?_
                refine TC.skip ?_
                refine TE.next ?_
                refine TC.seq ?_
                refine TC.region ?_
                refine' TL.y rfl rfl rfl ?hy125 ?_
                case hy125 => exact Yl.move rfl rfl
                refine' TL.y rfl rfl rfl ?hy126 ?_
                case hy126 => exact Yl.move rfl rfl
                refine TL.re (i := 122) (v' := .bool true) rfl (congrArg Value.bool (rfl)) ?_
                refine' TL.y rfl rfl rfl ?hy127 ?_
                case hy127 => first | exact Yl.field0 (k := 0) 3 rfl rfl Try.underlying30 rfl (by kernel_rfl) rfl | exact Yl.field (k := 0) 3 rfl rfl Try.underlying30 rfl (by kernel_rfl) rfl
                refine' TL.y rfl rfl rfl ?hy128 ?_
                case hy128 => first | exact Yl.load rfl rfl (by kernel_rfl) (Hp.cell mem0 rfl) | exact Yl.load rfl rfl (by kernel_rfl) (Hp.cell mem1 rfl) | exact Yl.load rfl rfl (by kernel_rfl) (Hp.cell mem2 rfl) | exact Yl.load rfl rfl (by kernel_rfl) (Hp.cell mem3 rfl) | exact Yl.load rfl rfl (by kernel_rfl) (Hp.cell mem4 rfl) | exact Yl.load rfl rfl (by kernel_rfl) (Hp.rowAt mem0 (by omega) rfl) | exact Yl.load rfl rfl (by kernel_rfl) (Hp.rowAt mem1 (by omega) rfl) | exact Yl.load rfl rfl (by kernel_rfl) (Hp.rowAt mem2 (by omega) rfl) | exact Yl.load rfl rfl (by kernel_rfl) (Hp.rowAt mem3 (by omega) rfl) | exact Yl.load rfl rfl (by kernel_rfl) (Hp.rowAt mem4 (by omega) rfl)
                refine' TL.y rfl rfl rfl ?hy129 ?_
                case hy129 => exact Yl.not rfl rfl
                refine' TL.y rfl rfl rfl ?hy130 ?_
                case hy130 => exact Yl.pickT rfl rfl rfl
                refine TL.nil ?_
                refine TE.next ?_
                refine TC.cond rfl (fun hs126 => ?_) (fun hs126 => ?_)
                · skip
                  (try simp only [decide_eq_true_eq, decide_eq_false_iff_not, beq_iff_eq, beq_eq_false_iff_ne, bne_iff_ne, ne_eq, bne_eq_false_iff_eq, Bool.not_eq_true', Bool.not_eq_false', Int.not_lt, Int.not_le, gt_iff_lt, ge_iff_le] at hs126)
                  have hcn2 : (restC u : Int) + 1 = (restC (stouch u (gI ps i)) : Int) := by rw [hcn, if_neg (by simpa using hs126)]; rfl
                  refine TC.region ?_
                  refine' TL.y rfl rfl rfl ?hy131 ?_
                  case hy131 => exact Yl.move rfl rfl
                  refine' TL.y rfl rfl rfl ?hy132 ?_
                  case hy132 => first | (refine Yl.val (Yl.bin rfl rfl rfl (Bin.add _ _ _ _)) (congrArg (Value.int .i64) (i64in ?_ ?_)) <;> omega) | exact Yl.bin rfl rfl rfl (Bin.add _ _ _ _)
                  refine TL.re (i := 128) (v' := .int .i64 (restC (stouch u (gI ps i)) : Int)) rfl (congrArg (Value.int .i64) hcn2) ?_
                  refine' TL.y rfl rfl rfl ?hy133 ?_
                  case hy133 => exact Yl.assign rfl rfl
                  refine TL.nil ?_
                  refine TE.inNormal ?_
                  refine TE.next ?_
                  refine TC.region ?_
                  refine' TL.y rfl rfl rfl ?hy134 ?_
                  case hy134 => exact Yl.move rfl rfl
                  refine' TL.y rfl rfl rfl ?hy135 ?_
                  case hy135 => first | (refine Yl.val (Yl.bin rfl rfl rfl (Bin.add _ _ _ _)) (congrArg (Value.int .i64) (i64in ?_ ?_)) <;> omega) | exact Yl.bin rfl rfl rfl (Bin.add _ _ _ _)
                  refine' TL.y rfl rfl rfl ?hy136 ?_
                  case hy136 => exact Yl.assign rfl rfl
                  refine TL.nil ?_
                  refine TE.round (i + 1, x5, (stouch u (gI ps i))) ?hF137 ?hlt137 ?hs137 ?hm137
                  case hF137 => exact ⟨by dsimp only; omega, hx5, by dsimp only; split at hcn <;> omega⟩
                  case hlt137 => dsimp only; omega
                  case hs137 => exact ⟨rfl, rfl, rfl, rfl, rfl, trivial⟩
                  case hm137 => exact (fun _ h => by exact Hp.sub h (by repeat (first | exact List.Sublist.refl _ | exact List.nil_sublist _ | apply List.Sublist.cons_cons | apply List.Sublist.cons)))
                · skip
                  (try simp only [decide_eq_true_eq, decide_eq_false_iff_not, beq_iff_eq, beq_eq_false_iff_ne, bne_iff_ne, ne_eq, bne_eq_false_iff_eq, Bool.not_eq_true', Bool.not_eq_false', Int.not_lt, Int.not_le, gt_iff_lt, ge_iff_le] at hs126)
                  have hcn2 : restC (stouch u (gI ps i)) = restC u := by rw [hcn, if_pos (by simpa using hs126), Nat.add_zero]
                  rw [← hcn2]
                  refine TC.skip ?_
                  refine TE.inNormal ?_
                  refine TE.next ?_
                  refine TC.region ?_
                  refine' TL.y rfl rfl rfl ?hy138 ?_
                  case hy138 => exact Yl.move rfl rfl
                  refine' TL.y rfl rfl rfl ?hy139 ?_
                  case hy139 => first | (refine Yl.val (Yl.bin rfl rfl rfl (Bin.add _ _ _ _)) (congrArg (Value.int .i64) (i64in ?_ ?_)) <;> omega) | exact Yl.bin rfl rfl rfl (Bin.add _ _ _ _)
                  refine' TL.y rfl rfl rfl ?hy140 ?_
                  case hy140 => exact Yl.assign rfl rfl
                  refine TL.nil ?_
                  refine TE.round (i + 1, x5, (stouch u (gI ps i))) ?hF141 ?hlt141 ?hs141 ?hm141
                  case hF141 => exact ⟨by dsimp only; omega, hx5, by dsimp only; split at hcn <;> omega⟩
                  case hlt141 => dsimp only; omega
                  case hs141 => exact ⟨rfl, rfl, rfl, rfl, rfl, trivial⟩
                  case hm141 => exact (fun _ h => by exact Hp.sub h (by repeat (first | exact List.Sublist.refl _ | exact List.nil_sublist _ | apply List.Sublist.cons_cons | apply List.Sublist.cons)))
              · skip
                (try simp only [decide_eq_true_eq, decide_eq_false_iff_not, beq_iff_eq, beq_eq_false_iff_ne, bne_iff_ne, ne_eq, bne_eq_false_iff_eq, Bool.not_eq_true', Bool.not_eq_false', Int.not_lt, Int.not_le, gt_iff_lt, ge_iff_le] at hs91)
                have he : gE u (gI ps i) = none := by simpa using hs91
                have hcn := restC_none hx.ok he
                rw [← hcn, he]
                dsimp only [Option.isSome_none]
                refine TL.skip rfl rfl rfl ?_
                refine TL.skip rfl rfl rfl ?_
                refine TL.skip rfl rfl rfl ?_
                refine' TL.y rfl rfl rfl ?hy142 ?_
                case hy142 => exact Yl.pickF rfl rfl rfl
                refine' TL.y rfl rfl rfl ?hy143 ?_
                case hy143 => exact Yl.pickF rfl rfl rfl
                refine' TL.y rfl rfl rfl ?hy144 ?_
                case hy144 => exact Yl.move rfl rfl
                refine' TL.y rfl rfl rfl ?hy145 ?_
                case hy145 => exact Yl.move rfl rfl
                refine' TL.y rfl rfl rfl ?hy146 ?_
                case hy146 => exact Yl.move rfl rfl
                refine TL.re (i := 99) (v' := .bool false) rfl (congrArg Value.bool (rfl)) ?_
                refine TL.skip rfl rfl rfl ?_
                refine TL.skip rfl rfl rfl ?_
                refine TL.skip rfl rfl rfl ?_
                refine TL.skip rfl rfl rfl ?_
                refine TL.skip rfl rfl rfl ?_
                refine TL.skip rfl rfl rfl ?_
                refine TL.skip rfl rfl rfl ?_
                refine TL.skip rfl rfl rfl ?_
                refine TL.skip rfl rfl rfl ?_
                refine TL.skip rfl rfl rfl ?_
                refine TL.skip rfl rfl rfl ?_
                refine TL.skip rfl rfl rfl ?_
                refine TL.skip rfl rfl rfl ?_
                refine TL.skip rfl rfl rfl ?_
                refine TL.skip rfl rfl rfl ?_
                refine TL.skip rfl rfl rfl ?_
                refine TL.skip rfl rfl rfl ?_
                refine TL.skip rfl rfl rfl ?_
                refine TL.skip rfl rfl rfl ?_
                refine' TL.y rfl rfl rfl ?hy147 ?_
                case hy147 => exact Yl.pickF rfl rfl rfl
                refine' TL.y rfl rfl rfl ?hy148 ?_
                case hy148 => exact Yl.pickF rfl rfl rfl
                refine TL.nil ?_
                refine TE.next ?_
                refine TC.no rfl rfl ?_
                refine TC.skip ?_
                refine TE.next ?_
                refine TC.seq ?_
                refine TC.region ?_
                refine' TL.y rfl rfl rfl ?hy149 ?_
                case hy149 => exact Yl.move rfl rfl
                refine' TL.y rfl rfl rfl ?hy150 ?_
                case hy150 => exact Yl.move rfl rfl
                refine TL.re (i := 122) (v' := .bool false) rfl (congrArg Value.bool (rfl)) ?_
                refine TL.skip rfl rfl rfl ?_
                refine TL.skip rfl rfl rfl ?_
                refine TL.skip rfl rfl rfl ?_
                refine' TL.y rfl rfl rfl ?hy151 ?_
                case hy151 => exact Yl.pickF rfl rfl rfl
                refine TL.nil ?_
                refine TE.next ?_
                refine TC.no rfl rfl ?_
                refine TC.skip ?_
                refine TE.inNormal ?_
                refine TE.next ?_
                refine TC.region ?_
                refine' TL.y rfl rfl rfl ?hy152 ?_
                case hy152 => exact Yl.move rfl rfl
                refine' TL.y rfl rfl rfl ?hy153 ?_
                case hy153 => first | (refine Yl.val (Yl.bin rfl rfl rfl (Bin.add _ _ _ _)) (congrArg (Value.int .i64) (i64in ?_ ?_)) <;> omega) | exact Yl.bin rfl rfl rfl (Bin.add _ _ _ _)
                refine' TL.y rfl rfl rfl ?hy154 ?_
                case hy154 => exact Yl.assign rfl rfl
                refine TL.nil ?_
                refine TE.round (i + 1, x5, (stouch u (gI ps i))) ?hF155 ?hlt155 ?hs155 ?hm155
                case hF155 => exact ⟨by dsimp only; omega, hx5, by dsimp only; omega⟩
                case hlt155 => dsimp only; omega
                case hs155 => exact ⟨rfl, rfl, rfl, rfl, rfl, trivial⟩
                case hm155 => exact (fun _ h => by exact Hp.sub h (by repeat (first | exact List.Sublist.refl _ | exact List.nil_sublist _ | apply List.Sublist.cons_cons | apply List.Sublist.cons)))
            · skip
              (try simp only [decide_eq_true_eq, decide_eq_false_iff_not, beq_iff_eq, beq_eq_false_iff_ne, bne_iff_ne, ne_eq, bne_eq_false_iff_eq, Bool.not_eq_true', Bool.not_eq_false', Int.not_lt, Int.not_le, gt_iff_lt, ge_iff_le] at hs59)
              refine TC.exit ?_
              refine TE.thenExit ?_
              refine TE.thenExit ?_
              refine TE.inHere ?_
              refine TE.next ?_
              refine TC.seq ?_
              refine TC.region ?_
              refine' TL.y rfl rfl rfl ?hy156 ?_
              case hy156 => exact Yl.move rfl rfl
              refine' TL.c rfl rfl rfl ?hy157 ?_
              case hy157 => exact Yc.call rfl Try.func16 (by kernel_rfl) rfl rfl (Hp.calls (fun w h => k_ssize w (h.all _ mem0) hx))
              intro _
              refine' TL.y rfl rfl rfl ?hy158 ?_
              case hy158 => exact Yl.assign rfl rfl
              refine TL.nil ?_
              refine TE.next ?_
              refine TC.seq ?_
              refine TC.region ?_
              refine' TL.y rfl rfl rfl ?hy159 ?_
              case hy159 => exact Yl.move rfl rfl
              refine' TL.y rfl rfl rfl ?hy160 ?_
              case hy160 => exact Yl.move rfl rfl
              refine' TL.y rfl rfl rfl ?hy161 ?_
              case hy161 => exact Yl.move rfl rfl
              refine' TL.c rfl rfl rfl ?hy162 ?_
              case hy162 => exact Yc.call rfl Try.func20 (by kernel_rfl) rfl rfl (Hp.turnx mem0 (fun s => foc0) (k_srest hx))
              intro ⟨x6, hx6⟩
              dsimp only
              refine' TL.y rfl rfl rfl ?hy163 ?_
              case hy163 => exact Yl.move rfl rfl
              refine' TL.y rfl rfl rfl ?hy164 ?_
              case hy164 => exact Yl.bin rfl rfl rfl (Bin.eql _ _ _ _)
              refine' TL.y rfl rfl rfl ?hy165 ?_
              case hy165 => exact Yl.pickT rfl rfl rfl
              refine' TL.y rfl rfl rfl ?hy166 ?_
              case hy166 => exact Yl.move rfl rfl
              refine TL.re (i := 138) (v' := .bool true) rfl (congrArg Value.bool (by simp)) ?_
              refine' TL.y rfl rfl rfl ?hy167 ?_
              case hy167 => exact Yl.move rfl rfl
              refine' TL.c rfl rfl rfl ?hy168 ?_
              case hy168 => exact Yc.call rfl Try.func20 (by kernel_rfl) rfl rfl (Hp.turnx mem0 (fun s => foc0) (k_srest hx6))
              intro ⟨x7, hx7⟩
              dsimp only
              rw [restC_rest]
              refine' TL.y rfl rfl rfl ?hy169 ?_
              case hy169 => exact Yl.bin rfl rfl rfl (Bin.eql _ _ _ _)
              refine' TL.y rfl rfl rfl ?hy170 ?_
              case hy170 => exact Yl.pickT rfl rfl rfl
              refine' TL.y rfl rfl rfl ?hy171 ?_
              case hy171 => exact Yl.move rfl rfl
              refine TL.re (i := 143) (v' := .bool true) rfl (congrArg Value.bool (rfl)) ?_
              refine' TL.y rfl rfl rfl ?hy172 ?_
              case hy172 => exact Yl.move rfl rfl
              refine' TL.c rfl rfl rfl ?hy173 ?_
              case hy173 => exact Yc.call rfl Try.func16 (by kernel_rfl) rfl rfl (Hp.calls (fun w h => k_ssize w (h.all _ mem0) hx7))
              intro _
              rw [size_rest, size_rest]
              refine' TL.y rfl rfl rfl ?hy174 ?_
              case hy174 => exact Yl.move rfl rfl
              refine' TL.y rfl rfl rfl ?hy175 ?_
              case hy175 => exact Yl.bin rfl rfl rfl (Bin.eql _ _ _ _)
              refine' TL.y rfl rfl rfl ?hy176 ?_
              case hy176 => exact Yl.pickT rfl rfl rfl
              refine' TL.y rfl rfl rfl ?hy177 ?_
              case hy177 => exact Yl.assign rfl rfl
              refine TL.nil ?_
              refine TE.next ?_
              refine TC.ret ?_
              refine TE.ret1 rfl rfl ?_
              exact fun w h => ⟨by simp, (h.sub (List.nil_sublist _)).below⟩
end Go.Proofs.Ytabjdjkkpbkpfaa.Pk
