/- A clone is its own. -/
import Derived.Test.YtabjdjkkpbkpfaaSpW
import Derived.Test.YtabjdjkkpbkpfaaProg
import Derived.RowKit3
namespace Go.Proofs.Ytabjdjkkpbkpfaa.Pk
open Go Go.RowKit Go.Proofs.Ytabjdjkkpbkpfaa.HL Go.Proofs.Ytabjdjkkpbkpfaa.Ev Go.Proofs.YtabjdjkkpbkpfaaW.PrintWords Go.Proofs.RgP Go.Proofs.RxP Go.Proofs.Ytabjdjkkpbkpfaa.BM
set_option linter.unusedVariables false
set_option linter.unusedSimpArgs false
attribute [local irreducible] Rw atG ents Iw Aw atA pgsE idsL restC sizeS cutL addL
theorem Hp.drop2 {W0 w : World} {T : Nat → Prop} {H : List Res} {a b r s : Res} (h : Hp W0 T (a :: b :: star r s :: H) w) : Hp W0 T (a :: b :: s :: H) w := (h.swap1.swap.unstar.sub (List.sublist_cons_self _ _)).swap.swap1
set_option maxRecDepth 100000 in
set_option maxHeartbeats 2000000 in
theorem law_apart (W : World) {l : List A18} {A : Option Addr} {cp : Nat} (hS : Sl W A (Aw l)) (hm : l.length ≤ 9223372036854775807) (hw : ∀ i, i < l.length → wfI (vsE (atA l i).e)) {l2 : List A18} {B : Option Addr} {cq : Nat} (hS2 : Sl W B (Aw l2)) (hm2 : l2.length ≤ 9223372036854775807) (hw2 : ∀ i, i < l2.length → wfI (vsE (atA l2 i).e)) (n : Int) : Calls Try.prog 4 #[.slice A l.length cp, .slice B l2.length cq, .int .i64 n] W fun e w' => e = .returned (.bool true) ∧ Below W.heap.size W w' := by
  have hM : Hp W (fun _ => False) [] W := Hp.start
  refine TC.enter (n := 158) Try.func4 rfl rfl rfl hM ?_
  refine TC.seq ?_
  refine TC.region ?_
  refine' TL.y rfl rfl rfl ?hy1 ?_
  case hy1 => exact Yl.assign rfl rfl
  refine TL.nil ?_
  refine TE.next ?_
  refine TC.seq ?_
  refine TC.region ?_
  refine' TL.c rfl rfl rfl ?hy2 ?_
  case hy2 => exact Yc.call rfl Try.func9 (by kernel_rfl) rfl rfl (Hp.calls (fun w h => k_works w))
  intro _
  refine' TL.y rfl rfl rfl ?hy3 ?_
  case hy3 => exact Yl.assign rfl rfl
  refine TL.nil ?_
  refine TE.next ?_
  refine TC.seq ?_
  refine TC.seq ?_
  refine TC.region ?_
  refine' TL.y rfl rfl rfl ?hy4 ?_
  case hy4 => exact Yl.move rfl rfl
  refine' TL.y rfl rfl rfl ?hy5 ?_
  case hy5 => exact Yl.not rfl rfl
  refine TL.nil ?_
  refine TE.next ?_
  refine TC.no rfl rfl ?_
  refine TC.skip ?_
  refine TE.next ?_
  refine TC.seq ?_
  refine TC.seq ?_
  refine TC.region ?_
  refine' TL.y rfl rfl rfl ?hy6 ?_
  case hy6 => exact Yl.move rfl rfl
  refine' TL.y rfl rfl rfl ?hy7 ?_
  case hy7 => exact Yl.len rfl rfl Try.underlying22
  refine' TL.y rfl rfl rfl ?hy8 ?_
  case hy8 => exact Yl.bin rfl rfl rfl (Bin.gtr _ _ _ _)
  refine' TL.y rfl rfl rfl ?hy9 ?_
  case hy9 => exact Yl.move rfl rfl
  refine TL.split (i := 26) rfl (fun hs26 => ?_) (fun hs26 => ?_)
  · skip
    (try simp only [decide_eq_true_eq, decide_eq_false_iff_not, beq_iff_eq, beq_eq_false_iff_ne, bne_iff_ne, ne_eq, bne_eq_false_iff_eq, Bool.not_eq_true', Bool.not_eq_false', Int.not_lt, Int.not_le, gt_iff_lt, ge_iff_le] at hs26)
    refine TL.skip rfl rfl rfl ?_
    refine TL.skip rfl rfl rfl ?_
    refine TL.skip rfl rfl rfl ?_
    refine' TL.y rfl rfl rfl ?hy10 ?_
    case hy10 => exact Yl.pickT rfl rfl rfl
    refine TL.nil ?_
    refine TE.next ?_
    refine TC.yes rfl rfl ?_
    refine TC.seq ?_
    refine TC.region ?_
    refine' TL.y rfl rfl rfl ?hy11 ?_
    case hy11 => exact Yl.move rfl rfl
    refine' TL.y rfl rfl rfl ?hy12 ?_
    case hy12 => exact Yl.assign rfl rfl
    refine TL.nil ?_
    refine TE.next ?_
    refine TC.ret ?_
    refine TE.thenRet ?_
    refine TE.ret1 rfl rfl ?_
    exact fun w h => ⟨rfl, (h.sub (List.nil_sublist _)).below⟩
  · skip
    (try simp only [decide_eq_true_eq, decide_eq_false_iff_not, beq_iff_eq, beq_eq_false_iff_ne, bne_iff_ne, ne_eq, bne_eq_false_iff_eq, Bool.not_eq_true', Bool.not_eq_false', Int.not_lt, Int.not_le, gt_iff_lt, ge_iff_le] at hs26)
    refine' TL.y rfl rfl rfl ?hy13 ?_
    case hy13 => exact Yl.move rfl rfl
    refine' TL.y rfl rfl rfl ?hy14 ?_
    case hy14 => exact Yl.len rfl rfl Try.underlying22
    refine' TL.y rfl rfl rfl ?hy15 ?_
    case hy15 => exact Yl.bin rfl rfl rfl (Bin.gtr _ _ _ _)
    refine' TL.y rfl rfl rfl ?hy16 ?_
    case hy16 => exact Yl.pickF rfl rfl rfl
    refine TL.nil ?_
    refine TE.next ?_
    refine TC.cond rfl (fun hs30 => ?_) (fun hs30 => ?_)
    · skip
      (try simp only [decide_eq_true_eq, decide_eq_false_iff_not, beq_iff_eq, beq_eq_false_iff_ne, bne_iff_ne, ne_eq, bne_eq_false_iff_eq, Bool.not_eq_true', Bool.not_eq_false', Int.not_lt, Int.not_le, gt_iff_lt, ge_iff_le] at hs30)
      refine TC.seq ?_
      refine TC.region ?_
      refine' TL.y rfl rfl rfl ?hy17 ?_
      case hy17 => exact Yl.move rfl rfl
      refine' TL.y rfl rfl rfl ?hy18 ?_
      case hy18 => exact Yl.assign rfl rfl
      refine TL.nil ?_
      refine TE.next ?_
      refine TC.ret ?_
      refine TE.thenRet ?_
      refine TE.ret1 rfl rfl ?_
      exact fun w h => ⟨rfl, (h.sub (List.nil_sublist _)).below⟩
    · skip
      (try simp only [decide_eq_true_eq, decide_eq_false_iff_not, beq_iff_eq, beq_eq_false_iff_ne, bne_iff_ne, ne_eq, bne_eq_false_iff_eq, Bool.not_eq_true', Bool.not_eq_false', Int.not_lt, Int.not_le, gt_iff_lt, ge_iff_le] at hs30)
      refine TC.skip ?_
      refine TE.next ?_
      refine TC.seq ?_
      refine TC.region ?_
      refine' TL.c rfl rfl rfl ?hy19 ?_
      case hy19 => exact Yc.call rfl Try.func10 (by kernel_rfl) rfl rfl (Hp.news (fun w h => k_snew w))
      intro ⟨x1, hx1⟩
      dsimp only
      refine' TL.y rfl rfl rfl ?hy20 ?_
      case hy20 => exact Yl.assign rfl rfl
      refine TL.nil ?_
      refine TE.next ?_
      refine TC.seq ?_
      refine TC.seq ?_
      refine TC.region ?_
      refine' TL.y rfl rfl rfl ?hy21 ?_
      case hy21 => exact Yl.assign rfl rfl
      refine TL.nil ?_
      refine TE.next ?_
      refine TC.block ?_
      refine TC.loop (σ := Nat × Sp × SS) (fun q => [(0, .slice A l.length cp), (1, .slice B l2.length cq), (2, .int .i64 n), (7, .bool true), (8, .pointer (some ⟨x1.s, 0, none⟩)), (9, .int .i64 (q.1 : Int))]) (fun q => Hp W (fun _ => False) [spR q.2.1 q.2.2]) (fun q => q.1 ≤ l.length ∧ q.2.1.Is q.2.2 x1.s) (fun q => l.length - q.1) (0, x1, newS) ?hF22 ?hs22 ?hm22 ?round22
      case hF22 => exact ⟨Nat.zero_le _, hx1⟩
      case hs22 => exact ⟨rfl, rfl, rfl, rfl, rfl, rfl, trivial⟩
      case hm22 => exact fun _ h => h
      case round22 =>
        rintro ⟨i, x, u⟩ ⟨hi, hx⟩
        dsimp only at hi hx ⊢
        refine TC.seq ?_
        refine TC.seq ?_
        refine TC.region ?_
        refine' TL.y rfl rfl rfl ?hy23 ?_
        case hy23 => exact Yl.move rfl rfl
        refine' TL.y rfl rfl rfl ?hy24 ?_
        case hy24 => exact Yl.move rfl rfl
        refine' TL.y rfl rfl rfl ?hy25 ?_
        case hy25 => exact Yl.len rfl rfl Try.underlying22
        refine' TL.y rfl rfl rfl ?hy26 ?_
        case hy26 => exact Yl.bin rfl rfl rfl (Bin.lss _ _ _ _)
        refine TL.nil ?_
        refine TE.next ?_
        refine TC.cond rfl (fun hs36 => ?_) (fun hs36 => ?_)
        · skip
          (try simp only [decide_eq_true_eq, decide_eq_false_iff_not, beq_iff_eq, beq_eq_false_iff_ne, bne_iff_ne, ne_eq, bne_eq_false_iff_eq, Bool.not_eq_true', Bool.not_eq_false', Int.not_lt, Int.not_le, gt_iff_lt, ge_iff_le] at hs36)
          obtain ⟨b0, o0, rfl⟩ := Sl.some2 hS (by rw [Aw_length]; omega)
          refine TC.skip ?_
          refine TE.next ?_
          refine TC.seq ?_
          refine TC.block ?_
          refine TC.seq ?_
          refine TC.region ?_
          refine' TL.y rfl rfl rfl ?hy27 ?_
          case hy27 => exact Yl.move rfl rfl
          refine' TL.y rfl rfl rfl ?hy28 ?_
          case hy28 => exact Yl.move rfl rfl
          refine' TL.y rfl rfl rfl ?hy29 ?_
          case hy29 => exact Yl.move rfl rfl
          refine' TL.y rfl rfl rfl ?hy30 ?_
          case hy30 => first | exact Yl.ixkn (k := 13) rfl rfl rfl Try.underlying22 (by kernel_rfl) (by omega) | exact Yl.ixkz (k := 13) rfl rfl rfl Try.underlying22 (by kernel_rfl) (by omega) (by omega)
          refine' TL.y rfl rfl rfl ?hy31 ?_
          case hy31 => first | exact Yl.field0 (k := 5) 1 rfl rfl Try.underlying32 rfl (by kernel_rfl) rfl | exact Yl.field (k := 5) 1 rfl rfl Try.underlying32 rfl (by kernel_rfl) rfl
          refine' TL.y rfl rfl rfl ?hy32 ?_
          case hy32 => exact Yl.loads (cs := [.int .i64 ((atA l i).x).f0, .int .i64 ((atA l i).x).f1, .int .i64 ((atA l i).x).f2, .int .i64 ((atA l i).x).f3, .int .i64 ((atA l i).x).f4, .bool ((atA l i).x).f5]) rfl rfl (by kernel_rfl) (by kernel_rfl) (Sl.awX hS (i := i) rfl (by omega))
          refine' TL.c rfl rfl rfl ?hy33 ?_
          case hy33 => exact Yc.call rfl Try.func11 (by kernel_rfl) rfl rfl (Hp.turnx mem0 (fun s => foc0) (k_smap hx (atA l i).x))
          intro ⟨x2, hx2⟩
          dsimp only
          refine TL.nil ?_
          refine TE.next ?_
          refine TC.draw (k := 12) (Hp W (fun _ => False) []) [] #[false, false, false, false, false, false, false, false, false, false, false, false] (by kernel_rfl) rfl rfl (fun _ h => h.drew) (fun _ h => by exact Hp.sub h (by repeat (first | exact List.Sublist.refl _ | exact List.nil_sublist _ | apply List.Sublist.cons_cons | apply List.Sublist.cons))) ?_
          refine' TA.y (i := 0) #[true, false, false, false, false, false, false, false, false, false, false, false] rfl rfl rfl (by kernel_rfl) (fun _ _ _ h => h) (fun _ h => by exact Hp.sub h (by repeat (first | exact List.Sublist.refl _ | exact List.nil_sublist _ | apply List.Sublist.cons_cons | apply List.Sublist.cons))) rfl ?hy34 ?_
          case hy34 => exact Yl.move rfl rfl
          refine' TA.y (i := 1) #[true, true, false, false, false, false, false, false, false, false, false, false] rfl rfl rfl (by kernel_rfl) (fun _ _ _ h => h) (fun _ h => by exact Hp.sub h (by repeat (first | exact List.Sublist.refl _ | exact List.nil_sublist _ | apply List.Sublist.cons_cons | apply List.Sublist.cons))) rfl ?hy35 ?_
          case hy35 => exact Yl.move rfl rfl
          refine' TA.y (i := 2) #[true, true, true, false, false, false, false, false, false, false, false, false] rfl rfl rfl (by kernel_rfl) (fun _ _ _ h => h) (fun _ h => by exact Hp.sub h (by repeat (first | exact List.Sublist.refl _ | exact List.nil_sublist _ | apply List.Sublist.cons_cons | apply List.Sublist.cons))) rfl ?hy36 ?_
          case hy36 => exact Yl.move rfl rfl
          refine' TA.y (i := 3) #[true, true, true, true, false, false, false, false, false, false, false, false] rfl rfl rfl (by kernel_rfl) (fun _ _ _ h => h) (fun _ h => by exact Hp.sub h (by repeat (first | exact List.Sublist.refl _ | exact List.nil_sublist _ | apply List.Sublist.cons_cons | apply List.Sublist.cons))) rfl ?hy37 ?_
          case hy37 => first | exact Yl.ixkn (k := 13) rfl rfl rfl Try.underlying22 (by kernel_rfl) (by omega) | exact Yl.ixkz (k := 13) rfl rfl rfl Try.underlying22 (by kernel_rfl) (by omega) (by omega)
          refine' TA.y (i := 4) #[true, true, true, true, true, false, false, false, false, false, false, false] rfl rfl rfl (by kernel_rfl) (fun _ _ _ h => h) (fun _ h => by exact Hp.sub h (by repeat (first | exact List.Sublist.refl _ | exact List.nil_sublist _ | apply List.Sublist.cons_cons | apply List.Sublist.cons))) rfl ?hy38 ?_
          case hy38 => first | exact Yl.field0 (k := 0) 11 rfl rfl Try.underlying32 rfl (by kernel_rfl) rfl | exact Yl.field (k := 0) 11 rfl rfl Try.underlying32 rfl (by kernel_rfl) rfl
          refine' TA.y (i := 5) #[true, true, true, true, true, true, false, false, false, false, false, false] rfl rfl rfl (by kernel_rfl) (fun _ _ _ h => h) (fun _ h => by exact Hp.sub h (by repeat (first | exact List.Sublist.refl _ | exact List.nil_sublist _ | apply List.Sublist.cons_cons | apply List.Sublist.cons))) rfl ?hy39 ?_
          case hy39 => exact Yl.load (v := .int .i64 (atA l i).a) rfl rfl (by kernel_rfl) (Sl.aw hS (i := i) (j := 11) rfl (by omega) (by decide))
          refine' TA.y (i := 6) #[true, true, true, true, true, true, true, false, false, false, false, false] rfl rfl rfl (by kernel_rfl) (fun _ _ _ h => h) (fun _ h => by exact Hp.sub h (by repeat (first | exact List.Sublist.refl _ | exact List.nil_sublist _ | apply List.Sublist.cons_cons | apply List.Sublist.cons))) rfl ?hy40 ?_
          case hy40 => exact Yl.move rfl rfl
          refine' TA.y (i := 7) #[true, true, true, true, true, true, true, true, false, false, false, false] rfl rfl rfl (by kernel_rfl) (fun _ _ _ h => h) (fun _ h => by exact Hp.sub h (by repeat (first | exact List.Sublist.refl _ | exact List.nil_sublist _ | apply List.Sublist.cons_cons | apply List.Sublist.cons))) rfl ?hy41 ?_
          case hy41 => exact Yl.move rfl rfl
          refine' TA.y (i := 8) #[true, true, true, true, true, true, true, true, true, false, false, false] rfl rfl rfl (by kernel_rfl) (fun _ _ _ h => h) (fun _ h => by exact Hp.sub h (by repeat (first | exact List.Sublist.refl _ | exact List.nil_sublist _ | apply List.Sublist.cons_cons | apply List.Sublist.cons))) rfl ?hy42 ?_
          case hy42 => first | exact Yl.ixkn (k := 13) rfl rfl rfl Try.underlying22 (by kernel_rfl) (by omega) | exact Yl.ixkz (k := 13) rfl rfl rfl Try.underlying22 (by kernel_rfl) (by omega) (by omega)
          refine' TA.y (i := 9) #[true, true, true, true, true, true, true, true, true, true, false, false] rfl rfl rfl (by kernel_rfl) (fun _ _ _ h => h) (fun _ h => by exact Hp.sub h (by repeat (first | exact List.Sublist.refl _ | exact List.nil_sublist _ | apply List.Sublist.cons_cons | apply List.Sublist.cons))) rfl ?hy43 ?_
          case hy43 => first | exact Yl.field0 (k := 3) 7 rfl rfl Try.underlying32 rfl (by kernel_rfl) rfl | exact Yl.field (k := 3) 7 rfl rfl Try.underlying32 rfl (by kernel_rfl) rfl
          refine' TA.y (i := 10) #[true, true, true, true, true, true, true, true, true, true, true, false] rfl rfl rfl (by kernel_rfl) (fun _ _ _ h => h) (fun _ h => by exact Hp.sub h (by repeat (first | exact List.Sublist.refl _ | exact List.nil_sublist _ | apply List.Sublist.cons_cons | apply List.Sublist.cons))) rfl ?hy44 ?_
          case hy44 => exact Yl.loads (cs := [.int .i64 ((atA l i).e).k, .int .i64 ((atA l i).e).pg, .bool ((atA l i).e).w, .bool ((atA l i).e).t]) rfl rfl (by kernel_rfl) (by kernel_rfl) (Sl.awE hS (i := i) rfl (by omega))
          refine' TA.c (i := 11) #[true, true, true, true, true, true, true, true, true, true, true, true] rfl rfl rfl (by kernel_rfl) (by decide) rfl ?hy45 ?hz45 ?_
          case hy45 => exact Yc.call rfl Try.func12 (by kernel_rfl) rfl rfl (Hp.turnx mem0 (fun s => foc0) (k_sset hx2 (atA l i).a (atA l i).e (hw i (by omega))))
          case hz45 => exact (fun _ _ h => by exact Hp.sub h (by repeat (first | exact List.Sublist.refl _ | exact List.nil_sublist _ | apply List.Sublist.cons_cons | apply List.Sublist.cons)))
          intro ⟨x3, hx3⟩
          dsimp only
          refine TA.done (by kernel_rfl) ?_
          refine TE.inNormal ?_
          refine TE.next ?_
          refine TC.region ?_
          refine' TL.y rfl rfl rfl ?hy46 ?_
          case hy46 => exact Yl.move rfl rfl
          refine' TL.y rfl rfl rfl ?hy47 ?_
          case hy47 => first | (refine Yl.val (Yl.bin rfl rfl rfl (Bin.add _ _ _ _)) (congrArg (Value.int .i64) (i64in ?_ ?_)) <;> omega) | exact Yl.bin rfl rfl rfl (Bin.add _ _ _ _)
          refine' TL.y rfl rfl rfl ?hy48 ?_
          case hy48 => exact Yl.assign rfl rfl
          refine TL.nil ?_
          refine TE.round (i + 1, x3, (sset (mapS u (atA l i).x) (atA l i).a (atA l i).e).1) ?hF49 ?hlt49 ?hs49 ?hm49
          case hF49 => exact ⟨by dsimp only; omega, hx3⟩
          case hlt49 => dsimp only; omega
          case hs49 => exact ⟨rfl, rfl, rfl, rfl, rfl, rfl, trivial⟩
          case hm49 => exact fun _ h => h
        · skip
          (try simp only [decide_eq_true_eq, decide_eq_false_iff_not, beq_iff_eq, beq_eq_false_iff_ne, bne_iff_ne, ne_eq, bne_eq_false_iff_eq, Bool.not_eq_true', Bool.not_eq_false', Int.not_lt, Int.not_le, gt_iff_lt, ge_iff_le] at hs36)
          refine TC.exit ?_
          refine TE.thenExit ?_
          refine TE.thenExit ?_
          refine TE.inHere ?_
          refine TE.next ?_
          refine TC.seq ?_
          refine TC.region ?_
          refine' TL.y rfl rfl rfl ?hy50 ?_
          case hy50 => exact Yl.move rfl rfl
          refine' TL.c rfl rfl rfl ?hy51 ?_
          case hy51 => exact Yc.call rfl Try.func17 (by kernel_rfl) rfl rfl (Hp.news (fun w h => k_sclone w (h.all _ mem0) hx))
          intro ⟨x4, hx4⟩
          dsimp only
          refine' TL.y rfl rfl rfl ?hy52 ?_
          case hy52 => exact Yl.assign rfl rfl
          refine TL.nil ?_
          refine TE.next ?_
          refine TC.seq ?_
          refine TC.seq ?_
          refine TC.region ?_
          refine' TL.y rfl rfl rfl ?hy53 ?_
          case hy53 => exact Yl.move rfl rfl
          refine' TL.y rfl rfl rfl ?hy54 ?_
          case hy54 => exact Yl.bin rfl rfl rfl (Bin.eqlP _ _ _ Try.underlying24)
          refine TL.nil ?_
          refine TE.next ?_
          refine TC.no rfl (rfl) ?_
          refine TC.skip ?_
          refine TE.next ?_
          refine TC.seq ?_
          refine TC.region ?_
          refine' TL.y rfl rfl rfl ?hy55 ?_
          case hy55 => exact Yl.move rfl rfl
          refine' TL.y rfl rfl rfl ?hy56 ?_
          case hy56 => exact Yl.move rfl rfl
          refine' TL.c rfl rfl rfl ?hy57 ?_
          case hy57 => exact Yc.call rfl Try.func14 (by kernel_rfl) rfl rfl (Hp.calls (fun w h => k_sentry w (h.all _ mem1) hx n))
          intro _
          refine' TL.y rfl rfl rfl ?hy58 ?_
          case hy58 => exact Yl.move rfl rfl
          refine' TL.y rfl rfl rfl ?hy59 ?_
          case hy59 => exact Yl.extract rfl rfl rfl
          refine' TL.y rfl rfl rfl ?hy60 ?_
          case hy60 => exact Yl.extract rfl rfl rfl
          refine' TL.mx rfl rfl rfl ?hy61 ?_
          case hy61 => exact Ym.alloc (z := .agg #[.int .i64 0, .int .i64 0, .bool false, .bool false]) rfl (by kernel_rfl)
          intro b11
          refine' TL.s rfl rfl ?hy62 ?_
          case hy62 => exact Ys.store (seg := [.int .i64 (((gE (u) n).getD zEn)).k, .int .i64 (((gE (u) n).getD zEn)).pg, .bool (((gE (u) n).getD zEn)).w, .bool (((gE (u) n).getD zEn)).t]) (c' := #[.int .i64 (((gE (u) n).getD zEn)).k, .int .i64 (((gE (u) n).getD zEn)).pg, .bool (((gE (u) n).getD zEn)).w, .bool (((gE (u) n).getD zEn)).t]) rfl rfl rfl (by simp [Value.cells]) (by kernel_rfl) (by simp [Value.oneCell']) foc0 (by simp [Value.cells]) rfl
          refine' TL.y rfl rfl rfl ?hy63 ?_
          case hy63 => exact Yl.assign rfl rfl
          refine TL.nil ?_
          refine TE.next ?_
          refine TC.seq ?_
          refine TC.region ?_
          refine' TL.y rfl rfl rfl ?hy64 ?_
          case hy64 => exact Yl.move rfl rfl
          refine' TL.c rfl rfl rfl ?hy65 ?_
          case hy65 => exact Yc.call rfl Try.func16 (by kernel_rfl) rfl rfl (Hp.calls (fun w h => k_ssize w (h.all _ mem2) hx))
          intro _
          refine' TL.y rfl rfl rfl ?hy66 ?_
          case hy66 => exact Yl.assign rfl rfl
          refine TL.nil ?_
          refine TE.next ?_
          refine TC.seq ?_
          refine TC.region ?_
          refine' TL.y rfl rfl rfl ?hy67 ?_
          case hy67 => exact Yl.move rfl rfl
          refine' TL.c rfl rfl rfl ?hy68 ?_
          case hy68 => exact Yc.call rfl Try.func18 (by kernel_rfl) rfl rfl (Hp.news (fun w h => k_sregions w (h.all _ mem2) hx))
          intro v71
          refine TL.fact (fun w h => Hp.rowGsh mem0 w h) ?_
          rintro ⟨A71, c71, rfl⟩
          refine' TL.y rfl rfl rfl ?hy69 ?_
          case hy69 => exact Yl.len rfl rfl Try.underlying44
          refine' TL.y rfl rfl rfl ?hy70 ?_
          case hy70 => exact Yl.assign rfl rfl
          refine TL.nil ?_
          refine TE.next ?_
          refine TC.seq ?_
          refine TC.region ?_
          refine' TL.y rfl rfl rfl ?hy71 ?_
          case hy71 => exact Yl.move rfl rfl
          refine' TL.y rfl rfl rfl ?hy72 ?_
          case hy72 => exact Yl.move rfl rfl
          refine' TL.c rfl rfl rfl ?hy73 ?_
          case hy73 => exact Yc.call rfl Try.func14 (by kernel_rfl) rfl rfl (Hp.calls (fun w h => k_sentry w (h.all _ mem2) hx4 n))
          intro _
          refine' TL.y rfl rfl rfl ?hy74 ?_
          case hy74 => exact Yl.move rfl rfl
          refine' TL.y rfl rfl rfl ?hy75 ?_
          case hy75 => exact Yl.extract rfl rfl rfl
          refine' TL.y rfl rfl rfl ?hy76 ?_
          case hy76 => exact Yl.extract rfl rfl rfl
          refine' TL.mx rfl rfl rfl ?hy77 ?_
          case hy77 => exact Ym.alloc (z := .agg #[.int .i64 0, .int .i64 0, .bool false, .bool false]) rfl (by kernel_rfl)
          intro b15
          refine' TL.s rfl rfl ?hy78 ?_
          case hy78 => exact Ys.store (seg := [.int .i64 (((gE (u) n).getD zEn)).k, .int .i64 (((gE (u) n).getD zEn)).pg, .bool (((gE (u) n).getD zEn)).w, .bool (((gE (u) n).getD zEn)).t]) (c' := #[.int .i64 (((gE (u) n).getD zEn)).k, .int .i64 (((gE (u) n).getD zEn)).pg, .bool (((gE (u) n).getD zEn)).w, .bool (((gE (u) n).getD zEn)).t]) rfl rfl rfl (by simp [Value.cells]) (by kernel_rfl) (by simp [Value.oneCell']) foc0 (by simp [Value.cells]) rfl
          refine' TL.y rfl rfl rfl ?hy79 ?_
          case hy79 => exact Yl.assign rfl rfl
          refine TL.nil ?_
          refine TE.next ?_
          refine TC.seq ?_
          refine TC.seq ?_
          refine TC.region ?_
          refine' TL.y rfl rfl rfl ?hy80 ?_
          case hy80 => exact Yl.assign rfl rfl
          refine TL.nil ?_
          refine TE.next ?_
          refine TC.block ?_
          refine TC.loop (σ := Nat × Sp × SS) (fun q => [(1, .slice B l2.length cq), (2, .int .i64 n), (7, .bool true), (8, .pointer (some ⟨x1.s, 0, none⟩)), (10, .pointer (some ⟨x4.s, 0, none⟩)), (11, .pointer (some ⟨b11, 0, none⟩)), (12, .bool (gE u n).isSome), (13, .int .i64 (sizeS u : Int)), (14, .int .i64 (u.G.length : Int)), (15, .pointer (some ⟨b15, 0, none⟩)), (16, .bool (gE u n).isSome), (17, .int .i64 (q.1 : Int))]) (fun q => Hp W (fun _ => False) [blk b15 (.cells #[.int .i64 (((gE (u) n).getD zEn)).k, .int .i64 (((gE (u) n).getD zEn)).pg, .bool (((gE (u) n).getD zEn)).w, .bool (((gE (u) n).getD zEn)).t] 30 (0, 0)), blk b11 (.cells #[.int .i64 (((gE (u) n).getD zEn)).k, .int .i64 (((gE (u) n).getD zEn)).pg, .bool (((gE (u) n).getD zEn)).w, .bool (((gE (u) n).getD zEn)).t] 30 (0, 0)), spR q.2.1 q.2.2, spR x u]) (fun q => q.1 ≤ l2.length ∧ q.2.1.Is q.2.2 x4.s) (fun q => l2.length - q.1) (0, x4, u) ?hF81 ?hs81 ?hm81 ?round81
          case hF81 => exact ⟨Nat.zero_le _, hx4⟩
          case hs81 => exact ⟨rfl, rfl, rfl, rfl, rfl, rfl, rfl, rfl, rfl, rfl, rfl, rfl, trivial⟩
          case hm81 => exact (fun _ h => by exact Hp.sub h (by repeat (first | exact List.Sublist.refl _ | exact List.nil_sublist _ | apply List.Sublist.cons_cons | apply List.Sublist.cons)))
          case round81 =>
            rintro ⟨i, z, y⟩ ⟨hi, hy⟩
            dsimp only at hi hy ⊢
            refine TC.seq ?_
            refine TC.seq ?_
            refine TC.region ?_
            refine' TL.y rfl rfl rfl ?hy82 ?_
            case hy82 => exact Yl.move rfl rfl
            refine' TL.y rfl rfl rfl ?hy83 ?_
            case hy83 => exact Yl.move rfl rfl
            refine' TL.y rfl rfl rfl ?hy84 ?_
            case hy84 => exact Yl.len rfl rfl Try.underlying22
            refine' TL.y rfl rfl rfl ?hy85 ?_
            case hy85 => exact Yl.bin rfl rfl rfl (Bin.lss _ _ _ _)
            refine TL.nil ?_
            refine TE.next ?_
            refine TC.cond rfl (fun hs82 => ?_) (fun hs82 => ?_)
            · skip
              (try simp only [decide_eq_true_eq, decide_eq_false_iff_not, beq_iff_eq, beq_eq_false_iff_ne, bne_iff_ne, ne_eq, bne_eq_false_iff_eq, Bool.not_eq_true', Bool.not_eq_false', Int.not_lt, Int.not_le, gt_iff_lt, ge_iff_le] at hs82)
              obtain ⟨b1, o1, rfl⟩ := Sl.some2 hS2 (by rw [Aw_length]; omega)
              refine TC.skip ?_
              refine TE.next ?_
              refine TC.seq ?_
              refine TC.block ?_
              refine TC.seq ?_
              refine TC.draw (k := 12) (Hp W (fun _ => False) []) [] #[false, false, false, false, false, false, false, false, false, false, false, false] (by kernel_rfl) rfl rfl (fun _ h => h.drew) (fun _ h => by exact Hp.sub h (by repeat (first | exact List.Sublist.refl _ | exact List.nil_sublist _ | apply List.Sublist.cons_cons | apply List.Sublist.cons))) ?_
              refine' TA.y (i := 0) #[true, false, false, false, false, false, false, false, false, false, false, false] rfl rfl rfl (by kernel_rfl) (fun _ _ _ h => h) (fun _ h => by exact Hp.sub h (by repeat (first | exact List.Sublist.refl _ | exact List.nil_sublist _ | apply List.Sublist.cons_cons | apply List.Sublist.cons))) rfl ?hy86 ?_
              case hy86 => exact Yl.move rfl rfl
              refine' TA.y (i := 1) #[true, true, false, false, false, false, false, false, false, false, false, false] rfl rfl rfl (by kernel_rfl) (fun _ _ _ h => h) (fun _ h => by exact Hp.sub h (by repeat (first | exact List.Sublist.refl _ | exact List.nil_sublist _ | apply List.Sublist.cons_cons | apply List.Sublist.cons))) rfl ?hy87 ?_
              case hy87 => exact Yl.move rfl rfl
              refine' TA.y (i := 2) #[true, true, true, false, false, false, false, false, false, false, false, false] rfl rfl rfl (by kernel_rfl) (fun _ _ _ h => h) (fun _ h => by exact Hp.sub h (by repeat (first | exact List.Sublist.refl _ | exact List.nil_sublist _ | apply List.Sublist.cons_cons | apply List.Sublist.cons))) rfl ?hy88 ?_
              case hy88 => exact Yl.move rfl rfl
              refine' TA.y (i := 3) #[true, true, true, true, false, false, false, false, false, false, false, false] rfl rfl rfl (by kernel_rfl) (fun _ _ _ h => h) (fun _ h => by exact Hp.sub h (by repeat (first | exact List.Sublist.refl _ | exact List.nil_sublist _ | apply List.Sublist.cons_cons | apply List.Sublist.cons))) rfl ?hy89 ?_
              case hy89 => first | exact Yl.ixkn (k := 13) rfl rfl rfl Try.underlying22 (by kernel_rfl) (by omega) | exact Yl.ixkz (k := 13) rfl rfl rfl Try.underlying22 (by kernel_rfl) (by omega) (by omega)
              refine' TA.y (i := 4) #[true, true, true, true, true, false, false, false, false, false, false, false] rfl rfl rfl (by kernel_rfl) (fun _ _ _ h => h) (fun _ h => by exact Hp.sub h (by repeat (first | exact List.Sublist.refl _ | exact List.nil_sublist _ | apply List.Sublist.cons_cons | apply List.Sublist.cons))) rfl ?hy90 ?_
              case hy90 => first | exact Yl.field0 (k := 0) 11 rfl rfl Try.underlying32 rfl (by kernel_rfl) rfl | exact Yl.field (k := 0) 11 rfl rfl Try.underlying32 rfl (by kernel_rfl) rfl
              refine' TA.y (i := 5) #[true, true, true, true, true, true, false, false, false, false, false, false] rfl rfl rfl (by kernel_rfl) (fun _ _ _ h => h) (fun _ h => by exact Hp.sub h (by repeat (first | exact List.Sublist.refl _ | exact List.nil_sublist _ | apply List.Sublist.cons_cons | apply List.Sublist.cons))) rfl ?hy91 ?_
              case hy91 => exact Yl.load (v := .int .i64 (atA l2 i).a) rfl rfl (by kernel_rfl) (Sl.aw hS2 (i := i) (j := 11) rfl (by omega) (by decide))
              refine' TA.y (i := 6) #[true, true, true, true, true, true, true, false, false, false, false, false] rfl rfl rfl (by kernel_rfl) (fun _ _ _ h => h) (fun _ h => by exact Hp.sub h (by repeat (first | exact List.Sublist.refl _ | exact List.nil_sublist _ | apply List.Sublist.cons_cons | apply List.Sublist.cons))) rfl ?hy92 ?_
              case hy92 => exact Yl.move rfl rfl
              refine' TA.y (i := 7) #[true, true, true, true, true, true, true, true, false, false, false, false] rfl rfl rfl (by kernel_rfl) (fun _ _ _ h => h) (fun _ h => by exact Hp.sub h (by repeat (first | exact List.Sublist.refl _ | exact List.nil_sublist _ | apply List.Sublist.cons_cons | apply List.Sublist.cons))) rfl ?hy93 ?_
              case hy93 => exact Yl.move rfl rfl
              refine' TA.y (i := 8) #[true, true, true, true, true, true, true, true, true, false, false, false] rfl rfl rfl (by kernel_rfl) (fun _ _ _ h => h) (fun _ h => by exact Hp.sub h (by repeat (first | exact List.Sublist.refl _ | exact List.nil_sublist _ | apply List.Sublist.cons_cons | apply List.Sublist.cons))) rfl ?hy94 ?_
              case hy94 => first | exact Yl.ixkn (k := 13) rfl rfl rfl Try.underlying22 (by kernel_rfl) (by omega) | exact Yl.ixkz (k := 13) rfl rfl rfl Try.underlying22 (by kernel_rfl) (by omega) (by omega)
              refine' TA.y (i := 9) #[true, true, true, true, true, true, true, true, true, true, false, false] rfl rfl rfl (by kernel_rfl) (fun _ _ _ h => h) (fun _ h => by exact Hp.sub h (by repeat (first | exact List.Sublist.refl _ | exact List.nil_sublist _ | apply List.Sublist.cons_cons | apply List.Sublist.cons))) rfl ?hy95 ?_
              case hy95 => first | exact Yl.field0 (k := 0) 12 rfl rfl Try.underlying32 rfl (by kernel_rfl) rfl | exact Yl.field (k := 0) 12 rfl rfl Try.underlying32 rfl (by kernel_rfl) rfl
              refine' TA.y (i := 10) #[true, true, true, true, true, true, true, true, true, true, true, false] rfl rfl rfl (by kernel_rfl) (fun _ _ _ h => h) (fun _ h => by exact Hp.sub h (by repeat (first | exact List.Sublist.refl _ | exact List.nil_sublist _ | apply List.Sublist.cons_cons | apply List.Sublist.cons))) rfl ?hy96 ?_
              case hy96 => exact Yl.load (v := .int .i64 (atA l2 i).b) rfl rfl (by kernel_rfl) (Sl.aw hS2 (i := i) (j := 12) rfl (by omega) (by decide))
              refine' TA.c (i := 11) #[true, true, true, true, true, true, true, true, true, true, true, true] rfl rfl rfl (by kernel_rfl) (by decide) rfl ?hy97 ?hz97 ?_
              case hy97 => exact Yc.call rfl Try.func13 (by kernel_rfl) rfl rfl (Hp.turnx mem2 (fun s => foc2) (k_scut hy (atA l2 i).a (atA l2 i).b))
              case hz97 => exact (fun _ _ h => by exact Hp.sub h (by repeat (first | exact List.Sublist.refl _ | exact List.nil_sublist _ | apply List.Sublist.cons_cons | apply List.Sublist.cons)))
              intro ⟨⟨v96, x5⟩, hx5⟩
              dsimp only at hx5 ⊢
              refine TA.wk (M' := Hp W (fun _ => False) [blk b15 (.cells #[.int .i64 (((gE (u) n).getD zEn)).k, .int .i64 (((gE (u) n).getD zEn)).pg, .bool (((gE (u) n).getD zEn)).w, .bool (((gE (u) n).getD zEn)).t] 30 (0, 0)), blk b11 (.cells #[.int .i64 (((gE (u) n).getD zEn)).k, .int .i64 (((gE (u) n).getD zEn)).pg, .bool (((gE (u) n).getD zEn)).w, .bool (((gE (u) n).getD zEn)).t] 30 (0, 0)), spR x5 (scut y (atA l2 i).a (atA l2 i).b), spR x u]) (fun w h => Hp.drop2 h) ?_
              refine TA.done (by kernel_rfl) ?_
              refine TE.next ?_
              refine TC.seq ?_
              refine TC.draw (k := 12) (Hp W (fun _ => False) []) [] #[false, false, false, false, false, false, false, false, false, false, false, false] (by kernel_rfl) rfl rfl (fun _ h => h.drew) (fun _ h => by exact Hp.sub h (by repeat (first | exact List.Sublist.refl _ | exact List.nil_sublist _ | apply List.Sublist.cons_cons | apply List.Sublist.cons))) ?_
              refine' TA.y (i := 0) #[true, false, false, false, false, false, false, false, false, false, false, false] rfl rfl rfl (by kernel_rfl) (fun _ _ _ h => h) (fun _ h => by exact Hp.sub h (by repeat (first | exact List.Sublist.refl _ | exact List.nil_sublist _ | apply List.Sublist.cons_cons | apply List.Sublist.cons))) rfl ?hy98 ?_
              case hy98 => exact Yl.move rfl rfl
              refine' TA.y (i := 1) #[true, true, false, false, false, false, false, false, false, false, false, false] rfl rfl rfl (by kernel_rfl) (fun _ _ _ h => h) (fun _ h => by exact Hp.sub h (by repeat (first | exact List.Sublist.refl _ | exact List.nil_sublist _ | apply List.Sublist.cons_cons | apply List.Sublist.cons))) rfl ?hy99 ?_
              case hy99 => exact Yl.move rfl rfl
              refine' TA.y (i := 2) #[true, true, true, false, false, false, false, false, false, false, false, false] rfl rfl rfl (by kernel_rfl) (fun _ _ _ h => h) (fun _ h => by exact Hp.sub h (by repeat (first | exact List.Sublist.refl _ | exact List.nil_sublist _ | apply List.Sublist.cons_cons | apply List.Sublist.cons))) rfl ?hy100 ?_
              case hy100 => exact Yl.move rfl rfl
              refine' TA.y (i := 3) #[true, true, true, true, false, false, false, false, false, false, false, false] rfl rfl rfl (by kernel_rfl) (fun _ _ _ h => h) (fun _ h => by exact Hp.sub h (by repeat (first | exact List.Sublist.refl _ | exact List.nil_sublist _ | apply List.Sublist.cons_cons | apply List.Sublist.cons))) rfl ?hy101 ?_
              case hy101 => first | exact Yl.ixkn (k := 13) rfl rfl rfl Try.underlying22 (by kernel_rfl) (by omega) | exact Yl.ixkz (k := 13) rfl rfl rfl Try.underlying22 (by kernel_rfl) (by omega) (by omega)
              refine' TA.y (i := 4) #[true, true, true, true, true, false, false, false, false, false, false, false] rfl rfl rfl (by kernel_rfl) (fun _ _ _ h => h) (fun _ h => by exact Hp.sub h (by repeat (first | exact List.Sublist.refl _ | exact List.nil_sublist _ | apply List.Sublist.cons_cons | apply List.Sublist.cons))) rfl ?hy102 ?_
              case hy102 => first | exact Yl.field0 (k := 0) 11 rfl rfl Try.underlying32 rfl (by kernel_rfl) rfl | exact Yl.field (k := 0) 11 rfl rfl Try.underlying32 rfl (by kernel_rfl) rfl
              refine' TA.y (i := 5) #[true, true, true, true, true, true, false, false, false, false, false, false] rfl rfl rfl (by kernel_rfl) (fun _ _ _ h => h) (fun _ h => by exact Hp.sub h (by repeat (first | exact List.Sublist.refl _ | exact List.nil_sublist _ | apply List.Sublist.cons_cons | apply List.Sublist.cons))) rfl ?hy103 ?_
              case hy103 => exact Yl.load (v := .int .i64 (atA l2 i).a) rfl rfl (by kernel_rfl) (Sl.aw hS2 (i := i) (j := 11) rfl (by omega) (by decide))
              refine' TA.y (i := 6) #[true, true, true, true, true, true, true, false, false, false, false, false] rfl rfl rfl (by kernel_rfl) (fun _ _ _ h => h) (fun _ h => by exact Hp.sub h (by repeat (first | exact List.Sublist.refl _ | exact List.nil_sublist _ | apply List.Sublist.cons_cons | apply List.Sublist.cons))) rfl ?hy104 ?_
              case hy104 => exact Yl.move rfl rfl
              refine' TA.y (i := 7) #[true, true, true, true, true, true, true, true, false, false, false, false] rfl rfl rfl (by kernel_rfl) (fun _ _ _ h => h) (fun _ h => by exact Hp.sub h (by repeat (first | exact List.Sublist.refl _ | exact List.nil_sublist _ | apply List.Sublist.cons_cons | apply List.Sublist.cons))) rfl ?hy105 ?_
              case hy105 => exact Yl.move rfl rfl
              refine' TA.y (i := 8) #[true, true, true, true, true, true, true, true, true, false, false, false] rfl rfl rfl (by kernel_rfl) (fun _ _ _ h => h) (fun _ h => by exact Hp.sub h (by repeat (first | exact List.Sublist.refl _ | exact List.nil_sublist _ | apply List.Sublist.cons_cons | apply List.Sublist.cons))) rfl ?hy106 ?_
              case hy106 => first | exact Yl.ixkn (k := 13) rfl rfl rfl Try.underlying22 (by kernel_rfl) (by omega) | exact Yl.ixkz (k := 13) rfl rfl rfl Try.underlying22 (by kernel_rfl) (by omega) (by omega)
              refine' TA.y (i := 9) #[true, true, true, true, true, true, true, true, true, true, false, false] rfl rfl rfl (by kernel_rfl) (fun _ _ _ h => h) (fun _ h => by exact Hp.sub h (by repeat (first | exact List.Sublist.refl _ | exact List.nil_sublist _ | apply List.Sublist.cons_cons | apply List.Sublist.cons))) rfl ?hy107 ?_
              case hy107 => first | exact Yl.field0 (k := 3) 7 rfl rfl Try.underlying32 rfl (by kernel_rfl) rfl | exact Yl.field (k := 3) 7 rfl rfl Try.underlying32 rfl (by kernel_rfl) rfl
              refine' TA.y (i := 10) #[true, true, true, true, true, true, true, true, true, true, true, false] rfl rfl rfl (by kernel_rfl) (fun _ _ _ h => h) (fun _ h => by exact Hp.sub h (by repeat (first | exact List.Sublist.refl _ | exact List.nil_sublist _ | apply List.Sublist.cons_cons | apply List.Sublist.cons))) rfl ?hy108 ?_
              case hy108 => exact Yl.loads (cs := [.int .i64 ((atA l2 i).e).k, .int .i64 ((atA l2 i).e).pg, .bool ((atA l2 i).e).w, .bool ((atA l2 i).e).t]) rfl rfl (by kernel_rfl) (by kernel_rfl) (Sl.awE hS2 (i := i) rfl (by omega))
              refine' TA.c (i := 11) #[true, true, true, true, true, true, true, true, true, true, true, true] rfl rfl rfl (by kernel_rfl) (by decide) rfl ?hy109 ?hz109 ?_
              case hy109 => exact Yc.call rfl Try.func12 (by kernel_rfl) rfl rfl (Hp.turnx mem2 (fun s => foc2) (k_sset hx5 (atA l2 i).a (atA l2 i).e (hw2 i (by omega))))
              case hz109 => exact (fun _ _ h => by exact Hp.sub h (by repeat (first | exact List.Sublist.refl _ | exact List.nil_sublist _ | apply List.Sublist.cons_cons | apply List.Sublist.cons)))
              intro ⟨x6, hx6⟩
              dsimp only
              refine TA.done (by kernel_rfl) ?_
              refine TE.next ?_
              refine TC.seq ?_
              refine TC.region ?_
              refine' TL.y rfl rfl rfl ?hy110 ?_
              case hy110 => exact Yl.move rfl rfl
              refine' TL.y rfl rfl rfl ?hy111 ?_
              case hy111 => exact Yl.move rfl rfl
              refine' TL.y rfl rfl rfl ?hy112 ?_
              case hy112 => exact Yl.move rfl rfl
              refine' TL.y rfl rfl rfl ?hy113 ?_
              case hy113 => first | exact Yl.ixkn (k := 13) rfl rfl rfl Try.underlying22 (by kernel_rfl) (by omega) | exact Yl.ixkz (k := 13) rfl rfl rfl Try.underlying22 (by kernel_rfl) (by omega) (by omega)
              refine' TL.y rfl rfl rfl ?hy114 ?_
              case hy114 => first | exact Yl.field0 (k := 0) 11 rfl rfl Try.underlying32 rfl (by kernel_rfl) rfl | exact Yl.field (k := 0) 11 rfl rfl Try.underlying32 rfl (by kernel_rfl) rfl
              refine' TL.y rfl rfl rfl ?hy115 ?_
              case hy115 => exact Yl.load (v := .int .i64 (atA l2 i).a) rfl rfl (by kernel_rfl) (Sl.aw hS2 (i := i) (j := 11) rfl (by omega) (by decide))
              refine' TL.c rfl rfl rfl ?hy116 ?_
              case hy116 => exact Yc.call rfl Try.func19 (by kernel_rfl) rfl rfl (Hp.turnx mem2 (fun s => foc2) (k_stouch hx6 (atA l2 i).a))
              intro ⟨x7, hx7⟩
              dsimp only
              refine TL.nil ?_
              refine TE.next ?_
              refine TC.region ?_
              refine' TL.y rfl rfl rfl ?hy117 ?_
              case hy117 => exact Yl.move rfl rfl
              refine' TL.c rfl rfl rfl ?hy118 ?_
              case hy118 => exact Yc.call rfl Try.func20 (by kernel_rfl) rfl rfl (Hp.turnx mem2 (fun s => foc2) (k_srest hx7))
              intro ⟨x8, hx8⟩
              dsimp only
              refine TL.nil ?_
              refine TE.inNormal ?_
              refine TE.next ?_
              refine TC.region ?_
              refine' TL.y rfl rfl rfl ?hy119 ?_
              case hy119 => exact Yl.move rfl rfl
              refine' TL.y rfl rfl rfl ?hy120 ?_
              case hy120 => first | (refine Yl.val (Yl.bin rfl rfl rfl (Bin.add _ _ _ _)) (congrArg (Value.int .i64) (i64in ?_ ?_)) <;> omega) | exact Yl.bin rfl rfl rfl (Bin.add _ _ _ _)
              refine' TL.y rfl rfl rfl ?hy121 ?_
              case hy121 => exact Yl.assign rfl rfl
              refine TL.nil ?_
              refine TE.round (i + 1, x8, srest (stouch (sset (scut y (atA l2 i).a (atA l2 i).b) (atA l2 i).a (atA l2 i).e).1 (atA l2 i).a)) ?hF122 ?hlt122 ?hs122 ?hm122
              case hF122 => exact ⟨by dsimp only; omega, hx8⟩
              case hlt122 => dsimp only; omega
              case hs122 => exact ⟨rfl, rfl, rfl, rfl, rfl, rfl, rfl, rfl, rfl, rfl, rfl, rfl, trivial⟩
              case hm122 => exact fun _ h => h
            · skip
              (try simp only [decide_eq_true_eq, decide_eq_false_iff_not, beq_iff_eq, beq_eq_false_iff_ne, bne_iff_ne, ne_eq, bne_eq_false_iff_eq, Bool.not_eq_true', Bool.not_eq_false', Int.not_lt, Int.not_le, gt_iff_lt, ge_iff_le] at hs82)
              refine TC.exit ?_
              refine TE.thenExit ?_
              refine TE.thenExit ?_
              refine TE.inHere ?_
              refine TE.next ?_
              refine TC.seq ?_
              refine TC.region ?_
              refine' TL.y rfl rfl rfl ?hy123 ?_
              case hy123 => exact Yl.move rfl rfl
              refine' TL.y rfl rfl rfl ?hy124 ?_
              case hy124 => exact Yl.move rfl rfl
              refine' TL.c rfl rfl rfl ?hy125 ?_
              case hy125 => exact Yc.call rfl Try.func14 (by kernel_rfl) rfl rfl (Hp.calls (fun w h => k_sentry w (h.all _ mem3) hx n))
              intro _
              refine' TL.y rfl rfl rfl ?hy126 ?_
              case hy126 => exact Yl.move rfl rfl
              refine' TL.y rfl rfl rfl ?hy127 ?_
              case hy127 => exact Yl.extract rfl rfl rfl
              refine' TL.y rfl rfl rfl ?hy128 ?_
              case hy128 => exact Yl.extract rfl rfl rfl
              refine' TL.mx rfl rfl rfl ?hy129 ?_
              case hy129 => exact Ym.alloc (z := .agg #[.int .i64 0, .int .i64 0, .bool false, .bool false]) rfl (by kernel_rfl)
              intro b18
              refine' TL.s rfl rfl ?hy130 ?_
              case hy130 => exact Ys.store (seg := [.int .i64 (((gE (u) n).getD zEn)).k, .int .i64 (((gE (u) n).getD zEn)).pg, .bool (((gE (u) n).getD zEn)).w, .bool (((gE (u) n).getD zEn)).t]) (c' := #[.int .i64 (((gE (u) n).getD zEn)).k, .int .i64 (((gE (u) n).getD zEn)).pg, .bool (((gE (u) n).getD zEn)).w, .bool (((gE (u) n).getD zEn)).t]) rfl rfl rfl (by simp [Value.cells]) (by kernel_rfl) (by simp [Value.oneCell']) foc0 (by simp [Value.cells]) rfl
              refine' TL.y rfl rfl rfl ?hy131 ?_
              case hy131 => exact Yl.assign rfl rfl
              refine TL.nil ?_
              refine TE.next ?_
              refine TC.seq ?_
              refine TC.region ?_
              refine' TL.y rfl rfl rfl ?hy132 ?_
              case hy132 => exact Yl.move rfl rfl
              refine' TL.y rfl rfl rfl ?hy133 ?_
              case hy133 => exact Yl.move rfl rfl
              refine' TL.y rfl rfl rfl ?hy134 ?_
              case hy134 => exact Yl.loads (cs := [.int .i64 (((gE (u) n).getD zEn)).k, .int .i64 (((gE (u) n).getD zEn)).pg, .bool (((gE (u) n).getD zEn)).w, .bool (((gE (u) n).getD zEn)).t]) rfl rfl (by kernel_rfl) (by kernel_rfl) (Hp.cells mem2 (fun j v hj => by simpa [Value.cells] using hj))
              refine' TL.y rfl rfl rfl ?hy135 ?_
              case hy135 => exact Yl.loads (cs := [.int .i64 (((gE (u) n).getD zEn)).k, .int .i64 (((gE (u) n).getD zEn)).pg, .bool (((gE (u) n).getD zEn)).w, .bool (((gE (u) n).getD zEn)).t]) rfl rfl (by kernel_rfl) (by kernel_rfl) (Hp.cells mem0 (fun j v hj => by simpa [Value.cells] using hj))
              refine' TL.y rfl rfl rfl ?hy136 ?_
              case hy136 => exact Yl.bin rfl rfl rfl (Bin.eqlE _ _ _ _ _ _ _ _)
              refine' TL.y rfl rfl rfl ?hy137 ?_
              case hy137 => exact Yl.pickT rfl rfl rfl
              refine' TL.y rfl rfl rfl ?hy138 ?_
              case hy138 => exact Yl.move rfl rfl
              refine TL.re (i := 130) (v' := .bool true) rfl (congrArg Value.bool (by simp)) ?_
              refine' TL.y rfl rfl rfl ?hy139 ?_
              case hy139 => exact Yl.move rfl rfl
              refine' TL.y rfl rfl rfl ?hy140 ?_
              case hy140 => exact Yl.move rfl rfl
              refine' TL.y rfl rfl rfl ?hy141 ?_
              case hy141 => exact Yl.bin rfl rfl rfl (Bin.eqlB _ _ _ (by kernel_rfl))
              refine' TL.y rfl rfl rfl ?hy142 ?_
              case hy142 => exact Yl.pickT rfl rfl rfl
              refine' TL.y rfl rfl rfl ?hy143 ?_
              case hy143 => exact Yl.move rfl rfl
              refine TL.re (i := 135) (v' := .bool true) rfl (congrArg Value.bool (by simp)) ?_
              refine' TL.y rfl rfl rfl ?hy144 ?_
              case hy144 => exact Yl.loads (cs := [.int .i64 (((gE (u) n).getD zEn)).k, .int .i64 (((gE (u) n).getD zEn)).pg, .bool (((gE (u) n).getD zEn)).w, .bool (((gE (u) n).getD zEn)).t]) rfl rfl (by kernel_rfl) (by kernel_rfl) (Hp.cells mem2 (fun j v hj => by simpa [Value.cells] using hj))
              refine' TL.y rfl rfl rfl ?hy145 ?_
              case hy145 => exact Yl.loads (cs := [.int .i64 (((gE (u) n).getD zEn)).k, .int .i64 (((gE (u) n).getD zEn)).pg, .bool (((gE (u) n).getD zEn)).w, .bool (((gE (u) n).getD zEn)).t]) rfl rfl (by kernel_rfl) (by kernel_rfl) (Hp.cells mem1 (fun j v hj => by simpa [Value.cells] using hj))
              refine' TL.y rfl rfl rfl ?hy146 ?_
              case hy146 => exact Yl.bin rfl rfl rfl (Bin.eqlE _ _ _ _ _ _ _ _)
              refine' TL.y rfl rfl rfl ?hy147 ?_
              case hy147 => exact Yl.pickT rfl rfl rfl
              refine' TL.y rfl rfl rfl ?hy148 ?_
              case hy148 => exact Yl.move rfl rfl
              refine TL.re (i := 140) (v' := .bool true) rfl (congrArg Value.bool (by simp)) ?_
              refine' TL.y rfl rfl rfl ?hy149 ?_
              case hy149 => exact Yl.move rfl rfl
              refine' TL.y rfl rfl rfl ?hy150 ?_
              case hy150 => exact Yl.move rfl rfl
              refine' TL.y rfl rfl rfl ?hy151 ?_
              case hy151 => exact Yl.bin rfl rfl rfl (Bin.eqlB _ _ _ (by kernel_rfl))
              refine' TL.y rfl rfl rfl ?hy152 ?_
              case hy152 => exact Yl.pickT rfl rfl rfl
              refine' TL.y rfl rfl rfl ?hy153 ?_
              case hy153 => exact Yl.move rfl rfl
              refine TL.re (i := 145) (v' := .bool true) rfl (congrArg Value.bool (by simp)) ?_
              refine' TL.y rfl rfl rfl ?hy154 ?_
              case hy154 => exact Yl.move rfl rfl
              refine' TL.c rfl rfl rfl ?hy155 ?_
              case hy155 => exact Yc.call rfl Try.func16 (by kernel_rfl) rfl rfl (Hp.calls (fun w h => k_ssize w (h.all _ mem4) hx))
              intro _
              refine' TL.y rfl rfl rfl ?hy156 ?_
              case hy156 => exact Yl.move rfl rfl
              refine' TL.y rfl rfl rfl ?hy157 ?_
              case hy157 => exact Yl.bin rfl rfl rfl (Bin.eql _ _ _ _)
              refine' TL.y rfl rfl rfl ?hy158 ?_
              case hy158 => exact Yl.pickT rfl rfl rfl
              refine' TL.y rfl rfl rfl ?hy159 ?_
              case hy159 => exact Yl.move rfl rfl
              refine TL.re (i := 151) (v' := .bool true) rfl (congrArg Value.bool (by simp)) ?_
              refine' TL.y rfl rfl rfl ?hy160 ?_
              case hy160 => exact Yl.move rfl rfl
              refine' TL.c rfl rfl rfl ?hy161 ?_
              case hy161 => exact Yc.call rfl Try.func18 (by kernel_rfl) rfl rfl (Hp.news (fun w h => k_sregions w (h.all _ mem4) hx))
              intro v153
              refine TL.fact (fun w h => Hp.rowGsh mem0 w h) ?_
              rintro ⟨A153, c153, rfl⟩
              refine' TL.y rfl rfl rfl ?hy162 ?_
              case hy162 => exact Yl.len rfl rfl Try.underlying44
              refine' TL.y rfl rfl rfl ?hy163 ?_
              case hy163 => exact Yl.move rfl rfl
              refine' TL.y rfl rfl rfl ?hy164 ?_
              case hy164 => exact Yl.bin rfl rfl rfl (Bin.eql _ _ _ _)
              refine' TL.y rfl rfl rfl ?hy165 ?_
              case hy165 => exact Yl.pickT rfl rfl rfl
              refine' TL.y rfl rfl rfl ?hy166 ?_
              case hy166 => exact Yl.assign rfl rfl
              refine TL.nil ?_
              refine TE.next ?_
              refine TC.ret ?_
              refine TE.ret1 rfl rfl ?_
              exact fun w h => ⟨by simp, (h.sub (List.nil_sublist _)).below⟩
end Go.Proofs.Ytabjdjkkpbkpfaa.Pk
