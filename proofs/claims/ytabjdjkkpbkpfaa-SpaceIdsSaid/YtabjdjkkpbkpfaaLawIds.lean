/- The numbers of the pages. -/
import Derived.Test.YtabjdjkkpbkpfaaSpW
import Derived.Test.YtabjdjkkpbkpfaaProg
import Derived.RowKit3
namespace Go.Proofs.Ytabjdjkkpbkpfaa.Pk
open Go Go.RowKit Go.Proofs.Ytabjdjkkpbkpfaa.HL Go.Proofs.Ytabjdjkkpbkpfaa.Ev Go.Proofs.YtabjdjkkpbkpfaaW.PrintWords Go.Proofs.RgP Go.Proofs.RxP Go.Proofs.Ytabjdjkkpbkpfaa.BM
set_option linter.unusedVariables false
set_option linter.unusedSimpArgs false
attribute [local irreducible] Rw atG ents Iw Aw atA pgsE idsL restC sizeS cutL addL
theorem size_all {u : SS} : sizeS (scut u 0 65536) = 0 := by
  have := cut_size u 0 65536
  rw [ids_len, ← size_len] at this; omega
theorem reg_all {u : SS} (hu : u.Ok) : (scut u 0 65536).G = [] := (cutL_is hu.right 0 65536).trans (cut_all (by omega) hu.right)
set_option maxRecDepth 100000 in
set_option maxHeartbeats 2000000 in
theorem law_ids (W : World) {l : List A18} {A : Option Addr} {cp : Nat} (hS : Sl W A (Aw l)) (hm : l.length ≤ 9223372036854775807) (hw : ∀ i, i < l.length → wfI (vsE (atA l i).e)) : Calls Try.prog 8 #[.slice A l.length cp] W fun e w' => e = .returned (.bool true) ∧ Below W.heap.size W w' := by
  have hM : Hp W (fun _ => False) [] W := Hp.start
  refine TC.enter (n := 79) Try.func8 rfl rfl rfl hM ?_
  refine TC.seq ?_
  refine TC.region ?_
  refine' TL.y rfl rfl rfl ?hy1 ?_
  case hy1 => exact Yl.assign rfl rfl
  refine TL.nil ?_
  refine TE.next ?_
  refine TC.seq ?_
  refine TC.region ?_
  refine' TL.c rfl rfl rfl ?hy2 ?_
  case hy2 => exact Yc.call rfl Try.func9 (by kernel_rfl) rfl rfl (Hp.calls (fun w h => k_works w))
  intro _
  refine' TL.y rfl rfl rfl ?hy3 ?_
  case hy3 => exact Yl.assign rfl rfl
  refine TL.nil ?_
  refine TE.next ?_
  refine TC.seq ?_
  refine TC.seq ?_
  refine TC.region ?_
  refine' TL.y rfl rfl rfl ?hy4 ?_
  case hy4 => exact Yl.move rfl rfl
  refine' TL.y rfl rfl rfl ?hy5 ?_
  case hy5 => exact Yl.not rfl rfl
  refine TL.nil ?_
  refine TE.next ?_
  refine TC.no rfl rfl ?_
  refine TC.skip ?_
  refine TE.next ?_
  refine TC.seq ?_
  refine TC.seq ?_
  refine TC.region ?_
  refine' TL.y rfl rfl rfl ?hy6 ?_
  case hy6 => exact Yl.move rfl rfl
  refine' TL.y rfl rfl rfl ?hy7 ?_
  case hy7 => exact Yl.len rfl rfl Try.underlying22
  refine' TL.y rfl rfl rfl ?hy8 ?_
  case hy8 => exact Yl.bin rfl rfl rfl (Bin.gtr _ _ _ _)
  refine TL.nil ?_
  refine TE.next ?_
  refine TC.cond rfl (fun hs15 => ?_) (fun hs15 => ?_)
  · skip
    (try simp only [decide_eq_true_eq, decide_eq_false_iff_not, beq_iff_eq, beq_eq_false_iff_ne, bne_iff_ne, ne_eq, bne_eq_false_iff_eq, Bool.not_eq_true', Bool.not_eq_false', Int.not_lt, Int.not_le, gt_iff_lt, ge_iff_le] at hs15)
    refine TC.seq ?_
    refine TC.region ?_
    refine' TL.y rfl rfl rfl ?hy9 ?_
    case hy9 => exact Yl.move rfl rfl
    refine' TL.y rfl rfl rfl ?hy10 ?_
    case hy10 => exact Yl.assign rfl rfl
    refine TL.nil ?_
    refine TE.next ?_
    refine TC.ret ?_
    refine TE.thenRet ?_
    refine TE.ret1 rfl rfl ?_
    exact fun w h => ⟨rfl, (h.sub (List.nil_sublist _)).below⟩
  · skip
    (try simp only [decide_eq_true_eq, decide_eq_false_iff_not, beq_iff_eq, beq_eq_false_iff_ne, bne_iff_ne, ne_eq, bne_eq_false_iff_eq, Bool.not_eq_true', Bool.not_eq_false', Int.not_lt, Int.not_le, gt_iff_lt, ge_iff_le] at hs15)
    refine TC.skip ?_
    refine TE.next ?_
    refine TC.seq ?_
    refine TC.region ?_
    refine' TL.c rfl rfl rfl ?hy11 ?_
    case hy11 => exact Yc.call rfl Try.func10 (by kernel_rfl) rfl rfl (Hp.news (fun w h => k_snew w))
    intro ⟨x1, hx1⟩
    dsimp only
    refine' TL.y rfl rfl rfl ?hy12 ?_
    case hy12 => exact Yl.assign rfl rfl
    refine TL.nil ?_
    refine TE.next ?_
    refine TC.seq ?_
    refine TC.seq ?_
    refine TC.region ?_
    refine' TL.y rfl rfl rfl ?hy13 ?_
    case hy13 => exact Yl.assign rfl rfl
    refine TL.nil ?_
    refine TE.next ?_
    refine TC.block ?_
    refine TC.loop (σ := Nat × Sp × SS) (fun q => [(0, .slice A l.length cp), (3, .bool true), (4, .pointer (some ⟨x1.s, 0, none⟩)), (5, .int .i64 (q.1 : Int))]) (fun q => Hp W (fun _ => False) [spR q.2.1 q.2.2]) (fun q => q.1 ≤ l.length ∧ q.2.1.Is q.2.2 x1.s) (fun q => l.length - q.1) (0, x1, newS) ?hF14 ?hs14 ?hm14 ?round14
    case hF14 => exact ⟨Nat.zero_le _, hx1⟩
    case hs14 => exact ⟨rfl, rfl, rfl, rfl, trivial⟩
    case hm14 => exact fun _ h => h
    case round14 =>
      rintro ⟨i, x, u⟩ ⟨hi, hx⟩
      dsimp only at hi hx ⊢
      refine TC.seq ?_
      refine TC.seq ?_
      refine TC.region ?_
      refine' TL.y rfl rfl rfl ?hy15 ?_
      case hy15 => exact Yl.move rfl rfl
      refine' TL.y rfl rfl rfl ?hy16 ?_
      case hy16 => exact Yl.move rfl rfl
      refine' TL.y rfl rfl rfl ?hy17 ?_
      case hy17 => exact Yl.len rfl rfl Try.underlying22
      refine' TL.y rfl rfl rfl ?hy18 ?_
      case hy18 => exact Yl.bin rfl rfl rfl (Bin.lss _ _ _ _)
      refine TL.nil ?_
      refine TE.next ?_
      refine TC.cond rfl (fun hs21 => ?_) (fun hs21 => ?_)
      · skip
        (try simp only [decide_eq_true_eq, decide_eq_false_iff_not, beq_iff_eq, beq_eq_false_iff_ne, bne_iff_ne, ne_eq, bne_eq_false_iff_eq, Bool.not_eq_true', Bool.not_eq_false', Int.not_lt, Int.not_le, gt_iff_lt, ge_iff_le] at hs21)
        obtain ⟨b0, o0, rfl⟩ := Sl.some2 hS (by rw [Aw_length]; omega)
        refine TC.skip ?_
        refine TE.next ?_
        refine TC.seq ?_
        refine TC.block ?_
        refine TC.seq ?_
        refine TC.region ?_
        refine' TL.y rfl rfl rfl ?hy19 ?_
        case hy19 => exact Yl.move rfl rfl
        refine' TL.y rfl rfl rfl ?hy20 ?_
        case hy20 => exact Yl.move rfl rfl
        refine' TL.y rfl rfl rfl ?hy21 ?_
        case hy21 => exact Yl.move rfl rfl
        refine' TL.y rfl rfl rfl ?hy22 ?_
        case hy22 => first | exact Yl.ixkn (k := 13) rfl rfl rfl Try.underlying22 (by kernel_rfl) (by omega) | exact Yl.ixkz (k := 13) rfl rfl rfl Try.underlying22 (by kernel_rfl) (by omega) (by omega)
        refine' TL.y rfl rfl rfl ?hy23 ?_
        case hy23 => first | exact Yl.field0 (k := 5) 1 rfl rfl Try.underlying32 rfl (by kernel_rfl) rfl | exact Yl.field (k := 5) 1 rfl rfl Try.underlying32 rfl (by kernel_rfl) rfl
        refine' TL.y rfl rfl rfl ?hy24 ?_
        case hy24 => exact Yl.loads (cs := [.int .i64 ((atA l i).x).f0, .int .i64 ((atA l i).x).f1, .int .i64 ((atA l i).x).f2, .int .i64 ((atA l i).x).f3, .int .i64 ((atA l i).x).f4, .bool ((atA l i).x).f5]) rfl rfl (by kernel_rfl) (by kernel_rfl) (Sl.awX hS (i := i) rfl (by omega))
        refine' TL.c rfl rfl rfl ?hy25 ?_
        case hy25 => exact Yc.call rfl Try.func11 (by kernel_rfl) rfl rfl (Hp.turnx mem0 (fun s => foc0) (k_smap hx (atA l i).x))
        intro ⟨x2, hx2⟩
        dsimp only
        refine TL.nil ?_
        refine TE.next ?_
        refine TC.draw (k := 12) (Hp W (fun _ => False) []) [] #[false, false, false, false, false, false, false, false, false, false, false, false] (by kernel_rfl) rfl rfl (fun _ h => h.drew) (fun _ h => by exact Hp.sub h (by repeat (first | exact List.Sublist.refl _ | exact List.nil_sublist _ | apply List.Sublist.cons_cons | apply List.Sublist.cons))) ?_
        refine' TA.y (i := 0) #[true, false, false, false, false, false, false, false, false, false, false, false] rfl rfl rfl (by kernel_rfl) (fun _ _ _ h => h) (fun _ h => by exact Hp.sub h (by repeat (first | exact List.Sublist.refl _ | exact List.nil_sublist _ | apply List.Sublist.cons_cons | apply List.Sublist.cons))) rfl ?hy26 ?_
        case hy26 => exact Yl.move rfl rfl
        refine' TA.y (i := 1) #[true, true, false, false, false, false, false, false, false, false, false, false] rfl rfl rfl (by kernel_rfl) (fun _ _ _ h => h) (fun _ h => by exact Hp.sub h (by repeat (first | exact List.Sublist.refl _ | exact List.nil_sublist _ | apply List.Sublist.cons_cons | apply List.Sublist.cons))) rfl ?hy27 ?_
        case hy27 => exact Yl.move rfl rfl
        refine' TA.y (i := 2) #[true, true, true, false, false, false, false, false, false, false, false, false] rfl rfl rfl (by kernel_rfl) (fun _ _ _ h => h) (fun _ h => by exact Hp.sub h (by repeat (first | exact List.Sublist.refl _ | exact List.nil_sublist _ | apply List.Sublist.cons_cons | apply List.Sublist.cons))) rfl ?hy28 ?_
        case hy28 => exact Yl.move rfl rfl
        refine' TA.y (i := 3) #[true, true, true, true, false, false, false, false, false, false, false, false] rfl rfl rfl (by kernel_rfl) (fun _ _ _ h => h) (fun _ h => by exact Hp.sub h (by repeat (first | exact List.Sublist.refl _ | exact List.nil_sublist _ | apply List.Sublist.cons_cons | apply List.Sublist.cons))) rfl ?hy29 ?_
        case hy29 => first | exact Yl.ixkn (k := 13) rfl rfl rfl Try.underlying22 (by kernel_rfl) (by omega) | exact Yl.ixkz (k := 13) rfl rfl rfl Try.underlying22 (by kernel_rfl) (by omega) (by omega)
        refine' TA.y (i := 4) #[true, true, true, true, true, false, false, false, false, false, false, false] rfl rfl rfl (by kernel_rfl) (fun _ _ _ h => h) (fun _ h => by exact Hp.sub h (by repeat (first | exact List.Sublist.refl _ | exact List.nil_sublist _ | apply List.Sublist.cons_cons | apply List.Sublist.cons))) rfl ?hy30 ?_
        case hy30 => first | exact Yl.field0 (k := 0) 11 rfl rfl Try.underlying32 rfl (by kernel_rfl) rfl | exact Yl.field (k := 0) 11 rfl rfl Try.underlying32 rfl (by kernel_rfl) rfl
        refine' TA.y (i := 5) #[true, true, true, true, true, true, false, false, false, false, false, false] rfl rfl rfl (by kernel_rfl) (fun _ _ _ h => h) (fun _ h => by exact Hp.sub h (by repeat (first | exact List.Sublist.refl _ | exact List.nil_sublist _ | apply List.Sublist.cons_cons | apply List.Sublist.cons))) rfl ?hy31 ?_
        case hy31 => exact Yl.load (v := .int .i64 (atA l i).a) rfl rfl (by kernel_rfl) (Sl.aw hS (i := i) (j := 11) rfl (by omega) (by decide))
        refine' TA.y (i := 6) #[true, true, true, true, true, true, true, false, false, false, false, false] rfl rfl rfl (by kernel_rfl) (fun _ _ _ h => h) (fun _ h => by exact Hp.sub h (by repeat (first | exact List.Sublist.refl _ | exact List.nil_sublist _ | apply List.Sublist.cons_cons | apply List.Sublist.cons))) rfl ?hy32 ?_
        case hy32 => exact Yl.move rfl rfl
        refine' TA.y (i := 7) #[true, true, true, true, true, true, true, true, false, false, false, false] rfl rfl rfl (by kernel_rfl) (fun _ _ _ h => h) (fun _ h => by exact Hp.sub h (by repeat (first | exact List.Sublist.refl _ | exact List.nil_sublist _ | apply List.Sublist.cons_cons | apply List.Sublist.cons))) rfl ?hy33 ?_
        case hy33 => exact Yl.move rfl rfl
        refine' TA.y (i := 8) #[true, true, true, true, true, true, true, true, true, false, false, false] rfl rfl rfl (by kernel_rfl) (fun _ _ _ h => h) (fun _ h => by exact Hp.sub h (by repeat (first | exact List.Sublist.refl _ | exact List.nil_sublist _ | apply List.Sublist.cons_cons | apply List.Sublist.cons))) rfl ?hy34 ?_
        case hy34 => first | exact Yl.ixkn (k := 13) rfl rfl rfl Try.underlying22 (by kernel_rfl) (by omega) | exact Yl.ixkz (k := 13) rfl rfl rfl Try.underlying22 (by kernel_rfl) (by omega) (by omega)
        refine' TA.y (i := 9) #[true, true, true, true, true, true, true, true, true, true, false, false] rfl rfl rfl (by kernel_rfl) (fun _ _ _ h => h) (fun _ h => by exact Hp.sub h (by repeat (first | exact List.Sublist.refl _ | exact List.nil_sublist _ | apply List.Sublist.cons_cons | apply List.Sublist.cons))) rfl ?hy35 ?_
        case hy35 => first | exact Yl.field0 (k := 3) 7 rfl rfl Try.underlying32 rfl (by kernel_rfl) rfl | exact Yl.field (k := 3) 7 rfl rfl Try.underlying32 rfl (by kernel_rfl) rfl
        refine' TA.y (i := 10) #[true, true, true, true, true, true, true, true, true, true, true, false] rfl rfl rfl (by kernel_rfl) (fun _ _ _ h => h) (fun _ h => by exact Hp.sub h (by repeat (first | exact List.Sublist.refl _ | exact List.nil_sublist _ | apply List.Sublist.cons_cons | apply List.Sublist.cons))) rfl ?hy36 ?_
        case hy36 => exact Yl.loads (cs := [.int .i64 ((atA l i).e).k, .int .i64 ((atA l i).e).pg, .bool ((atA l i).e).w, .bool ((atA l i).e).t]) rfl rfl (by kernel_rfl) (by kernel_rfl) (Sl.awE hS (i := i) rfl (by omega))
        refine' TA.c (i := 11) #[true, true, true, true, true, true, true, true, true, true, true, true] rfl rfl rfl (by kernel_rfl) (by decide) rfl ?hy37 ?hz37 ?_
        case hy37 => exact Yc.call rfl Try.func12 (by kernel_rfl) rfl rfl (Hp.turnx mem0 (fun s => foc0) (k_sset hx2 (atA l i).a (atA l i).e (hw i (by omega))))
        case hz37 => exact (fun _ _ h => by exact Hp.sub h (by repeat (first | exact List.Sublist.refl _ | exact List.nil_sublist _ | apply List.Sublist.cons_cons | apply List.Sublist.cons)))
        intro ⟨x3, hx3⟩
        dsimp only
        refine TA.done (by kernel_rfl) ?_
        refine TE.inNormal ?_
        refine TE.next ?_
        refine TC.region ?_
        refine' TL.y rfl rfl rfl ?hy38 ?_
        case hy38 => exact Yl.move rfl rfl
        refine' TL.y rfl rfl rfl ?hy39 ?_
        case hy39 => first | (refine Yl.val (Yl.bin rfl rfl rfl (Bin.add _ _ _ _)) (congrArg (Value.int .i64) (i64in ?_ ?_)) <;> omega) | exact Yl.bin rfl rfl rfl (Bin.add _ _ _ _)
        refine' TL.y rfl rfl rfl ?hy40 ?_
        case hy40 => exact Yl.assign rfl rfl
        refine TL.nil ?_
        refine TE.round (i + 1, x3, (sset (mapS u (atA l i).x) (atA l i).a (atA l i).e).1) ?hF41 ?hlt41 ?hs41 ?hm41
        case hF41 => exact ⟨by dsimp only; omega, hx3⟩
        case hlt41 => dsimp only; omega
        case hs41 => exact ⟨rfl, rfl, rfl, rfl, trivial⟩
        case hm41 => exact fun _ h => h
      · skip
        (try simp only [decide_eq_true_eq, decide_eq_false_iff_not, beq_iff_eq, beq_eq_false_iff_ne, bne_iff_ne, ne_eq, bne_eq_false_iff_eq, Bool.not_eq_true', Bool.not_eq_false', Int.not_lt, Int.not_le, gt_iff_lt, ge_iff_le] at hs21)
        refine TC.exit ?_
        refine TE.thenExit ?_
        refine TE.thenExit ?_
        refine TE.inHere ?_
        refine TE.next ?_
        refine TC.seq ?_
        refine TC.region ?_
        refine' TL.y rfl rfl rfl ?hy42 ?_
        case hy42 => exact Yl.move rfl rfl
        refine' TL.c rfl rfl rfl ?hy43 ?_
        case hy43 => exact Yc.call rfl Try.func32 (by kernel_rfl) rfl rfl (Hp.news (fun w h => k_sIDs w (h.all _ mem0) hx))
        intro v44
        refine TL.fact (fun w h => Hp.rowShape mem0 w h) ?_
        rintro ⟨A44, c44, rfl⟩
        refine' TL.y rfl rfl rfl ?hy44 ?_
        case hy44 => exact Yl.assign rfl rfl
        refine TL.nil ?_
        refine TE.next ?_
        refine TC.seq ?_
        refine TC.region ?_
        refine' TL.y rfl rfl rfl ?hy45 ?_
        case hy45 => exact Yl.move rfl rfl
        refine' TL.c rfl rfl rfl ?hy46 ?_
        case hy46 => exact Yc.call rfl Try.func16 (by kernel_rfl) rfl rfl (Hp.calls (fun w h => k_ssize w (h.all _ mem1) hx))
        intro _
        refine' TL.y rfl rfl rfl ?hy47 ?_
        case hy47 => exact Yl.assign rfl rfl
        refine TL.nil ?_
        refine TE.next ?_
        refine TC.seq ?_
        refine TC.region ?_
        refine' TL.y rfl rfl rfl ?hy48 ?_
        case hy48 => exact Yl.move rfl rfl
        refine' TL.c rfl rfl rfl ?hy49 ?_
        case hy49 => exact Yc.call rfl Try.func13 (by kernel_rfl) rfl rfl (Hp.turnx mem1 (fun s => foc1) (k_scut hx 0 65536))
        intro ⟨⟨v48, x5⟩, hx5⟩
        dsimp only at hx5 ⊢
        refine TL.wk (M' := Hp W (fun _ => False) [rowI v48 (idsL u 0 65536), spR x5 (scut u 0 65536), rowI (.slice A44 (idsL u 0 65536).length c44) (idsL u 0 65536)]) (fun w h => h.swap.unstar) ?_
        refine TL.fact (fun w h => Hp.rowShape mem0 w h) ?_
        rintro ⟨A48, c48, rfl⟩
        have hil : (idsL u 0 65536).length ≤ 65536 := by rw [ids_len]; exact pgs_len2 u 0 65536
        refine' TL.y rfl rfl rfl ?hy50 ?_
        case hy50 => exact Yl.assign rfl rfl
        refine TL.nil ?_
        refine TE.next ?_
        refine TC.seq ?_
        refine TC.region ?_
        refine' TL.y rfl rfl rfl ?hy51 ?_
        case hy51 => exact Yl.move rfl rfl
        refine' TL.y rfl rfl rfl ?hy52 ?_
        case hy52 => exact Yl.move rfl rfl
        refine' TL.c rfl rfl rfl ?hy53 ?_
        case hy53 => exact Yc.call rfl Try.func24 (by kernel_rfl) rfl rfl (Hp.calls (fun w h => k_rowL w (Hp.rowSl mem2 w h) (Hp.rowSl mem0 w h) (by omega)))
        intro _
        rw [decide_eq_true rfl]
        refine' TL.y rfl rfl rfl ?hy54 ?_
        case hy54 => exact Yl.assign rfl rfl
        refine TL.nil ?_
        refine TE.next ?_
        refine TC.seq ?_
        refine TC.region ?_
        refine' TL.y rfl rfl rfl ?hy55 ?_
        case hy55 => exact Yl.move rfl rfl
        refine' TL.y rfl rfl rfl ?hy56 ?_
        case hy56 => exact Yl.move rfl rfl
        refine' TL.y rfl rfl rfl ?hy57 ?_
        case hy57 => exact Yl.move rfl rfl
        refine' TL.y rfl rfl rfl ?hy58 ?_
        case hy58 => exact Yl.pickT rfl rfl rfl
        refine' TL.y rfl rfl rfl ?hy59 ?_
        case hy59 => exact Yl.move rfl rfl
        refine' TL.y rfl rfl rfl ?hy60 ?_
        case hy60 => exact Yl.move rfl rfl
        refine' TL.y rfl rfl rfl ?hy61 ?_
        case hy61 => exact Yl.len rfl rfl Try.underlying36
        refine' TL.y rfl rfl rfl ?hy62 ?_
        case hy62 => exact Yl.move rfl rfl
        refine' TL.y rfl rfl rfl ?hy63 ?_
        case hy63 => exact Yl.bin rfl rfl rfl (Bin.eql _ _ _ _)
        refine' TL.y rfl rfl rfl ?hy64 ?_
        case hy64 => exact Yl.pickT rfl rfl rfl
        refine' TL.y rfl rfl rfl ?hy65 ?_
        case hy65 => exact Yl.move rfl rfl
        refine TL.re (i := 62) (v' := .bool true) rfl (congrArg Value.bool (by rw [ids_len, ← size_len]; simp)) ?_
        refine' TL.y rfl rfl rfl ?hy66 ?_
        case hy66 => exact Yl.move rfl rfl
        refine' TL.c rfl rfl rfl ?hy67 ?_
        case hy67 => exact Yc.call rfl Try.func16 (by kernel_rfl) rfl rfl (Hp.calls (fun w h => k_ssize w (h.all _ mem1) hx5))
        intro _
        rw [size_all]
        refine' TL.y rfl rfl rfl ?hy68 ?_
        case hy68 => exact Yl.bin rfl rfl rfl (Bin.eql _ _ _ _)
        refine' TL.y rfl rfl rfl ?hy69 ?_
        case hy69 => exact Yl.pickT rfl rfl rfl
        refine' TL.y rfl rfl rfl ?hy70 ?_
        case hy70 => exact Yl.move rfl rfl
        refine TL.re (i := 67) (v' := .bool true) rfl (congrArg Value.bool (rfl)) ?_
        refine' TL.y rfl rfl rfl ?hy71 ?_
        case hy71 => exact Yl.move rfl rfl
        refine' TL.c rfl rfl rfl ?hy72 ?_
        case hy72 => exact Yc.call rfl Try.func32 (by kernel_rfl) rfl rfl (Hp.news (fun w h => k_sIDs w (h.all _ mem1) hx5))
        intro v69
        refine TL.fact (fun w h => Hp.rowShape mem0 w h) ?_
        rintro ⟨A69, c69, rfl⟩
        refine' TL.y rfl rfl rfl ?hy73 ?_
        case hy73 => exact Yl.len rfl rfl Try.underlying36
        refine' TL.y rfl rfl rfl ?hy74 ?_
        case hy74 => exact Yl.bin rfl rfl rfl (Bin.eql _ _ _ _)
        refine' TL.y rfl rfl rfl ?hy75 ?_
        case hy75 => exact Yl.pickT rfl rfl rfl
        refine' TL.y rfl rfl rfl ?hy76 ?_
        case hy76 => exact Yl.move rfl rfl
        refine TL.re (i := 73) (v' := .bool true) rfl (congrArg Value.bool (by rw [ids_len, ← size_len, size_all]; rfl)) ?_
        refine' TL.y rfl rfl rfl ?hy77 ?_
        case hy77 => exact Yl.move rfl rfl
        refine' TL.c rfl rfl rfl ?hy78 ?_
        case hy78 => exact Yc.call rfl Try.func18 (by kernel_rfl) rfl rfl (Hp.news (fun w h => k_sregions w (h.all _ mem2) hx5))
        intro v75
        rw [reg_all hx.ok]
        refine TL.fact (fun w h => Hp.rowGsh mem0 w h) ?_
        rintro ⟨A75, c75, rfl⟩
        refine' TL.y rfl rfl rfl ?hy79 ?_
        case hy79 => exact Yl.len rfl rfl Try.underlying44
        refine' TL.y rfl rfl rfl ?hy80 ?_
        case hy80 => exact Yl.bin rfl rfl rfl (Bin.eql _ _ _ _)
        refine' TL.y rfl rfl rfl ?hy81 ?_
        case hy81 => exact Yl.pickT rfl rfl rfl
        refine' TL.y rfl rfl rfl ?hy82 ?_
        case hy82 => exact Yl.assign rfl rfl
        refine TL.nil ?_
        refine TE.next ?_
        refine TC.ret ?_
        refine TE.ret1 rfl rfl ?_
        exact fun w h => ⟨rfl, (h.sub (List.nil_sublist _)).below⟩
end Go.Proofs.Ytabjdjkkpbkpfaa.Pk
