/- What is mapped. -/
import Derived.Test.YtabjdjkkpbkpfaaSpW
import Derived.Test.YtabjdjkkpbkpfaaProg
import Derived.RowKit3
namespace Go.Proofs.Ytabjdjkkpbkpfaa.Pk
open Go Go.RowKit Go.Proofs.Ytabjdjkkpbkpfaa.HL Go.Proofs.Ytabjdjkkpbkpfaa.Ev Go.Proofs.YtabjdjkkpbkpfaaW.PrintWords Go.Proofs.RgP Go.Proofs.RxP Go.Proofs.Ytabjdjkkpbkpfaa.BM
set_option linter.unusedVariables false
set_option linter.unusedSimpArgs false
attribute [local irreducible] Rw atG ents Iw Aw atA pgsE idsL restC sizeS cutL addL
theorem mapS_E (u : SS) (y : S25) : (mapS u y).E = u.E := by unfold mapS; split <;> rfl
theorem ins_len (y : S25) (l : List S25) : (ins y l).length = l.length + 1 := by
  have := ins_idx y l
  rw [this]
  have := List.findIdx_le_length (xs := l) (p := afterB y)
  simp; omega
set_option maxRecDepth 100000 in
set_option maxHeartbeats 2000000 in
theorem law_maps (W : World) {l : List A18} {A : Option Addr} {cp : Nat} (hS : Sl W A (Aw l)) (hm : l.length ≤ 9223372036854775807) (y : S25) (n : Int) : Calls Try.prog 6 #[.slice A l.length cp, .agg #[.int .i64 (y).f0, .int .i64 (y).f1, .int .i64 (y).f2, .int .i64 (y).f3, .int .i64 (y).f4, .bool (y).f5], .int .i64 n] W fun e w' => e = .returned (.bool true) ∧ Below W.heap.size W w' := by
  have hM : Hp W (fun _ => False) [] W := Hp.start
  refine TC.enter (n := 129) Try.func6 rfl rfl rfl hM ?_
  refine TC.seq ?_
  refine TC.region ?_
  refine' TL.mx rfl rfl rfl ?hy1 ?_
  case hy1 => exact Ym.box rfl rfl
  intro b4
  refine' TL.y rfl rfl rfl ?hy2 ?_
  case hy2 => exact Yl.assign rfl rfl
  refine TL.nil ?_
  refine TE.next ?_
  refine TC.seq ?_
  refine TC.region ?_
  refine' TL.c rfl rfl rfl ?hy3 ?_
  case hy3 => exact Yc.call rfl Try.func9 (by kernel_rfl) rfl rfl (Hp.calls (fun w h => k_works w))
  intro _
  refine' TL.y rfl rfl rfl ?hy4 ?_
  case hy4 => exact Yl.assign rfl rfl
  refine TL.nil ?_
  refine TE.next ?_
  refine TC.seq ?_
  refine TC.seq ?_
  refine TC.region ?_
  refine' TL.y rfl rfl rfl ?hy5 ?_
  case hy5 => exact Yl.move rfl rfl
  refine' TL.y rfl rfl rfl ?hy6 ?_
  case hy6 => exact Yl.not rfl rfl
  refine TL.nil ?_
  refine TE.next ?_
  refine TC.no rfl rfl ?_
  refine TC.skip ?_
  refine TE.next ?_
  refine TC.seq ?_
  refine TC.seq ?_
  refine TC.region ?_
  refine' TL.y rfl rfl rfl ?hy7 ?_
  case hy7 => exact Yl.move rfl rfl
  refine' TL.y rfl rfl rfl ?hy8 ?_
  case hy8 => exact Yl.len rfl rfl Try.underlying22
  refine' TL.y rfl rfl rfl ?hy9 ?_
  case hy9 => exact Yl.bin rfl rfl rfl (Bin.gtr _ _ _ _)
  refine TL.nil ?_
  refine TE.next ?_
  refine TC.cond rfl (fun hs22 => ?_) (fun hs22 => ?_)
  · skip
    (try simp only [decide_eq_true_eq, decide_eq_false_iff_not, beq_iff_eq, beq_eq_false_iff_ne, bne_iff_ne, ne_eq, bne_eq_false_iff_eq, Bool.not_eq_true', Bool.not_eq_false', Int.not_lt, Int.not_le, gt_iff_lt, ge_iff_le] at hs22)
    refine TC.seq ?_
    refine TC.region ?_
    refine' TL.y rfl rfl rfl ?hy10 ?_
    case hy10 => exact Yl.move rfl rfl
    refine' TL.y rfl rfl rfl ?hy11 ?_
    case hy11 => exact Yl.assign rfl rfl
    refine TL.nil ?_
    refine TE.next ?_
    refine TC.ret ?_
    refine TE.thenRet ?_
    refine TE.ret1 rfl rfl ?_
    exact fun w h => ⟨rfl, (h.sub (List.nil_sublist _)).below⟩
  · skip
    (try simp only [decide_eq_true_eq, decide_eq_false_iff_not, beq_iff_eq, beq_eq_false_iff_ne, bne_iff_ne, ne_eq, bne_eq_false_iff_eq, Bool.not_eq_true', Bool.not_eq_false', Int.not_lt, Int.not_le, gt_iff_lt, ge_iff_le] at hs22)
    refine TC.skip ?_
    refine TE.next ?_
    refine TC.seq ?_
    refine TC.region ?_
    refine' TL.c rfl rfl rfl ?hy12 ?_
    case hy12 => exact Yc.call rfl Try.func10 (by kernel_rfl) rfl rfl (Hp.news (fun w h => k_snew w))
    intro ⟨x1, hx1⟩
    dsimp only
    refine' TL.y rfl rfl rfl ?hy13 ?_
    case hy13 => exact Yl.assign rfl rfl
    refine TL.nil ?_
    refine TE.next ?_
    refine TC.seq ?_
    refine TC.seq ?_
    refine TC.region ?_
    refine' TL.y rfl rfl rfl ?hy14 ?_
    case hy14 => exact Yl.assign rfl rfl
    refine TL.nil ?_
    refine TE.next ?_
    refine TC.block ?_
    refine TC.loop (σ := Nat × Sp × SS) (fun q => [(0, .slice A l.length cp), (2, .int .i64 n), (4, .pointer (some ⟨b4, 0, none⟩)), (7, .bool true), (8, .pointer (some ⟨x1.s, 0, none⟩)), (9, .int .i64 (q.1 : Int))]) (fun q => Hp W (fun _ => False) [spR q.2.1 q.2.2, blk b4 (.cells #[.int .i64 (y).f0, .int .i64 (y).f1, .int .i64 (y).f2, .int .i64 (y).f3, .int .i64 (y).f4, .bool (y).f5] 28 (0, 0))]) (fun q => q.1 ≤ l.length ∧ q.2.1.Is q.2.2 x1.s ∧ ∀ p, q.2.2.E p = none) (fun q => l.length - q.1) (0, x1, newS) ?hF15 ?hs15 ?hm15 ?round15
    case hF15 => exact ⟨Nat.zero_le _, hx1, fun _ => rfl⟩
    case hs15 => exact ⟨rfl, rfl, rfl, rfl, rfl, rfl, trivial⟩
    case hm15 => exact fun _ h => h
    case round15 =>
      rintro ⟨i, x, u⟩ ⟨hi, hx, hE⟩
      dsimp only at hi hx hE ⊢
      refine TC.seq ?_
      refine TC.seq ?_
      refine TC.region ?_
      refine' TL.y rfl rfl rfl ?hy16 ?_
      case hy16 => exact Yl.move rfl rfl
      refine' TL.y rfl rfl rfl ?hy17 ?_
      case hy17 => exact Yl.move rfl rfl
      refine' TL.y rfl rfl rfl ?hy18 ?_
      case hy18 => exact Yl.len rfl rfl Try.underlying22
      refine' TL.y rfl rfl rfl ?hy19 ?_
      case hy19 => exact Yl.bin rfl rfl rfl (Bin.lss _ _ _ _)
      refine TL.nil ?_
      refine TE.next ?_
      refine TC.cond rfl (fun hs28 => ?_) (fun hs28 => ?_)
      · skip
        (try simp only [decide_eq_true_eq, decide_eq_false_iff_not, beq_iff_eq, beq_eq_false_iff_ne, bne_iff_ne, ne_eq, bne_eq_false_iff_eq, Bool.not_eq_true', Bool.not_eq_false', Int.not_lt, Int.not_le, gt_iff_lt, ge_iff_le] at hs28)
        obtain ⟨b0, o0, rfl⟩ := Sl.some2 hS (by rw [Aw_length]; omega)
        refine TC.skip ?_
        refine TE.next ?_
        refine TC.seq ?_
        refine TC.block ?_
        refine TC.region ?_
        refine' TL.y rfl rfl rfl ?hy20 ?_
        case hy20 => exact Yl.move rfl rfl
        refine' TL.y rfl rfl rfl ?hy21 ?_
        case hy21 => exact Yl.move rfl rfl
        refine' TL.y rfl rfl rfl ?hy22 ?_
        case hy22 => exact Yl.move rfl rfl
        refine' TL.y rfl rfl rfl ?hy23 ?_
        case hy23 => first | exact Yl.ixkn (k := 13) rfl rfl rfl Try.underlying22 (by kernel_rfl) (by omega) | exact Yl.ixkz (k := 13) rfl rfl rfl Try.underlying22 (by kernel_rfl) (by omega) (by omega)
        refine' TL.y rfl rfl rfl ?hy24 ?_
        case hy24 => first | exact Yl.field0 (k := 5) 1 rfl rfl Try.underlying32 rfl (by kernel_rfl) rfl | exact Yl.field (k := 5) 1 rfl rfl Try.underlying32 rfl (by kernel_rfl) rfl
        refine' TL.y rfl rfl rfl ?hy25 ?_
        case hy25 => exact Yl.loads (cs := [.int .i64 ((atA l i).x).f0, .int .i64 ((atA l i).x).f1, .int .i64 ((atA l i).x).f2, .int .i64 ((atA l i).x).f3, .int .i64 ((atA l i).x).f4, .bool ((atA l i).x).f5]) rfl rfl (by kernel_rfl) (by kernel_rfl) (Sl.awX hS (i := i) rfl (by omega))
        refine' TL.c rfl rfl rfl ?hy26 ?_
        case hy26 => exact Yc.call rfl Try.func11 (by kernel_rfl) rfl rfl (Hp.turnx mem0 (fun s => foc0) (k_smap hx (atA l i).x))
        intro ⟨x2, hx2⟩
        dsimp only
        refine TL.nil ?_
        refine TE.inNormal ?_
        refine TE.next ?_
        refine TC.region ?_
        refine' TL.y rfl rfl rfl ?hy27 ?_
        case hy27 => exact Yl.move rfl rfl
        refine' TL.y rfl rfl rfl ?hy28 ?_
        case hy28 => first | (refine Yl.val (Yl.bin rfl rfl rfl (Bin.add _ _ _ _)) (congrArg (Value.int .i64) (i64in ?_ ?_)) <;> omega) | exact Yl.bin rfl rfl rfl (Bin.add _ _ _ _)
        refine' TL.y rfl rfl rfl ?hy29 ?_
        case hy29 => exact Yl.assign rfl rfl
        refine TL.nil ?_
        refine TE.round (i + 1, x2, mapS u (atA l i).x) ?hF30 ?hlt30 ?hs30 ?hm30
        case hF30 => exact ⟨by dsimp only; omega, hx2, fun p => by rw [show (mapS u (atA l i).x).E = u.E from mapS_E u _]; exact hE p⟩
        case hlt30 => dsimp only; omega
        case hs30 => exact ⟨rfl, rfl, rfl, rfl, rfl, rfl, trivial⟩
        case hm30 => exact fun _ h => h
      · skip
        (try simp only [decide_eq_true_eq, decide_eq_false_iff_not, beq_iff_eq, beq_eq_false_iff_ne, bne_iff_ne, ne_eq, bne_eq_false_iff_eq, Bool.not_eq_true', Bool.not_eq_false', Int.not_lt, Int.not_le, gt_iff_lt, ge_iff_le] at hs28)
        refine TC.exit ?_
        refine TE.thenExit ?_
        refine TE.thenExit ?_
        refine TE.inHere ?_
        refine TE.next ?_
        refine TC.seq ?_
        refine TC.region ?_
        refine' TL.y rfl rfl rfl ?hy31 ?_
        case hy31 => exact Yl.move rfl rfl
        refine' TL.c rfl rfl rfl ?hy32 ?_
        case hy32 => exact Yc.call rfl Try.func18 (by kernel_rfl) rfl rfl (Hp.news (fun w h => k_sregions w (h.all _ mem0) hx))
        intro v39
        refine TL.fact (fun w h => Hp.rowGsh mem0 w h) ?_
        rintro ⟨A39, c39, rfl⟩
        refine' TL.y rfl rfl rfl ?hy33 ?_
        case hy33 => exact Yl.len rfl rfl Try.underlying44
        refine' TL.y rfl rfl rfl ?hy34 ?_
        case hy34 => exact Yl.assign rfl rfl
        refine TL.nil ?_
        refine TE.next ?_
        refine TC.seq ?_
        refine TC.region ?_
        refine' TL.y rfl rfl rfl ?hy35 ?_
        case hy35 => exact Yl.move rfl rfl
        refine' TL.y rfl rfl rfl ?hy36 ?_
        case hy36 => exact Yl.move rfl rfl
        refine' TL.c rfl rfl rfl ?hy37 ?_
        case hy37 => exact Yc.call rfl Try.func15 (by kernel_rfl) rfl rfl (Hp.calls (fun w h => k_swhere w (h.all _ mem1) hx n))
        intro _
        refine' TL.y rfl rfl rfl ?hy38 ?_
        case hy38 => exact Yl.move rfl rfl
        refine' TL.y rfl rfl rfl ?hy39 ?_
        case hy39 => exact Yl.extract rfl rfl rfl
        refine' TL.y rfl rfl rfl ?hy40 ?_
        case hy40 => exact Yl.extract rfl rfl rfl
        refine' TL.mx rfl rfl rfl ?hy41 ?_
        case hy41 => exact Ym.alloc (z := .agg #[.int .i64 0, .int .i64 0, .int .i64 0, .int .i64 0, .int .i64 0, .bool false]) rfl (by kernel_rfl)
        intro b11
        refine' TL.s rfl rfl ?hy42 ?_
        case hy42 => exact Ys.store (seg := [.int .i64 (((fnd (u).G n).getD z25)).f0, .int .i64 (((fnd (u).G n).getD z25)).f1, .int .i64 (((fnd (u).G n).getD z25)).f2, .int .i64 (((fnd (u).G n).getD z25)).f3, .int .i64 (((fnd (u).G n).getD z25)).f4, .bool (((fnd (u).G n).getD z25)).f5]) (c' := #[.int .i64 (((fnd (u).G n).getD z25)).f0, .int .i64 (((fnd (u).G n).getD z25)).f1, .int .i64 (((fnd (u).G n).getD z25)).f2, .int .i64 (((fnd (u).G n).getD z25)).f3, .int .i64 (((fnd (u).G n).getD z25)).f4, .bool (((fnd (u).G n).getD z25)).f5]) rfl rfl rfl (by simp [Value.cells]) (by kernel_rfl) (by simp [Value.oneCell']) foc0 (by simp [Value.cells]) rfl
        refine' TL.y rfl rfl rfl ?hy43 ?_
        case hy43 => exact Yl.assign rfl rfl
        refine TL.nil ?_
        refine TE.next ?_
        refine TC.seq ?_
        refine TC.region ?_
        refine' TL.y rfl rfl rfl ?hy44 ?_
        case hy44 => exact Yl.move rfl rfl
        refine' TL.y rfl rfl rfl ?hy45 ?_
        case hy45 => exact Yl.loads (cs := [.int .i64 (y).f0, .int .i64 (y).f1, .int .i64 (y).f2, .int .i64 (y).f3, .int .i64 (y).f4, .bool (y).f5]) rfl rfl (by kernel_rfl) (by kernel_rfl) (Hp.cells mem3 (fun j v hj => by simpa [Value.cells] using hj))
        refine' TL.c rfl rfl rfl ?hy46 ?_
        case hy46 => exact Yc.call rfl Try.func11 (by kernel_rfl) rfl rfl (Hp.turnx mem2 (fun s => foc2) (k_smap hx y))
        intro ⟨x4, hx4⟩
        dsimp only
        refine' TL.y rfl rfl rfl ?hy47 ?_
        case hy47 => exact Yl.assign rfl rfl
        refine TL.nil ?_
        refine TE.next ?_
        refine TC.seq ?_
        refine TC.region ?_
        refine' TL.y rfl rfl rfl ?hy48 ?_
        case hy48 => exact Yl.move rfl rfl
        refine' TL.y rfl rfl rfl ?hy49 ?_
        case hy49 => exact Yl.move rfl rfl
        refine' TL.c rfl rfl rfl ?hy50 ?_
        case hy50 => exact Yc.call rfl Try.func15 (by kernel_rfl) rfl rfl (Hp.calls (fun w h => k_swhere w (h.all _ mem2) hx4 n))
        intro _
        refine' TL.y rfl rfl rfl ?hy51 ?_
        case hy51 => exact Yl.move rfl rfl
        refine' TL.y rfl rfl rfl ?hy52 ?_
        case hy52 => exact Yl.extract rfl rfl rfl
        refine' TL.y rfl rfl rfl ?hy53 ?_
        case hy53 => exact Yl.extract rfl rfl rfl
        refine' TL.mx rfl rfl rfl ?hy54 ?_
        case hy54 => exact Ym.alloc (z := .agg #[.int .i64 0, .int .i64 0, .int .i64 0, .int .i64 0, .int .i64 0, .bool false]) rfl (by kernel_rfl)
        intro b14
        refine' TL.s rfl rfl ?hy55 ?_
        case hy55 => exact Ys.store (seg := [.int .i64 (((fnd (mapS u y).G n).getD z25)).f0, .int .i64 (((fnd (mapS u y).G n).getD z25)).f1, .int .i64 (((fnd (mapS u y).G n).getD z25)).f2, .int .i64 (((fnd (mapS u y).G n).getD z25)).f3, .int .i64 (((fnd (mapS u y).G n).getD z25)).f4, .bool (((fnd (mapS u y).G n).getD z25)).f5]) (c' := #[.int .i64 (((fnd (mapS u y).G n).getD z25)).f0, .int .i64 (((fnd (mapS u y).G n).getD z25)).f1, .int .i64 (((fnd (mapS u y).G n).getD z25)).f2, .int .i64 (((fnd (mapS u y).G n).getD z25)).f3, .int .i64 (((fnd (mapS u y).G n).getD z25)).f4, .bool (((fnd (mapS u y).G n).getD z25)).f5]) rfl rfl rfl (by simp [Value.cells]) (by kernel_rfl) (by simp [Value.oneCell']) foc0 (by simp [Value.cells]) rfl
        refine' TL.y rfl rfl rfl ?hy56 ?_
        case hy56 => exact Yl.assign rfl rfl
        refine TL.nil ?_
        refine TE.next ?_
        refine TC.seq ?_
        refine TC.seq ?_
        refine TC.region ?_
        refine' TL.y rfl rfl rfl ?hy57 ?_
        case hy57 => exact Yl.move rfl rfl
        refine' TL.y rfl rfl rfl ?hy58 ?_
        case hy58 => exact Yl.bin rfl rfl rfl (Bin.neq _ _ _ _)
        refine TL.nil ?_
        refine TE.next ?_
        refine TC.cond rfl (fun hs57 => ?_) (fun hs57 => ?_)
        · skip
          (try simp only [decide_eq_true_eq, decide_eq_false_iff_not, beq_iff_eq, beq_eq_false_iff_ne, bne_iff_ne, ne_eq, bne_eq_false_iff_eq, Bool.not_eq_true', Bool.not_eq_false', Int.not_lt, Int.not_le, gt_iff_lt, ge_iff_le] at hs57)
          have hmu : mapS u y = u := if_neg (by simpa using hs57)
          rw [hmu] at hx4 ⊢
          refine TC.seq ?_
          refine TC.region ?_
          refine' TL.y rfl rfl rfl ?hy59 ?_
          case hy59 => exact Yl.move rfl rfl
          refine' TL.y rfl rfl rfl ?hy60 ?_
          case hy60 => exact Yl.move rfl rfl
          refine' TL.y rfl rfl rfl ?hy61 ?_
          case hy61 => exact Yl.move rfl rfl
          refine' TL.y rfl rfl rfl ?hy62 ?_
          case hy62 => exact Yl.move rfl rfl
          refine' TL.y rfl rfl rfl ?hy63 ?_
          case hy63 => exact Yl.bin rfl rfl rfl (Bin.eqlB _ _ _ (by kernel_rfl))
          refine' TL.y rfl rfl rfl ?hy64 ?_
          case hy64 => exact Yl.pickT rfl rfl rfl
          refine' TL.y rfl rfl rfl ?hy65 ?_
          case hy65 => exact Yl.move rfl rfl
          refine TL.re (i := 64) (v' := .bool true) rfl (congrArg Value.bool (by simp)) ?_
          refine' TL.y rfl rfl rfl ?hy66 ?_
          case hy66 => exact Yl.loads (cs := [.int .i64 (((fnd (u).G n).getD z25)).f0, .int .i64 (((fnd (u).G n).getD z25)).f1, .int .i64 (((fnd (u).G n).getD z25)).f2, .int .i64 (((fnd (u).G n).getD z25)).f3, .int .i64 (((fnd (u).G n).getD z25)).f4, .bool (((fnd (u).G n).getD z25)).f5]) rfl rfl (by kernel_rfl) (by kernel_rfl) (Hp.cells mem1 (fun j v hj => by simpa [Value.cells] using hj))
          refine' TL.y rfl rfl rfl ?hy67 ?_
          case hy67 => exact Yl.loads (cs := [.int .i64 (((fnd (u).G n).getD z25)).f0, .int .i64 (((fnd (u).G n).getD z25)).f1, .int .i64 (((fnd (u).G n).getD z25)).f2, .int .i64 (((fnd (u).G n).getD z25)).f3, .int .i64 (((fnd (u).G n).getD z25)).f4, .bool (((fnd (u).G n).getD z25)).f5]) rfl rfl (by kernel_rfl) (by kernel_rfl) (Hp.cells mem0 (fun j v hj => by simpa [Value.cells] using hj))
          refine' TL.y rfl rfl rfl ?hy68 ?_
          case hy68 => exact Yl.bin rfl rfl rfl (Bin.eqlG _ _ _ _ _ _ _ _ _ _ _ _)
          refine' TL.y rfl rfl rfl ?hy69 ?_
          case hy69 => exact Yl.pickT rfl rfl rfl
          refine' TL.y rfl rfl rfl ?hy70 ?_
          case hy70 => exact Yl.move rfl rfl
          refine TL.re (i := 69) (v' := .bool true) rfl (congrArg Value.bool (by simp)) ?_
          refine' TL.y rfl rfl rfl ?hy71 ?_
          case hy71 => exact Yl.move rfl rfl
          refine' TL.c rfl rfl rfl ?hy72 ?_
          case hy72 => exact Yc.call rfl Try.func18 (by kernel_rfl) rfl rfl (Hp.news (fun w h => k_sregions w (h.all _ mem3) hx4))
          intro v71
          refine TL.fact (fun w h => Hp.rowGsh mem0 w h) ?_
          rintro ⟨A71, c71, rfl⟩
          refine' TL.y rfl rfl rfl ?hy73 ?_
          case hy73 => exact Yl.len rfl rfl Try.underlying44
          refine' TL.y rfl rfl rfl ?hy74 ?_
          case hy74 => exact Yl.move rfl rfl
          refine' TL.y rfl rfl rfl ?hy75 ?_
          case hy75 => exact Yl.bin rfl rfl rfl (Bin.eql _ _ _ _)
          refine' TL.y rfl rfl rfl ?hy76 ?_
          case hy76 => exact Yl.pickT rfl rfl rfl
          refine' TL.y rfl rfl rfl ?hy77 ?_
          case hy77 => exact Yl.assign rfl rfl
          refine TL.nil ?_
          refine TE.next ?_
          refine TC.ret ?_
          refine TE.thenRet ?_
          refine TE.ret1 rfl rfl ?_
          exact fun w h => ⟨by simp, (h.sub (List.nil_sublist _)).below⟩
        · skip
          (try simp only [decide_eq_true_eq, decide_eq_false_iff_not, beq_iff_eq, beq_eq_false_iff_ne, bne_iff_ne, ne_eq, bne_eq_false_iff_eq, Bool.not_eq_true', Bool.not_eq_false', Int.not_lt, Int.not_le, gt_iff_lt, ge_iff_le] at hs57)
          have hz : (addL u.G y).2 = 0 := by simpa using hs57
          obtain ⟨hr, hgy, hl64, hov, hins⟩ := addL_ok hz
          have hmu : mapS u y = ⟨ins y u.G, u.E⟩ := by unfold mapS; rw [if_pos hz, hins]
          have hrI : rightB (ins y u.G) = true := ins_right hgy hr hov hgy.a
          rw [hmu] at hx4 ⊢
          dsimp only
          have hil := ins_len y u.G
          refine TC.skip ?_
          refine TE.next ?_
          refine TC.seq ?_
          refine TC.region ?_
          refine' TL.y rfl rfl rfl ?hy78 ?_
          case hy78 => exact Yl.move rfl rfl
          refine' TL.y rfl rfl rfl ?hy79 ?_
          case hy79 => first | exact Yl.field0 (k := 0) 0 rfl rfl Try.underlying28 rfl (by kernel_rfl) rfl | exact Yl.field (k := 0) 0 rfl rfl Try.underlying28 rfl (by kernel_rfl) rfl
          refine' TL.y rfl rfl rfl ?hy80 ?_
          case hy80 => first | exact Yl.load rfl rfl (by kernel_rfl) (Hp.cell mem0 rfl) | exact Yl.load rfl rfl (by kernel_rfl) (Hp.cell mem1 rfl) | exact Yl.load rfl rfl (by kernel_rfl) (Hp.cell mem2 rfl) | exact Yl.load rfl rfl (by kernel_rfl) (Hp.cell mem3 rfl) | exact Yl.load rfl rfl (by kernel_rfl) (Hp.cell mem4 rfl) | exact Yl.load rfl rfl (by kernel_rfl) (Hp.cell mem5 rfl) | exact Yl.load rfl rfl (by kernel_rfl) (Hp.rowAt mem0 (by omega) rfl) | exact Yl.load rfl rfl (by kernel_rfl) (Hp.rowAt mem1 (by omega) rfl) | exact Yl.load rfl rfl (by kernel_rfl) (Hp.rowAt mem2 (by omega) rfl) | exact Yl.load rfl rfl (by kernel_rfl) (Hp.rowAt mem3 (by omega) rfl) | exact Yl.load rfl rfl (by kernel_rfl) (Hp.rowAt mem4 (by omega) rfl) | exact Yl.load rfl rfl (by kernel_rfl) (Hp.rowAt mem5 (by omega) rfl)
          refine' TL.y rfl rfl rfl ?hy81 ?_
          case hy81 => exact Yl.bin rfl rfl rfl (Bin.geq _ _ _ _)
          refine' TL.y rfl rfl rfl ?hy82 ?_
          case hy82 => exact Yl.move rfl rfl
          refine TL.split (i := 80) rfl (fun hs80 => ?_) (fun hs80 => ?_)
          · skip
            (try simp only [decide_eq_true_eq, decide_eq_false_iff_not, beq_iff_eq, beq_eq_false_iff_ne, bne_iff_ne, ne_eq, bne_eq_false_iff_eq, Bool.not_eq_true', Bool.not_eq_false', Int.not_lt, Int.not_le, gt_iff_lt, ge_iff_le] at hs80)
            refine' TL.y rfl rfl rfl ?hy83 ?_
            case hy83 => exact Yl.move rfl rfl
            refine' TL.y rfl rfl rfl ?hy84 ?_
            case hy84 => first | exact Yl.field0 (k := 0) 1 rfl rfl Try.underlying28 rfl (by kernel_rfl) rfl | exact Yl.field (k := 0) 1 rfl rfl Try.underlying28 rfl (by kernel_rfl) rfl
            refine' TL.y rfl rfl rfl ?hy85 ?_
            case hy85 => first | exact Yl.load rfl rfl (by kernel_rfl) (Hp.cell mem0 rfl) | exact Yl.load rfl rfl (by kernel_rfl) (Hp.cell mem1 rfl) | exact Yl.load rfl rfl (by kernel_rfl) (Hp.cell mem2 rfl) | exact Yl.load rfl rfl (by kernel_rfl) (Hp.cell mem3 rfl) | exact Yl.load rfl rfl (by kernel_rfl) (Hp.cell mem4 rfl) | exact Yl.load rfl rfl (by kernel_rfl) (Hp.cell mem5 rfl) | exact Yl.load rfl rfl (by kernel_rfl) (Hp.rowAt mem0 (by omega) rfl) | exact Yl.load rfl rfl (by kernel_rfl) (Hp.rowAt mem1 (by omega) rfl) | exact Yl.load rfl rfl (by kernel_rfl) (Hp.rowAt mem2 (by omega) rfl) | exact Yl.load rfl rfl (by kernel_rfl) (Hp.rowAt mem3 (by omega) rfl) | exact Yl.load rfl rfl (by kernel_rfl) (Hp.rowAt mem4 (by omega) rfl) | exact Yl.load rfl rfl (by kernel_rfl) (Hp.rowAt mem5 (by omega) rfl)
            refine' TL.y rfl rfl rfl ?hy86 ?_
            case hy86 => exact Yl.bin rfl rfl rfl (Bin.lss _ _ _ _)
            refine' TL.y rfl rfl rfl ?hy87 ?_
            case hy87 => exact Yl.pickT rfl rfl rfl
            refine' TL.y rfl rfl rfl ?hy88 ?_
            case hy88 => exact Yl.assign rfl rfl
            refine TL.nil ?_
            refine TE.next ?_
            refine TC.seq ?_
            refine TC.region ?_
            refine' TL.y rfl rfl rfl ?hy89 ?_
            case hy89 => exact Yl.move rfl rfl
            refine' TL.y rfl rfl rfl ?hy90 ?_
            case hy90 => exact Yl.move rfl rfl
            refine' TL.y rfl rfl rfl ?hy91 ?_
            case hy91 => exact Yl.move rfl rfl
            refine' TL.c rfl rfl rfl ?hy92 ?_
            case hy92 => exact Yc.call rfl Try.func18 (by kernel_rfl) rfl rfl (Hp.news (fun w h => k_sregions w (h.all _ mem3) hx4))
            intro v89
            refine TL.fact (fun w h => Hp.rowGsh mem0 w h) ?_
            rintro ⟨A89, c89, rfl⟩
            refine' TL.y rfl rfl rfl ?hy93 ?_
            case hy93 => exact Yl.len rfl rfl Try.underlying44
            refine' TL.y rfl rfl rfl ?hy94 ?_
            case hy94 => exact Yl.move rfl rfl
            refine' TL.y rfl rfl rfl ?hy95 ?_
            case hy95 => first | (refine Yl.val (Yl.bin rfl rfl rfl (Bin.add _ _ _ _)) (congrArg (Value.int .i64) (i64in ?_ ?_)) <;> omega) | exact Yl.bin rfl rfl rfl (Bin.add _ _ _ _)
            refine' TL.y rfl rfl rfl ?hy96 ?_
            case hy96 => exact Yl.bin rfl rfl rfl (Bin.eql _ _ _ _)
            refine' TL.y rfl rfl rfl ?hy97 ?_
            case hy97 => exact Yl.pickT rfl rfl rfl
            refine' TL.y rfl rfl rfl ?hy98 ?_
            case hy98 => exact Yl.move rfl rfl
            refine TL.re (i := 95) (v' := .bool true) rfl (congrArg Value.bool (by rw [hil]; simp)) ?_
            refine' TL.y rfl rfl rfl ?hy99 ?_
            case hy99 => exact Yl.move rfl rfl
            refine' TL.y rfl rfl rfl ?hy100 ?_
            case hy100 => exact Yl.move rfl rfl
            refine TL.split (i := 97) rfl (fun hs97 => ?_) (fun hs97 => ?_)
            · skip
              (try simp only [decide_eq_true_eq, decide_eq_false_iff_not, beq_iff_eq, beq_eq_false_iff_ne, bne_iff_ne, ne_eq, bne_eq_false_iff_eq, Bool.not_eq_true', Bool.not_eq_false', Int.not_lt, Int.not_le, gt_iff_lt, ge_iff_le] at hs97)
              have hin : inB n y = true := (inB_iff n y).2 ⟨by omega, by omega⟩
              have hf := ins_find_in hin hr hov
              have hf1 : fnd (ins y u.G) n = some y := (fnd_is hrI n).trans hf.1
              have hf0 : fnd u.G n = none := (fnd_is hr n).trans hf.2
              rw [hf1, hf0]
              dsimp only [Option.isSome_some, Option.getD_some, Option.isSome_none, Option.getD_none]
              refine' TL.y rfl rfl rfl ?hy101 ?_
              case hy101 => exact Yl.move rfl rfl
              refine' TL.y rfl rfl rfl ?hy102 ?_
              case hy102 => exact Yl.pickT rfl rfl rfl
              refine' TL.y rfl rfl rfl ?hy103 ?_
              case hy103 => exact Yl.move rfl rfl
              refine TL.re (i := 100) (v' := .bool true) rfl (congrArg Value.bool (rfl)) ?_
              refine' TL.y rfl rfl rfl ?hy104 ?_
              case hy104 => exact Yl.loads (cs := [.int .i64 (y).f0, .int .i64 (y).f1, .int .i64 (y).f2, .int .i64 (y).f3, .int .i64 (y).f4, .bool (y).f5]) rfl rfl (by kernel_rfl) (by kernel_rfl) (Hp.cells mem1 (fun j v hj => by simpa [Value.cells] using hj))
              refine' TL.y rfl rfl rfl ?hy105 ?_
              case hy105 => exact Yl.loads (cs := [.int .i64 (y).f0, .int .i64 (y).f1, .int .i64 (y).f2, .int .i64 (y).f3, .int .i64 (y).f4, .bool (y).f5]) rfl rfl (by kernel_rfl) (by kernel_rfl) (Hp.cells mem5 (fun j v hj => by simpa [Value.cells] using hj))
              refine' TL.y rfl rfl rfl ?hy106 ?_
              case hy106 => exact Yl.bin rfl rfl rfl (Bin.eqlG _ _ _ _ _ _ _ _ _ _ _ _)
              refine' TL.y rfl rfl rfl ?hy107 ?_
              case hy107 => exact Yl.pickT rfl rfl rfl
              refine' TL.y rfl rfl rfl ?hy108 ?_
              case hy108 => exact Yl.move rfl rfl
              refine TL.re (i := 105) (v' := .bool true) rfl (congrArg Value.bool (by simp)) ?_
              refine' TL.y rfl rfl rfl ?hy109 ?_
              case hy109 => exact Yl.move rfl rfl
              refine' TL.y rfl rfl rfl ?hy110 ?_
              case hy110 => exact Yl.not rfl rfl
              refine' TL.y rfl rfl rfl ?hy111 ?_
              case hy111 => exact Yl.pickT rfl rfl rfl
              refine' TL.y rfl rfl rfl ?hy112 ?_
              case hy112 => exact Yl.move rfl rfl
              refine TL.re (i := 109) (v' := .bool true) rfl (congrArg Value.bool (rfl)) ?_
              refine TL.skip rfl rfl rfl ?_
              refine TL.skip rfl rfl rfl ?_
              refine TL.skip rfl rfl rfl ?_
              refine TL.skip rfl rfl rfl ?_
              refine TL.skip rfl rfl rfl ?_
              refine TL.skip rfl rfl rfl ?_
              refine TL.skip rfl rfl rfl ?_
              refine TL.skip rfl rfl rfl ?_
              refine TL.skip rfl rfl rfl ?_
              refine TL.skip rfl rfl rfl ?_
              refine TL.skip rfl rfl rfl ?_
              refine TL.skip rfl rfl rfl ?_
              refine' TL.y rfl rfl rfl ?hy113 ?_
              case hy113 => exact Yl.pickT rfl rfl rfl
              refine' TL.y rfl rfl rfl ?hy114 ?_
              case hy114 => exact Yl.pickT rfl rfl rfl
              refine' TL.y rfl rfl rfl ?hy115 ?_
              case hy115 => exact Yl.move rfl rfl
              refine' TL.y rfl rfl rfl ?hy116 ?_
              case hy116 => exact Yl.move rfl rfl
              refine' TL.c rfl rfl rfl ?hy117 ?_
              case hy117 => exact Yc.call rfl Try.func16 (by kernel_rfl) rfl rfl (Hp.calls (fun w h => k_ssize w (h.all _ mem4) hx4))
              intro _
              rw [size_zero (u := ⟨ins y u.G, u.E⟩) hE]
              refine' TL.y rfl rfl rfl ?hy118 ?_
              case hy118 => exact Yl.bin rfl rfl rfl (Bin.eql _ _ _ _)
              refine' TL.y rfl rfl rfl ?hy119 ?_
              case hy119 => exact Yl.pickT rfl rfl rfl
              refine' TL.y rfl rfl rfl ?hy120 ?_
              case hy120 => exact Yl.assign rfl rfl
              refine TL.nil ?_
              refine TE.next ?_
              refine TC.ret ?_
              refine TE.ret1 rfl rfl ?_
              exact fun w h => ⟨rfl, (h.sub (List.nil_sublist _)).below⟩
            · skip
              (try simp only [decide_eq_true_eq, decide_eq_false_iff_not, beq_iff_eq, beq_eq_false_iff_ne, bne_iff_ne, ne_eq, bne_eq_false_iff_eq, Bool.not_eq_true', Bool.not_eq_false', Int.not_lt, Int.not_le, gt_iff_lt, ge_iff_le] at hs97)
              have hin : ¬ inB n y = true := fun h => by have := (inB_iff n y).1 h; omega
              have hf1 : fnd (ins y u.G) n = fnd u.G n := by rw [fnd_is hrI, fnd_is hr, ins_find_out hin]
              rw [hf1]
              refine TL.skip rfl rfl rfl ?_
              refine' TL.y rfl rfl rfl ?hy121 ?_
              case hy121 => exact Yl.pickF rfl rfl rfl
              refine' TL.y rfl rfl rfl ?hy122 ?_
              case hy122 => exact Yl.move rfl rfl
              refine TL.skip rfl rfl rfl ?_
              refine TL.skip rfl rfl rfl ?_
              refine TL.skip rfl rfl rfl ?_
              refine' TL.y rfl rfl rfl ?hy123 ?_
              case hy123 => exact Yl.pickF rfl rfl rfl
              refine' TL.y rfl rfl rfl ?hy124 ?_
              case hy124 => exact Yl.move rfl rfl
              refine TL.skip rfl rfl rfl ?_
              refine TL.skip rfl rfl rfl ?_
              refine' TL.y rfl rfl rfl ?hy125 ?_
              case hy125 => exact Yl.pickF rfl rfl rfl
              refine' TL.y rfl rfl rfl ?hy126 ?_
              case hy126 => exact Yl.move rfl rfl
              refine' TL.y rfl rfl rfl ?hy127 ?_
              case hy127 => exact Yl.move rfl rfl
              refine' TL.y rfl rfl rfl ?hy128 ?_
              case hy128 => exact Yl.not rfl rfl
              refine' TL.y rfl rfl rfl ?hy129 ?_
              case hy129 => exact Yl.move rfl rfl
              refine TL.re (i := 112) (v' := .bool true) rfl (congrArg Value.bool (by first | rfl | (simp; omega))) ?_
              refine' TL.y rfl rfl rfl ?hy130 ?_
              case hy130 => exact Yl.move rfl rfl
              refine' TL.y rfl rfl rfl ?hy131 ?_
              case hy131 => exact Yl.move rfl rfl
              refine' TL.y rfl rfl rfl ?hy132 ?_
              case hy132 => exact Yl.bin rfl rfl rfl (Bin.eqlB _ _ _ (by kernel_rfl))
              refine' TL.y rfl rfl rfl ?hy133 ?_
              case hy133 => exact Yl.pickT rfl rfl rfl
              refine' TL.y rfl rfl rfl ?hy134 ?_
              case hy134 => exact Yl.move rfl rfl
              refine TL.re (i := 117) (v' := .bool true) rfl (congrArg Value.bool (by simp)) ?_
              refine' TL.y rfl rfl rfl ?hy135 ?_
              case hy135 => exact Yl.loads (cs := [.int .i64 (((fnd (u).G n).getD z25)).f0, .int .i64 (((fnd (u).G n).getD z25)).f1, .int .i64 (((fnd (u).G n).getD z25)).f2, .int .i64 (((fnd (u).G n).getD z25)).f3, .int .i64 (((fnd (u).G n).getD z25)).f4, .bool (((fnd (u).G n).getD z25)).f5]) rfl rfl (by kernel_rfl) (by kernel_rfl) (Hp.cells mem2 (fun j v hj => by simpa [Value.cells] using hj))
              refine' TL.y rfl rfl rfl ?hy136 ?_
              case hy136 => exact Yl.loads (cs := [.int .i64 (((fnd (u).G n).getD z25)).f0, .int .i64 (((fnd (u).G n).getD z25)).f1, .int .i64 (((fnd (u).G n).getD z25)).f2, .int .i64 (((fnd (u).G n).getD z25)).f3, .int .i64 (((fnd (u).G n).getD z25)).f4, .bool (((fnd (u).G n).getD z25)).f5]) rfl rfl (by kernel_rfl) (by kernel_rfl) (Hp.cells mem1 (fun j v hj => by simpa [Value.cells] using hj))
              refine' TL.y rfl rfl rfl ?hy137 ?_
              case hy137 => exact Yl.bin rfl rfl rfl (Bin.eqlG _ _ _ _ _ _ _ _ _ _ _ _)
              refine' TL.y rfl rfl rfl ?hy138 ?_
              case hy138 => exact Yl.pickT rfl rfl rfl
              refine' TL.y rfl rfl rfl ?hy139 ?_
              case hy139 => exact Yl.pickF rfl rfl rfl
              refine' TL.y rfl rfl rfl ?hy140 ?_
              case hy140 => exact Yl.pickT rfl rfl rfl
              refine' TL.y rfl rfl rfl ?hy141 ?_
              case hy141 => exact Yl.move rfl rfl
              refine TL.re (i := 124) (v' := .bool true) rfl (congrArg Value.bool (by simp)) ?_
              refine' TL.y rfl rfl rfl ?hy142 ?_
              case hy142 => exact Yl.move rfl rfl
              refine' TL.c rfl rfl rfl ?hy143 ?_
              case hy143 => exact Yc.call rfl Try.func16 (by kernel_rfl) rfl rfl (Hp.calls (fun w h => k_ssize w (h.all _ mem4) hx4))
              intro _
              rw [size_zero (u := ⟨ins y u.G, u.E⟩) hE]
              refine' TL.y rfl rfl rfl ?hy144 ?_
              case hy144 => exact Yl.bin rfl rfl rfl (Bin.eql _ _ _ _)
              refine' TL.y rfl rfl rfl ?hy145 ?_
              case hy145 => exact Yl.pickT rfl rfl rfl
              refine' TL.y rfl rfl rfl ?hy146 ?_
              case hy146 => exact Yl.assign rfl rfl
              refine TL.nil ?_
              refine TE.next ?_
              refine TC.ret ?_
              refine TE.ret1 rfl rfl ?_
              exact fun w h => ⟨rfl, (h.sub (List.nil_sublist _)).below⟩
          · skip
            (try simp only [decide_eq_true_eq, decide_eq_false_iff_not, beq_iff_eq, beq_eq_false_iff_ne, bne_iff_ne, ne_eq, bne_eq_false_iff_eq, Bool.not_eq_true', Bool.not_eq_false', Int.not_lt, Int.not_le, gt_iff_lt, ge_iff_le] at hs80)
            have hin : ¬ inB n y = true := fun h => by have := (inB_iff n y).1 h; omega
            have hf1 : fnd (ins y u.G) n = fnd u.G n := by rw [fnd_is hrI, fnd_is hr, ins_find_out hin]
            rw [hf1]
            refine TL.skip rfl rfl rfl ?_
            refine TL.skip rfl rfl rfl ?_
            refine TL.skip rfl rfl rfl ?_
            refine TL.skip rfl rfl rfl ?_
            refine' TL.y rfl rfl rfl ?hy147 ?_
            case hy147 => exact Yl.pickF rfl rfl rfl
            refine' TL.y rfl rfl rfl ?hy148 ?_
            case hy148 => exact Yl.assign rfl rfl
            refine TL.nil ?_
            refine TE.next ?_
            refine TC.seq ?_
            refine TC.region ?_
            refine' TL.y rfl rfl rfl ?hy149 ?_
            case hy149 => exact Yl.move rfl rfl
            refine' TL.y rfl rfl rfl ?hy150 ?_
            case hy150 => exact Yl.move rfl rfl
            refine' TL.y rfl rfl rfl ?hy151 ?_
            case hy151 => exact Yl.move rfl rfl
            refine' TL.c rfl rfl rfl ?hy152 ?_
            case hy152 => exact Yc.call rfl Try.func18 (by kernel_rfl) rfl rfl (Hp.news (fun w h => k_sregions w (h.all _ mem3) hx4))
            intro v89
            refine TL.fact (fun w h => Hp.rowGsh mem0 w h) ?_
            rintro ⟨A89, c89, rfl⟩
            refine' TL.y rfl rfl rfl ?hy153 ?_
            case hy153 => exact Yl.len rfl rfl Try.underlying44
            refine' TL.y rfl rfl rfl ?hy154 ?_
            case hy154 => exact Yl.move rfl rfl
            refine' TL.y rfl rfl rfl ?hy155 ?_
            case hy155 => first | (refine Yl.val (Yl.bin rfl rfl rfl (Bin.add _ _ _ _)) (congrArg (Value.int .i64) (i64in ?_ ?_)) <;> omega) | exact Yl.bin rfl rfl rfl (Bin.add _ _ _ _)
            refine' TL.y rfl rfl rfl ?hy156 ?_
            case hy156 => exact Yl.bin rfl rfl rfl (Bin.eql _ _ _ _)
            refine' TL.y rfl rfl rfl ?hy157 ?_
            case hy157 => exact Yl.pickT rfl rfl rfl
            refine' TL.y rfl rfl rfl ?hy158 ?_
            case hy158 => exact Yl.move rfl rfl
            refine TL.re (i := 95) (v' := .bool true) rfl (congrArg Value.bool (by rw [hil]; simp)) ?_
            refine' TL.y rfl rfl rfl ?hy159 ?_
            case hy159 => exact Yl.move rfl rfl
            refine' TL.y rfl rfl rfl ?hy160 ?_
            case hy160 => exact Yl.move rfl rfl
            refine TL.skip rfl rfl rfl ?_
            refine' TL.y rfl rfl rfl ?hy161 ?_
            case hy161 => exact Yl.pickF rfl rfl rfl
            refine' TL.y rfl rfl rfl ?hy162 ?_
            case hy162 => exact Yl.move rfl rfl
            refine TL.skip rfl rfl rfl ?_
            refine TL.skip rfl rfl rfl ?_
            refine TL.skip rfl rfl rfl ?_
            refine' TL.y rfl rfl rfl ?hy163 ?_
            case hy163 => exact Yl.pickF rfl rfl rfl
            refine' TL.y rfl rfl rfl ?hy164 ?_
            case hy164 => exact Yl.move rfl rfl
            refine TL.skip rfl rfl rfl ?_
            refine TL.skip rfl rfl rfl ?_
            refine' TL.y rfl rfl rfl ?hy165 ?_
            case hy165 => exact Yl.pickF rfl rfl rfl
            refine' TL.y rfl rfl rfl ?hy166 ?_
            case hy166 => exact Yl.move rfl rfl
            refine' TL.y rfl rfl rfl ?hy167 ?_
            case hy167 => exact Yl.move rfl rfl
            refine' TL.y rfl rfl rfl ?hy168 ?_
            case hy168 => exact Yl.not rfl rfl
            refine' TL.y rfl rfl rfl ?hy169 ?_
            case hy169 => exact Yl.move rfl rfl
            refine' TL.y rfl rfl rfl ?hy170 ?_
            case hy170 => exact Yl.move rfl rfl
            refine' TL.y rfl rfl rfl ?hy171 ?_
            case hy171 => exact Yl.move rfl rfl
            refine' TL.y rfl rfl rfl ?hy172 ?_
            case hy172 => exact Yl.bin rfl rfl rfl (Bin.eqlB _ _ _ (by kernel_rfl))
            refine' TL.y rfl rfl rfl ?hy173 ?_
            case hy173 => exact Yl.pickT rfl rfl rfl
            refine' TL.y rfl rfl rfl ?hy174 ?_
            case hy174 => exact Yl.move rfl rfl
            refine TL.re (i := 117) (v' := .bool true) rfl (congrArg Value.bool (by simp)) ?_
            refine' TL.y rfl rfl rfl ?hy175 ?_
            case hy175 => exact Yl.loads (cs := [.int .i64 (((fnd (u).G n).getD z25)).f0, .int .i64 (((fnd (u).G n).getD z25)).f1, .int .i64 (((fnd (u).G n).getD z25)).f2, .int .i64 (((fnd (u).G n).getD z25)).f3, .int .i64 (((fnd (u).G n).getD z25)).f4, .bool (((fnd (u).G n).getD z25)).f5]) rfl rfl (by kernel_rfl) (by kernel_rfl) (Hp.cells mem2 (fun j v hj => by simpa [Value.cells] using hj))
            refine' TL.y rfl rfl rfl ?hy176 ?_
            case hy176 => exact Yl.loads (cs := [.int .i64 (((fnd (u).G n).getD z25)).f0, .int .i64 (((fnd (u).G n).getD z25)).f1, .int .i64 (((fnd (u).G n).getD z25)).f2, .int .i64 (((fnd (u).G n).getD z25)).f3, .int .i64 (((fnd (u).G n).getD z25)).f4, .bool (((fnd (u).G n).getD z25)).f5]) rfl rfl (by kernel_rfl) (by kernel_rfl) (Hp.cells mem1 (fun j v hj => by simpa [Value.cells] using hj))
            refine' TL.y rfl rfl rfl ?hy177 ?_
            case hy177 => exact Yl.bin rfl rfl rfl (Bin.eqlG _ _ _ _ _ _ _ _ _ _ _ _)
            refine' TL.y rfl rfl rfl ?hy178 ?_
            case hy178 => exact Yl.pickT rfl rfl rfl
            refine' TL.y rfl rfl rfl ?hy179 ?_
            case hy179 => exact Yl.pickF rfl rfl rfl
            refine' TL.y rfl rfl rfl ?hy180 ?_
            case hy180 => exact Yl.pickT rfl rfl rfl
            refine' TL.y rfl rfl rfl ?hy181 ?_
            case hy181 => exact Yl.move rfl rfl
            refine TL.re (i := 124) (v' := .bool true) rfl (congrArg Value.bool (by simp)) ?_
            refine' TL.y rfl rfl rfl ?hy182 ?_
            case hy182 => exact Yl.move rfl rfl
            refine' TL.c rfl rfl rfl ?hy183 ?_
            case hy183 => exact Yc.call rfl Try.func16 (by kernel_rfl) rfl rfl (Hp.calls (fun w h => k_ssize w (h.all _ mem4) hx4))
            intro _
            rw [size_zero (u := ⟨ins y u.G, u.E⟩) hE]
            refine' TL.y rfl rfl rfl ?hy184 ?_
            case hy184 => exact Yl.bin rfl rfl rfl (Bin.eql _ _ _ _)
            refine' TL.y rfl rfl rfl ?hy185 ?_
            case hy185 => exact Yl.pickT rfl rfl rfl
            refine' TL.y rfl rfl rfl ?hy186 ?_
            case hy186 => exact Yl.assign rfl rfl
            refine TL.nil ?_
            refine TE.next ?_
            refine TC.ret ?_
            refine TE.ret1 rfl rfl ?_
            exact fun w h => ⟨rfl, (h.sub (List.nil_sublist _)).below⟩
end Go.Proofs.Ytabjdjkkpbkpfaa.Pk
