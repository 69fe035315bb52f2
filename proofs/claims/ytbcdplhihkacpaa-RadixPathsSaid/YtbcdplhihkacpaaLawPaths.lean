/- Paths. -/
import Derived.Test.YtbcdplhihkacpaaRxW
import Derived.Test.YtbcdplhihkacpaaProg
import Derived.RowKit3
namespace Go.Proofs.Ytbcdplhihkacpaa.Pk
open Go Go.RowKit Go.Proofs.Ytbcdplhihkacpaa.HL Go.Proofs.Ytbcdplhihkacpaa.Ev Go.Proofs.YtbcdplhihkacpaaW.PrintWords Go.Proofs.RxP
set_option linter.unusedVariables false
set_option linter.unusedSimpArgs false
attribute [local irreducible] btw rowA nth ents Iw Aw stS stM walkL pagesL gI dpS rk nodes
theorem pathL_in {p : Nat} (h : p < 65536) : pathL (p : Int) = pathK p 4 := by unfold pathL; rw [if_pos (by omega)]; rfl
theorem pathK_at {p i : Nat} (h : i < 4) : gI (pathK p 4) i = (dg p i : Int) := by unfold gI pathK; rw [List.getElem?_map, List.getElem?_range h]; rfl
set_option maxRecDepth 100000 in
set_option maxHeartbeats 2000000 in
theorem law_paths (W : World) (n : Int) : Calls Try.prog 4 #[.int .i64 n] W fun e w' => e = .returned (.bool true) ∧ Below W.heap.size W w' := by
  have hM : Hp W (fun _ => False) [] W := Hp.start
  refine TC.enter (n := 56) Try.func4 rfl rfl rfl hM ?_
  refine TC.seq ?_
  refine TC.region ?_
  refine' TL.y rfl rfl rfl ?hy1 ?_
  case hy1 => exact Yl.assign rfl rfl
  refine TL.nil ?_
  refine TE.next ?_
  refine TC.seq ?_
  refine TC.region ?_
  refine' TL.c rfl rfl rfl ?hy2 ?_
  case hy2 => exact Yc.call rfl Try.func10 (by kernel_rfl) rfl rfl (Hp.calls (fun w h => k_works w))
  intro _
  refine' TL.y rfl rfl rfl ?hy3 ?_
  case hy3 => exact Yl.assign rfl rfl
  refine TL.nil ?_
  refine TE.next ?_
  refine TC.seq ?_
  refine TC.seq ?_
  refine TC.region ?_
  refine' TL.y rfl rfl rfl ?hy4 ?_
  case hy4 => exact Yl.move rfl rfl
  refine' TL.y rfl rfl rfl ?hy5 ?_
  case hy5 => exact Yl.not rfl rfl
  refine TL.nil ?_
  refine TE.next ?_
  refine TC.no rfl rfl ?_
  refine TC.skip ?_
  refine TE.next ?_
  refine TC.seq ?_
  refine TC.region ?_
  refine' TL.y rfl rfl rfl ?hy6 ?_
  case hy6 => exact Yl.move rfl rfl
  refine' TL.c rfl rfl rfl ?hy7 ?_
  case hy7 => exact Yc.call rfl Try.func16 (by kernel_rfl) rfl rfl (Hp.news (fun w h => k_path w n))
  intro v11
  refine TL.fact (fun w h => Hp.rowShape mem0 w h) ?_
  rintro ⟨A11, c11, rfl⟩
  refine' TL.y rfl rfl rfl ?hy8 ?_
  case hy8 => exact Yl.assign rfl rfl
  refine TL.nil ?_
  refine TE.next ?_
  refine TC.seq ?_
  refine TC.seq ?_
  refine TC.region ?_
  refine' TL.y rfl rfl rfl ?hy9 ?_
  case hy9 => exact Yl.move rfl rfl
  refine' TL.y rfl rfl rfl ?hy10 ?_
  case hy10 => exact Yl.bin rfl rfl rfl (Bin.lss _ _ _ _)
  refine' TL.y rfl rfl rfl ?hy11 ?_
  case hy11 => exact Yl.move rfl rfl
  refine TL.split (i := 14) rfl (fun hs14 => ?_) (fun hs14 => ?_)
  · skip
    (try simp only [decide_eq_true_eq, decide_eq_false_iff_not, beq_iff_eq, beq_eq_false_iff_ne, bne_iff_ne, ne_eq, bne_eq_false_iff_eq, Bool.not_eq_true', Bool.not_eq_false', Int.not_lt, Int.not_le, gt_iff_lt, ge_iff_le] at hs14)
    refine TL.skip rfl rfl rfl ?_
    refine TL.skip rfl rfl rfl ?_
    refine' TL.y rfl rfl rfl ?hy12 ?_
    case hy12 => exact Yl.pickT rfl rfl rfl
    refine TL.nil ?_
    refine TE.next ?_
    refine TC.yes rfl rfl ?_
    refine TC.seq ?_
    refine TC.region ?_
    refine' TL.y rfl rfl rfl ?hy13 ?_
    case hy13 => exact Yl.move rfl rfl
    refine' TL.y rfl rfl rfl ?hy14 ?_
    case hy14 => exact Yl.move rfl rfl
    refine' TL.y rfl rfl rfl ?hy15 ?_
    case hy15 => exact Yl.move rfl rfl
    refine' TL.y rfl rfl rfl ?hy16 ?_
    case hy16 => exact Yl.len rfl rfl Try.underlying31
    refine' TL.y rfl rfl rfl ?hy17 ?_
    case hy17 => exact Yl.bin rfl rfl rfl (Bin.eql _ _ _ _)
    refine' TL.y rfl rfl rfl ?hy18 ?_
    case hy18 => exact Yl.pickT rfl rfl rfl
    refine' TL.y rfl rfl rfl ?hy19 ?_
    case hy19 => exact Yl.assign rfl rfl
    refine TL.nil ?_
    refine TE.next ?_
    refine TC.ret ?_
    refine TE.thenRet ?_
    refine TE.ret1 rfl rfl ?_
    have hnil : pathL n = [] := if_neg (by omega)
    exact fun w h => ⟨by rw [hnil]; rfl, (h.sub (List.nil_sublist _)).below⟩
  · skip
    (try simp only [decide_eq_true_eq, decide_eq_false_iff_not, beq_iff_eq, beq_eq_false_iff_ne, bne_iff_ne, ne_eq, bne_eq_false_iff_eq, Bool.not_eq_true', Bool.not_eq_false', Int.not_lt, Int.not_le, gt_iff_lt, ge_iff_le] at hs14)
    refine' TL.y rfl rfl rfl ?hy20 ?_
    case hy20 => exact Yl.move rfl rfl
    refine' TL.y rfl rfl rfl ?hy21 ?_
    case hy21 => exact Yl.bin rfl rfl rfl (Bin.gtr _ _ _ _)
    refine' TL.y rfl rfl rfl ?hy22 ?_
    case hy22 => exact Yl.pickF rfl rfl rfl
    refine TL.nil ?_
    refine TE.next ?_
    refine TC.cond rfl (fun hs17 => ?_) (fun hs17 => ?_)
    · skip
      (try simp only [decide_eq_true_eq, decide_eq_false_iff_not, beq_iff_eq, beq_eq_false_iff_ne, bne_iff_ne, ne_eq, bne_eq_false_iff_eq, Bool.not_eq_true', Bool.not_eq_false', Int.not_lt, Int.not_le, gt_iff_lt, ge_iff_le] at hs17)
      refine TC.seq ?_
      refine TC.region ?_
      refine' TL.y rfl rfl rfl ?hy23 ?_
      case hy23 => exact Yl.move rfl rfl
      refine' TL.y rfl rfl rfl ?hy24 ?_
      case hy24 => exact Yl.move rfl rfl
      refine' TL.y rfl rfl rfl ?hy25 ?_
      case hy25 => exact Yl.move rfl rfl
      refine' TL.y rfl rfl rfl ?hy26 ?_
      case hy26 => exact Yl.len rfl rfl Try.underlying31
      refine' TL.y rfl rfl rfl ?hy27 ?_
      case hy27 => exact Yl.bin rfl rfl rfl (Bin.eql _ _ _ _)
      refine' TL.y rfl rfl rfl ?hy28 ?_
      case hy28 => exact Yl.pickT rfl rfl rfl
      refine' TL.y rfl rfl rfl ?hy29 ?_
      case hy29 => exact Yl.assign rfl rfl
      refine TL.nil ?_
      refine TE.next ?_
      refine TC.ret ?_
      refine TE.thenRet ?_
      refine TE.ret1 rfl rfl ?_
      have hnil : pathL n = [] := if_neg (by omega)
      exact fun w h => ⟨by rw [hnil]; rfl, (h.sub (List.nil_sublist _)).below⟩
    · skip
      (try simp only [decide_eq_true_eq, decide_eq_false_iff_not, beq_iff_eq, beq_eq_false_iff_ne, bne_iff_ne, ne_eq, bne_eq_false_iff_eq, Bool.not_eq_true', Bool.not_eq_false', Int.not_lt, Int.not_le, gt_iff_lt, ge_iff_le] at hs17)
      obtain ⟨p, rfl⟩ := Int.eq_ofNat_of_zero_le (show 0 ≤ n by omega)
      have hp : p < 65536 := by omega
      have hpk := pathK_len p 4
      rw [pathL_in hp]
      refine TC.fact (fun w h => Hp.rowSome mem0 (by omega) w h) ?_
      rintro ⟨g11, rfl⟩
      refine TC.skip ?_
      refine TE.next ?_
      refine TC.seq ?_
      refine TC.seq ?_
      refine TC.region ?_
      refine' TL.y rfl rfl rfl ?hy30 ?_
      case hy30 => exact Yl.move rfl rfl
      refine' TL.y rfl rfl rfl ?hy31 ?_
      case hy31 => exact Yl.len rfl rfl Try.underlying31
      refine' TL.y rfl rfl rfl ?hy32 ?_
      case hy32 => exact Yl.bin rfl rfl rfl (Bin.neq _ _ _ _)
      refine TL.nil ?_
      refine TE.next ?_
      refine TC.no rfl (by rw [hpk]; rfl) ?_
      refine TC.skip ?_
      refine TE.next ?_
      refine TC.seq ?_
      refine TC.region ?_
      refine' TL.y rfl rfl rfl ?hy33 ?_
      case hy33 => exact Yl.assign rfl rfl
      refine TL.nil ?_
      refine TE.next ?_
      refine TC.seq ?_
      refine TC.seq ?_
      refine TC.region ?_
      refine' TL.y rfl rfl rfl ?hy34 ?_
      case hy34 => exact Yl.assign rfl rfl
      refine TL.nil ?_
      refine TE.next ?_
      refine TC.block ?_
      refine TC.loop (σ := Nat) (fun i => [(0, .int .i64 (p : Int)), (3, .bool true), (4, .slice (some ⟨g11, 0, none⟩) (pathK p 4).length c11), (5, .int .i64 (pfx p i : Int)), (6, .int .i64 (i : Int))]) (fun i => Hp W (fun _ => False) [rowI (.slice (some ⟨g11, 0, none⟩) (pathK p 4).length c11) (pathK p 4)]) (fun i => i ≤ 4) (fun i => 4 - i) 0 ?hF35 ?hs35 ?hm35 ?round35
      case hF35 => exact Nat.zero_le _
      case hs35 => exact ⟨rfl, rfl, rfl, congrArg (fun x => some (Value.int .i64 x)) (by rw [pfx_0 hp]; rfl), rfl, trivial⟩
      case hm35 => exact fun _ h => h
      case round35 =>
        intro i hi
        refine TC.seq ?_
        refine TC.seq ?_
        refine TC.region ?_
        refine' TL.y rfl rfl rfl ?hy36 ?_
        case hy36 => exact Yl.move rfl rfl
        refine' TL.y rfl rfl rfl ?hy37 ?_
        case hy37 => exact Yl.bin rfl rfl rfl (Bin.lss _ _ _ _)
        refine TL.nil ?_
        refine TE.next ?_
        refine TC.cond rfl (fun hs28 => ?_) (fun hs28 => ?_)
        · skip
          (try simp only [decide_eq_true_eq, decide_eq_false_iff_not, beq_iff_eq, beq_eq_false_iff_ne, bne_iff_ne, ne_eq, bne_eq_false_iff_eq, Bool.not_eq_true', Bool.not_eq_false', Int.not_lt, Int.not_le, gt_iff_lt, ge_iff_le] at hs28)
          have hi4 : i < 4 := by omega
          have hdl := dg_lt p i
          have hpn := pfx_next hp (show i ≤ 3 by omega)
          have hpl := pfx_lt hp (show i ≤ 3 by omega)
          have hp16 : 16 ^ i ≤ 4096 := Nat.le_trans (Nat.pow_le_pow_right (by decide) (show i ≤ 3 by omega)) (by decide)
          refine TC.skip ?_
          refine TE.next ?_
          refine TC.seq ?_
          refine TC.block ?_
          refine TC.seq ?_
          refine TC.seq ?_
          refine TC.region ?_
          refine' TL.y rfl rfl rfl ?hy38 ?_
          case hy38 => exact Yl.move rfl rfl
          refine' TL.y rfl rfl rfl ?hy39 ?_
          case hy39 => exact Yl.move rfl rfl
          refine' TL.y rfl rfl rfl ?hy40 ?_
          case hy40 => exact Yl.ixn rfl rfl rfl Try.underlying31 (by kernel_rfl) (by omega)
          refine' TL.y rfl rfl rfl ?hy41 ?_
          case hy41 => first | exact Yl.load rfl rfl (by kernel_rfl) (Hp.rowAtI mem0 (by omega)) | exact Yl.load rfl rfl (by kernel_rfl) (Hp.cell mem0 rfl) | exact Yl.load rfl rfl (by kernel_rfl) (Hp.cell mem1 rfl) | exact Yl.load rfl rfl (by kernel_rfl) (Hp.cell mem2 rfl) | exact Yl.load rfl rfl (by kernel_rfl) (Hp.cell mem3 rfl) | exact Yl.load rfl rfl (by kernel_rfl) (Hp.cell mem4 rfl) | exact Yl.load rfl rfl (by kernel_rfl) (Hp.rowAt mem0 (by omega) rfl) | exact Yl.load rfl rfl (by kernel_rfl) (Hp.rowAt mem1 (by omega) rfl) | exact Yl.load rfl rfl (by kernel_rfl) (Hp.rowAt mem2 (by omega) rfl) | exact Yl.load rfl rfl (by kernel_rfl) (Hp.rowAt mem3 (by omega) rfl) | exact Yl.load rfl rfl (by kernel_rfl) (Hp.rowAt mem4 (by omega) rfl)
          refine TL.re (i := 34) (v' := .int .i64 (dg p i : Int)) rfl (congrArg (Value.int .i64) (pathK_at hi4)) ?_
          refine' TL.y rfl rfl rfl ?hy42 ?_
          case hy42 => exact Yl.bin rfl rfl rfl (Bin.lss _ _ _ _)
          refine' TL.y rfl rfl rfl ?hy43 ?_
          case hy43 => exact Yl.move rfl rfl
          refine TL.re (i := 36) (v' := .bool false) rfl (congrArg Value.bool (decide_eq_false (by omega))) ?_
          refine' TL.y rfl rfl rfl ?hy44 ?_
          case hy44 => exact Yl.move rfl rfl
          refine' TL.y rfl rfl rfl ?hy45 ?_
          case hy45 => exact Yl.move rfl rfl
          refine' TL.y rfl rfl rfl ?hy46 ?_
          case hy46 => exact Yl.ixn rfl rfl rfl Try.underlying31 (by kernel_rfl) (by omega)
          refine' TL.y rfl rfl rfl ?hy47 ?_
          case hy47 => first | exact Yl.load rfl rfl (by kernel_rfl) (Hp.rowAtI mem0 (by omega)) | exact Yl.load rfl rfl (by kernel_rfl) (Hp.cell mem0 rfl) | exact Yl.load rfl rfl (by kernel_rfl) (Hp.cell mem1 rfl) | exact Yl.load rfl rfl (by kernel_rfl) (Hp.cell mem2 rfl) | exact Yl.load rfl rfl (by kernel_rfl) (Hp.cell mem3 rfl) | exact Yl.load rfl rfl (by kernel_rfl) (Hp.cell mem4 rfl) | exact Yl.load rfl rfl (by kernel_rfl) (Hp.rowAt mem0 (by omega) rfl) | exact Yl.load rfl rfl (by kernel_rfl) (Hp.rowAt mem1 (by omega) rfl) | exact Yl.load rfl rfl (by kernel_rfl) (Hp.rowAt mem2 (by omega) rfl) | exact Yl.load rfl rfl (by kernel_rfl) (Hp.rowAt mem3 (by omega) rfl) | exact Yl.load rfl rfl (by kernel_rfl) (Hp.rowAt mem4 (by omega) rfl)
          refine TL.re (i := 40) (v' := .int .i64 (dg p i : Int)) rfl (congrArg (Value.int .i64) (pathK_at hi4)) ?_
          refine' TL.y rfl rfl rfl ?hy48 ?_
          case hy48 => exact Yl.bin rfl rfl rfl (Bin.gtr _ _ _ _)
          refine' TL.y rfl rfl rfl ?hy49 ?_
          case hy49 => exact Yl.pickF rfl rfl rfl
          refine TL.nil ?_
          refine TE.next ?_
          refine TC.no rfl (decide_eq_false (by omega)) ?_
          refine TC.skip ?_
          refine TE.next ?_
          refine TC.region ?_
          refine' TL.y rfl rfl rfl ?hy50 ?_
          case hy50 => exact Yl.move rfl rfl
          refine' TL.y rfl rfl rfl ?hy51 ?_
          case hy51 => first | (refine Yl.val (Yl.bin rfl rfl rfl (Bin.mul _ _ _ _)) (congrArg (Value.int .i64) (i64in ?_ ?_)) <;> omega) | exact Yl.bin rfl rfl rfl (Bin.mul _ _ _ _)
          refine' TL.y rfl rfl rfl ?hy52 ?_
          case hy52 => exact Yl.move rfl rfl
          refine' TL.y rfl rfl rfl ?hy53 ?_
          case hy53 => exact Yl.move rfl rfl
          refine' TL.y rfl rfl rfl ?hy54 ?_
          case hy54 => exact Yl.ixn rfl rfl rfl Try.underlying31 (by kernel_rfl) (by omega)
          refine' TL.y rfl rfl rfl ?hy55 ?_
          case hy55 => first | exact Yl.load rfl rfl (by kernel_rfl) (Hp.rowAtI mem0 (by omega)) | exact Yl.load rfl rfl (by kernel_rfl) (Hp.cell mem0 rfl) | exact Yl.load rfl rfl (by kernel_rfl) (Hp.cell mem1 rfl) | exact Yl.load rfl rfl (by kernel_rfl) (Hp.cell mem2 rfl) | exact Yl.load rfl rfl (by kernel_rfl) (Hp.cell mem3 rfl) | exact Yl.load rfl rfl (by kernel_rfl) (Hp.cell mem4 rfl) | exact Yl.load rfl rfl (by kernel_rfl) (Hp.rowAt mem0 (by omega) rfl) | exact Yl.load rfl rfl (by kernel_rfl) (Hp.rowAt mem1 (by omega) rfl) | exact Yl.load rfl rfl (by kernel_rfl) (Hp.rowAt mem2 (by omega) rfl) | exact Yl.load rfl rfl (by kernel_rfl) (Hp.rowAt mem3 (by omega) rfl) | exact Yl.load rfl rfl (by kernel_rfl) (Hp.rowAt mem4 (by omega) rfl)
          refine TL.re (i := 48) (v' := .int .i64 (dg p i : Int)) rfl (congrArg (Value.int .i64) (pathK_at hi4)) ?_
          refine' TL.y rfl rfl rfl ?hy56 ?_
          case hy56 => first | (refine Yl.val (Yl.bin rfl rfl rfl (Bin.add _ _ _ _)) (congrArg (Value.int .i64) (i64in ?_ ?_)) <;> omega) | exact Yl.bin rfl rfl rfl (Bin.add _ _ _ _)
          refine TL.re (i := 49) (v' := .int .i64 (pfx p (i + 1) : Int)) rfl (congrArg (Value.int .i64) (by omega)) ?_
          refine' TL.y rfl rfl rfl ?hy57 ?_
          case hy57 => exact Yl.assign rfl rfl
          refine TL.nil ?_
          refine TE.inNormal ?_
          refine TE.next ?_
          refine TC.region ?_
          refine' TL.y rfl rfl rfl ?hy58 ?_
          case hy58 => exact Yl.move rfl rfl
          refine' TL.y rfl rfl rfl ?hy59 ?_
          case hy59 => first | (refine Yl.val (Yl.bin rfl rfl rfl (Bin.add _ _ _ _)) (congrArg (Value.int .i64) (i64in ?_ ?_)) <;> omega) | exact Yl.bin rfl rfl rfl (Bin.add _ _ _ _)
          refine' TL.y rfl rfl rfl ?hy60 ?_
          case hy60 => exact Yl.assign rfl rfl
          refine TL.nil ?_
          refine TE.round (i + 1) ?hF61 ?hlt61 ?hs61 ?hm61
          case hF61 => omega
          case hlt61 => omega
          case hs61 => exact ⟨rfl, rfl, rfl, rfl, rfl, trivial⟩
          case hm61 => exact fun _ h => h
        · skip
          (try simp only [decide_eq_true_eq, decide_eq_false_iff_not, beq_iff_eq, beq_eq_false_iff_ne, bne_iff_ne, ne_eq, bne_eq_false_iff_eq, Bool.not_eq_true', Bool.not_eq_false', Int.not_lt, Int.not_le, gt_iff_lt, ge_iff_le] at hs28)
          refine TC.exit ?_
          refine TE.thenExit ?_
          refine TE.thenExit ?_
          refine TE.inHere ?_
          refine TE.next ?_
          refine TC.seq ?_
          refine TC.region ?_
          refine' TL.y rfl rfl rfl ?hy62 ?_
          case hy62 => exact Yl.move rfl rfl
          refine' TL.y rfl rfl rfl ?hy63 ?_
          case hy63 => exact Yl.move rfl rfl
          refine' TL.y rfl rfl rfl ?hy64 ?_
          case hy64 => exact Yl.move rfl rfl
          refine' TL.y rfl rfl rfl ?hy65 ?_
          case hy65 => exact Yl.move rfl rfl
          refine' TL.y rfl rfl rfl ?hy66 ?_
          case hy66 => exact Yl.bin rfl rfl rfl (Bin.eql _ _ _ _)
          refine' TL.y rfl rfl rfl ?hy67 ?_
          case hy67 => exact Yl.pickT rfl rfl rfl
          refine' TL.y rfl rfl rfl ?hy68 ?_
          case hy68 => exact Yl.assign rfl rfl
          refine TL.nil ?_
          refine TE.next ?_
          refine TC.ret ?_
          refine TE.ret1 rfl rfl ?_
          obtain rfl : i = 4 := by omega
          exact fun w h => ⟨by rw [pfx_4]; simp, (h.sub (List.nil_sublist _)).below⟩
end Go.Proofs.Ytbcdplhihkacpaa.Pk
