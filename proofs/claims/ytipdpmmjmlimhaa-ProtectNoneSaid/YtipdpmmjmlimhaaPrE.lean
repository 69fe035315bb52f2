/- How much is protected. -/
import Derived.Test.YtipdpmmjmlimhaaPrD
import Derived.Test.YtipdpmmjmlimhaaProg
import Derived.RowKit3
namespace Go.Proofs.Ytipdpmmjmlimhaa.Pk
open Go Go.RowKit Go.Proofs.Ytipdpmmjmlimhaa.HL Go.Proofs.Ytipdpmmjmlimhaa.Ev Go.Proofs.YtipdpmmjmlimhaaW.PrintWords Go.Proofs.PrP Go.Proofs.DvP
set_option linter.unusedVariables false
set_option linter.unusedSimpArgs false
theorem nw_tail {W : World} {b o m cp : Nat} {f : Nat → Nd} (h1 : 1 ≤ m) (hm : m ≤ cp) (h : Sl W (some ⟨b, o, none⟩) (Nw m f)) : ∃ A', sliced (some ⟨b, o, none⟩) 1 m cp 3 = .slice A' (m - 1) (cp - 1) ∧ Sl W A' (Nw (m - 1) (fun j => f (1 + j))) := by
  refine ⟨_, rfl, fun j v hj => ?_⟩
  have hj2 : j < (m - 1) * 3 := by
    rcases Nat.lt_or_ge j ((m - 1) * 3) with h | h
    · exact h
    · rw [List.getElem?_eq_none (by rw [Nw_length]; exact h)] at hj; cases hj
  rw [if_neg (by omega)]
  have e : j = j / 3 * 3 + j % 3 := by omega
  rw [e, Nw_get _ _ _ _ (by omega) (by omega)] at hj
  refine ⟨⟨b, o + 1 * 3, none⟩, by simp [Addr.at_], ?_⟩
  obtain ⟨ad, e2, hc⟩ := h ((1 + j / 3) * 3 + j % 3) v (by rw [Nw_get _ _ _ _ (by omega) (by omega)]; exact hj)
  cases e2
  rw [Addr.at_] at hc ⊢
  rw [show o + 1 * 3 + j = o + ((1 + j / 3) * 3 + j % 3) by omega]; exact hc
attribute [local irreducible] upR nU Nw Vw blV sumC
def lenE (m : Nat) (f : Nat → Nd) (t : Int) : Nat := if Vld m f ∧ 0 ≤ t ∧ t < m then m else 0
set_option maxRecDepth 100000 in
set_option maxHeartbeats 2000000 in
theorem k_eff (W : World) {m : Nat} {f : Nat → Nd} {A : Option Addr} {cp : Nat} (hS : Sl W A (Nw m f)) (hm : m ≤ 9223372036854775807) (hcp : m ≤ cp) (t : Int) : Calls Try.prog 11 #[.slice A m cp, .int .i64 t] W fun e w' => ∃ v : Value, e = .returned v ∧ (ownR 3 1 v (lenE m f t) (Vw (lenE m f t) (effV m f t))).holds w' ∧ Below W.heap.size W w' ∧ ∀ j, (ownR 3 1 v (lenE m f t) (Vw (lenE m f t) (effV m f t))).foot j → W.heap.size ≤ j := by
  have hM : Hp W (fun _ => False) [] W := Hp.start
  refine TC.enter (n := 104) Try.func11 rfl rfl rfl hM ?_
  refine TC.seq ?_
  refine TC.region ?_
  refine' TL.y rfl rfl rfl ?hy1 ?_
  case hy1 => exact Yl.assign rfl rfl
  refine TL.nil ?_
  refine TE.next ?_
  refine TC.seq ?_
  refine TC.seq ?_
  refine TC.region ?_
  refine' TL.y rfl rfl rfl ?hy2 ?_
  case hy2 => exact Yl.move rfl rfl
  refine' TL.c rfl rfl rfl ?hy3 ?_
  case hy3 => exact Yc.call rfl Try.func14 (by kernel_rfl) rfl rfl (Hp.calls (fun w h => k_valid w (hS.below h.below) hm))
  intro _
  refine' TL.y rfl rfl rfl ?hy4 ?_
  case hy4 => exact Yl.not rfl rfl
  refine' TL.y rfl rfl rfl ?hy5 ?_
  case hy5 => exact Yl.move rfl rfl
  refine TL.split (i := 15) rfl (fun hs15 => ?_) (fun hs15 => ?_)
  · skip
    (try simp only [decide_eq_true_eq, decide_eq_false_iff_not, beq_iff_eq, beq_eq_false_iff_ne, bne_iff_ne, ne_eq, bne_eq_false_iff_eq, Bool.not_eq_true', Bool.not_eq_false', Int.not_lt, Int.not_le, gt_iff_lt, ge_iff_le] at hs15)
    refine TL.skip rfl rfl rfl ?_
    refine TL.skip rfl rfl rfl ?_
    refine' TL.y rfl rfl rfl ?hy6 ?_
    case hy6 => exact Yl.pickT rfl rfl rfl
    refine' TL.y rfl rfl rfl ?hy7 ?_
    case hy7 => exact Yl.move rfl rfl
    refine TL.skip rfl rfl rfl ?_
    refine TL.skip rfl rfl rfl ?_
    refine TL.skip rfl rfl rfl ?_
    refine TL.skip rfl rfl rfl ?_
    refine' TL.y rfl rfl rfl ?hy8 ?_
    case hy8 => exact Yl.pickT rfl rfl rfl
    refine TL.nil ?_
    refine TE.next ?_
    refine TC.yes rfl rfl ?_
    refine TC.seq ?_
    refine TC.region ?_
    refine' TL.y rfl rfl rfl ?hy9 ?_
    case hy9 => exact Yl.assign rfl rfl
    refine TL.nil ?_
    refine TE.next ?_
    refine TC.ret ?_
    refine TE.thenRet ?_
    refine TE.ret1 rfl rfl ?_
    exact fun w h => ⟨_, rfl, by rw [show lenE m f t = 0 from if_neg (by rintro ⟨h1, h2, h3⟩; first | omega | simp_all)]; exact (nilVw h).leaveNew⟩
  · skip
    (try simp only [decide_eq_true_eq, decide_eq_false_iff_not, beq_iff_eq, beq_eq_false_iff_ne, bne_iff_ne, ne_eq, bne_eq_false_iff_eq, Bool.not_eq_true', Bool.not_eq_false', Int.not_lt, Int.not_le, gt_iff_lt, ge_iff_le] at hs15)
    refine' TL.y rfl rfl rfl ?hy10 ?_
    case hy10 => exact Yl.move rfl rfl
    refine' TL.y rfl rfl rfl ?hy11 ?_
    case hy11 => exact Yl.bin rfl rfl rfl (Bin.lss _ _ _ _)
    refine' TL.y rfl rfl rfl ?hy12 ?_
    case hy12 => exact Yl.pickF rfl rfl rfl
    refine' TL.y rfl rfl rfl ?hy13 ?_
    case hy13 => exact Yl.move rfl rfl
    refine TL.split (i := 19) rfl (fun hs19 => ?_) (fun hs19 => ?_)
    · skip
      (try simp only [decide_eq_true_eq, decide_eq_false_iff_not, beq_iff_eq, beq_eq_false_iff_ne, bne_iff_ne, ne_eq, bne_eq_false_iff_eq, Bool.not_eq_true', Bool.not_eq_false', Int.not_lt, Int.not_le, gt_iff_lt, ge_iff_le] at hs19)
      refine TL.skip rfl rfl rfl ?_
      refine TL.skip rfl rfl rfl ?_
      refine TL.skip rfl rfl rfl ?_
      refine TL.skip rfl rfl rfl ?_
      refine' TL.y rfl rfl rfl ?hy14 ?_
      case hy14 => exact Yl.pickT rfl rfl rfl
      refine TL.nil ?_
      refine TE.next ?_
      refine TC.yes rfl rfl ?_
      refine TC.seq ?_
      refine TC.region ?_
      refine' TL.y rfl rfl rfl ?hy15 ?_
      case hy15 => exact Yl.assign rfl rfl
      refine TL.nil ?_
      refine TE.next ?_
      refine TC.ret ?_
      refine TE.thenRet ?_
      refine TE.ret1 rfl rfl ?_
      exact fun w h => ⟨_, rfl, by rw [show lenE m f t = 0 from if_neg (by rintro ⟨h1, h2, h3⟩; first | omega | simp_all)]; exact (nilVw h).leaveNew⟩
    · skip
      (try simp only [decide_eq_true_eq, decide_eq_false_iff_not, beq_iff_eq, beq_eq_false_iff_ne, bne_iff_ne, ne_eq, bne_eq_false_iff_eq, Bool.not_eq_true', Bool.not_eq_false', Int.not_lt, Int.not_le, gt_iff_lt, ge_iff_le] at hs19)
      refine' TL.y rfl rfl rfl ?hy16 ?_
      case hy16 => exact Yl.move rfl rfl
      refine' TL.y rfl rfl rfl ?hy17 ?_
      case hy17 => exact Yl.move rfl rfl
      refine' TL.y rfl rfl rfl ?hy18 ?_
      case hy18 => exact Yl.len rfl rfl Try.underlying22
      refine' TL.y rfl rfl rfl ?hy19 ?_
      case hy19 => exact Yl.bin rfl rfl rfl (Bin.geq _ _ _ _)
      refine' TL.y rfl rfl rfl ?hy20 ?_
      case hy20 => exact Yl.pickF rfl rfl rfl
      refine TL.nil ?_
      refine TE.next ?_
      refine TC.cond rfl (fun hs24 => ?_) (fun hs24 => ?_)
      · skip
        (try simp only [decide_eq_true_eq, decide_eq_false_iff_not, beq_iff_eq, beq_eq_false_iff_ne, bne_iff_ne, ne_eq, bne_eq_false_iff_eq, Bool.not_eq_true', Bool.not_eq_false', Int.not_lt, Int.not_le, gt_iff_lt, ge_iff_le] at hs24)
        refine TC.seq ?_
        refine TC.region ?_
        refine' TL.y rfl rfl rfl ?hy21 ?_
        case hy21 => exact Yl.assign rfl rfl
        refine TL.nil ?_
        refine TE.next ?_
        refine TC.ret ?_
        refine TE.thenRet ?_
        refine TE.ret1 rfl rfl ?_
        exact fun w h => ⟨_, rfl, by rw [show lenE m f t = 0 from if_neg (by rintro ⟨h1, h2, h3⟩; first | omega | simp_all)]; exact (nilVw h).leaveNew⟩
      · skip
        (try simp only [decide_eq_true_eq, decide_eq_false_iff_not, beq_iff_eq, beq_eq_false_iff_ne, bne_iff_ne, ne_eq, bne_eq_false_iff_eq, Bool.not_eq_true', Bool.not_eq_false', Int.not_lt, Int.not_le, gt_iff_lt, ge_iff_le] at hs24)
        have hV : Vld m f ∧ 0 ≤ t ∧ t < m := by refine ⟨?_, by omega, by omega⟩; by_cases e : Vld m f; exact e; simp_all
        have hv := hV.1
        have ht0 := hV.2.1
        have ht1 := hV.2.2
        have hm64 := hv.m1
        obtain ⟨b, o, rfl⟩ := Sl.some2 hS (by rw [Nw_length]; omega)
        refine TC.skip ?_
        refine TE.next ?_
        refine TC.seq ?_
        refine TC.region ?_
        refine' TL.y rfl rfl rfl ?hy22 ?_
        case hy22 => exact Yl.move rfl rfl
        refine' TL.y rfl rfl rfl ?hy23 ?_
        case hy23 => exact Yl.len rfl rfl Try.underlying22
        refine' TL.mx rfl rfl rfl ?hy24 ?_
        case hy24 => exact Ym.makeRow (z := .int .i64 0) (by_ := 8) rfl rfl rfl Try.underlying25 (by kernel_rfl) rfl (by omega) (by omega) (by omega)
        intro b27
        simp only [Int.toNat_natCast]
        refine TL.wk (fun w h => madeOwn (maxL hv.m1) h) ?_
        refine' TL.y rfl rfl rfl ?hy25 ?_
        case hy25 => exact Yl.assign rfl rfl
        refine TL.nil ?_
        refine TE.next ?_
        refine TC.seq ?_
        refine TC.seq ?_
        refine TC.region ?_
        refine' TL.y rfl rfl rfl ?hy26 ?_
        case hy26 => exact Yl.move rfl rfl
        refine' TL.y rfl rfl rfl ?hy27 ?_
        case hy27 => exact Yl.sliceL (k := 3) rfl rfl rfl Try.underlying22 (by kernel_rfl) (by omega) (by omega)
        obtain ⟨A', hA', hS'⟩ := nw_tail (by omega) hcp hS
        rw [show ((1 : Int).toNat) = 1 from rfl, hA']
        refine' TL.y rfl rfl rfl ?hy28 ?_
        case hy28 => exact Yl.len rfl rfl Try.underlying22
        refine' TL.y rfl rfl rfl ?hy29 ?_
        case hy29 => exact Yl.move rfl rfl
        refine TL.nil ?_
        refine TE.next ?_
        refine TC.block ?_
        refine TC.loop (σ := Nat) (fun i => [(0, .slice (some ⟨b, o, none⟩) m cp), (1, .int .i64 t), (5, .slice (some ⟨b27, 0, none⟩) m m), (29, .slice A' (m - 1) (cp - 1)), (30, .int .i64 ((m - 1 : Nat) : Int)), (31, .int .i64 (i : Int))]) (fun i => Hp W (fun _ => False) [ownR 3 1 (.slice (some ⟨b27, 0, none⟩) m m) m (Vw m (fun j => sumC f (j : Int) (i + 1)))]) (fun i => i + 1 ≤ m) (fun i => m - i) 0 ?hF30 ?hs30 ?hm30 ?round30
        case hF30 => omega
        case hs30 => exact ⟨rfl, rfl, rfl, rfl, rfl, rfl, trivial⟩
        case hm30 => exact fun w h => h.vwc (fun j hj => by show 0 = sumC f (j : Int) (0 + 1); rw [sumC, sumC, if_neg (by have := hv.root (by omega); omega)]; rfl)
        case round30 =>
          intro i hi
          refine TC.seq ?_
          refine TC.region ?_
          refine' TL.y rfl rfl rfl ?hy31 ?_
          case hy31 => exact Yl.bin rfl rfl rfl (Bin.lss _ _ _ _)
          refine TL.nil ?_
          refine TE.next ?_
          refine TC.seq ?_
          refine TC.cond rfl (fun hs32 => ?_) (fun hs32 => ?_)
          · skip
            (try simp only [decide_eq_true_eq, decide_eq_false_iff_not, beq_iff_eq, beq_eq_false_iff_ne, bne_iff_ne, ne_eq, bne_eq_false_iff_eq, Bool.not_eq_true', Bool.not_eq_false', Int.not_lt, Int.not_le, gt_iff_lt, ge_iff_le] at hs32)
            obtain ⟨b3, o3, rfl⟩ := Sl.some2 hS' (by rw [Nw_length]; omega)
            have hp := hv.up (1 + i) (by omega) (by omega)
            obtain ⟨q, hq⟩ := Int.eq_ofNat_of_zero_le hp.1
            have hsb := sumC_bd hv (q : Int) (i + 1) (by omega)
            have hob := own_bd hv (j := 1 + i) (by omega)
            refine TC.skip ?_
            refine TE.next ?_
            refine TC.seq ?_
            refine TC.block ?_
            refine TC.seq ?_
            refine TC.region ?_
            refine' TL.y rfl rfl rfl ?hy32 ?_
            case hy32 => first | exact Yl.ixkn (k := 3) rfl rfl rfl Try.underlying22 (by kernel_rfl) (by omega)
            refine' TL.y rfl rfl rfl ?hy33 ?_
            case hy33 => first | exact Yl.loads rfl rfl (by kernel_rfl) (by kernel_rfl) (Hp.vw mem1 (by omega)) | exact Yl.loads rfl rfl (by kernel_rfl) (by kernel_rfl) (Hp.vw mem2 (by omega)) | exact Yl.loads rfl rfl (by kernel_rfl) (by kernel_rfl) (Sl.nws hS (by omega)) | exact Yl.loads rfl rfl (by kernel_rfl) (by kernel_rfl) (Sl.nws hS' (by omega)) | exact Yl.loads rfl rfl (by kernel_rfl) (by kernel_rfl) (Hp.cells (cs := _) mem0 (fun j v hj => by simpa using hj))
            refine' TL.mx rfl rfl rfl ?hy34 ?_
            case hy34 => exact Ym.alloc (z := .agg #[.int .i64 0, .int .i64 0, .int .i64 0]) rfl (by kernel_rfl)
            intro b7
            refine' TL.s rfl rfl ?hy35 ?_
            case hy35 => exact Ys.store (seg := [.int .i64 (f (1 + i)).1, .int .i64 (f (1 + i)).2.1, .int .i64 (f (1 + i)).2.2]) (c' := #[.int .i64 (f (1 + i)).1, .int .i64 (f (1 + i)).2.1, .int .i64 (f (1 + i)).2.2]) rfl rfl rfl (by simp [Value.cells]) (by kernel_rfl) (by simp [Value.oneCell']) foc0 (by simp [Value.cells]) rfl
            refine TL.nil ?_
            refine TE.next ?_
            refine TC.draw (k := 10) _ [9] #[false, false, false, false, false, false, false, false, false, false] (by kernel_rfl) rfl rfl (fun _ h => h.drew) (fun _ h => h) ?_
            refine' TA.p (i := 0) #[true, false, false, false, false, false, false, false, false, false] rfl rfl rfl (by kernel_rfl) (fun _ _ _ h => h) rfl ?hy36 ?_
            case hy36 => exact Yl.move rfl rfl
            refine' TA.p (i := 1) #[true, true, false, false, false, false, false, false, false, false] rfl rfl rfl (by kernel_rfl) (fun _ _ _ h => h) rfl ?hy37 ?_
            case hy37 => first | exact Yl.field0 (k := 0) 0 rfl rfl Try.underlying38 rfl (by kernel_rfl) rfl | exact Yl.field (k := 0) 0 rfl rfl Try.underlying38 rfl (by kernel_rfl) rfl
            refine' TA.y (i := 2) #[true, true, true, false, false, false, false, false, false, false] rfl rfl rfl (by kernel_rfl) (fun _ _ _ h => h) (fun _ h => by exact Hp.sub h (by repeat (first | exact List.Sublist.refl _ | apply List.Sublist.cons))) rfl ?hy38 ?_
            case hy38 => first | exact Yl.load rfl rfl (by kernel_rfl) (Hp.vw mem1 (by omega)) | exact Yl.load rfl rfl (by kernel_rfl) (Hp.vw mem2 (by omega)) | exact Yl.load rfl rfl (by kernel_rfl) (Sl.nws hS (by omega)) | exact Yl.load rfl rfl (by kernel_rfl) (Sl.nws hS' (by omega)) | exact Yl.load rfl rfl (by kernel_rfl) (Hp.cells (cs := _) mem0 (fun j v hj => by simpa using hj)) | exact Yl.load rfl rfl (by kernel_rfl) (Hp.cell mem0 rfl) | exact Yl.load rfl rfl (by kernel_rfl) (Hp.cell mem1 rfl) | exact Yl.load rfl rfl (by kernel_rfl) (Hp.cell mem2 rfl) | exact Yl.load rfl rfl (by kernel_rfl) (Hp.cell mem3 rfl) | exact Yl.load rfl rfl (by kernel_rfl) (Hp.cell mem4 rfl) | exact Yl.load rfl rfl (by kernel_rfl) (Hp.cell mem5 rfl) | exact Yl.load rfl rfl (by kernel_rfl) (Hp.rowAt mem0 (by omega) rfl) | exact Yl.load rfl rfl (by kernel_rfl) (Hp.rowAt mem1 (by omega) rfl) | exact Yl.load rfl rfl (by kernel_rfl) (Hp.rowAt mem2 (by omega) rfl) | exact Yl.load rfl rfl (by kernel_rfl) (Hp.rowAt mem3 (by omega) rfl) | exact Yl.load rfl rfl (by kernel_rfl) (Hp.rowAt mem4 (by omega) rfl) | exact Yl.load rfl rfl (by kernel_rfl) (Hp.rowAt mem5 (by omega) rfl)
            refine TA.re (i := 37) (v' := .int .i64 ((q : Int))) rfl (congrArg (Value.int .i64) (hq)) ?_
            refine' TA.p (i := 3) #[true, true, true, true, false, false, false, false, false, false] rfl rfl rfl (by kernel_rfl) (fun _ _ _ h => h) rfl ?hy39 ?_
            case hy39 => first | exact Yl.ixn rfl rfl rfl Try.underlying25 (by kernel_rfl) (by omega) | exact Yl.ixz rfl rfl rfl Try.underlying25 (by kernel_rfl) (by omega) (by omega) | exact Yl.ixcn rfl rfl rfl Try.underlying25 (by kernel_rfl) (by omega) | exact Yl.ixcz rfl rfl rfl Try.underlying25 (by kernel_rfl) (by omega) (by omega)
            refine' TA.y (i := 4) #[true, true, true, true, true, false, false, false, false, false] rfl rfl rfl (by kernel_rfl) (fun _ _ _ h => h) (fun _ h => by exact Hp.sub h (by repeat (first | exact List.Sublist.refl _ | apply List.Sublist.cons))) rfl ?hy40 ?_
            case hy40 => first | exact Yl.load rfl rfl (by kernel_rfl) (Hp.vw mem1 (by omega)) | exact Yl.load rfl rfl (by kernel_rfl) (Hp.vw mem2 (by omega)) | exact Yl.load rfl rfl (by kernel_rfl) (Sl.nws hS (by omega)) | exact Yl.load rfl rfl (by kernel_rfl) (Sl.nws hS' (by omega)) | exact Yl.load rfl rfl (by kernel_rfl) (Hp.cells (cs := _) mem0 (fun j v hj => by simpa using hj)) | exact Yl.load rfl rfl (by kernel_rfl) (Hp.cell mem0 rfl) | exact Yl.load rfl rfl (by kernel_rfl) (Hp.cell mem1 rfl) | exact Yl.load rfl rfl (by kernel_rfl) (Hp.cell mem2 rfl) | exact Yl.load rfl rfl (by kernel_rfl) (Hp.cell mem3 rfl) | exact Yl.load rfl rfl (by kernel_rfl) (Hp.cell mem4 rfl) | exact Yl.load rfl rfl (by kernel_rfl) (Hp.cell mem5 rfl) | exact Yl.load rfl rfl (by kernel_rfl) (Hp.rowAt mem0 (by omega) rfl) | exact Yl.load rfl rfl (by kernel_rfl) (Hp.rowAt mem1 (by omega) rfl) | exact Yl.load rfl rfl (by kernel_rfl) (Hp.rowAt mem2 (by omega) rfl) | exact Yl.load rfl rfl (by kernel_rfl) (Hp.rowAt mem3 (by omega) rfl) | exact Yl.load rfl rfl (by kernel_rfl) (Hp.rowAt mem4 (by omega) rfl) | exact Yl.load rfl rfl (by kernel_rfl) (Hp.rowAt mem5 (by omega) rfl)
            refine' TA.y (i := 5) #[true, true, true, true, true, true, false, false, false, false] rfl rfl rfl (by kernel_rfl) (fun _ _ _ h => h) (fun _ h => by exact Hp.sub h (by repeat (first | exact List.Sublist.refl _ | apply List.Sublist.cons))) rfl ?hy41 ?_
            case hy41 => first | exact Yl.loads rfl rfl (by kernel_rfl) (by kernel_rfl) (Hp.vw mem1 (by omega)) | exact Yl.loads rfl rfl (by kernel_rfl) (by kernel_rfl) (Hp.vw mem2 (by omega)) | exact Yl.loads rfl rfl (by kernel_rfl) (by kernel_rfl) (Sl.nws hS (by omega)) | exact Yl.loads rfl rfl (by kernel_rfl) (by kernel_rfl) (Sl.nws hS' (by omega)) | exact Yl.loads rfl rfl (by kernel_rfl) (by kernel_rfl) (Hp.cells (cs := _) mem0 (fun j v hj => by simpa using hj))
            refine' TA.c (i := 6) #[true, true, true, true, true, true, true, false, false, false] rfl rfl rfl (by kernel_rfl) (by decide) rfl ?hy42 ?hz42 ?_
            case hy42 => exact Yc.call rfl Try.func22 (by kernel_rfl) rfl rfl (Hp.calls (fun w h => k_own w _ _ _))
            case hz42 => exact (fun _ _ h => by exact Hp.sub h (by repeat (first | exact List.Sublist.refl _ | apply List.Sublist.cons)))
            intro _
            refine TA.re (i := 41) (v' := .int .i64 (ownV f (1 + i))) rfl (congrArg (Value.int .i64) (rfl)) ?_
            refine' TA.p (i := 7) #[true, true, true, true, true, true, true, true, false, false] rfl rfl rfl (by kernel_rfl) (fun _ _ _ h => h) rfl ?hy43 ?_
            case hy43 => first | (refine Yl.val (Yl.bin rfl rfl rfl (Bin.add _ _ _ _)) (congrArg (Value.int .i64) (i64in ?_ ?_)) <;> omega) | exact Yl.bin rfl rfl rfl (Bin.add _ _ _ _)
            refine' TA.p (i := 8) #[true, true, true, true, true, true, true, true, true, false] rfl rfl rfl (by kernel_rfl) (fun _ _ _ h => h) rfl ?hy44 ?_
            case hy44 => first | exact Yl.ixn rfl rfl rfl Try.underlying25 (by kernel_rfl) (by omega) | exact Yl.ixz rfl rfl rfl Try.underlying25 (by kernel_rfl) (by omega) (by omega) | exact Yl.ixcn rfl rfl rfl Try.underlying25 (by kernel_rfl) (by omega) | exact Yl.ixcz rfl rfl rfl Try.underlying25 (by kernel_rfl) (by omega) (by omega)
            refine' TA.sl (i := 9) #[true, true, true, true, true, true, true, true, true, true] rfl rfl (by kernel_rfl) (by decide) rfl ?hy45 ?_
            case hy45 => first | exact Ys.vw rfl rfl rfl (by kernel_rfl) foc1 (by omega)
            refine TA.done (by kernel_rfl) ?_
            refine TE.inNormal ?_
            refine TE.next ?_
            refine TC.region ?_
            refine' TL.y rfl rfl rfl ?hy46 ?_
            case hy46 => first | (refine Yl.val (Yl.bin rfl rfl rfl (Bin.add _ _ _ _)) (congrArg (Value.int .i64) (i64in ?_ ?_)) <;> omega) | exact Yl.bin rfl rfl rfl (Bin.add _ _ _ _)
            refine' TL.y rfl rfl rfl ?hy47 ?_
            case hy47 => exact Yl.move rfl rfl
            refine TL.nil ?_
            refine TE.round (i + 1) ?hF48 ?hlt48 ?hs48 ?hm48
            case hF48 => omega
            case hlt48 => omega
            case hs48 => exact ⟨rfl, rfl, rfl, rfl, rfl, rfl, trivial⟩
            case hm48 => exact (fun w h => (h.sub (List.sublist_cons_self _ _)).vwc (fun j hj => by
                show upI _ _ _ j = sumC f (j : Int) (i + 1 + 1)
                have e0 : sumC f (j : Int) (i + 1 + 1) = sumC f (j : Int) (i + 1) + (if (f (1 + i)).1 = (j : Int) then ownV f (1 + i) else 0) := by rw [sumC, show i + 1 = 1 + i by omega]
                rw [e0, hq]
                unfold upI
                by_cases e : j = q
                · rw [if_pos e, if_pos (by omega), e]
                · rw [if_neg e, if_neg (by omega)]; simp))
          · skip
            (try simp only [decide_eq_true_eq, decide_eq_false_iff_not, beq_iff_eq, beq_eq_false_iff_ne, bne_iff_ne, ne_eq, bne_eq_false_iff_eq, Bool.not_eq_true', Bool.not_eq_false', Int.not_lt, Int.not_le, gt_iff_lt, ge_iff_le] at hs32)
            have him : i + 1 = m := by omega
            refine TC.exit ?_
            refine TE.thenExit ?_
            refine TE.thenExit ?_
            refine TE.inHere ?_
            refine TE.next ?_
            refine TC.seq ?_
            refine TC.region ?_
            refine' TL.y rfl rfl rfl ?hy49 ?_
            case hy49 => exact Yl.move rfl rfl
            refine' TL.y rfl rfl rfl ?hy50 ?_
            case hy50 => exact Yl.len rfl rfl Try.underlying22
            refine' TL.mx rfl rfl rfl ?hy51 ?_
            case hy51 => exact Ym.makeRow (z := .int .i64 0) (by_ := 8) rfl rfl rfl Try.underlying25 (by kernel_rfl) rfl (by omega) (by omega) (by omega)
            intro b47
            simp only [Int.toNat_natCast]
            refine TL.wk (fun w h => madeOwn (maxL hv.m1) h) ?_
            refine' TL.y rfl rfl rfl ?hy52 ?_
            case hy52 => exact Yl.assign rfl rfl
            refine TL.nil ?_
            refine TE.next ?_
            refine TC.seq ?_
            refine TC.seq ?_
            refine TC.region ?_
            refine' TL.y rfl rfl rfl ?hy53 ?_
            case hy53 => exact Yl.move rfl rfl
            refine' TL.y rfl rfl rfl ?hy54 ?_
            case hy54 => exact Yl.len rfl rfl Try.underlying22
            refine' TL.y rfl rfl rfl ?hy55 ?_
            case hy55 => exact Yl.move rfl rfl
            refine TL.nil ?_
            refine TE.next ?_
            refine TC.block ?_
            refine TC.loop (σ := Nat) (fun i => [(0, .slice (some ⟨b, o, none⟩) m cp), (1, .int .i64 t), (5, .slice (some ⟨b27, 0, none⟩) m m), (8, .slice (some ⟨b47, 0, none⟩) m m), (48, .slice (some ⟨b, o, none⟩) m cp), (49, .int .i64 (m : Int)), (50, .int .i64 (i : Int))]) (fun i => Hp W (fun _ => False) [ownR 3 1 (.slice (some ⟨b47, 0, none⟩) m m) m (Vw m (fun j => if j < i then effV m f t j else 0)), ownR 3 1 (.slice (some ⟨b27, 0, none⟩) m m) m (Vw m (fun j => sumC f (j : Int) m))]) (fun i => i ≤ m) (fun i => m - i) 0 ?hF56 ?hs56 ?hm56 ?round56
            case hF56 => exact Nat.zero_le _
            case hs56 => exact ⟨rfl, rfl, rfl, rfl, rfl, rfl, rfl, trivial⟩
            case hm56 => exact fun w h => by rw [him] at h; exact h.vwc (fun j hj => (if_neg (by omega)).symm)
            case round56 =>
              intro i hi
              refine TC.seq ?_
              refine TC.region ?_
              refine' TL.y rfl rfl rfl ?hy57 ?_
              case hy57 => exact Yl.bin rfl rfl rfl (Bin.lss _ _ _ _)
              refine TL.nil ?_
              refine TE.next ?_
              refine TC.seq ?_
              refine TC.cond rfl (fun hs51 => ?_) (fun hs51 => ?_)
              · skip
                (try simp only [decide_eq_true_eq, decide_eq_false_iff_not, beq_iff_eq, beq_eq_false_iff_ne, bne_iff_ne, ne_eq, bne_eq_false_iff_eq, Bool.not_eq_true', Bool.not_eq_false', Int.not_lt, Int.not_le, gt_iff_lt, ge_iff_le] at hs51)
                have hob := own_bd hv (j := i) (by omega)
                refine TC.skip ?_
                refine TE.next ?_
                refine TC.seq ?_
                refine TC.block ?_
                refine TC.seq ?_
                refine TC.region ?_
                refine' TL.y rfl rfl rfl ?hy58 ?_
                case hy58 => exact Yl.move rfl rfl
                refine' TL.y rfl rfl rfl ?hy59 ?_
                case hy59 => first | exact Yl.ixkn (k := 3) rfl rfl rfl Try.underlying22 (by kernel_rfl) (by omega)
                refine' TL.y rfl rfl rfl ?hy60 ?_
                case hy60 => first | exact Yl.loads rfl rfl (by kernel_rfl) (by kernel_rfl) (Hp.vw mem1 (by omega)) | exact Yl.loads rfl rfl (by kernel_rfl) (by kernel_rfl) (Hp.vw mem2 (by omega)) | exact Yl.loads rfl rfl (by kernel_rfl) (by kernel_rfl) (Sl.nws hS (by omega)) | exact Yl.loads rfl rfl (by kernel_rfl) (by kernel_rfl) (Sl.nws hS' (by omega)) | exact Yl.loads rfl rfl (by kernel_rfl) (by kernel_rfl) (Hp.cells (cs := _) mem0 (fun j v hj => by simpa using hj))
                refine' TL.mx rfl rfl rfl ?hy61 ?_
                case hy61 => exact Ym.alloc (z := .agg #[.int .i64 0, .int .i64 0, .int .i64 0]) rfl (by kernel_rfl)
                intro b10
                refine' TL.y rfl rfl rfl ?hy62 ?_
                case hy62 => exact Yl.assign rfl rfl
                refine' TL.s rfl rfl ?hy63 ?_
                case hy63 => exact Ys.store (seg := [.int .i64 (f (i)).1, .int .i64 (f (i)).2.1, .int .i64 (f (i)).2.2]) (c' := #[.int .i64 (f (i)).1, .int .i64 (f (i)).2.1, .int .i64 (f (i)).2.2]) rfl rfl rfl (by simp [Value.cells]) (by kernel_rfl) (by simp [Value.oneCell']) foc0 (by simp [Value.cells]) rfl
                refine TL.nil ?_
                refine TE.next ?_
                refine TC.seq ?_
                refine TC.seq ?_
                refine TC.region ?_
                refine' TL.y rfl rfl rfl ?hy64 ?_
                case hy64 => exact Yl.move rfl rfl
                refine' TL.y rfl rfl rfl ?hy65 ?_
                case hy65 => exact Yl.move rfl rfl
                refine' TL.y rfl rfl rfl ?hy66 ?_
                case hy66 => exact Yl.bin rfl rfl rfl (Bin.eql _ _ _ _)
                refine' TL.y rfl rfl rfl ?hy67 ?_
                case hy67 => exact Yl.move rfl rfl
                refine TL.split (i := 58) rfl (fun hs58 => ?_) (fun hs58 => ?_)
                · skip
                  (try simp only [decide_eq_true_eq, decide_eq_false_iff_not, beq_iff_eq, beq_eq_false_iff_ne, bne_iff_ne, ne_eq, bne_eq_false_iff_eq, Bool.not_eq_true', Bool.not_eq_false', Int.not_lt, Int.not_le, gt_iff_lt, ge_iff_le] at hs58)
                  have hov : effV m f t i = 0 := effV_no (.inl (by omega))
                  refine TL.skip rfl rfl rfl ?_
                  refine TL.skip rfl rfl rfl ?_
                  refine TL.skip rfl rfl rfl ?_
                  refine TL.skip rfl rfl rfl ?_
                  refine TL.skip rfl rfl rfl ?_
                  refine' TL.y rfl rfl rfl ?hy68 ?_
                  case hy68 => exact Yl.pickT rfl rfl rfl
                  refine TL.nil ?_
                  refine TE.next ?_
                  refine TC.yes rfl rfl ?_
                  refine TC.exit ?_
                  refine TE.thenExit ?_
                  refine TE.inHere ?_
                  refine TE.next ?_
                  refine TC.region ?_
                  refine' TL.y rfl rfl rfl ?hy69 ?_
                  case hy69 => first | (refine Yl.val (Yl.bin rfl rfl rfl (Bin.add _ _ _ _)) (congrArg (Value.int .i64) (i64in ?_ ?_)) <;> omega) | exact Yl.bin rfl rfl rfl (Bin.add _ _ _ _)
                  refine' TL.y rfl rfl rfl ?hy70 ?_
                  case hy70 => exact Yl.move rfl rfl
                  refine TL.nil ?_
                  refine TE.round (i + 1) ?hF71 ?hlt71 ?hs71 ?hm71
                  case hF71 => omega
                  case hlt71 => omega
                  case hs71 => exact ⟨rfl, rfl, rfl, rfl, rfl, rfl, rfl, trivial⟩
                  case hm71 => exact (fun w h => (h.sub (List.sublist_cons_self _ _)).vwc (fun j hj => by
                      by_cases e : j = i
                      · rw [if_neg (by omega), if_pos (by omega), e]; exact hov.symm
                      · by_cases e2 : j < i
                        · rw [if_pos e2, if_pos (by omega)]
                        · rw [if_neg e2, if_neg (by omega)]))
                · skip
                  (try simp only [decide_eq_true_eq, decide_eq_false_iff_not, beq_iff_eq, beq_eq_false_iff_ne, bne_iff_ne, ne_eq, bne_eq_false_iff_eq, Bool.not_eq_true', Bool.not_eq_false', Int.not_lt, Int.not_le, gt_iff_lt, ge_iff_le] at hs58)
                  refine' TL.y rfl rfl rfl ?hy72 ?_
                  case hy72 => exact Yl.move rfl rfl
                  refine' TL.y rfl rfl rfl ?hy73 ?_
                  case hy73 => exact Yl.move rfl rfl
                  refine' TL.y rfl rfl rfl ?hy74 ?_
                  case hy74 => exact Yl.move rfl rfl
                  refine' TL.c rfl rfl rfl ?hy75 ?_
                  case hy75 => exact Yc.call rfl Try.func23 (by kernel_rfl) rfl rfl (Hp.calls (fun w h => k_below w (hS.below h.below) hv (by omega) (by omega) ht0))
                  intro _
                  refine' TL.y rfl rfl rfl ?hy76 ?_
                  case hy76 => exact Yl.not rfl rfl
                  refine' TL.y rfl rfl rfl ?hy77 ?_
                  case hy77 => exact Yl.pickF rfl rfl rfl
                  refine TL.nil ?_
                  refine TE.next ?_
                  refine TC.cond rfl (fun hs64 => ?_) (fun hs64 => ?_)
                  · skip
                    (try simp only [decide_eq_true_eq, decide_eq_false_iff_not, beq_iff_eq, beq_eq_false_iff_ne, bne_iff_ne, ne_eq, bne_eq_false_iff_eq, Bool.not_eq_true', Bool.not_eq_false', Int.not_lt, Int.not_le, gt_iff_lt, ge_iff_le] at hs64)
                    have hov : effV m f t i = 0 := effV_no (.inr (by simpa using hs64))
                    refine TC.exit ?_
                    refine TE.thenExit ?_
                    refine TE.inHere ?_
                    refine TE.next ?_
                    refine TC.region ?_
                    refine' TL.y rfl rfl rfl ?hy78 ?_
                    case hy78 => first | (refine Yl.val (Yl.bin rfl rfl rfl (Bin.add _ _ _ _)) (congrArg (Value.int .i64) (i64in ?_ ?_)) <;> omega) | exact Yl.bin rfl rfl rfl (Bin.add _ _ _ _)
                    refine' TL.y rfl rfl rfl ?hy79 ?_
                    case hy79 => exact Yl.move rfl rfl
                    refine TL.nil ?_
                    refine TE.round (i + 1) ?hF80 ?hlt80 ?hs80 ?hm80
                    case hF80 => omega
                    case hlt80 => omega
                    case hs80 => exact ⟨rfl, rfl, rfl, rfl, rfl, rfl, rfl, trivial⟩
                    case hm80 => exact (fun w h => (h.sub (List.sublist_cons_self _ _)).vwc (fun j hj => by
                        by_cases e : j = i
                        · rw [if_neg (by omega), if_pos (by omega), e]; exact hov.symm
                        · by_cases e2 : j < i
                          · rw [if_pos e2, if_pos (by omega)]
                          · rw [if_neg e2, if_neg (by omega)]))
                  · skip
                    (try simp only [decide_eq_true_eq, decide_eq_false_iff_not, beq_iff_eq, beq_eq_false_iff_ne, bne_iff_ne, ne_eq, bne_eq_false_iff_eq, Bool.not_eq_true', Bool.not_eq_false', Int.not_lt, Int.not_le, gt_iff_lt, ge_iff_le] at hs64)
                    have hcs : ¬ ((i : Int) = t ∨ blV f t (m + 1) (i : Int) = false) := by rintro (h | h); omega; rw [h] at hs64; simp at hs64
                    have hp := par_in hv ht0 (by omega) hcs
                    obtain ⟨q, hq⟩ := Int.eq_ofNat_of_zero_le hp.1
                    have hqi : q < i := by omega
                    have hsb := sumC_bd hv (q : Int) m (Nat.le_refl _)
                    have hsp := sumC_part hv (q : Int) hq m (Nat.le_refl _) (by omega)
                    have hqb := effV_bd hv ht0 q (by omega)
                    have hqo := own_bd hv (j := q) (by omega)
                    refine TC.skip ?_
                    refine TE.next ?_
                    refine TC.seq ?_
                    refine TC.region ?_
                    refine' TL.y rfl rfl rfl ?hy81 ?_
                    case hy81 => exact Yl.move rfl rfl
                    refine' TL.y rfl rfl rfl ?hy82 ?_
                    case hy82 => exact Yl.move rfl rfl
                    refine' TL.y rfl rfl rfl ?hy83 ?_
                    case hy83 => first | exact Yl.loads rfl rfl (by kernel_rfl) (by kernel_rfl) (Hp.vw mem1 (by omega)) | exact Yl.loads rfl rfl (by kernel_rfl) (by kernel_rfl) (Hp.vw mem2 (by omega)) | exact Yl.loads rfl rfl (by kernel_rfl) (by kernel_rfl) (Sl.nws hS (by omega)) | exact Yl.loads rfl rfl (by kernel_rfl) (by kernel_rfl) (Sl.nws hS' (by omega)) | exact Yl.loads rfl rfl (by kernel_rfl) (by kernel_rfl) (Hp.cells (cs := _) mem0 (fun j v hj => by simpa using hj))
                    refine' TL.c rfl rfl rfl ?hy84 ?_
                    case hy84 => exact Yc.call rfl Try.func22 (by kernel_rfl) rfl rfl (Hp.calls (fun w h => k_own w _ _ _))
                    intro _
                    refine TL.re (i := 68) (v' := .int .i64 (ownV f i)) rfl (congrArg (Value.int .i64) (rfl)) ?_
                    refine' TL.y rfl rfl rfl ?hy85 ?_
                    case hy85 => first | exact Yl.ixn rfl rfl rfl Try.underlying25 (by kernel_rfl) (by omega) | exact Yl.ixz rfl rfl rfl Try.underlying25 (by kernel_rfl) (by omega) (by omega) | exact Yl.ixcn rfl rfl rfl Try.underlying25 (by kernel_rfl) (by omega) | exact Yl.ixcz rfl rfl rfl Try.underlying25 (by kernel_rfl) (by omega) (by omega)
                    refine' TL.s rfl rfl ?hy86 ?_
                    case hy86 => first | exact Ys.vw rfl rfl rfl (by kernel_rfl) foc1 (by omega)
                    refine TL.nil ?_
                    refine TE.next ?_
                    refine TC.seq ?_
                    refine TC.region ?_
                    refine' TL.y rfl rfl rfl ?hy87 ?_
                    case hy87 => exact Yl.move rfl rfl
                    refine' TL.y rfl rfl rfl ?hy88 ?_
                    case hy88 => first | exact Yl.field0 (k := 0) 0 rfl rfl Try.underlying38 rfl (by kernel_rfl) rfl | exact Yl.field (k := 0) 0 rfl rfl Try.underlying38 rfl (by kernel_rfl) rfl
                    refine' TL.y rfl rfl rfl ?hy89 ?_
                    case hy89 => first | exact Yl.load rfl rfl (by kernel_rfl) (Hp.vw mem1 (by omega)) | exact Yl.load rfl rfl (by kernel_rfl) (Hp.vw mem2 (by omega)) | exact Yl.load rfl rfl (by kernel_rfl) (Sl.nws hS (by omega)) | exact Yl.load rfl rfl (by kernel_rfl) (Sl.nws hS' (by omega)) | exact Yl.load rfl rfl (by kernel_rfl) (Hp.cells (cs := _) mem0 (fun j v hj => by simpa using hj)) | exact Yl.load rfl rfl (by kernel_rfl) (Hp.cell mem0 rfl) | exact Yl.load rfl rfl (by kernel_rfl) (Hp.cell mem1 rfl) | exact Yl.load rfl rfl (by kernel_rfl) (Hp.cell mem2 rfl) | exact Yl.load rfl rfl (by kernel_rfl) (Hp.cell mem3 rfl) | exact Yl.load rfl rfl (by kernel_rfl) (Hp.cell mem4 rfl) | exact Yl.load rfl rfl (by kernel_rfl) (Hp.cell mem5 rfl) | exact Yl.load rfl rfl (by kernel_rfl) (Hp.rowAt mem0 (by omega) rfl) | exact Yl.load rfl rfl (by kernel_rfl) (Hp.rowAt mem1 (by omega) rfl) | exact Yl.load rfl rfl (by kernel_rfl) (Hp.rowAt mem2 (by omega) rfl) | exact Yl.load rfl rfl (by kernel_rfl) (Hp.rowAt mem3 (by omega) rfl) | exact Yl.load rfl rfl (by kernel_rfl) (Hp.rowAt mem4 (by omega) rfl) | exact Yl.load rfl rfl (by kernel_rfl) (Hp.rowAt mem5 (by omega) rfl)
                    refine TL.re (i := 72) (v' := .int .i64 ((q : Int))) rfl (congrArg (Value.int .i64) (hq)) ?_
                    refine' TL.y rfl rfl rfl ?hy90 ?_
                    case hy90 => first | exact Yl.ixn rfl rfl rfl Try.underlying25 (by kernel_rfl) (by omega) | exact Yl.ixz rfl rfl rfl Try.underlying25 (by kernel_rfl) (by omega) (by omega) | exact Yl.ixcn rfl rfl rfl Try.underlying25 (by kernel_rfl) (by omega) | exact Yl.ixcz rfl rfl rfl Try.underlying25 (by kernel_rfl) (by omega) (by omega)
                    refine' TL.y rfl rfl rfl ?hy91 ?_
                    case hy91 => first | exact Yl.load rfl rfl (by kernel_rfl) (Hp.vw mem1 (by omega)) | exact Yl.load rfl rfl (by kernel_rfl) (Hp.vw mem2 (by omega)) | exact Yl.load rfl rfl (by kernel_rfl) (Sl.nws hS (by omega)) | exact Yl.load rfl rfl (by kernel_rfl) (Sl.nws hS' (by omega)) | exact Yl.load rfl rfl (by kernel_rfl) (Hp.cells (cs := _) mem0 (fun j v hj => by simpa using hj)) | exact Yl.load rfl rfl (by kernel_rfl) (Hp.cell mem0 rfl) | exact Yl.load rfl rfl (by kernel_rfl) (Hp.cell mem1 rfl) | exact Yl.load rfl rfl (by kernel_rfl) (Hp.cell mem2 rfl) | exact Yl.load rfl rfl (by kernel_rfl) (Hp.cell mem3 rfl) | exact Yl.load rfl rfl (by kernel_rfl) (Hp.cell mem4 rfl) | exact Yl.load rfl rfl (by kernel_rfl) (Hp.cell mem5 rfl) | exact Yl.load rfl rfl (by kernel_rfl) (Hp.rowAt mem0 (by omega) rfl) | exact Yl.load rfl rfl (by kernel_rfl) (Hp.rowAt mem1 (by omega) rfl) | exact Yl.load rfl rfl (by kernel_rfl) (Hp.rowAt mem2 (by omega) rfl) | exact Yl.load rfl rfl (by kernel_rfl) (Hp.rowAt mem3 (by omega) rfl) | exact Yl.load rfl rfl (by kernel_rfl) (Hp.rowAt mem4 (by omega) rfl) | exact Yl.load rfl rfl (by kernel_rfl) (Hp.rowAt mem5 (by omega) rfl)
                    refine' TL.y rfl rfl rfl ?hy92 ?_
                    case hy92 => exact Yl.assign rfl rfl
                    refine TL.nil ?_
                    refine TE.next ?_
                    refine TC.seq ?_
                    refine TC.region ?_
                    refine' TL.y rfl rfl rfl ?hy93 ?_
                    case hy93 => first | exact Yl.field0 (k := 0) 0 rfl rfl Try.underlying38 rfl (by kernel_rfl) rfl | exact Yl.field (k := 0) 0 rfl rfl Try.underlying38 rfl (by kernel_rfl) rfl
                    refine' TL.y rfl rfl rfl ?hy94 ?_
                    case hy94 => first | exact Yl.load rfl rfl (by kernel_rfl) (Hp.vw mem1 (by omega)) | exact Yl.load rfl rfl (by kernel_rfl) (Hp.vw mem2 (by omega)) | exact Yl.load rfl rfl (by kernel_rfl) (Sl.nws hS (by omega)) | exact Yl.load rfl rfl (by kernel_rfl) (Sl.nws hS' (by omega)) | exact Yl.load rfl rfl (by kernel_rfl) (Hp.cells (cs := _) mem0 (fun j v hj => by simpa using hj)) | exact Yl.load rfl rfl (by kernel_rfl) (Hp.cell mem0 rfl) | exact Yl.load rfl rfl (by kernel_rfl) (Hp.cell mem1 rfl) | exact Yl.load rfl rfl (by kernel_rfl) (Hp.cell mem2 rfl) | exact Yl.load rfl rfl (by kernel_rfl) (Hp.cell mem3 rfl) | exact Yl.load rfl rfl (by kernel_rfl) (Hp.cell mem4 rfl) | exact Yl.load rfl rfl (by kernel_rfl) (Hp.cell mem5 rfl) | exact Yl.load rfl rfl (by kernel_rfl) (Hp.rowAt mem0 (by omega) rfl) | exact Yl.load rfl rfl (by kernel_rfl) (Hp.rowAt mem1 (by omega) rfl) | exact Yl.load rfl rfl (by kernel_rfl) (Hp.rowAt mem2 (by omega) rfl) | exact Yl.load rfl rfl (by kernel_rfl) (Hp.rowAt mem3 (by omega) rfl) | exact Yl.load rfl rfl (by kernel_rfl) (Hp.rowAt mem4 (by omega) rfl) | exact Yl.load rfl rfl (by kernel_rfl) (Hp.rowAt mem5 (by omega) rfl)
                    refine TL.re (i := 76) (v' := .int .i64 ((q : Int))) rfl (congrArg (Value.int .i64) (hq)) ?_
                    refine' TL.y rfl rfl rfl ?hy95 ?_
                    case hy95 => exact Yl.move rfl rfl
                    refine' TL.y rfl rfl rfl ?hy96 ?_
                    case hy96 => exact Yl.bin rfl rfl rfl (Bin.neq _ _ _ _)
                    refine' TL.y rfl rfl rfl ?hy97 ?_
                    case hy97 => exact Yl.move rfl rfl
                    refine TL.split (i := 79) rfl (fun hs79 => ?_) (fun hs79 => ?_)
                    · skip
                      (try simp only [decide_eq_true_eq, decide_eq_false_iff_not, beq_iff_eq, beq_eq_false_iff_ne, bne_iff_ne, ne_eq, bne_eq_false_iff_eq, Bool.not_eq_true', Bool.not_eq_false', Int.not_lt, Int.not_le, gt_iff_lt, ge_iff_le] at hs79)
                      refine' TL.y rfl rfl rfl ?hy98 ?_
                      case hy98 => exact Yl.move rfl rfl
                      refine' TL.y rfl rfl rfl ?hy99 ?_
                      case hy99 => exact Yl.move rfl rfl
                      refine' TL.y rfl rfl rfl ?hy100 ?_
                      case hy100 => first | exact Yl.field0 (k := 0) 0 rfl rfl Try.underlying38 rfl (by kernel_rfl) rfl | exact Yl.field (k := 0) 0 rfl rfl Try.underlying38 rfl (by kernel_rfl) rfl
                      refine' TL.y rfl rfl rfl ?hy101 ?_
                      case hy101 => first | exact Yl.load rfl rfl (by kernel_rfl) (Hp.vw mem1 (by omega)) | exact Yl.load rfl rfl (by kernel_rfl) (Hp.vw mem2 (by omega)) | exact Yl.load rfl rfl (by kernel_rfl) (Sl.nws hS (by omega)) | exact Yl.load rfl rfl (by kernel_rfl) (Sl.nws hS' (by omega)) | exact Yl.load rfl rfl (by kernel_rfl) (Hp.cells (cs := _) mem0 (fun j v hj => by simpa using hj)) | exact Yl.load rfl rfl (by kernel_rfl) (Hp.cell mem0 rfl) | exact Yl.load rfl rfl (by kernel_rfl) (Hp.cell mem1 rfl) | exact Yl.load rfl rfl (by kernel_rfl) (Hp.cell mem2 rfl) | exact Yl.load rfl rfl (by kernel_rfl) (Hp.cell mem3 rfl) | exact Yl.load rfl rfl (by kernel_rfl) (Hp.cell mem4 rfl) | exact Yl.load rfl rfl (by kernel_rfl) (Hp.cell mem5 rfl) | exact Yl.load rfl rfl (by kernel_rfl) (Hp.rowAt mem0 (by omega) rfl) | exact Yl.load rfl rfl (by kernel_rfl) (Hp.rowAt mem1 (by omega) rfl) | exact Yl.load rfl rfl (by kernel_rfl) (Hp.rowAt mem2 (by omega) rfl) | exact Yl.load rfl rfl (by kernel_rfl) (Hp.rowAt mem3 (by omega) rfl) | exact Yl.load rfl rfl (by kernel_rfl) (Hp.rowAt mem4 (by omega) rfl) | exact Yl.load rfl rfl (by kernel_rfl) (Hp.rowAt mem5 (by omega) rfl)
                      refine TL.re (i := 83) (v' := .int .i64 ((q : Int))) rfl (congrArg (Value.int .i64) (hq)) ?_
                      refine' TL.y rfl rfl rfl ?hy102 ?_
                      case hy102 => first | exact Yl.ixn rfl rfl rfl Try.underlying25 (by kernel_rfl) (by omega) | exact Yl.ixz rfl rfl rfl Try.underlying25 (by kernel_rfl) (by omega) (by omega) | exact Yl.ixcn rfl rfl rfl Try.underlying25 (by kernel_rfl) (by omega) | exact Yl.ixcz rfl rfl rfl Try.underlying25 (by kernel_rfl) (by omega) (by omega)
                      refine' TL.y rfl rfl rfl ?hy103 ?_
                      case hy103 => first | exact Yl.load rfl rfl (by kernel_rfl) (Hp.vw mem1 (by omega)) | exact Yl.load rfl rfl (by kernel_rfl) (Hp.vw mem2 (by omega)) | exact Yl.load rfl rfl (by kernel_rfl) (Sl.nws hS (by omega)) | exact Yl.load rfl rfl (by kernel_rfl) (Sl.nws hS' (by omega)) | exact Yl.load rfl rfl (by kernel_rfl) (Hp.cells (cs := _) mem0 (fun j v hj => by simpa using hj)) | exact Yl.load rfl rfl (by kernel_rfl) (Hp.cell mem0 rfl) | exact Yl.load rfl rfl (by kernel_rfl) (Hp.cell mem1 rfl) | exact Yl.load rfl rfl (by kernel_rfl) (Hp.cell mem2 rfl) | exact Yl.load rfl rfl (by kernel_rfl) (Hp.cell mem3 rfl) | exact Yl.load rfl rfl (by kernel_rfl) (Hp.cell mem4 rfl) | exact Yl.load rfl rfl (by kernel_rfl) (Hp.cell mem5 rfl) | exact Yl.load rfl rfl (by kernel_rfl) (Hp.rowAt mem0 (by omega) rfl) | exact Yl.load rfl rfl (by kernel_rfl) (Hp.rowAt mem1 (by omega) rfl) | exact Yl.load rfl rfl (by kernel_rfl) (Hp.rowAt mem2 (by omega) rfl) | exact Yl.load rfl rfl (by kernel_rfl) (Hp.rowAt mem3 (by omega) rfl) | exact Yl.load rfl rfl (by kernel_rfl) (Hp.rowAt mem4 (by omega) rfl) | exact Yl.load rfl rfl (by kernel_rfl) (Hp.rowAt mem5 (by omega) rfl)
                      refine TL.re (i := 85) (v' := .int .i64 (effV m f t q)) rfl (congrArg (Value.int .i64) (by unfold upI; rw [if_neg (by omega)]; exact if_pos hqi)) ?_
                      refine' TL.y rfl rfl rfl ?hy104 ?_
                      case hy104 => exact Yl.bin rfl rfl rfl (Bin.gtr _ _ _ _)
                      refine' TL.y rfl rfl rfl ?hy105 ?_
                      case hy105 => exact Yl.pickT rfl rfl rfl
                      refine TL.nil ?_
                      refine TE.next ?_
                      refine TC.cond rfl (fun hs87 => ?_) (fun hs87 => ?_)
                      · skip
                        (try simp only [decide_eq_true_eq, decide_eq_false_iff_not, beq_iff_eq, beq_eq_false_iff_ne, bne_iff_ne, ne_eq, bne_eq_false_iff_eq, Bool.not_eq_true', Bool.not_eq_false', Int.not_lt, Int.not_le, gt_iff_lt, ge_iff_le] at hs87)
                        have hov : effV m f t i = ownV f i * effV m f t q / sumC f (q : Int) m := by rw [effV_part hcs (by omega) (by omega), hq, Int.toNat_natCast, if_pos (by omega)]
                        refine TC.draw (k := 15) _ [14] #[false, false, false, false, false, false, false, false, false, false, false, false, false, false, false] (by kernel_rfl) rfl rfl (fun _ h => h.drew) (fun _ h => h) ?_
                        refine' TA.p (i := 0) #[true, false, false, false, false, false, false, false, false, false, false, false, false, false, false] rfl rfl rfl (by kernel_rfl) (fun _ _ _ h => h) rfl ?hy106 ?_
                        case hy106 => exact Yl.move rfl rfl
                        refine' TA.p (i := 1) #[true, true, false, false, false, false, false, false, false, false, false, false, false, false, false] rfl rfl rfl (by kernel_rfl) (fun _ _ _ h => h) rfl ?hy107 ?_
                        case hy107 => exact Yl.move rfl rfl
                        refine' TA.p (i := 2) #[true, true, true, false, false, false, false, false, false, false, false, false, false, false, false] rfl rfl rfl (by kernel_rfl) (fun _ _ _ h => h) rfl ?hy108 ?_
                        case hy108 => exact Yl.move rfl rfl
                        refine' TA.p (i := 3) #[true, true, true, true, false, false, false, false, false, false, false, false, false, false, false] rfl rfl rfl (by kernel_rfl) (fun _ _ _ h => h) rfl ?hy109 ?_
                        case hy109 => exact Yl.move rfl rfl
                        refine' TA.p (i := 4) #[true, true, true, true, true, false, false, false, false, false, false, false, false, false, false] rfl rfl rfl (by kernel_rfl) (fun _ _ _ h => h) rfl ?hy110 ?_
                        case hy110 => first | exact Yl.ixn rfl rfl rfl Try.underlying25 (by kernel_rfl) (by omega) | exact Yl.ixz rfl rfl rfl Try.underlying25 (by kernel_rfl) (by omega) (by omega) | exact Yl.ixcn rfl rfl rfl Try.underlying25 (by kernel_rfl) (by omega) | exact Yl.ixcz rfl rfl rfl Try.underlying25 (by kernel_rfl) (by omega) (by omega)
                        refine' TA.y (i := 5) #[true, true, true, true, true, true, false, false, false, false, false, false, false, false, false] rfl rfl rfl (by kernel_rfl) (fun _ _ _ h => h) (fun _ h => by exact Hp.sub h (by repeat (first | exact List.Sublist.refl _ | apply List.Sublist.cons))) rfl ?hy111 ?_
                        case hy111 => first | exact Yl.load rfl rfl (by kernel_rfl) (Hp.vw mem1 (by omega)) | exact Yl.load rfl rfl (by kernel_rfl) (Hp.vw mem2 (by omega)) | exact Yl.load rfl rfl (by kernel_rfl) (Sl.nws hS (by omega)) | exact Yl.load rfl rfl (by kernel_rfl) (Sl.nws hS' (by omega)) | exact Yl.load rfl rfl (by kernel_rfl) (Hp.cells (cs := _) mem0 (fun j v hj => by simpa using hj)) | exact Yl.load rfl rfl (by kernel_rfl) (Hp.cell mem0 rfl) | exact Yl.load rfl rfl (by kernel_rfl) (Hp.cell mem1 rfl) | exact Yl.load rfl rfl (by kernel_rfl) (Hp.cell mem2 rfl) | exact Yl.load rfl rfl (by kernel_rfl) (Hp.cell mem3 rfl) | exact Yl.load rfl rfl (by kernel_rfl) (Hp.cell mem4 rfl) | exact Yl.load rfl rfl (by kernel_rfl) (Hp.cell mem5 rfl) | exact Yl.load rfl rfl (by kernel_rfl) (Hp.rowAt mem0 (by omega) rfl) | exact Yl.load rfl rfl (by kernel_rfl) (Hp.rowAt mem1 (by omega) rfl) | exact Yl.load rfl rfl (by kernel_rfl) (Hp.rowAt mem2 (by omega) rfl) | exact Yl.load rfl rfl (by kernel_rfl) (Hp.rowAt mem3 (by omega) rfl) | exact Yl.load rfl rfl (by kernel_rfl) (Hp.rowAt mem4 (by omega) rfl) | exact Yl.load rfl rfl (by kernel_rfl) (Hp.rowAt mem5 (by omega) rfl)
                        refine TA.re (i := 93) (v' := .int .i64 (ownV f i)) rfl (congrArg (Value.int .i64) (by unfold upI; rw [if_pos rfl])) ?_
                        refine' TA.p (i := 6) #[true, true, true, true, true, true, true, false, false, false, false, false, false, false, false] rfl rfl rfl (by kernel_rfl) (fun _ _ _ h => h) rfl ?hy112 ?_
                        case hy112 => exact Yl.move rfl rfl
                        refine' TA.p (i := 7) #[true, true, true, true, true, true, true, true, false, false, false, false, false, false, false] rfl rfl rfl (by kernel_rfl) (fun _ _ _ h => h) rfl ?hy113 ?_
                        case hy113 => first | exact Yl.field0 (k := 0) 0 rfl rfl Try.underlying38 rfl (by kernel_rfl) rfl | exact Yl.field (k := 0) 0 rfl rfl Try.underlying38 rfl (by kernel_rfl) rfl
                        refine' TA.y (i := 8) #[true, true, true, true, true, true, true, true, true, false, false, false, false, false, false] rfl rfl rfl (by kernel_rfl) (fun _ _ _ h => h) (fun _ h => by exact Hp.sub h (by repeat (first | exact List.Sublist.refl _ | apply List.Sublist.cons))) rfl ?hy114 ?_
                        case hy114 => first | exact Yl.load rfl rfl (by kernel_rfl) (Hp.vw mem1 (by omega)) | exact Yl.load rfl rfl (by kernel_rfl) (Hp.vw mem2 (by omega)) | exact Yl.load rfl rfl (by kernel_rfl) (Sl.nws hS (by omega)) | exact Yl.load rfl rfl (by kernel_rfl) (Sl.nws hS' (by omega)) | exact Yl.load rfl rfl (by kernel_rfl) (Hp.cells (cs := _) mem0 (fun j v hj => by simpa using hj)) | exact Yl.load rfl rfl (by kernel_rfl) (Hp.cell mem0 rfl) | exact Yl.load rfl rfl (by kernel_rfl) (Hp.cell mem1 rfl) | exact Yl.load rfl rfl (by kernel_rfl) (Hp.cell mem2 rfl) | exact Yl.load rfl rfl (by kernel_rfl) (Hp.cell mem3 rfl) | exact Yl.load rfl rfl (by kernel_rfl) (Hp.cell mem4 rfl) | exact Yl.load rfl rfl (by kernel_rfl) (Hp.cell mem5 rfl) | exact Yl.load rfl rfl (by kernel_rfl) (Hp.rowAt mem0 (by omega) rfl) | exact Yl.load rfl rfl (by kernel_rfl) (Hp.rowAt mem1 (by omega) rfl) | exact Yl.load rfl rfl (by kernel_rfl) (Hp.rowAt mem2 (by omega) rfl) | exact Yl.load rfl rfl (by kernel_rfl) (Hp.rowAt mem3 (by omega) rfl) | exact Yl.load rfl rfl (by kernel_rfl) (Hp.rowAt mem4 (by omega) rfl) | exact Yl.load rfl rfl (by kernel_rfl) (Hp.rowAt mem5 (by omega) rfl)
                        refine TA.re (i := 96) (v' := .int .i64 ((q : Int))) rfl (congrArg (Value.int .i64) (hq)) ?_
                        refine' TA.p (i := 9) #[true, true, true, true, true, true, true, true, true, true, false, false, false, false, false] rfl rfl rfl (by kernel_rfl) (fun _ _ _ h => h) rfl ?hy115 ?_
                        case hy115 => first | exact Yl.ixn rfl rfl rfl Try.underlying25 (by kernel_rfl) (by omega) | exact Yl.ixz rfl rfl rfl Try.underlying25 (by kernel_rfl) (by omega) (by omega) | exact Yl.ixcn rfl rfl rfl Try.underlying25 (by kernel_rfl) (by omega) | exact Yl.ixcz rfl rfl rfl Try.underlying25 (by kernel_rfl) (by omega) (by omega)
                        refine' TA.y (i := 10) #[true, true, true, true, true, true, true, true, true, true, true, false, false, false, false] rfl rfl rfl (by kernel_rfl) (fun _ _ _ h => h) (fun _ h => by exact Hp.sub h (by repeat (first | exact List.Sublist.refl _ | apply List.Sublist.cons))) rfl ?hy116 ?_
                        case hy116 => first | exact Yl.load rfl rfl (by kernel_rfl) (Hp.vw mem1 (by omega)) | exact Yl.load rfl rfl (by kernel_rfl) (Hp.vw mem2 (by omega)) | exact Yl.load rfl rfl (by kernel_rfl) (Sl.nws hS (by omega)) | exact Yl.load rfl rfl (by kernel_rfl) (Sl.nws hS' (by omega)) | exact Yl.load rfl rfl (by kernel_rfl) (Hp.cells (cs := _) mem0 (fun j v hj => by simpa using hj)) | exact Yl.load rfl rfl (by kernel_rfl) (Hp.cell mem0 rfl) | exact Yl.load rfl rfl (by kernel_rfl) (Hp.cell mem1 rfl) | exact Yl.load rfl rfl (by kernel_rfl) (Hp.cell mem2 rfl) | exact Yl.load rfl rfl (by kernel_rfl) (Hp.cell mem3 rfl) | exact Yl.load rfl rfl (by kernel_rfl) (Hp.cell mem4 rfl) | exact Yl.load rfl rfl (by kernel_rfl) (Hp.cell mem5 rfl) | exact Yl.load rfl rfl (by kernel_rfl) (Hp.rowAt mem0 (by omega) rfl) | exact Yl.load rfl rfl (by kernel_rfl) (Hp.rowAt mem1 (by omega) rfl) | exact Yl.load rfl rfl (by kernel_rfl) (Hp.rowAt mem2 (by omega) rfl) | exact Yl.load rfl rfl (by kernel_rfl) (Hp.rowAt mem3 (by omega) rfl) | exact Yl.load rfl rfl (by kernel_rfl) (Hp.rowAt mem4 (by omega) rfl) | exact Yl.load rfl rfl (by kernel_rfl) (Hp.rowAt mem5 (by omega) rfl)
                        refine TA.re (i := 98) (v' := .int .i64 (effV m f t q)) rfl (congrArg (Value.int .i64) (by unfold upI; rw [if_neg (by omega)]; exact if_pos hqi)) ?_
                        refine' TA.p (i := 11) #[true, true, true, true, true, true, true, true, true, true, true, true, false, false, false] rfl rfl rfl (by kernel_rfl) (fun _ _ _ h => h) rfl ?hy117 ?_
                        case hy117 => exact Yl.move rfl rfl
                        refine' TA.c (i := 12) #[true, true, true, true, true, true, true, true, true, true, true, true, true, false, false] rfl rfl rfl (by kernel_rfl) (by decide) rfl ?hy118 ?hz118 ?_
                        case hy118 => exact Yc.call rfl Try.func24 (by kernel_rfl) rfl rfl (Hp.calls (fun w h => k_part w hob.1 (by omega) hqb.1 (by omega) (by omega) (by omega) hsp))
                        case hz118 => exact (fun _ _ h => by exact Hp.sub h (by repeat (first | exact List.Sublist.refl _ | apply List.Sublist.cons)))
                        intro _
                        refine' TA.p (i := 13) #[true, true, true, true, true, true, true, true, true, true, true, true, true, true, false] rfl rfl rfl (by kernel_rfl) (fun _ _ _ h => h) rfl ?hy119 ?_
                        case hy119 => first | exact Yl.ixn rfl rfl rfl Try.underlying25 (by kernel_rfl) (by omega) | exact Yl.ixz rfl rfl rfl Try.underlying25 (by kernel_rfl) (by omega) (by omega) | exact Yl.ixcn rfl rfl rfl Try.underlying25 (by kernel_rfl) (by omega) | exact Yl.ixcz rfl rfl rfl Try.underlying25 (by kernel_rfl) (by omega) (by omega)
                        refine' TA.sl (i := 14) #[true, true, true, true, true, true, true, true, true, true, true, true, true, true, true] rfl rfl (by kernel_rfl) (by decide) rfl ?hy120 ?_
                        case hy120 => first | exact Ys.vw rfl rfl rfl (by kernel_rfl) foc1 (by omega)
                        refine TA.done (by kernel_rfl) ?_
                        refine TE.inNormal ?_
                        refine TE.next ?_
                        refine TC.region ?_
                        refine' TL.y rfl rfl rfl ?hy121 ?_
                        case hy121 => first | (refine Yl.val (Yl.bin rfl rfl rfl (Bin.add _ _ _ _)) (congrArg (Value.int .i64) (i64in ?_ ?_)) <;> omega) | exact Yl.bin rfl rfl rfl (Bin.add _ _ _ _)
                        refine' TL.y rfl rfl rfl ?hy122 ?_
                        case hy122 => exact Yl.move rfl rfl
                        refine TL.nil ?_
                        refine TE.round (i + 1) ?hF123 ?hlt123 ?hs123 ?hm123
                        case hF123 => omega
                        case hlt123 => omega
                        case hs123 => exact ⟨rfl, rfl, rfl, rfl, rfl, rfl, rfl, trivial⟩
                        case hm123 => exact (fun w h => (h.sub (List.sublist_cons_self _ _)).vwc (fun j hj => by
                            unfold upI; dsimp only
                            by_cases e : j = i
                            · simp only [if_pos e]; exact hov.symm.trans (by rw [if_pos (by omega), e])
                            · rw [if_neg e]
                              try rw [if_neg e]
                              by_cases e2 : j < i
                              · rw [if_pos e2, if_pos (by omega)]
                              · rw [if_neg e2, if_neg (by omega)]))
                      · skip
                        (try simp only [decide_eq_true_eq, decide_eq_false_iff_not, beq_iff_eq, beq_eq_false_iff_ne, bne_iff_ne, ne_eq, bne_eq_false_iff_eq, Bool.not_eq_true', Bool.not_eq_false', Int.not_lt, Int.not_le, gt_iff_lt, ge_iff_le] at hs87)
                        have hov : effV m f t i = ownV f i := by rw [effV_part hcs (by omega) (by omega), hq, Int.toNat_natCast, if_neg (by omega)]
                        refine TC.skip ?_
                        refine TE.inNormal ?_
                        refine TE.next ?_
                        refine TC.region ?_
                        refine' TL.y rfl rfl rfl ?hy124 ?_
                        case hy124 => first | (refine Yl.val (Yl.bin rfl rfl rfl (Bin.add _ _ _ _)) (congrArg (Value.int .i64) (i64in ?_ ?_)) <;> omega) | exact Yl.bin rfl rfl rfl (Bin.add _ _ _ _)
                        refine' TL.y rfl rfl rfl ?hy125 ?_
                        case hy125 => exact Yl.move rfl rfl
                        refine TL.nil ?_
                        refine TE.round (i + 1) ?hF126 ?hlt126 ?hs126 ?hm126
                        case hF126 => omega
                        case hlt126 => omega
                        case hs126 => exact ⟨rfl, rfl, rfl, rfl, rfl, rfl, rfl, trivial⟩
                        case hm126 => exact (fun w h => (h.sub (List.sublist_cons_self _ _)).vwc (fun j hj => by
                            unfold upI; dsimp only
                            by_cases e : j = i
                            · simp only [if_pos e]; exact hov.symm.trans (by rw [if_pos (by omega), e])
                            · rw [if_neg e]
                              try rw [if_neg e]
                              by_cases e2 : j < i
                              · rw [if_pos e2, if_pos (by omega)]
                              · rw [if_neg e2, if_neg (by omega)]))
                    · skip
                      (try simp only [decide_eq_true_eq, decide_eq_false_iff_not, beq_iff_eq, beq_eq_false_iff_ne, bne_iff_ne, ne_eq, bne_eq_false_iff_eq, Bool.not_eq_true', Bool.not_eq_false', Int.not_lt, Int.not_le, gt_iff_lt, ge_iff_le] at hs79)
                      have hov : effV m f t i = ownV f i := effV_top hcs (by omega)
                      refine TL.skip rfl rfl rfl ?_
                      refine TL.skip rfl rfl rfl ?_
                      refine TL.skip rfl rfl rfl ?_
                      refine TL.skip rfl rfl rfl ?_
                      refine TL.skip rfl rfl rfl ?_
                      refine TL.skip rfl rfl rfl ?_
                      refine TL.skip rfl rfl rfl ?_
                      refine' TL.y rfl rfl rfl ?hy127 ?_
                      case hy127 => exact Yl.pickF rfl rfl rfl
                      refine TL.nil ?_
                      refine TE.next ?_
                      refine TC.no rfl rfl ?_
                      refine TC.skip ?_
                      refine TE.inNormal ?_
                      refine TE.next ?_
                      refine TC.region ?_
                      refine' TL.y rfl rfl rfl ?hy128 ?_
                      case hy128 => first | (refine Yl.val (Yl.bin rfl rfl rfl (Bin.add _ _ _ _)) (congrArg (Value.int .i64) (i64in ?_ ?_)) <;> omega) | exact Yl.bin rfl rfl rfl (Bin.add _ _ _ _)
                      refine' TL.y rfl rfl rfl ?hy129 ?_
                      case hy129 => exact Yl.move rfl rfl
                      refine TL.nil ?_
                      refine TE.round (i + 1) ?hF130 ?hlt130 ?hs130 ?hm130
                      case hF130 => omega
                      case hlt130 => omega
                      case hs130 => exact ⟨rfl, rfl, rfl, rfl, rfl, rfl, rfl, trivial⟩
                      case hm130 => exact (fun w h => (h.sub (List.sublist_cons_self _ _)).vwc (fun j hj => by
                          unfold upI; dsimp only
                          by_cases e : j = i
                          · simp only [if_pos e]; exact hov.symm.trans (by rw [if_pos (by omega), e])
                          · rw [if_neg e]
                            try rw [if_neg e]
                            by_cases e2 : j < i
                            · rw [if_pos e2, if_pos (by omega)]
                            · rw [if_neg e2, if_neg (by omega)]))
              · skip
                (try simp only [decide_eq_true_eq, decide_eq_false_iff_not, beq_iff_eq, beq_eq_false_iff_ne, bne_iff_ne, ne_eq, bne_eq_false_iff_eq, Bool.not_eq_true', Bool.not_eq_false', Int.not_lt, Int.not_le, gt_iff_lt, ge_iff_le] at hs51)
                refine TC.exit ?_
                refine TE.thenExit ?_
                refine TE.thenExit ?_
                refine TE.inHere ?_
                refine TE.next ?_
                refine TC.seq ?_
                refine TC.region ?_
                refine' TL.y rfl rfl rfl ?hy131 ?_
                case hy131 => exact Yl.move rfl rfl
                refine' TL.y rfl rfl rfl ?hy132 ?_
                case hy132 => exact Yl.assign rfl rfl
                refine TL.nil ?_
                refine TE.next ?_
                refine TC.ret ?_
                refine TE.ret1 rfl rfl ?_
                obtain rfl : i = m := by omega
                exact fun w h => ⟨_, rfl, by rw [show lenE i f t = i from if_pos hV]; exact ((h.sub (.cons_cons _ (List.nil_sublist _))).vwc (fun j hj => if_pos hj)).leaveNew⟩
end Go.Proofs.Ytipdpmmjmlimhaa.Pk
