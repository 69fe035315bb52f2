/- The walk through BitsSet. -/
import Derived.Test.YtjampfcibocnlaaDoorWorks
import Derived.Test.YtjampfcibocnlaaDoorOpen
import Derived.Test.YtjampfcibocnlaaDoorProg
import Derived.RowKit3
namespace Go.Proofs.YtjampfcibocnlaaDoor.Pk
open Go Go.RowKit Go.Proofs.YtjampfcibocnlaaDoor.HL Go.Proofs.YtjampfcibocnlaaDoor.BM
set_option linter.unusedVariables false
set_option linter.unusedSimpArgs false
attribute [local irreducible] rowA mapR rowR
/-- How many of the first are so. -/
def cntO (f : Nat → Bool) (on : Bool) (a : Nat) : Nat := cntB (fun p => f p == on) a
theorem cntO_step (f : Nat → Bool) (on : Bool) (a q : Nat) (h1 : a ≤ q) (h2 : f q = on) (h3 : ∀ p, a ≤ p → p < q → f p ≠ on) : cntO f on (q + 1) = cntO f on a + 1 := by
  obtain ⟨d, rfl⟩ := Nat.exists_eq_add_of_le h1
  unfold cntO
  rw [cntB_succ, cntB_add, cntB_false _ d (fun i hi => beq_eq_false_iff_ne.2 (h3 (a + i) (by omega) (by omega))), if_pos (beq_iff_eq.2 h2)]
theorem cntO_end (f : Nat → Bool) (on : Bool) (a n : Nat) (h1 : a ≤ n) (h3 : ∀ p, a ≤ p → p < n → f p ≠ on) : cntO f on n = cntO f on a := by
  obtain ⟨d, rfl⟩ := Nat.exists_eq_add_of_le h1
  unfold cntO
  rw [cntB_add, cntB_false _ d (fun i hi => beq_eq_false_iff_ne.2 (h3 (a + i) (by omega) (by omega)))]; rfl
theorem cntO_le (f : Nat → Bool) (on : Bool) (a : Nat) : cntO f on a ≤ a := cntB_le _ a
theorem cntO_true (f : Nat → Bool) (n : Nat) : cntO f true n = cntB f n := cntB_congr n (fun i _ => by cases f i <;> rfl)
theorem cntO_false (f : Nat → Bool) : ∀ n, (cntO f false n : Int) = n - cntB f n
  | 0 => rfl
  | n + 1 => by
    have ih := cntO_false f n
    unfold cntO at *
    rw [cntB_succ, cntB_succ f]
    cases f n <;> simp at ih ⊢ <;> omega
theorem sL1 (f : Nat → Bool) (n : Nat) (i : Int) (on : Bool) : setOK (setF f n i on) n i on = false := by
  unfold setF setOK setB
  by_cases h : 0 ≤ i ∧ i < n <;> cases on <;> cases e : f i.toNat <;> simp [h, e]
theorem sL2 (f : Nat → Bool) (n : Nat) (i : Int) (on : Bool) : setOK f n i on = (decide (0 ≤ i ∧ i < n) && (getB f n i != on)) := by
  unfold setOK getB
  by_cases h : 0 ≤ i ∧ i < n
  · rw [decide_eq_true h]; simp
  · rw [decide_eq_false h]; rfl
theorem sL3 (f : Nat → Bool) (n : Nat) (i : Int) (on : Bool) : getB (setF f n i on) n i = (decide (0 ≤ i ∧ i < n) && on) := by
  unfold setF setOK getB setB
  by_cases h : 0 ≤ i ∧ i < n
  · rw [decide_eq_true h]; cases on <;> cases e : f i.toNat <;> simp [e]
  · rw [decide_eq_false h]; rfl
theorem sL4 (f : Nat → Bool) (n : Nat) (i other : Int) (on : Bool) (h : i ≠ other) : getB (setF f n i on) n other = getB f n other := by
  unfold setF getB
  split
  · rename_i h1
    unfold setOK at h1
    simp only [Bool.and_eq_true, decide_eq_true_eq] at h1
    by_cases h2 : 0 ≤ other ∧ other < n
    · rw [decide_eq_true h2]
      unfold setB
      rw [if_neg (by omega)]
    · rw [decide_eq_false h2]; rfl
  · rfl
theorem sL5 (f : Nat → Bool) (n : Nat) (i : Int) (on : Bool) : (cntB (setF f n i on) n : Int) = cntB f n + (if setOK f n i on then (if on then 1 else -1) else 0) := by
  unfold setF
  by_cases h1 : setOK f n i on = true
  · rw [if_pos h1, if_pos h1]
    unfold setOK at h1
    simp only [Bool.and_eq_true, decide_eq_true_eq, bne_iff_ne] at h1
    rw [cntB_set f i.toNat on n (by omega)]
    have := h1.2
    revert this
    generalize f i.toNat = b
    cases on <;> cases b <;> simp <;> omega
  · rw [if_neg h1, if_neg h1]; omega
set_option maxRecDepth 100000 in
set_option maxHeartbeats 2000000 in
theorem law_Set (W : World) (hT : TabOK W) (n0 : Int) (l : List Open.E31) (A : Option Addr) (cp : Nat) (hS : Sl W A (l.flatMap Open.E31.cells)) (hw : ∀ x ∈ l, Open.wf31 x) (xl : l.length ≤ 9223372036854775807) (i0 : Int) (on : Bool) (other : Int) : Calls Tryd.prog 8 #[.int .i64 n0, .slice A l.length cp, .int .i64 i0, .bool on, .int .i64 other] W fun e w' => e = .returned (.bool true) ∧ Below W.heap.size W w' := by
  have hM : Hp W (fun _ => False) [] W := Hp.start
  refine TC.enter (n := 133) Tryd.func8 rfl rfl rfl hM ?_
  refine TC.seq ?_
  refine TC.region ?_
  refine' TL.y rfl rfl rfl ?hy1 ?_
  case hy1 => exact Yl.assign rfl rfl
  refine TL.nil ?_
  refine TE.next ?_
  refine TC.seq ?_
  refine TC.region ?_
  refine' TL.c rfl rfl rfl ?hy2 ?_
  case hy2 => exact Yc.call rfl Tryd.func11 (by kernel_rfl) rfl rfl (Hp.calls (fun w h => k_works w (hT.below h.below)))
  intro _
  refine' TL.y rfl rfl rfl ?hy3 ?_
  case hy3 => exact Yl.assign rfl rfl
  refine TL.nil ?_
  refine TE.next ?_
  refine TC.seq ?_
  refine TC.seq ?_
  refine TC.region ?_
  refine' TL.y rfl rfl rfl ?hy4 ?_
  case hy4 => exact Yl.move rfl rfl
  refine' TL.y rfl rfl rfl ?hy5 ?_
  case hy5 => exact Yl.not rfl rfl
  refine TL.nil ?_
  refine TE.next ?_
  refine TC.no rfl rfl ?_
  refine TC.skip ?_
  refine TE.next ?_
  refine TC.seq ?_
  refine TC.seq ?_
  refine TC.region ?_
  refine' TL.y rfl rfl rfl ?hy6 ?_
  case hy6 => exact Yl.move rfl rfl
  refine' TL.y rfl rfl rfl ?hy7 ?_
  case hy7 => exact Yl.bin rfl rfl rfl (Bin.lss _ _ _ _)
  refine' TL.y rfl rfl rfl ?hy8 ?_
  case hy8 => exact Yl.move rfl rfl
  refine TL.split (i := 26) rfl (fun hs26 => ?_) (fun hs26 => ?_)
  · skip
    (try simp only [decide_eq_true_eq, decide_eq_false_iff_not, beq_iff_eq, beq_eq_false_iff_ne, bne_iff_ne, ne_eq, bne_eq_false_iff_eq, Bool.not_eq_true', Bool.not_eq_false', Int.not_lt, Int.not_le, gt_iff_lt, ge_iff_le] at hs26)
    refine TL.skip rfl rfl rfl ?_
    refine TL.skip rfl rfl rfl ?_
    refine' TL.y rfl rfl rfl ?hy9 ?_
    case hy9 => exact Yl.pickT rfl rfl rfl
    refine' TL.y rfl rfl rfl ?hy10 ?_
    case hy10 => exact Yl.move rfl rfl
    refine TL.skip rfl rfl rfl ?_
    refine TL.skip rfl rfl rfl ?_
    refine TL.skip rfl rfl rfl ?_
    refine' TL.y rfl rfl rfl ?hy11 ?_
    case hy11 => exact Yl.pickT rfl rfl rfl
    refine TL.nil ?_
    refine TE.next ?_
    refine TC.yes rfl rfl ?_
    refine TC.seq ?_
    refine TC.region ?_
    refine' TL.y rfl rfl rfl ?hy12 ?_
    case hy12 => exact Yl.move rfl rfl
    refine' TL.y rfl rfl rfl ?hy13 ?_
    case hy13 => exact Yl.assign rfl rfl
    refine TL.nil ?_
    refine TE.next ?_
    refine TC.ret ?_
    refine TE.thenRet ?_
    refine TE.ret1 rfl rfl ?_
    exact fun w h => ⟨congrArg (fun b => Ending.returned (Value.bool b)) (by first | rfl | (simp_all <;> omega) : _ = true), h.below⟩
  · skip
    (try simp only [decide_eq_true_eq, decide_eq_false_iff_not, beq_iff_eq, beq_eq_false_iff_ne, bne_iff_ne, ne_eq, bne_eq_false_iff_eq, Bool.not_eq_true', Bool.not_eq_false', Int.not_lt, Int.not_le, gt_iff_lt, ge_iff_le] at hs26)
    refine' TL.y rfl rfl rfl ?hy14 ?_
    case hy14 => exact Yl.move rfl rfl
    refine' TL.y rfl rfl rfl ?hy15 ?_
    case hy15 => exact Yl.bin rfl rfl rfl (Bin.gtr _ _ _ _)
    refine' TL.y rfl rfl rfl ?hy16 ?_
    case hy16 => exact Yl.pickF rfl rfl rfl
    refine' TL.y rfl rfl rfl ?hy17 ?_
    case hy17 => exact Yl.move rfl rfl
    refine TL.split (i := 30) rfl (fun hs30 => ?_) (fun hs30 => ?_)
    · skip
      (try simp only [decide_eq_true_eq, decide_eq_false_iff_not, beq_iff_eq, beq_eq_false_iff_ne, bne_iff_ne, ne_eq, bne_eq_false_iff_eq, Bool.not_eq_true', Bool.not_eq_false', Int.not_lt, Int.not_le, gt_iff_lt, ge_iff_le] at hs30)
      refine TL.skip rfl rfl rfl ?_
      refine TL.skip rfl rfl rfl ?_
      refine TL.skip rfl rfl rfl ?_
      refine' TL.y rfl rfl rfl ?hy18 ?_
      case hy18 => exact Yl.pickT rfl rfl rfl
      refine TL.nil ?_
      refine TE.next ?_
      refine TC.yes rfl rfl ?_
      refine TC.seq ?_
      refine TC.region ?_
      refine' TL.y rfl rfl rfl ?hy19 ?_
      case hy19 => exact Yl.move rfl rfl
      refine' TL.y rfl rfl rfl ?hy20 ?_
      case hy20 => exact Yl.assign rfl rfl
      refine TL.nil ?_
      refine TE.next ?_
      refine TC.ret ?_
      refine TE.thenRet ?_
      refine TE.ret1 rfl rfl ?_
      exact fun w h => ⟨congrArg (fun b => Ending.returned (Value.bool b)) (by first | rfl | (simp_all <;> omega) : _ = true), h.below⟩
    · skip
      (try simp only [decide_eq_true_eq, decide_eq_false_iff_not, beq_iff_eq, beq_eq_false_iff_ne, bne_iff_ne, ne_eq, bne_eq_false_iff_eq, Bool.not_eq_true', Bool.not_eq_false', Int.not_lt, Int.not_le, gt_iff_lt, ge_iff_le] at hs30)
      refine' TL.y rfl rfl rfl ?hy21 ?_
      case hy21 => exact Yl.move rfl rfl
      refine' TL.y rfl rfl rfl ?hy22 ?_
      case hy22 => exact Yl.len rfl rfl Tryd.underlying22
      refine' TL.y rfl rfl rfl ?hy23 ?_
      case hy23 => exact Yl.bin rfl rfl rfl (Bin.gtr _ _ _ _)
      refine' TL.y rfl rfl rfl ?hy24 ?_
      case hy24 => exact Yl.pickF rfl rfl rfl
      refine TL.nil ?_
      refine TE.next ?_
      refine TC.cond rfl (fun hs34 => ?_) (fun hs34 => ?_)
      · skip
        (try simp only [decide_eq_true_eq, decide_eq_false_iff_not, beq_iff_eq, beq_eq_false_iff_ne, bne_iff_ne, ne_eq, bne_eq_false_iff_eq, Bool.not_eq_true', Bool.not_eq_false', Int.not_lt, Int.not_le, gt_iff_lt, ge_iff_le] at hs34)
        refine TC.seq ?_
        refine TC.region ?_
        refine' TL.y rfl rfl rfl ?hy25 ?_
        case hy25 => exact Yl.move rfl rfl
        refine' TL.y rfl rfl rfl ?hy26 ?_
        case hy26 => exact Yl.assign rfl rfl
        refine TL.nil ?_
        refine TE.next ?_
        refine TC.ret ?_
        refine TE.thenRet ?_
        refine TE.ret1 rfl rfl ?_
        exact fun w h => ⟨congrArg (fun b => Ending.returned (Value.bool b)) (by first | rfl | (simp_all <;> omega) : _ = true), h.below⟩
      · skip
        (try simp only [decide_eq_true_eq, decide_eq_false_iff_not, beq_iff_eq, beq_eq_false_iff_ne, bne_iff_ne, ne_eq, bne_eq_false_iff_eq, Bool.not_eq_true', Bool.not_eq_false', Int.not_lt, Int.not_le, gt_iff_lt, ge_iff_le] at hs34)
        obtain ⟨n, rfl⟩ := Int.eq_ofNat_of_zero_le (show 0 ≤ n0 by omega)
        refine TC.skip ?_
        refine TE.next ?_
        refine TC.seq ?_
        refine TC.region ?_
        refine' TL.y rfl rfl rfl ?hy27 ?_
        case hy27 => exact Yl.move rfl rfl
        refine' TL.c rfl rfl rfl ?hy28 ?_
        case hy28 => exact Yc.call rfl Tryd.func12 (by kernel_rfl) rfl rfl (Hp.makes (k_new (n : Int)))
        intro ⟨bm, gm⟩
        rw [show newN (n : Int) = n from by unfold newN; omega]
        refine' TL.y rfl rfl rfl ?hy29 ?_
        case hy29 => exact Yl.assign rfl rfl
        refine TL.nil ?_
        refine TE.next ?_
        refine TC.seq ?_
        refine TC.seq ?_
        refine TC.region ?_
        refine' TL.y rfl rfl rfl ?hy30 ?_
        case hy30 => exact Yl.assign rfl rfl
        refine TL.nil ?_
        refine TE.next ?_
        refine TC.block ?_
        refine TC.loop (σ := Nat × (Nat → Bool)) (fun s => [(0, .int .i64 (n : Int)), (1, .slice A l.length cp), (2, .int .i64 i0), (3, .bool on), (4, .int .i64 other), (11, .bool true), (12, .pointer (some ⟨bm, 0, none⟩)), (13, .int .i64 (s.1 : Int))]) (fun s => Hp W (fun _ => False) [mapR bm gm n s.2]) (fun s => s.1 ≤ l.length) (fun s => l.length - s.1) (0, fun _ => false) ?hF31 ?hs31 ?hm31 ?round31
        case hF31 => exact Nat.zero_le _
        case hs31 => exact ⟨rfl, rfl, rfl, rfl, rfl, rfl, rfl, rfl, trivial⟩
        case hm31 => exact fun _ h => h
        case round31 =>
          rintro ⟨i, f⟩ h1
          dsimp only at h1 ⊢
          refine TC.seq ?_
          refine TC.seq ?_
          refine TC.region ?_
          refine' TL.y rfl rfl rfl ?hy32 ?_
          case hy32 => exact Yl.move rfl rfl
          refine' TL.y rfl rfl rfl ?hy33 ?_
          case hy33 => exact Yl.move rfl rfl
          refine' TL.y rfl rfl rfl ?hy34 ?_
          case hy34 => exact Yl.len rfl rfl Tryd.underlying22
          refine' TL.y rfl rfl rfl ?hy35 ?_
          case hy35 => exact Yl.bin rfl rfl rfl (Bin.lss _ _ _ _)
          refine TL.nil ?_
          refine TE.next ?_
          refine TC.cond rfl (fun hs41 => ?_) (fun hs41 => ?_)
          · skip
            (try simp only [decide_eq_true_eq, decide_eq_false_iff_not, beq_iff_eq, beq_eq_false_iff_ne, bne_iff_ne, ne_eq, bne_eq_false_iff_eq, Bool.not_eq_true', Bool.not_eq_false', Int.not_lt, Int.not_le, gt_iff_lt, ge_iff_le] at hs41)
            have hlt : i < l.length := by omega
            obtain ⟨bb, oo, rfl⟩ := Sl.some2 hS (by have := Open.at31_0 l i hlt; rw [List.getElem?_eq_some_iff] at this; obtain ⟨h1, _⟩ := this; omega)
            have hwi := hw _ (List.getElem_mem hlt)
            refine TC.skip ?_
            refine TE.next ?_
            refine TC.seq ?_
            refine TC.block ?_
            refine TC.draw (k := 12) (Hp W (fun _ => False) []) [] #[false, false, false, false, false, false, false, false, false, false, false, false] (by kernel_rfl) rfl rfl (fun _ h => h.drew) (fun _ h => h.sub (List.nil_sublist _)) ?_
            refine' TA.y (i := 0) #[true, false, false, false, false, false, false, false, false, false, false, false] rfl rfl rfl (by kernel_rfl) (fun _ _ _ h => h) (fun _ h => by exact Hp.sub h (by repeat (first | exact List.Sublist.refl _ | apply List.Sublist.cons))) rfl ?hy36 ?_
            case hy36 => exact Yl.move rfl rfl
            refine' TA.y (i := 1) #[true, true, false, false, false, false, false, false, false, false, false, false] rfl rfl rfl (by kernel_rfl) (fun _ _ _ h => h) (fun _ h => by exact Hp.sub h (by repeat (first | exact List.Sublist.refl _ | apply List.Sublist.cons))) rfl ?hy37 ?_
            case hy37 => exact Yl.move rfl rfl
            refine' TA.y (i := 2) #[true, true, true, false, false, false, false, false, false, false, false, false] rfl rfl rfl (by kernel_rfl) (fun _ _ _ h => h) (fun _ h => by exact Hp.sub h (by repeat (first | exact List.Sublist.refl _ | apply List.Sublist.cons))) rfl ?hy38 ?_
            case hy38 => exact Yl.move rfl rfl
            refine' TA.y (i := 3) #[true, true, true, true, false, false, false, false, false, false, false, false] rfl rfl rfl (by kernel_rfl) (fun _ _ _ h => h) (fun _ h => by exact Hp.sub h (by repeat (first | exact List.Sublist.refl _ | apply List.Sublist.cons))) rfl ?hy39 ?_
            case hy39 => first | exact Yl.ixkn (k := 2) rfl rfl rfl Tryd.underlying22 (by kernel_rfl) (by omega) | exact Yl.ixkz (k := 2) rfl rfl rfl Tryd.underlying22 (by kernel_rfl) (by omega) (by omega)
            refine' TA.y (i := 4) #[true, true, true, true, true, false, false, false, false, false, false, false] rfl rfl rfl (by kernel_rfl) (fun _ _ _ h => h) (fun _ h => by exact Hp.sub h (by repeat (first | exact List.Sublist.refl _ | apply List.Sublist.cons))) rfl ?hy40 ?_
            case hy40 => first | exact Yl.field0 (k := 0) 0 rfl rfl Tryd.underlying31 rfl (by kernel_rfl) rfl | exact Yl.field (k := 0) 0 rfl rfl Tryd.underlying31 rfl (by kernel_rfl) rfl
            refine' TA.y (i := 5) #[true, true, true, true, true, true, false, false, false, false, false, false] rfl rfl rfl (by kernel_rfl) (fun _ _ _ h => h) (fun _ h => by exact Hp.sub h (by repeat (first | exact List.Sublist.refl _ | apply List.Sublist.cons))) rfl ?hy41 ?_
            case hy41 => exact Yl.load rfl rfl (by kernel_rfl) (Sl.cellAt hS (Open.at31_0 l i hlt) (fun _ => id) (by omega))
            refine' TA.y (i := 6) #[true, true, true, true, true, true, true, false, false, false, false, false] rfl rfl rfl (by kernel_rfl) (fun _ _ _ h => h) (fun _ h => by exact Hp.sub h (by repeat (first | exact List.Sublist.refl _ | apply List.Sublist.cons))) rfl ?hy42 ?_
            case hy42 => exact Yl.move rfl rfl
            refine' TA.y (i := 7) #[true, true, true, true, true, true, true, true, false, false, false, false] rfl rfl rfl (by kernel_rfl) (fun _ _ _ h => h) (fun _ h => by exact Hp.sub h (by repeat (first | exact List.Sublist.refl _ | apply List.Sublist.cons))) rfl ?hy43 ?_
            case hy43 => exact Yl.move rfl rfl
            refine' TA.y (i := 8) #[true, true, true, true, true, true, true, true, true, false, false, false] rfl rfl rfl (by kernel_rfl) (fun _ _ _ h => h) (fun _ h => by exact Hp.sub h (by repeat (first | exact List.Sublist.refl _ | apply List.Sublist.cons))) rfl ?hy44 ?_
            case hy44 => first | exact Yl.ixkn (k := 2) rfl rfl rfl Tryd.underlying22 (by kernel_rfl) (by omega) | exact Yl.ixkz (k := 2) rfl rfl rfl Tryd.underlying22 (by kernel_rfl) (by omega) (by omega)
            refine' TA.y (i := 9) #[true, true, true, true, true, true, true, true, true, true, false, false] rfl rfl rfl (by kernel_rfl) (fun _ _ _ h => h) (fun _ h => by exact Hp.sub h (by repeat (first | exact List.Sublist.refl _ | apply List.Sublist.cons))) rfl ?hy45 ?_
            case hy45 => first | exact Yl.field0 (k := 0) 1 rfl rfl Tryd.underlying31 rfl (by kernel_rfl) rfl | exact Yl.field (k := 0) 1 rfl rfl Tryd.underlying31 rfl (by kernel_rfl) rfl
            refine' TA.y (i := 10) #[true, true, true, true, true, true, true, true, true, true, true, false] rfl rfl rfl (by kernel_rfl) (fun _ _ _ h => h) (fun _ h => by exact Hp.sub h (by repeat (first | exact List.Sublist.refl _ | apply List.Sublist.cons))) rfl ?hy46 ?_
            case hy46 => exact Yl.load rfl rfl (by kernel_rfl) (Sl.cellAt hS (Open.at31_1 l i hlt) (fun _ => id) (by omega))
            refine' TA.c (i := 11) #[true, true, true, true, true, true, true, true, true, true, true, true] rfl rfl rfl (by kernel_rfl) (by decide) rfl ?hy47 ?hz47 ?_
            case hy47 => exact Yc.call rfl Tryd.func15 (by kernel_rfl) rfl rfl (Hp.turn1 mem0 foc0 (k_set (l[i]'hlt).f0 (l[i]'hlt).f1))
            case hz47 => exact (fun _ _ h => by exact Hp.sub h (by repeat (first | exact List.Sublist.refl _ | apply List.Sublist.cons)))
            intro _
            refine TA.done (by kernel_rfl) ?_
            refine TE.inNormal ?_
            refine TE.next ?_
            refine TC.region ?_
            refine' TL.y rfl rfl rfl ?hy48 ?_
            case hy48 => exact Yl.move rfl rfl
            refine' TL.y rfl rfl rfl ?hy49 ?_
            case hy49 => first | (refine Yl.val (Yl.bin rfl rfl rfl (Bin.add _ _ _ _)) (congrArg (Value.int .i64) (i64in ?_ ?_)) <;> omega) | exact Yl.bin rfl rfl rfl (Bin.add _ _ _ _)
            refine' TL.y rfl rfl rfl ?hy50 ?_
            case hy50 => exact Yl.assign rfl rfl
            refine TL.nil ?_
            refine TE.round (i + 1, setF f n (l[i]'hlt).f0 (l[i]'hlt).f1) ?hF51 ?hlt51 ?hs51 ?hm51
            case hF51 => dsimp only; omega
            case hlt51 => dsimp only; omega
            case hs51 => exact ⟨rfl, rfl, rfl, rfl, rfl, rfl, rfl, rfl, trivial⟩
            case hm51 => exact fun _ h => h
          · skip
            (try simp only [decide_eq_true_eq, decide_eq_false_iff_not, beq_iff_eq, beq_eq_false_iff_ne, bne_iff_ne, ne_eq, bne_eq_false_iff_eq, Bool.not_eq_true', Bool.not_eq_false', Int.not_lt, Int.not_le, gt_iff_lt, ge_iff_le] at hs41)
            refine TC.exit ?_
            refine TE.thenExit ?_
            refine TE.thenExit ?_
            refine TE.inHere ?_
            refine TE.next ?_
            refine TC.seq ?_
            refine TC.region ?_
            refine' TL.y rfl rfl rfl ?hy52 ?_
            case hy52 => exact Yl.move rfl rfl
            refine' TL.y rfl rfl rfl ?hy53 ?_
            case hy53 => exact Yl.move rfl rfl
            refine' TL.c rfl rfl rfl ?hy54 ?_
            case hy54 => exact Yc.call rfl Tryd.func17 (by kernel_rfl) rfl rfl (Hp.calls (fun w h => k_get w (h.all _ mem0) other))
            intro _
            refine' TL.y rfl rfl rfl ?hy55 ?_
            case hy55 => exact Yl.assign rfl rfl
            refine TL.nil ?_
            refine TE.next ?_
            refine TC.seq ?_
            refine TC.region ?_
            refine' TL.y rfl rfl rfl ?hy56 ?_
            case hy56 => exact Yl.move rfl rfl
            refine' TL.y rfl rfl rfl ?hy57 ?_
            case hy57 => exact Yl.move rfl rfl
            refine' TL.c rfl rfl rfl ?hy58 ?_
            case hy58 => exact Yc.call rfl Tryd.func17 (by kernel_rfl) rfl rfl (Hp.calls (fun w h => k_get w (h.all _ mem0) i0))
            intro _
            refine' TL.y rfl rfl rfl ?hy59 ?_
            case hy59 => exact Yl.assign rfl rfl
            refine TL.nil ?_
            refine TE.next ?_
            refine TC.seq ?_
            refine TC.region ?_
            refine' TL.y rfl rfl rfl ?hy60 ?_
            case hy60 => exact Yl.move rfl rfl
            refine' TL.c rfl rfl rfl ?hy61 ?_
            case hy61 => exact Yc.call rfl Tryd.func19 (by kernel_rfl) rfl rfl (Hp.calls (fun w h => k_count w (h.all _ mem0)))
            intro _
            refine' TL.y rfl rfl rfl ?hy62 ?_
            case hy62 => exact Yl.assign rfl rfl
            refine TL.nil ?_
            refine TE.next ?_
            refine TC.seq ?_
            refine TC.region ?_
            refine' TL.y rfl rfl rfl ?hy63 ?_
            case hy63 => exact Yl.move rfl rfl
            refine' TL.y rfl rfl rfl ?hy64 ?_
            case hy64 => exact Yl.move rfl rfl
            refine' TL.y rfl rfl rfl ?hy65 ?_
            case hy65 => exact Yl.move rfl rfl
            refine' TL.c rfl rfl rfl ?hy66 ?_
            case hy66 => exact Yc.call rfl Tryd.func15 (by kernel_rfl) rfl rfl (Hp.turn1 mem0 foc0 (k_set i0 on))
            intro _
            refine' TL.y rfl rfl rfl ?hy67 ?_
            case hy67 => exact Yl.assign rfl rfl
            refine TL.nil ?_
            refine TE.next ?_
            refine TC.seq ?_
            refine TC.region ?_
            refine' TL.y rfl rfl rfl ?hy68 ?_
            case hy68 => exact Yl.move rfl rfl
            refine' TL.y rfl rfl rfl ?hy69 ?_
            case hy69 => exact Yl.move rfl rfl
            refine' TL.y rfl rfl rfl ?hy70 ?_
            case hy70 => exact Yl.move rfl rfl
            refine' TL.c rfl rfl rfl ?hy71 ?_
            case hy71 => exact Yc.call rfl Tryd.func15 (by kernel_rfl) rfl rfl (Hp.turn1 mem0 foc0 (k_set i0 on))
            intro _
            rw [show setF (setF f n i0 on) n i0 on = setF f n i0 on from by rw [setF, sL1]; rfl, sL1]
            have hL2 := sL2 f n i0 on
            have hL5 := sL5 f n i0 on
            have hcn := cntB_le f n
            refine' TL.y rfl rfl rfl ?hy72 ?_
            case hy72 => exact Yl.assign rfl rfl
            refine TL.nil ?_
            refine TE.next ?_
            refine TC.seq ?_
            refine TC.region ?_
            refine' TL.y rfl rfl rfl ?hy73 ?_
            case hy73 => exact Yl.move rfl rfl
            refine' TL.y rfl rfl rfl ?hy74 ?_
            case hy74 => exact Yl.bin rfl rfl rfl (Bin.geq _ _ _ _)
            refine' TL.y rfl rfl rfl ?hy75 ?_
            case hy75 => exact Yl.move rfl rfl
            refine TL.split (i := 74) rfl (fun hs74 => ?_) (fun hs74 => ?_)
            · skip
              (try simp only [decide_eq_true_eq, decide_eq_false_iff_not, beq_iff_eq, beq_eq_false_iff_ne, bne_iff_ne, ne_eq, bne_eq_false_iff_eq, Bool.not_eq_true', Bool.not_eq_false', Int.not_lt, Int.not_le, gt_iff_lt, ge_iff_le] at hs74)
              refine' TL.y rfl rfl rfl ?hy76 ?_
              case hy76 => exact Yl.move rfl rfl
              refine' TL.y rfl rfl rfl ?hy77 ?_
              case hy77 => exact Yl.move rfl rfl
              refine' TL.y rfl rfl rfl ?hy78 ?_
              case hy78 => exact Yl.bin rfl rfl rfl (Bin.lss _ _ _ _)
              refine' TL.y rfl rfl rfl ?hy79 ?_
              case hy79 => exact Yl.pickT rfl rfl rfl
              refine' TL.y rfl rfl rfl ?hy80 ?_
              case hy80 => exact Yl.assign rfl rfl
              refine TL.nil ?_
              refine TE.next ?_
              refine TC.seq ?_
              refine TC.region ?_
              refine' TL.y rfl rfl rfl ?hy81 ?_
              case hy81 => exact Yl.assign rfl rfl
              refine TL.nil ?_
              refine TE.next ?_
              refine TC.seq ?_
              refine TC.seq ?_
              refine TC.region ?_
              refine' TL.y rfl rfl rfl ?hy82 ?_
              case hy82 => exact Yl.move rfl rfl
              refine' TL.y rfl rfl rfl ?hy83 ?_
              case hy83 => exact Yl.move rfl rfl
              refine TL.split (i := 80) rfl (fun hs80 => ?_) (fun hs80 => ?_)
              · skip
                (try simp only [decide_eq_true_eq, decide_eq_false_iff_not, beq_iff_eq, beq_eq_false_iff_ne, bne_iff_ne, ne_eq, bne_eq_false_iff_eq, Bool.not_eq_true', Bool.not_eq_false', Int.not_lt, Int.not_le, gt_iff_lt, ge_iff_le] at hs80)
                refine' TL.y rfl rfl rfl ?hy84 ?_
                case hy84 => exact Yl.move rfl rfl
                refine' TL.y rfl rfl rfl ?hy85 ?_
                case hy85 => exact Yl.pickT rfl rfl rfl
                refine TL.nil ?_
                refine TE.next ?_
                refine TC.cond rfl (fun hs82 => ?_) (fun hs82 => ?_)
                · skip
                  (try simp only [decide_eq_true_eq, decide_eq_false_iff_not, beq_iff_eq, beq_eq_false_iff_ne, bne_iff_ne, ne_eq, bne_eq_false_iff_eq, Bool.not_eq_true', Bool.not_eq_false', Int.not_lt, Int.not_le, gt_iff_lt, ge_iff_le] at hs82)
                  refine TC.region ?_
                  refine' TL.y rfl rfl rfl ?hy86 ?_
                  case hy86 => exact Yl.assign rfl rfl
                  refine TL.nil ?_
                  refine TE.next ?_
                  refine TC.seq ?_
                  refine TC.seq ?_
                  refine TC.region ?_
                  refine' TL.y rfl rfl rfl ?hy87 ?_
                  case hy87 => exact Yl.move rfl rfl
                  refine' TL.y rfl rfl rfl ?hy88 ?_
                  case hy88 => exact Yl.move rfl rfl
                  refine TL.re (i := 84) (v' := .bool true) rfl (congrArg Value.bool (hs80)) ?_
                  refine' TL.y rfl rfl rfl ?hy89 ?_
                  case hy89 => exact Yl.move rfl rfl
                  refine' TL.y rfl rfl rfl ?hy90 ?_
                  case hy90 => exact Yl.not rfl rfl
                  refine' TL.y rfl rfl rfl ?hy91 ?_
                  case hy91 => exact Yl.pickT rfl rfl rfl
                  refine TL.nil ?_
                  refine TE.next ?_
                  refine TC.no rfl (by first | (simp_all; done) | (simp_all <;> omega)) ?_
                  refine TC.skip ?_
                  refine TE.next ?_
                  refine TC.seq ?_
                  refine TC.region ?_
                  refine' TL.y rfl rfl rfl ?hy92 ?_
                  case hy92 => exact Yl.move rfl rfl
                  refine' TL.y rfl rfl rfl ?hy93 ?_
                  case hy93 => exact Yl.move rfl rfl
                  refine' TL.y rfl rfl rfl ?hy94 ?_
                  case hy94 => exact Yl.move rfl rfl
                  refine' TL.y rfl rfl rfl ?hy95 ?_
                  case hy95 => exact Yl.not rfl rfl
                  refine' TL.y rfl rfl rfl ?hy96 ?_
                  case hy96 => exact Yl.pickT rfl rfl rfl
                  refine' TL.y rfl rfl rfl ?hy97 ?_
                  case hy97 => exact Yl.move rfl rfl
                  refine TL.re (i := 93) (v' := .bool true) rfl (congrArg Value.bool (by first | rfl | (simp_all <;> omega))) ?_
                  refine' TL.y rfl rfl rfl ?hy98 ?_
                  case hy98 => exact Yl.move rfl rfl
                  refine' TL.y rfl rfl rfl ?hy99 ?_
                  case hy99 => exact Yl.move rfl rfl
                  refine' TL.y rfl rfl rfl ?hy100 ?_
                  case hy100 => exact Yl.move rfl rfl
                  refine TL.split (i := 96) rfl (fun hs96 => ?_) (fun hs96 => ?_)
                  · skip
                    (try simp only [decide_eq_true_eq, decide_eq_false_iff_not, beq_iff_eq, beq_eq_false_iff_ne, bne_iff_ne, ne_eq, bne_eq_false_iff_eq, Bool.not_eq_true', Bool.not_eq_false', Int.not_lt, Int.not_le, gt_iff_lt, ge_iff_le] at hs96)
                    refine' TL.y rfl rfl rfl ?hy101 ?_
                    case hy101 => exact Yl.move rfl rfl
                    refine' TL.y rfl rfl rfl ?hy102 ?_
                    case hy102 => exact Yl.move rfl rfl
                    refine' TL.y rfl rfl rfl ?hy103 ?_
                    case hy103 => exact Yl.bin rfl rfl rfl (Bin.neqB _ _ _ (by kernel_rfl))
                    refine' TL.y rfl rfl rfl ?hy104 ?_
                    case hy104 => exact Yl.pickT rfl rfl rfl
                    refine' TL.y rfl rfl rfl ?hy105 ?_
                    case hy105 => exact Yl.bin rfl rfl rfl (Bin.eqlB _ _ _ (by kernel_rfl))
                    refine' TL.y rfl rfl rfl ?hy106 ?_
                    case hy106 => exact Yl.pickT rfl rfl rfl
                    refine' TL.y rfl rfl rfl ?hy107 ?_
                    case hy107 => exact Yl.move rfl rfl
                    refine TL.re (i := 103) (v' := .bool true) rfl (congrArg Value.bool (by first | rfl | (simp_all <;> omega))) ?_
                    refine' TL.y rfl rfl rfl ?hy108 ?_
                    case hy108 => exact Yl.move rfl rfl
                    refine' TL.y rfl rfl rfl ?hy109 ?_
                    case hy109 => exact Yl.move rfl rfl
                    refine' TL.c rfl rfl rfl ?hy110 ?_
                    case hy110 => exact Yc.call rfl Tryd.func17 (by kernel_rfl) rfl rfl (Hp.calls (fun w h => k_get w (h.all _ mem0) i0))
                    intro _
                    rw [sL3]
                    refine' TL.y rfl rfl rfl ?hy111 ?_
                    case hy111 => exact Yl.move rfl rfl
                    refine' TL.y rfl rfl rfl ?hy112 ?_
                    case hy112 => exact Yl.move rfl rfl
                    refine TL.split (i := 108) rfl (fun hs108 => ?_) (fun hs108 => ?_)
                    · skip
                      (try simp only [decide_eq_true_eq, decide_eq_false_iff_not, beq_iff_eq, beq_eq_false_iff_ne, bne_iff_ne, ne_eq, bne_eq_false_iff_eq, Bool.not_eq_true', Bool.not_eq_false', Int.not_lt, Int.not_le, gt_iff_lt, ge_iff_le] at hs108)
                      refine' TL.y rfl rfl rfl ?hy113 ?_
                      case hy113 => exact Yl.move rfl rfl
                      refine' TL.y rfl rfl rfl ?hy114 ?_
                      case hy114 => exact Yl.pickT rfl rfl rfl
                      refine' TL.y rfl rfl rfl ?hy115 ?_
                      case hy115 => exact Yl.bin rfl rfl rfl (Bin.eqlB _ _ _ (by kernel_rfl))
                      refine' TL.y rfl rfl rfl ?hy116 ?_
                      case hy116 => exact Yl.pickT rfl rfl rfl
                      refine' TL.y rfl rfl rfl ?hy117 ?_
                      case hy117 => exact Yl.move rfl rfl
                      refine TL.re (i := 113) (v' := .bool true) rfl (congrArg Value.bool (by first | rfl | (simp_all <;> omega))) ?_
                      refine' TL.y rfl rfl rfl ?hy118 ?_
                      case hy118 => exact Yl.move rfl rfl
                      refine' TL.y rfl rfl rfl ?hy119 ?_
                      case hy119 => exact Yl.move rfl rfl
                      refine' TL.y rfl rfl rfl ?hy120 ?_
                      case hy120 => exact Yl.bin rfl rfl rfl (Bin.eql _ _ _ _)
                      refine' TL.y rfl rfl rfl ?hy121 ?_
                      case hy121 => exact Yl.move rfl rfl
                      refine TL.split (i := 117) rfl (fun hs117 => ?_) (fun hs117 => ?_)
                      · skip
                        (try simp only [decide_eq_true_eq, decide_eq_false_iff_not, beq_iff_eq, beq_eq_false_iff_ne, bne_iff_ne, ne_eq, bne_eq_false_iff_eq, Bool.not_eq_true', Bool.not_eq_false', Int.not_lt, Int.not_le, gt_iff_lt, ge_iff_le] at hs117)
                        refine TL.skip rfl rfl rfl ?_
                        refine TL.skip rfl rfl rfl ?_
                        refine TL.skip rfl rfl rfl ?_
                        refine TL.skip rfl rfl rfl ?_
                        refine TL.skip rfl rfl rfl ?_
                        refine' TL.y rfl rfl rfl ?hy122 ?_
                        case hy122 => exact Yl.pickT rfl rfl rfl
                        refine' TL.y rfl rfl rfl ?hy123 ?_
                        case hy123 => exact Yl.pickT rfl rfl rfl
                        refine' TL.y rfl rfl rfl ?hy124 ?_
                        case hy124 => exact Yl.move rfl rfl
                        refine' TL.y rfl rfl rfl ?hy125 ?_
                        case hy125 => exact Yl.move rfl rfl
                        refine' TL.c rfl rfl rfl ?hy126 ?_
                        case hy126 => exact Yc.call rfl Tryd.func19 (by kernel_rfl) rfl rfl (Hp.calls (fun w h => k_count w (h.all _ mem0)))
                        intro _
                        refine' TL.y rfl rfl rfl ?hy127 ?_
                        case hy127 => exact Yl.move rfl rfl
                        refine' TL.y rfl rfl rfl ?hy128 ?_
                        case hy128 => exact Yl.move rfl rfl
                        refine' TL.y rfl rfl rfl ?hy129 ?_
                        case hy129 => first | (refine Yl.val (Yl.bin rfl rfl rfl (Bin.add _ _ _ _)) (congrArg (Value.int .i64) (i64in ?_ ?_)) <;> omega) | exact Yl.bin rfl rfl rfl (Bin.add _ _ _ _)
                        refine' TL.y rfl rfl rfl ?hy130 ?_
                        case hy130 => exact Yl.bin rfl rfl rfl (Bin.eql _ _ _ _)
                        refine' TL.y rfl rfl rfl ?hy131 ?_
                        case hy131 => exact Yl.pickT rfl rfl rfl
                        refine' TL.y rfl rfl rfl ?hy132 ?_
                        case hy132 => exact Yl.assign rfl rfl
                        refine TL.nil ?_
                        refine TE.next ?_
                        refine TC.ret ?_
                        refine TE.ret1 rfl rfl ?_
                        exact fun w h => ⟨congrArg (fun b => Ending.returned (Value.bool b)) (by first | rfl | (simp_all <;> omega) : _ = true), h.below⟩
                      · skip
                        (try simp only [decide_eq_true_eq, decide_eq_false_iff_not, beq_iff_eq, beq_eq_false_iff_ne, bne_iff_ne, ne_eq, bne_eq_false_iff_eq, Bool.not_eq_true', Bool.not_eq_false', Int.not_lt, Int.not_le, gt_iff_lt, ge_iff_le] at hs117)
                        refine' TL.y rfl rfl rfl ?hy133 ?_
                        case hy133 => exact Yl.move rfl rfl
                        refine' TL.y rfl rfl rfl ?hy134 ?_
                        case hy134 => exact Yl.move rfl rfl
                        refine' TL.c rfl rfl rfl ?hy135 ?_
                        case hy135 => exact Yc.call rfl Tryd.func17 (by kernel_rfl) rfl rfl (Hp.calls (fun w h => k_get w (h.all _ mem0) other))
                        intro _
                        rw [sL4 f n i0 other on hs117]
                        refine' TL.y rfl rfl rfl ?hy136 ?_
                        case hy136 => exact Yl.move rfl rfl
                        refine' TL.y rfl rfl rfl ?hy137 ?_
                        case hy137 => exact Yl.bin rfl rfl rfl (Bin.eqlB _ _ _ (by kernel_rfl))
                        refine' TL.y rfl rfl rfl ?hy138 ?_
                        case hy138 => exact Yl.pickF rfl rfl rfl
                        refine' TL.y rfl rfl rfl ?hy139 ?_
                        case hy139 => exact Yl.pickT rfl rfl rfl
                        refine' TL.y rfl rfl rfl ?hy140 ?_
                        case hy140 => exact Yl.move rfl rfl
                        refine TL.re (i := 125) (v' := .bool true) rfl (congrArg Value.bool (by first | rfl | (simp_all <;> omega))) ?_
                        refine' TL.y rfl rfl rfl ?hy141 ?_
                        case hy141 => exact Yl.move rfl rfl
                        refine' TL.c rfl rfl rfl ?hy142 ?_
                        case hy142 => exact Yc.call rfl Tryd.func19 (by kernel_rfl) rfl rfl (Hp.calls (fun w h => k_count w (h.all _ mem0)))
                        intro _
                        refine' TL.y rfl rfl rfl ?hy143 ?_
                        case hy143 => exact Yl.move rfl rfl
                        refine' TL.y rfl rfl rfl ?hy144 ?_
                        case hy144 => exact Yl.move rfl rfl
                        refine' TL.y rfl rfl rfl ?hy145 ?_
                        case hy145 => first | (refine Yl.val (Yl.bin rfl rfl rfl (Bin.add _ _ _ _)) (congrArg (Value.int .i64) (i64in ?_ ?_)) <;> omega) | exact Yl.bin rfl rfl rfl (Bin.add _ _ _ _)
                        refine' TL.y rfl rfl rfl ?hy146 ?_
                        case hy146 => exact Yl.bin rfl rfl rfl (Bin.eql _ _ _ _)
                        refine' TL.y rfl rfl rfl ?hy147 ?_
                        case hy147 => exact Yl.pickT rfl rfl rfl
                        refine' TL.y rfl rfl rfl ?hy148 ?_
                        case hy148 => exact Yl.assign rfl rfl
                        refine TL.nil ?_
                        refine TE.next ?_
                        refine TC.ret ?_
                        refine TE.ret1 rfl rfl ?_
                        exact fun w h => ⟨congrArg (fun b => Ending.returned (Value.bool b)) (by first | rfl | (simp_all <;> omega) : _ = true), h.below⟩
                    · skip
                      (try simp only [decide_eq_true_eq, decide_eq_false_iff_not, beq_iff_eq, beq_eq_false_iff_ne, bne_iff_ne, ne_eq, bne_eq_false_iff_eq, Bool.not_eq_true', Bool.not_eq_false', Int.not_lt, Int.not_le, gt_iff_lt, ge_iff_le] at hs108)
                      refine TL.skip rfl rfl rfl ?_
                      refine' TL.y rfl rfl rfl ?hy149 ?_
                      case hy149 => exact Yl.pickF rfl rfl rfl
                      refine' TL.y rfl rfl rfl ?hy150 ?_
                      case hy150 => exact Yl.bin rfl rfl rfl (Bin.eqlB _ _ _ (by kernel_rfl))
                      refine' TL.y rfl rfl rfl ?hy151 ?_
                      case hy151 => exact Yl.pickT rfl rfl rfl
                      refine' TL.y rfl rfl rfl ?hy152 ?_
                      case hy152 => exact Yl.move rfl rfl
                      refine TL.re (i := 113) (v' := .bool true) rfl (congrArg Value.bool (by first | rfl | (simp_all <;> omega))) ?_
                      refine' TL.y rfl rfl rfl ?hy153 ?_
                      case hy153 => exact Yl.move rfl rfl
                      refine' TL.y rfl rfl rfl ?hy154 ?_
                      case hy154 => exact Yl.move rfl rfl
                      refine' TL.y rfl rfl rfl ?hy155 ?_
                      case hy155 => exact Yl.bin rfl rfl rfl (Bin.eql _ _ _ _)
                      refine' TL.y rfl rfl rfl ?hy156 ?_
                      case hy156 => exact Yl.move rfl rfl
                      refine TL.split (i := 117) rfl (fun hs117 => ?_) (fun hs117 => ?_)
                      · skip
                        (try simp only [decide_eq_true_eq, decide_eq_false_iff_not, beq_iff_eq, beq_eq_false_iff_ne, bne_iff_ne, ne_eq, bne_eq_false_iff_eq, Bool.not_eq_true', Bool.not_eq_false', Int.not_lt, Int.not_le, gt_iff_lt, ge_iff_le] at hs117)
                        refine TL.skip rfl rfl rfl ?_
                        refine TL.skip rfl rfl rfl ?_
                        refine TL.skip rfl rfl rfl ?_
                        refine TL.skip rfl rfl rfl ?_
                        refine TL.skip rfl rfl rfl ?_
                        refine' TL.y rfl rfl rfl ?hy157 ?_
                        case hy157 => exact Yl.pickT rfl rfl rfl
                        refine' TL.y rfl rfl rfl ?hy158 ?_
                        case hy158 => exact Yl.pickT rfl rfl rfl
                        refine' TL.y rfl rfl rfl ?hy159 ?_
                        case hy159 => exact Yl.move rfl rfl
                        refine' TL.y rfl rfl rfl ?hy160 ?_
                        case hy160 => exact Yl.move rfl rfl
                        refine' TL.c rfl rfl rfl ?hy161 ?_
                        case hy161 => exact Yc.call rfl Tryd.func19 (by kernel_rfl) rfl rfl (Hp.calls (fun w h => k_count w (h.all _ mem0)))
                        intro _
                        refine' TL.y rfl rfl rfl ?hy162 ?_
                        case hy162 => exact Yl.move rfl rfl
                        refine' TL.y rfl rfl rfl ?hy163 ?_
                        case hy163 => exact Yl.move rfl rfl
                        refine' TL.y rfl rfl rfl ?hy164 ?_
                        case hy164 => first | (refine Yl.val (Yl.bin rfl rfl rfl (Bin.add _ _ _ _)) (congrArg (Value.int .i64) (i64in ?_ ?_)) <;> omega) | exact Yl.bin rfl rfl rfl (Bin.add _ _ _ _)
                        refine' TL.y rfl rfl rfl ?hy165 ?_
                        case hy165 => exact Yl.bin rfl rfl rfl (Bin.eql _ _ _ _)
                        refine' TL.y rfl rfl rfl ?hy166 ?_
                        case hy166 => exact Yl.pickT rfl rfl rfl
                        refine' TL.y rfl rfl rfl ?hy167 ?_
                        case hy167 => exact Yl.assign rfl rfl
                        refine TL.nil ?_
                        refine TE.next ?_
                        refine TC.ret ?_
                        refine TE.ret1 rfl rfl ?_
                        exact fun w h => ⟨congrArg (fun b => Ending.returned (Value.bool b)) (by first | rfl | (simp_all <;> omega) : _ = true), h.below⟩
                      · skip
                        (try simp only [decide_eq_true_eq, decide_eq_false_iff_not, beq_iff_eq, beq_eq_false_iff_ne, bne_iff_ne, ne_eq, bne_eq_false_iff_eq, Bool.not_eq_true', Bool.not_eq_false', Int.not_lt, Int.not_le, gt_iff_lt, ge_iff_le] at hs117)
                        refine' TL.y rfl rfl rfl ?hy168 ?_
                        case hy168 => exact Yl.move rfl rfl
                        refine' TL.y rfl rfl rfl ?hy169 ?_
                        case hy169 => exact Yl.move rfl rfl
                        refine' TL.c rfl rfl rfl ?hy170 ?_
                        case hy170 => exact Yc.call rfl Tryd.func17 (by kernel_rfl) rfl rfl (Hp.calls (fun w h => k_get w (h.all _ mem0) other))
                        intro _
                        rw [sL4 f n i0 other on hs117]
                        refine' TL.y rfl rfl rfl ?hy171 ?_
                        case hy171 => exact Yl.move rfl rfl
                        refine' TL.y rfl rfl rfl ?hy172 ?_
                        case hy172 => exact Yl.bin rfl rfl rfl (Bin.eqlB _ _ _ (by kernel_rfl))
                        refine' TL.y rfl rfl rfl ?hy173 ?_
                        case hy173 => exact Yl.pickF rfl rfl rfl
                        refine' TL.y rfl rfl rfl ?hy174 ?_
                        case hy174 => exact Yl.pickT rfl rfl rfl
                        refine' TL.y rfl rfl rfl ?hy175 ?_
                        case hy175 => exact Yl.move rfl rfl
                        refine TL.re (i := 125) (v' := .bool true) rfl (congrArg Value.bool (by first | rfl | (simp_all <;> omega))) ?_
                        refine' TL.y rfl rfl rfl ?hy176 ?_
                        case hy176 => exact Yl.move rfl rfl
                        refine' TL.c rfl rfl rfl ?hy177 ?_
                        case hy177 => exact Yc.call rfl Tryd.func19 (by kernel_rfl) rfl rfl (Hp.calls (fun w h => k_count w (h.all _ mem0)))
                        intro _
                        refine' TL.y rfl rfl rfl ?hy178 ?_
                        case hy178 => exact Yl.move rfl rfl
                        refine' TL.y rfl rfl rfl ?hy179 ?_
                        case hy179 => exact Yl.move rfl rfl
                        refine' TL.y rfl rfl rfl ?hy180 ?_
                        case hy180 => first | (refine Yl.val (Yl.bin rfl rfl rfl (Bin.add _ _ _ _)) (congrArg (Value.int .i64) (i64in ?_ ?_)) <;> omega) | exact Yl.bin rfl rfl rfl (Bin.add _ _ _ _)
                        refine' TL.y rfl rfl rfl ?hy181 ?_
                        case hy181 => exact Yl.bin rfl rfl rfl (Bin.eql _ _ _ _)
                        refine' TL.y rfl rfl rfl ?hy182 ?_
                        case hy182 => exact Yl.pickT rfl rfl rfl
                        refine' TL.y rfl rfl rfl ?hy183 ?_
                        case hy183 => exact Yl.assign rfl rfl
                        refine TL.nil ?_
                        refine TE.next ?_
                        refine TC.ret ?_
                        refine TE.ret1 rfl rfl ?_
                        exact fun w h => ⟨congrArg (fun b => Ending.returned (Value.bool b)) (by first | rfl | (simp_all <;> omega) : _ = true), h.below⟩
                  · skip
                    (try simp only [decide_eq_true_eq, decide_eq_false_iff_not, beq_iff_eq, beq_eq_false_iff_ne, bne_iff_ne, ne_eq, bne_eq_false_iff_eq, Bool.not_eq_true', Bool.not_eq_false', Int.not_lt, Int.not_le, gt_iff_lt, ge_iff_le] at hs96)
                    refine TL.skip rfl rfl rfl ?_
                    refine TL.skip rfl rfl rfl ?_
                    refine TL.skip rfl rfl rfl ?_
                    refine' TL.y rfl rfl rfl ?hy184 ?_
                    case hy184 => exact Yl.pickF rfl rfl rfl
                    refine' TL.y rfl rfl rfl ?hy185 ?_
                    case hy185 => exact Yl.bin rfl rfl rfl (Bin.eqlB _ _ _ (by kernel_rfl))
                    refine' TL.y rfl rfl rfl ?hy186 ?_
                    case hy186 => exact Yl.pickT rfl rfl rfl
                    refine' TL.y rfl rfl rfl ?hy187 ?_
                    case hy187 => exact Yl.move rfl rfl
                    refine TL.re (i := 103) (v' := .bool true) rfl (congrArg Value.bool (by first | rfl | (simp_all <;> omega))) ?_
                    refine' TL.y rfl rfl rfl ?hy188 ?_
                    case hy188 => exact Yl.move rfl rfl
                    refine' TL.y rfl rfl rfl ?hy189 ?_
                    case hy189 => exact Yl.move rfl rfl
                    refine' TL.c rfl rfl rfl ?hy190 ?_
                    case hy190 => exact Yc.call rfl Tryd.func17 (by kernel_rfl) rfl rfl (Hp.calls (fun w h => k_get w (h.all _ mem0) i0))
                    intro _
                    rw [sL3]
                    refine' TL.y rfl rfl rfl ?hy191 ?_
                    case hy191 => exact Yl.move rfl rfl
                    refine' TL.y rfl rfl rfl ?hy192 ?_
                    case hy192 => exact Yl.move rfl rfl
                    refine TL.split (i := 108) rfl (fun hs108 => ?_) (fun hs108 => ?_)
                    · skip
                      (try simp only [decide_eq_true_eq, decide_eq_false_iff_not, beq_iff_eq, beq_eq_false_iff_ne, bne_iff_ne, ne_eq, bne_eq_false_iff_eq, Bool.not_eq_true', Bool.not_eq_false', Int.not_lt, Int.not_le, gt_iff_lt, ge_iff_le] at hs108)
                      refine' TL.y rfl rfl rfl ?hy193 ?_
                      case hy193 => exact Yl.move rfl rfl
                      refine' TL.y rfl rfl rfl ?hy194 ?_
                      case hy194 => exact Yl.pickT rfl rfl rfl
                      refine' TL.y rfl rfl rfl ?hy195 ?_
                      case hy195 => exact Yl.bin rfl rfl rfl (Bin.eqlB _ _ _ (by kernel_rfl))
                      refine' TL.y rfl rfl rfl ?hy196 ?_
                      case hy196 => exact Yl.pickT rfl rfl rfl
                      refine' TL.y rfl rfl rfl ?hy197 ?_
                      case hy197 => exact Yl.move rfl rfl
                      refine TL.re (i := 113) (v' := .bool true) rfl (congrArg Value.bool (by first | rfl | (simp_all <;> omega))) ?_
                      refine' TL.y rfl rfl rfl ?hy198 ?_
                      case hy198 => exact Yl.move rfl rfl
                      refine' TL.y rfl rfl rfl ?hy199 ?_
                      case hy199 => exact Yl.move rfl rfl
                      refine' TL.y rfl rfl rfl ?hy200 ?_
                      case hy200 => exact Yl.bin rfl rfl rfl (Bin.eql _ _ _ _)
                      refine' TL.y rfl rfl rfl ?hy201 ?_
                      case hy201 => exact Yl.move rfl rfl
                      refine TL.split (i := 117) rfl (fun hs117 => ?_) (fun hs117 => ?_)
                      · skip
                        (try simp only [decide_eq_true_eq, decide_eq_false_iff_not, beq_iff_eq, beq_eq_false_iff_ne, bne_iff_ne, ne_eq, bne_eq_false_iff_eq, Bool.not_eq_true', Bool.not_eq_false', Int.not_lt, Int.not_le, gt_iff_lt, ge_iff_le] at hs117)
                        refine TL.skip rfl rfl rfl ?_
                        refine TL.skip rfl rfl rfl ?_
                        refine TL.skip rfl rfl rfl ?_
                        refine TL.skip rfl rfl rfl ?_
                        refine TL.skip rfl rfl rfl ?_
                        refine' TL.y rfl rfl rfl ?hy202 ?_
                        case hy202 => exact Yl.pickT rfl rfl rfl
                        refine' TL.y rfl rfl rfl ?hy203 ?_
                        case hy203 => exact Yl.pickT rfl rfl rfl
                        refine' TL.y rfl rfl rfl ?hy204 ?_
                        case hy204 => exact Yl.move rfl rfl
                        refine' TL.y rfl rfl rfl ?hy205 ?_
                        case hy205 => exact Yl.move rfl rfl
                        refine' TL.c rfl rfl rfl ?hy206 ?_
                        case hy206 => exact Yc.call rfl Tryd.func19 (by kernel_rfl) rfl rfl (Hp.calls (fun w h => k_count w (h.all _ mem0)))
                        intro _
                        refine' TL.y rfl rfl rfl ?hy207 ?_
                        case hy207 => exact Yl.move rfl rfl
                        refine' TL.y rfl rfl rfl ?hy208 ?_
                        case hy208 => exact Yl.move rfl rfl
                        refine' TL.y rfl rfl rfl ?hy209 ?_
                        case hy209 => first | (refine Yl.val (Yl.bin rfl rfl rfl (Bin.add _ _ _ _)) (congrArg (Value.int .i64) (i64in ?_ ?_)) <;> omega) | exact Yl.bin rfl rfl rfl (Bin.add _ _ _ _)
                        refine' TL.y rfl rfl rfl ?hy210 ?_
                        case hy210 => exact Yl.bin rfl rfl rfl (Bin.eql _ _ _ _)
                        refine' TL.y rfl rfl rfl ?hy211 ?_
                        case hy211 => exact Yl.pickT rfl rfl rfl
                        refine' TL.y rfl rfl rfl ?hy212 ?_
                        case hy212 => exact Yl.assign rfl rfl
                        refine TL.nil ?_
                        refine TE.next ?_
                        refine TC.ret ?_
                        refine TE.ret1 rfl rfl ?_
                        exact fun w h => ⟨congrArg (fun b => Ending.returned (Value.bool b)) (by first | rfl | (simp_all <;> omega) : _ = true), h.below⟩
                      · skip
                        (try simp only [decide_eq_true_eq, decide_eq_false_iff_not, beq_iff_eq, beq_eq_false_iff_ne, bne_iff_ne, ne_eq, bne_eq_false_iff_eq, Bool.not_eq_true', Bool.not_eq_false', Int.not_lt, Int.not_le, gt_iff_lt, ge_iff_le] at hs117)
                        refine' TL.y rfl rfl rfl ?hy213 ?_
                        case hy213 => exact Yl.move rfl rfl
                        refine' TL.y rfl rfl rfl ?hy214 ?_
                        case hy214 => exact Yl.move rfl rfl
                        refine' TL.c rfl rfl rfl ?hy215 ?_
                        case hy215 => exact Yc.call rfl Tryd.func17 (by kernel_rfl) rfl rfl (Hp.calls (fun w h => k_get w (h.all _ mem0) other))
                        intro _
                        rw [sL4 f n i0 other on hs117]
                        refine' TL.y rfl rfl rfl ?hy216 ?_
                        case hy216 => exact Yl.move rfl rfl
                        refine' TL.y rfl rfl rfl ?hy217 ?_
                        case hy217 => exact Yl.bin rfl rfl rfl (Bin.eqlB _ _ _ (by kernel_rfl))
                        refine' TL.y rfl rfl rfl ?hy218 ?_
                        case hy218 => exact Yl.pickF rfl rfl rfl
                        refine' TL.y rfl rfl rfl ?hy219 ?_
                        case hy219 => exact Yl.pickT rfl rfl rfl
                        refine' TL.y rfl rfl rfl ?hy220 ?_
                        case hy220 => exact Yl.move rfl rfl
                        refine TL.re (i := 125) (v' := .bool true) rfl (congrArg Value.bool (by first | rfl | (simp_all <;> omega))) ?_
                        refine' TL.y rfl rfl rfl ?hy221 ?_
                        case hy221 => exact Yl.move rfl rfl
                        refine' TL.c rfl rfl rfl ?hy222 ?_
                        case hy222 => exact Yc.call rfl Tryd.func19 (by kernel_rfl) rfl rfl (Hp.calls (fun w h => k_count w (h.all _ mem0)))
                        intro _
                        refine' TL.y rfl rfl rfl ?hy223 ?_
                        case hy223 => exact Yl.move rfl rfl
                        refine' TL.y rfl rfl rfl ?hy224 ?_
                        case hy224 => exact Yl.move rfl rfl
                        refine' TL.y rfl rfl rfl ?hy225 ?_
                        case hy225 => first | (refine Yl.val (Yl.bin rfl rfl rfl (Bin.add _ _ _ _)) (congrArg (Value.int .i64) (i64in ?_ ?_)) <;> omega) | exact Yl.bin rfl rfl rfl (Bin.add _ _ _ _)
                        refine' TL.y rfl rfl rfl ?hy226 ?_
                        case hy226 => exact Yl.bin rfl rfl rfl (Bin.eql _ _ _ _)
                        refine' TL.y rfl rfl rfl ?hy227 ?_
                        case hy227 => exact Yl.pickT rfl rfl rfl
                        refine' TL.y rfl rfl rfl ?hy228 ?_
                        case hy228 => exact Yl.assign rfl rfl
                        refine TL.nil ?_
                        refine TE.next ?_
                        refine TC.ret ?_
                        refine TE.ret1 rfl rfl ?_
                        exact fun w h => ⟨congrArg (fun b => Ending.returned (Value.bool b)) (by first | rfl | (simp_all <;> omega) : _ = true), h.below⟩
                    · skip
                      (try simp only [decide_eq_true_eq, decide_eq_false_iff_not, beq_iff_eq, beq_eq_false_iff_ne, bne_iff_ne, ne_eq, bne_eq_false_iff_eq, Bool.not_eq_true', Bool.not_eq_false', Int.not_lt, Int.not_le, gt_iff_lt, ge_iff_le] at hs108)
                      refine TL.skip rfl rfl rfl ?_
                      refine' TL.y rfl rfl rfl ?hy229 ?_
                      case hy229 => exact Yl.pickF rfl rfl rfl
                      refine' TL.y rfl rfl rfl ?hy230 ?_
                      case hy230 => exact Yl.bin rfl rfl rfl (Bin.eqlB _ _ _ (by kernel_rfl))
                      refine' TL.y rfl rfl rfl ?hy231 ?_
                      case hy231 => exact Yl.pickT rfl rfl rfl
                      refine' TL.y rfl rfl rfl ?hy232 ?_
                      case hy232 => exact Yl.move rfl rfl
                      refine TL.re (i := 113) (v' := .bool true) rfl (congrArg Value.bool (by first | rfl | (simp_all <;> omega))) ?_
                      refine' TL.y rfl rfl rfl ?hy233 ?_
                      case hy233 => exact Yl.move rfl rfl
                      refine' TL.y rfl rfl rfl ?hy234 ?_
                      case hy234 => exact Yl.move rfl rfl
                      refine' TL.y rfl rfl rfl ?hy235 ?_
                      case hy235 => exact Yl.bin rfl rfl rfl (Bin.eql _ _ _ _)
                      refine' TL.y rfl rfl rfl ?hy236 ?_
                      case hy236 => exact Yl.move rfl rfl
                      refine TL.split (i := 117) rfl (fun hs117 => ?_) (fun hs117 => ?_)
                      · skip
                        (try simp only [decide_eq_true_eq, decide_eq_false_iff_not, beq_iff_eq, beq_eq_false_iff_ne, bne_iff_ne, ne_eq, bne_eq_false_iff_eq, Bool.not_eq_true', Bool.not_eq_false', Int.not_lt, Int.not_le, gt_iff_lt, ge_iff_le] at hs117)
                        refine TL.skip rfl rfl rfl ?_
                        refine TL.skip rfl rfl rfl ?_
                        refine TL.skip rfl rfl rfl ?_
                        refine TL.skip rfl rfl rfl ?_
                        refine TL.skip rfl rfl rfl ?_
                        refine' TL.y rfl rfl rfl ?hy237 ?_
                        case hy237 => exact Yl.pickT rfl rfl rfl
                        refine' TL.y rfl rfl rfl ?hy238 ?_
                        case hy238 => exact Yl.pickT rfl rfl rfl
                        refine' TL.y rfl rfl rfl ?hy239 ?_
                        case hy239 => exact Yl.move rfl rfl
                        refine' TL.y rfl rfl rfl ?hy240 ?_
                        case hy240 => exact Yl.move rfl rfl
                        refine' TL.c rfl rfl rfl ?hy241 ?_
                        case hy241 => exact Yc.call rfl Tryd.func19 (by kernel_rfl) rfl rfl (Hp.calls (fun w h => k_count w (h.all _ mem0)))
                        intro _
                        refine' TL.y rfl rfl rfl ?hy242 ?_
                        case hy242 => exact Yl.move rfl rfl
                        refine' TL.y rfl rfl rfl ?hy243 ?_
                        case hy243 => exact Yl.move rfl rfl
                        refine' TL.y rfl rfl rfl ?hy244 ?_
                        case hy244 => first | (refine Yl.val (Yl.bin rfl rfl rfl (Bin.add _ _ _ _)) (congrArg (Value.int .i64) (i64in ?_ ?_)) <;> omega) | exact Yl.bin rfl rfl rfl (Bin.add _ _ _ _)
                        refine' TL.y rfl rfl rfl ?hy245 ?_
                        case hy245 => exact Yl.bin rfl rfl rfl (Bin.eql _ _ _ _)
                        refine' TL.y rfl rfl rfl ?hy246 ?_
                        case hy246 => exact Yl.pickT rfl rfl rfl
                        refine' TL.y rfl rfl rfl ?hy247 ?_
                        case hy247 => exact Yl.assign rfl rfl
                        refine TL.nil ?_
                        refine TE.next ?_
                        refine TC.ret ?_
                        refine TE.ret1 rfl rfl ?_
                        exact fun w h => ⟨congrArg (fun b => Ending.returned (Value.bool b)) (by first | rfl | (simp_all <;> omega) : _ = true), h.below⟩
                      · skip
                        (try simp only [decide_eq_true_eq, decide_eq_false_iff_not, beq_iff_eq, beq_eq_false_iff_ne, bne_iff_ne, ne_eq, bne_eq_false_iff_eq, Bool.not_eq_true', Bool.not_eq_false', Int.not_lt, Int.not_le, gt_iff_lt, ge_iff_le] at hs117)
                        refine' TL.y rfl rfl rfl ?hy248 ?_
                        case hy248 => exact Yl.move rfl rfl
                        refine' TL.y rfl rfl rfl ?hy249 ?_
                        case hy249 => exact Yl.move rfl rfl
                        refine' TL.c rfl rfl rfl ?hy250 ?_
                        case hy250 => exact Yc.call rfl Tryd.func17 (by kernel_rfl) rfl rfl (Hp.calls (fun w h => k_get w (h.all _ mem0) other))
                        intro _
                        rw [sL4 f n i0 other on hs117]
                        refine' TL.y rfl rfl rfl ?hy251 ?_
                        case hy251 => exact Yl.move rfl rfl
                        refine' TL.y rfl rfl rfl ?hy252 ?_
                        case hy252 => exact Yl.bin rfl rfl rfl (Bin.eqlB _ _ _ (by kernel_rfl))
                        refine' TL.y rfl rfl rfl ?hy253 ?_
                        case hy253 => exact Yl.pickF rfl rfl rfl
                        refine' TL.y rfl rfl rfl ?hy254 ?_
                        case hy254 => exact Yl.pickT rfl rfl rfl
                        refine' TL.y rfl rfl rfl ?hy255 ?_
                        case hy255 => exact Yl.move rfl rfl
                        refine TL.re (i := 125) (v' := .bool true) rfl (congrArg Value.bool (by first | rfl | (simp_all <;> omega))) ?_
                        refine' TL.y rfl rfl rfl ?hy256 ?_
                        case hy256 => exact Yl.move rfl rfl
                        refine' TL.c rfl rfl rfl ?hy257 ?_
                        case hy257 => exact Yc.call rfl Tryd.func19 (by kernel_rfl) rfl rfl (Hp.calls (fun w h => k_count w (h.all _ mem0)))
                        intro _
                        refine' TL.y rfl rfl rfl ?hy258 ?_
                        case hy258 => exact Yl.move rfl rfl
                        refine' TL.y rfl rfl rfl ?hy259 ?_
                        case hy259 => exact Yl.move rfl rfl
                        refine' TL.y rfl rfl rfl ?hy260 ?_
                        case hy260 => first | (refine Yl.val (Yl.bin rfl rfl rfl (Bin.add _ _ _ _)) (congrArg (Value.int .i64) (i64in ?_ ?_)) <;> omega) | exact Yl.bin rfl rfl rfl (Bin.add _ _ _ _)
                        refine' TL.y rfl rfl rfl ?hy261 ?_
                        case hy261 => exact Yl.bin rfl rfl rfl (Bin.eql _ _ _ _)
                        refine' TL.y rfl rfl rfl ?hy262 ?_
                        case hy262 => exact Yl.pickT rfl rfl rfl
                        refine' TL.y rfl rfl rfl ?hy263 ?_
                        case hy263 => exact Yl.assign rfl rfl
                        refine TL.nil ?_
                        refine TE.next ?_
                        refine TC.ret ?_
                        refine TE.ret1 rfl rfl ?_
                        exact fun w h => ⟨congrArg (fun b => Ending.returned (Value.bool b)) (by first | rfl | (simp_all <;> omega) : _ = true), h.below⟩
                · skip
                  (try simp only [decide_eq_true_eq, decide_eq_false_iff_not, beq_iff_eq, beq_eq_false_iff_ne, bne_iff_ne, ne_eq, bne_eq_false_iff_eq, Bool.not_eq_true', Bool.not_eq_false', Int.not_lt, Int.not_le, gt_iff_lt, ge_iff_le] at hs82)
                  refine TC.skip ?_
                  refine TE.next ?_
                  refine TC.seq ?_
                  refine TC.seq ?_
                  refine TC.region ?_
                  refine' TL.y rfl rfl rfl ?hy264 ?_
                  case hy264 => exact Yl.move rfl rfl
                  refine' TL.y rfl rfl rfl ?hy265 ?_
                  case hy265 => exact Yl.move rfl rfl
                  refine TL.re (i := 84) (v' := .bool true) rfl (congrArg Value.bool (hs80)) ?_
                  refine' TL.y rfl rfl rfl ?hy266 ?_
                  case hy266 => exact Yl.move rfl rfl
                  refine' TL.y rfl rfl rfl ?hy267 ?_
                  case hy267 => exact Yl.not rfl rfl
                  refine' TL.y rfl rfl rfl ?hy268 ?_
                  case hy268 => exact Yl.pickT rfl rfl rfl
                  refine TL.nil ?_
                  refine TE.next ?_
                  refine TC.yes rfl (by first | (simp_all; done) | (simp_all <;> omega)) ?_
                  refine TC.region ?_
                  refine' TL.y rfl rfl rfl ?hy269 ?_
                  case hy269 => exact Yl.assign rfl rfl
                  refine TL.nil ?_
                  refine TE.next ?_
                  refine TC.seq ?_
                  refine TC.region ?_
                  refine' TL.y rfl rfl rfl ?hy270 ?_
                  case hy270 => exact Yl.move rfl rfl
                  refine' TL.y rfl rfl rfl ?hy271 ?_
                  case hy271 => exact Yl.move rfl rfl
                  refine' TL.y rfl rfl rfl ?hy272 ?_
                  case hy272 => exact Yl.move rfl rfl
                  refine' TL.y rfl rfl rfl ?hy273 ?_
                  case hy273 => exact Yl.not rfl rfl
                  refine' TL.y rfl rfl rfl ?hy274 ?_
                  case hy274 => exact Yl.pickT rfl rfl rfl
                  refine' TL.y rfl rfl rfl ?hy275 ?_
                  case hy275 => exact Yl.move rfl rfl
                  refine TL.re (i := 93) (v' := .bool true) rfl (congrArg Value.bool (by first | rfl | (simp_all <;> omega))) ?_
                  refine' TL.y rfl rfl rfl ?hy276 ?_
                  case hy276 => exact Yl.move rfl rfl
                  refine' TL.y rfl rfl rfl ?hy277 ?_
                  case hy277 => exact Yl.move rfl rfl
                  refine' TL.y rfl rfl rfl ?hy278 ?_
                  case hy278 => exact Yl.move rfl rfl
                  refine TL.split (i := 96) rfl (fun hs96 => ?_) (fun hs96 => ?_)
                  · skip
                    (try simp only [decide_eq_true_eq, decide_eq_false_iff_not, beq_iff_eq, beq_eq_false_iff_ne, bne_iff_ne, ne_eq, bne_eq_false_iff_eq, Bool.not_eq_true', Bool.not_eq_false', Int.not_lt, Int.not_le, gt_iff_lt, ge_iff_le] at hs96)
                    refine' TL.y rfl rfl rfl ?hy279 ?_
                    case hy279 => exact Yl.move rfl rfl
                    refine' TL.y rfl rfl rfl ?hy280 ?_
                    case hy280 => exact Yl.move rfl rfl
                    refine' TL.y rfl rfl rfl ?hy281 ?_
                    case hy281 => exact Yl.bin rfl rfl rfl (Bin.neqB _ _ _ (by kernel_rfl))
                    refine' TL.y rfl rfl rfl ?hy282 ?_
                    case hy282 => exact Yl.pickT rfl rfl rfl
                    refine' TL.y rfl rfl rfl ?hy283 ?_
                    case hy283 => exact Yl.bin rfl rfl rfl (Bin.eqlB _ _ _ (by kernel_rfl))
                    refine' TL.y rfl rfl rfl ?hy284 ?_
                    case hy284 => exact Yl.pickT rfl rfl rfl
                    refine' TL.y rfl rfl rfl ?hy285 ?_
                    case hy285 => exact Yl.move rfl rfl
                    refine TL.re (i := 103) (v' := .bool true) rfl (congrArg Value.bool (by first | rfl | (simp_all <;> omega))) ?_
                    refine' TL.y rfl rfl rfl ?hy286 ?_
                    case hy286 => exact Yl.move rfl rfl
                    refine' TL.y rfl rfl rfl ?hy287 ?_
                    case hy287 => exact Yl.move rfl rfl
                    refine' TL.c rfl rfl rfl ?hy288 ?_
                    case hy288 => exact Yc.call rfl Tryd.func17 (by kernel_rfl) rfl rfl (Hp.calls (fun w h => k_get w (h.all _ mem0) i0))
                    intro _
                    rw [sL3]
                    refine' TL.y rfl rfl rfl ?hy289 ?_
                    case hy289 => exact Yl.move rfl rfl
                    refine' TL.y rfl rfl rfl ?hy290 ?_
                    case hy290 => exact Yl.move rfl rfl
                    refine TL.split (i := 108) rfl (fun hs108 => ?_) (fun hs108 => ?_)
                    · skip
                      (try simp only [decide_eq_true_eq, decide_eq_false_iff_not, beq_iff_eq, beq_eq_false_iff_ne, bne_iff_ne, ne_eq, bne_eq_false_iff_eq, Bool.not_eq_true', Bool.not_eq_false', Int.not_lt, Int.not_le, gt_iff_lt, ge_iff_le] at hs108)
                      refine' TL.y rfl rfl rfl ?hy291 ?_
                      case hy291 => exact Yl.move rfl rfl
                      refine' TL.y rfl rfl rfl ?hy292 ?_
                      case hy292 => exact Yl.pickT rfl rfl rfl
                      refine' TL.y rfl rfl rfl ?hy293 ?_
                      case hy293 => exact Yl.bin rfl rfl rfl (Bin.eqlB _ _ _ (by kernel_rfl))
                      refine' TL.y rfl rfl rfl ?hy294 ?_
                      case hy294 => exact Yl.pickT rfl rfl rfl
                      refine' TL.y rfl rfl rfl ?hy295 ?_
                      case hy295 => exact Yl.move rfl rfl
                      refine TL.re (i := 113) (v' := .bool true) rfl (congrArg Value.bool (by first | rfl | (simp_all <;> omega))) ?_
                      refine' TL.y rfl rfl rfl ?hy296 ?_
                      case hy296 => exact Yl.move rfl rfl
                      refine' TL.y rfl rfl rfl ?hy297 ?_
                      case hy297 => exact Yl.move rfl rfl
                      refine' TL.y rfl rfl rfl ?hy298 ?_
                      case hy298 => exact Yl.bin rfl rfl rfl (Bin.eql _ _ _ _)
                      refine' TL.y rfl rfl rfl ?hy299 ?_
                      case hy299 => exact Yl.move rfl rfl
                      refine TL.split (i := 117) rfl (fun hs117 => ?_) (fun hs117 => ?_)
                      · skip
                        (try simp only [decide_eq_true_eq, decide_eq_false_iff_not, beq_iff_eq, beq_eq_false_iff_ne, bne_iff_ne, ne_eq, bne_eq_false_iff_eq, Bool.not_eq_true', Bool.not_eq_false', Int.not_lt, Int.not_le, gt_iff_lt, ge_iff_le] at hs117)
                        refine TL.skip rfl rfl rfl ?_
                        refine TL.skip rfl rfl rfl ?_
                        refine TL.skip rfl rfl rfl ?_
                        refine TL.skip rfl rfl rfl ?_
                        refine TL.skip rfl rfl rfl ?_
                        refine' TL.y rfl rfl rfl ?hy300 ?_
                        case hy300 => exact Yl.pickT rfl rfl rfl
                        refine' TL.y rfl rfl rfl ?hy301 ?_
                        case hy301 => exact Yl.pickT rfl rfl rfl
                        refine' TL.y rfl rfl rfl ?hy302 ?_
                        case hy302 => exact Yl.move rfl rfl
                        refine' TL.y rfl rfl rfl ?hy303 ?_
                        case hy303 => exact Yl.move rfl rfl
                        refine' TL.c rfl rfl rfl ?hy304 ?_
                        case hy304 => exact Yc.call rfl Tryd.func19 (by kernel_rfl) rfl rfl (Hp.calls (fun w h => k_count w (h.all _ mem0)))
                        intro _
                        refine' TL.y rfl rfl rfl ?hy305 ?_
                        case hy305 => exact Yl.move rfl rfl
                        refine' TL.y rfl rfl rfl ?hy306 ?_
                        case hy306 => exact Yl.move rfl rfl
                        refine' TL.y rfl rfl rfl ?hy307 ?_
                        case hy307 => first | (refine Yl.val (Yl.bin rfl rfl rfl (Bin.add _ _ _ _)) (congrArg (Value.int .i64) (i64in ?_ ?_)) <;> omega) | exact Yl.bin rfl rfl rfl (Bin.add _ _ _ _)
                        refine' TL.y rfl rfl rfl ?hy308 ?_
                        case hy308 => exact Yl.bin rfl rfl rfl (Bin.eql _ _ _ _)
                        refine' TL.y rfl rfl rfl ?hy309 ?_
                        case hy309 => exact Yl.pickT rfl rfl rfl
                        refine' TL.y rfl rfl rfl ?hy310 ?_
                        case hy310 => exact Yl.assign rfl rfl
                        refine TL.nil ?_
                        refine TE.next ?_
                        refine TC.ret ?_
                        refine TE.ret1 rfl rfl ?_
                        exact fun w h => ⟨congrArg (fun b => Ending.returned (Value.bool b)) (by first | rfl | (simp_all <;> omega) : _ = true), h.below⟩
                      · skip
                        (try simp only [decide_eq_true_eq, decide_eq_false_iff_not, beq_iff_eq, beq_eq_false_iff_ne, bne_iff_ne, ne_eq, bne_eq_false_iff_eq, Bool.not_eq_true', Bool.not_eq_false', Int.not_lt, Int.not_le, gt_iff_lt, ge_iff_le] at hs117)
                        refine' TL.y rfl rfl rfl ?hy311 ?_
                        case hy311 => exact Yl.move rfl rfl
                        refine' TL.y rfl rfl rfl ?hy312 ?_
                        case hy312 => exact Yl.move rfl rfl
                        refine' TL.c rfl rfl rfl ?hy313 ?_
                        case hy313 => exact Yc.call rfl Tryd.func17 (by kernel_rfl) rfl rfl (Hp.calls (fun w h => k_get w (h.all _ mem0) other))
                        intro _
                        rw [sL4 f n i0 other on hs117]
                        refine' TL.y rfl rfl rfl ?hy314 ?_
                        case hy314 => exact Yl.move rfl rfl
                        refine' TL.y rfl rfl rfl ?hy315 ?_
                        case hy315 => exact Yl.bin rfl rfl rfl (Bin.eqlB _ _ _ (by kernel_rfl))
                        refine' TL.y rfl rfl rfl ?hy316 ?_
                        case hy316 => exact Yl.pickF rfl rfl rfl
                        refine' TL.y rfl rfl rfl ?hy317 ?_
                        case hy317 => exact Yl.pickT rfl rfl rfl
                        refine' TL.y rfl rfl rfl ?hy318 ?_
                        case hy318 => exact Yl.move rfl rfl
                        refine TL.re (i := 125) (v' := .bool true) rfl (congrArg Value.bool (by first | rfl | (simp_all <;> omega))) ?_
                        refine' TL.y rfl rfl rfl ?hy319 ?_
                        case hy319 => exact Yl.move rfl rfl
                        refine' TL.c rfl rfl rfl ?hy320 ?_
                        case hy320 => exact Yc.call rfl Tryd.func19 (by kernel_rfl) rfl rfl (Hp.calls (fun w h => k_count w (h.all _ mem0)))
                        intro _
                        refine' TL.y rfl rfl rfl ?hy321 ?_
                        case hy321 => exact Yl.move rfl rfl
                        refine' TL.y rfl rfl rfl ?hy322 ?_
                        case hy322 => exact Yl.move rfl rfl
                        refine' TL.y rfl rfl rfl ?hy323 ?_
                        case hy323 => first | (refine Yl.val (Yl.bin rfl rfl rfl (Bin.add _ _ _ _)) (congrArg (Value.int .i64) (i64in ?_ ?_)) <;> omega) | exact Yl.bin rfl rfl rfl (Bin.add _ _ _ _)
                        refine' TL.y rfl rfl rfl ?hy324 ?_
                        case hy324 => exact Yl.bin rfl rfl rfl (Bin.eql _ _ _ _)
                        refine' TL.y rfl rfl rfl ?hy325 ?_
                        case hy325 => exact Yl.pickT rfl rfl rfl
                        refine' TL.y rfl rfl rfl ?hy326 ?_
                        case hy326 => exact Yl.assign rfl rfl
                        refine TL.nil ?_
                        refine TE.next ?_
                        refine TC.ret ?_
                        refine TE.ret1 rfl rfl ?_
                        exact fun w h => ⟨congrArg (fun b => Ending.returned (Value.bool b)) (by first | rfl | (simp_all <;> omega) : _ = true), h.below⟩
                    · skip
                      (try simp only [decide_eq_true_eq, decide_eq_false_iff_not, beq_iff_eq, beq_eq_false_iff_ne, bne_iff_ne, ne_eq, bne_eq_false_iff_eq, Bool.not_eq_true', Bool.not_eq_false', Int.not_lt, Int.not_le, gt_iff_lt, ge_iff_le] at hs108)
                      refine TL.skip rfl rfl rfl ?_
                      refine' TL.y rfl rfl rfl ?hy327 ?_
                      case hy327 => exact Yl.pickF rfl rfl rfl
                      refine' TL.y rfl rfl rfl ?hy328 ?_
                      case hy328 => exact Yl.bin rfl rfl rfl (Bin.eqlB _ _ _ (by kernel_rfl))
                      refine' TL.y rfl rfl rfl ?hy329 ?_
                      case hy329 => exact Yl.pickT rfl rfl rfl
                      refine' TL.y rfl rfl rfl ?hy330 ?_
                      case hy330 => exact Yl.move rfl rfl
                      refine TL.re (i := 113) (v' := .bool true) rfl (congrArg Value.bool (by first | rfl | (simp_all <;> omega))) ?_
                      refine' TL.y rfl rfl rfl ?hy331 ?_
                      case hy331 => exact Yl.move rfl rfl
                      refine' TL.y rfl rfl rfl ?hy332 ?_
                      case hy332 => exact Yl.move rfl rfl
                      refine' TL.y rfl rfl rfl ?hy333 ?_
                      case hy333 => exact Yl.bin rfl rfl rfl (Bin.eql _ _ _ _)
                      refine' TL.y rfl rfl rfl ?hy334 ?_
                      case hy334 => exact Yl.move rfl rfl
                      refine TL.split (i := 117) rfl (fun hs117 => ?_) (fun hs117 => ?_)
                      · skip
                        (try simp only [decide_eq_true_eq, decide_eq_false_iff_not, beq_iff_eq, beq_eq_false_iff_ne, bne_iff_ne, ne_eq, bne_eq_false_iff_eq, Bool.not_eq_true', Bool.not_eq_false', Int.not_lt, Int.not_le, gt_iff_lt, ge_iff_le] at hs117)
                        refine TL.skip rfl rfl rfl ?_
                        refine TL.skip rfl rfl rfl ?_
                        refine TL.skip rfl rfl rfl ?_
                        refine TL.skip rfl rfl rfl ?_
                        refine TL.skip rfl rfl rfl ?_
                        refine' TL.y rfl rfl rfl ?hy335 ?_
                        case hy335 => exact Yl.pickT rfl rfl rfl
                        refine' TL.y rfl rfl rfl ?hy336 ?_
                        case hy336 => exact Yl.pickT rfl rfl rfl
                        refine' TL.y rfl rfl rfl ?hy337 ?_
                        case hy337 => exact Yl.move rfl rfl
                        refine' TL.y rfl rfl rfl ?hy338 ?_
                        case hy338 => exact Yl.move rfl rfl
                        refine' TL.c rfl rfl rfl ?hy339 ?_
                        case hy339 => exact Yc.call rfl Tryd.func19 (by kernel_rfl) rfl rfl (Hp.calls (fun w h => k_count w (h.all _ mem0)))
                        intro _
                        refine' TL.y rfl rfl rfl ?hy340 ?_
                        case hy340 => exact Yl.move rfl rfl
                        refine' TL.y rfl rfl rfl ?hy341 ?_
                        case hy341 => exact Yl.move rfl rfl
                        refine' TL.y rfl rfl rfl ?hy342 ?_
                        case hy342 => first | (refine Yl.val (Yl.bin rfl rfl rfl (Bin.add _ _ _ _)) (congrArg (Value.int .i64) (i64in ?_ ?_)) <;> omega) | exact Yl.bin rfl rfl rfl (Bin.add _ _ _ _)
                        refine' TL.y rfl rfl rfl ?hy343 ?_
                        case hy343 => exact Yl.bin rfl rfl rfl (Bin.eql _ _ _ _)
                        refine' TL.y rfl rfl rfl ?hy344 ?_
                        case hy344 => exact Yl.pickT rfl rfl rfl
                        refine' TL.y rfl rfl rfl ?hy345 ?_
                        case hy345 => exact Yl.assign rfl rfl
                        refine TL.nil ?_
                        refine TE.next ?_
                        refine TC.ret ?_
                        refine TE.ret1 rfl rfl ?_
                        exact fun w h => ⟨congrArg (fun b => Ending.returned (Value.bool b)) (by first | rfl | (simp_all <;> omega) : _ = true), h.below⟩
                      · skip
                        (try simp only [decide_eq_true_eq, decide_eq_false_iff_not, beq_iff_eq, beq_eq_false_iff_ne, bne_iff_ne, ne_eq, bne_eq_false_iff_eq, Bool.not_eq_true', Bool.not_eq_false', Int.not_lt, Int.not_le, gt_iff_lt, ge_iff_le] at hs117)
                        refine' TL.y rfl rfl rfl ?hy346 ?_
                        case hy346 => exact Yl.move rfl rfl
                        refine' TL.y rfl rfl rfl ?hy347 ?_
                        case hy347 => exact Yl.move rfl rfl
                        refine' TL.c rfl rfl rfl ?hy348 ?_
                        case hy348 => exact Yc.call rfl Tryd.func17 (by kernel_rfl) rfl rfl (Hp.calls (fun w h => k_get w (h.all _ mem0) other))
                        intro _
                        rw [sL4 f n i0 other on hs117]
                        refine' TL.y rfl rfl rfl ?hy349 ?_
                        case hy349 => exact Yl.move rfl rfl
                        refine' TL.y rfl rfl rfl ?hy350 ?_
                        case hy350 => exact Yl.bin rfl rfl rfl (Bin.eqlB _ _ _ (by kernel_rfl))
                        refine' TL.y rfl rfl rfl ?hy351 ?_
                        case hy351 => exact Yl.pickF rfl rfl rfl
                        refine' TL.y rfl rfl rfl ?hy352 ?_
                        case hy352 => exact Yl.pickT rfl rfl rfl
                        refine' TL.y rfl rfl rfl ?hy353 ?_
                        case hy353 => exact Yl.move rfl rfl
                        refine TL.re (i := 125) (v' := .bool true) rfl (congrArg Value.bool (by first | rfl | (simp_all <;> omega))) ?_
                        refine' TL.y rfl rfl rfl ?hy354 ?_
                        case hy354 => exact Yl.move rfl rfl
                        refine' TL.c rfl rfl rfl ?hy355 ?_
                        case hy355 => exact Yc.call rfl Tryd.func19 (by kernel_rfl) rfl rfl (Hp.calls (fun w h => k_count w (h.all _ mem0)))
                        intro _
                        refine' TL.y rfl rfl rfl ?hy356 ?_
                        case hy356 => exact Yl.move rfl rfl
                        refine' TL.y rfl rfl rfl ?hy357 ?_
                        case hy357 => exact Yl.move rfl rfl
                        refine' TL.y rfl rfl rfl ?hy358 ?_
                        case hy358 => first | (refine Yl.val (Yl.bin rfl rfl rfl (Bin.add _ _ _ _)) (congrArg (Value.int .i64) (i64in ?_ ?_)) <;> omega) | exact Yl.bin rfl rfl rfl (Bin.add _ _ _ _)
                        refine' TL.y rfl rfl rfl ?hy359 ?_
                        case hy359 => exact Yl.bin rfl rfl rfl (Bin.eql _ _ _ _)
                        refine' TL.y rfl rfl rfl ?hy360 ?_
                        case hy360 => exact Yl.pickT rfl rfl rfl
                        refine' TL.y rfl rfl rfl ?hy361 ?_
                        case hy361 => exact Yl.assign rfl rfl
                        refine TL.nil ?_
                        refine TE.next ?_
                        refine TC.ret ?_
                        refine TE.ret1 rfl rfl ?_
                        exact fun w h => ⟨congrArg (fun b => Ending.returned (Value.bool b)) (by first | rfl | (simp_all <;> omega) : _ = true), h.below⟩
                  · skip
                    (try simp only [decide_eq_true_eq, decide_eq_false_iff_not, beq_iff_eq, beq_eq_false_iff_ne, bne_iff_ne, ne_eq, bne_eq_false_iff_eq, Bool.not_eq_true', Bool.not_eq_false', Int.not_lt, Int.not_le, gt_iff_lt, ge_iff_le] at hs96)
                    refine TL.skip rfl rfl rfl ?_
                    refine TL.skip rfl rfl rfl ?_
                    refine TL.skip rfl rfl rfl ?_
                    refine' TL.y rfl rfl rfl ?hy362 ?_
                    case hy362 => exact Yl.pickF rfl rfl rfl
                    refine' TL.y rfl rfl rfl ?hy363 ?_
                    case hy363 => exact Yl.bin rfl rfl rfl (Bin.eqlB _ _ _ (by kernel_rfl))
                    refine' TL.y rfl rfl rfl ?hy364 ?_
                    case hy364 => exact Yl.pickT rfl rfl rfl
                    refine' TL.y rfl rfl rfl ?hy365 ?_
                    case hy365 => exact Yl.move rfl rfl
                    refine TL.re (i := 103) (v' := .bool true) rfl (congrArg Value.bool (by first | rfl | (simp_all <;> omega))) ?_
                    refine' TL.y rfl rfl rfl ?hy366 ?_
                    case hy366 => exact Yl.move rfl rfl
                    refine' TL.y rfl rfl rfl ?hy367 ?_
                    case hy367 => exact Yl.move rfl rfl
                    refine' TL.c rfl rfl rfl ?hy368 ?_
                    case hy368 => exact Yc.call rfl Tryd.func17 (by kernel_rfl) rfl rfl (Hp.calls (fun w h => k_get w (h.all _ mem0) i0))
                    intro _
                    rw [sL3]
                    refine' TL.y rfl rfl rfl ?hy369 ?_
                    case hy369 => exact Yl.move rfl rfl
                    refine' TL.y rfl rfl rfl ?hy370 ?_
                    case hy370 => exact Yl.move rfl rfl
                    refine TL.split (i := 108) rfl (fun hs108 => ?_) (fun hs108 => ?_)
                    · skip
                      (try simp only [decide_eq_true_eq, decide_eq_false_iff_not, beq_iff_eq, beq_eq_false_iff_ne, bne_iff_ne, ne_eq, bne_eq_false_iff_eq, Bool.not_eq_true', Bool.not_eq_false', Int.not_lt, Int.not_le, gt_iff_lt, ge_iff_le] at hs108)
                      refine' TL.y rfl rfl rfl ?hy371 ?_
                      case hy371 => exact Yl.move rfl rfl
                      refine' TL.y rfl rfl rfl ?hy372 ?_
                      case hy372 => exact Yl.pickT rfl rfl rfl
                      refine' TL.y rfl rfl rfl ?hy373 ?_
                      case hy373 => exact Yl.bin rfl rfl rfl (Bin.eqlB _ _ _ (by kernel_rfl))
                      refine' TL.y rfl rfl rfl ?hy374 ?_
                      case hy374 => exact Yl.pickT rfl rfl rfl
                      refine' TL.y rfl rfl rfl ?hy375 ?_
                      case hy375 => exact Yl.move rfl rfl
                      refine TL.re (i := 113) (v' := .bool true) rfl (congrArg Value.bool (by first | rfl | (simp_all <;> omega))) ?_
                      refine' TL.y rfl rfl rfl ?hy376 ?_
                      case hy376 => exact Yl.move rfl rfl
                      refine' TL.y rfl rfl rfl ?hy377 ?_
                      case hy377 => exact Yl.move rfl rfl
                      refine' TL.y rfl rfl rfl ?hy378 ?_
                      case hy378 => exact Yl.bin rfl rfl rfl (Bin.eql _ _ _ _)
                      refine' TL.y rfl rfl rfl ?hy379 ?_
                      case hy379 => exact Yl.move rfl rfl
                      refine TL.split (i := 117) rfl (fun hs117 => ?_) (fun hs117 => ?_)
                      · skip
                        (try simp only [decide_eq_true_eq, decide_eq_false_iff_not, beq_iff_eq, beq_eq_false_iff_ne, bne_iff_ne, ne_eq, bne_eq_false_iff_eq, Bool.not_eq_true', Bool.not_eq_false', Int.not_lt, Int.not_le, gt_iff_lt, ge_iff_le] at hs117)
                        refine TL.skip rfl rfl rfl ?_
                        refine TL.skip rfl rfl rfl ?_
                        refine TL.skip rfl rfl rfl ?_
                        refine TL.skip rfl rfl rfl ?_
                        refine TL.skip rfl rfl rfl ?_
                        refine' TL.y rfl rfl rfl ?hy380 ?_
                        case hy380 => exact Yl.pickT rfl rfl rfl
                        refine' TL.y rfl rfl rfl ?hy381 ?_
                        case hy381 => exact Yl.pickT rfl rfl rfl
                        refine' TL.y rfl rfl rfl ?hy382 ?_
                        case hy382 => exact Yl.move rfl rfl
                        refine' TL.y rfl rfl rfl ?hy383 ?_
                        case hy383 => exact Yl.move rfl rfl
                        refine' TL.c rfl rfl rfl ?hy384 ?_
                        case hy384 => exact Yc.call rfl Tryd.func19 (by kernel_rfl) rfl rfl (Hp.calls (fun w h => k_count w (h.all _ mem0)))
                        intro _
                        refine' TL.y rfl rfl rfl ?hy385 ?_
                        case hy385 => exact Yl.move rfl rfl
                        refine' TL.y rfl rfl rfl ?hy386 ?_
                        case hy386 => exact Yl.move rfl rfl
                        refine' TL.y rfl rfl rfl ?hy387 ?_
                        case hy387 => first | (refine Yl.val (Yl.bin rfl rfl rfl (Bin.add _ _ _ _)) (congrArg (Value.int .i64) (i64in ?_ ?_)) <;> omega) | exact Yl.bin rfl rfl rfl (Bin.add _ _ _ _)
                        refine' TL.y rfl rfl rfl ?hy388 ?_
                        case hy388 => exact Yl.bin rfl rfl rfl (Bin.eql _ _ _ _)
                        refine' TL.y rfl rfl rfl ?hy389 ?_
                        case hy389 => exact Yl.pickT rfl rfl rfl
                        refine' TL.y rfl rfl rfl ?hy390 ?_
                        case hy390 => exact Yl.assign rfl rfl
                        refine TL.nil ?_
                        refine TE.next ?_
                        refine TC.ret ?_
                        refine TE.ret1 rfl rfl ?_
                        exact fun w h => ⟨congrArg (fun b => Ending.returned (Value.bool b)) (by first | rfl | (simp_all <;> omega) : _ = true), h.below⟩
                      · skip
                        (try simp only [decide_eq_true_eq, decide_eq_false_iff_not, beq_iff_eq, beq_eq_false_iff_ne, bne_iff_ne, ne_eq, bne_eq_false_iff_eq, Bool.not_eq_true', Bool.not_eq_false', Int.not_lt, Int.not_le, gt_iff_lt, ge_iff_le] at hs117)
                        refine' TL.y rfl rfl rfl ?hy391 ?_
                        case hy391 => exact Yl.move rfl rfl
                        refine' TL.y rfl rfl rfl ?hy392 ?_
                        case hy392 => exact Yl.move rfl rfl
                        refine' TL.c rfl rfl rfl ?hy393 ?_
                        case hy393 => exact Yc.call rfl Tryd.func17 (by kernel_rfl) rfl rfl (Hp.calls (fun w h => k_get w (h.all _ mem0) other))
                        intro _
                        rw [sL4 f n i0 other on hs117]
                        refine' TL.y rfl rfl rfl ?hy394 ?_
                        case hy394 => exact Yl.move rfl rfl
                        refine' TL.y rfl rfl rfl ?hy395 ?_
                        case hy395 => exact Yl.bin rfl rfl rfl (Bin.eqlB _ _ _ (by kernel_rfl))
                        refine' TL.y rfl rfl rfl ?hy396 ?_
                        case hy396 => exact Yl.pickF rfl rfl rfl
                        refine' TL.y rfl rfl rfl ?hy397 ?_
                        case hy397 => exact Yl.pickT rfl rfl rfl
                        refine' TL.y rfl rfl rfl ?hy398 ?_
                        case hy398 => exact Yl.move rfl rfl
                        refine TL.re (i := 125) (v' := .bool true) rfl (congrArg Value.bool (by first | rfl | (simp_all <;> omega))) ?_
                        refine' TL.y rfl rfl rfl ?hy399 ?_
                        case hy399 => exact Yl.move rfl rfl
                        refine' TL.c rfl rfl rfl ?hy400 ?_
                        case hy400 => exact Yc.call rfl Tryd.func19 (by kernel_rfl) rfl rfl (Hp.calls (fun w h => k_count w (h.all _ mem0)))
                        intro _
                        refine' TL.y rfl rfl rfl ?hy401 ?_
                        case hy401 => exact Yl.move rfl rfl
                        refine' TL.y rfl rfl rfl ?hy402 ?_
                        case hy402 => exact Yl.move rfl rfl
                        refine' TL.y rfl rfl rfl ?hy403 ?_
                        case hy403 => first | (refine Yl.val (Yl.bin rfl rfl rfl (Bin.add _ _ _ _)) (congrArg (Value.int .i64) (i64in ?_ ?_)) <;> omega) | exact Yl.bin rfl rfl rfl (Bin.add _ _ _ _)
                        refine' TL.y rfl rfl rfl ?hy404 ?_
                        case hy404 => exact Yl.bin rfl rfl rfl (Bin.eql _ _ _ _)
                        refine' TL.y rfl rfl rfl ?hy405 ?_
                        case hy405 => exact Yl.pickT rfl rfl rfl
                        refine' TL.y rfl rfl rfl ?hy406 ?_
                        case hy406 => exact Yl.assign rfl rfl
                        refine TL.nil ?_
                        refine TE.next ?_
                        refine TC.ret ?_
                        refine TE.ret1 rfl rfl ?_
                        exact fun w h => ⟨congrArg (fun b => Ending.returned (Value.bool b)) (by first | rfl | (simp_all <;> omega) : _ = true), h.below⟩
                    · skip
                      (try simp only [decide_eq_true_eq, decide_eq_false_iff_not, beq_iff_eq, beq_eq_false_iff_ne, bne_iff_ne, ne_eq, bne_eq_false_iff_eq, Bool.not_eq_true', Bool.not_eq_false', Int.not_lt, Int.not_le, gt_iff_lt, ge_iff_le] at hs108)
                      refine TL.skip rfl rfl rfl ?_
                      refine' TL.y rfl rfl rfl ?hy407 ?_
                      case hy407 => exact Yl.pickF rfl rfl rfl
                      refine' TL.y rfl rfl rfl ?hy408 ?_
                      case hy408 => exact Yl.bin rfl rfl rfl (Bin.eqlB _ _ _ (by kernel_rfl))
                      refine' TL.y rfl rfl rfl ?hy409 ?_
                      case hy409 => exact Yl.pickT rfl rfl rfl
                      refine' TL.y rfl rfl rfl ?hy410 ?_
                      case hy410 => exact Yl.move rfl rfl
                      refine TL.re (i := 113) (v' := .bool true) rfl (congrArg Value.bool (by first | rfl | (simp_all <;> omega))) ?_
                      refine' TL.y rfl rfl rfl ?hy411 ?_
                      case hy411 => exact Yl.move rfl rfl
                      refine' TL.y rfl rfl rfl ?hy412 ?_
                      case hy412 => exact Yl.move rfl rfl
                      refine' TL.y rfl rfl rfl ?hy413 ?_
                      case hy413 => exact Yl.bin rfl rfl rfl (Bin.eql _ _ _ _)
                      refine' TL.y rfl rfl rfl ?hy414 ?_
                      case hy414 => exact Yl.move rfl rfl
                      refine TL.split (i := 117) rfl (fun hs117 => ?_) (fun hs117 => ?_)
                      · skip
                        (try simp only [decide_eq_true_eq, decide_eq_false_iff_not, beq_iff_eq, beq_eq_false_iff_ne, bne_iff_ne, ne_eq, bne_eq_false_iff_eq, Bool.not_eq_true', Bool.not_eq_false', Int.not_lt, Int.not_le, gt_iff_lt, ge_iff_le] at hs117)
                        refine TL.skip rfl rfl rfl ?_
                        refine TL.skip rfl rfl rfl ?_
                        refine TL.skip rfl rfl rfl ?_
                        refine TL.skip rfl rfl rfl ?_
                        refine TL.skip rfl rfl rfl ?_
                        refine' TL.y rfl rfl rfl ?hy415 ?_
                        case hy415 => exact Yl.pickT rfl rfl rfl
                        refine' TL.y rfl rfl rfl ?hy416 ?_
                        case hy416 => exact Yl.pickT rfl rfl rfl
                        refine' TL.y rfl rfl rfl ?hy417 ?_
                        case hy417 => exact Yl.move rfl rfl
                        refine' TL.y rfl rfl rfl ?hy418 ?_
                        case hy418 => exact Yl.move rfl rfl
                        refine' TL.c rfl rfl rfl ?hy419 ?_
                        case hy419 => exact Yc.call rfl Tryd.func19 (by kernel_rfl) rfl rfl (Hp.calls (fun w h => k_count w (h.all _ mem0)))
                        intro _
                        refine' TL.y rfl rfl rfl ?hy420 ?_
                        case hy420 => exact Yl.move rfl rfl
                        refine' TL.y rfl rfl rfl ?hy421 ?_
                        case hy421 => exact Yl.move rfl rfl
                        refine' TL.y rfl rfl rfl ?hy422 ?_
                        case hy422 => first | (refine Yl.val (Yl.bin rfl rfl rfl (Bin.add _ _ _ _)) (congrArg (Value.int .i64) (i64in ?_ ?_)) <;> omega) | exact Yl.bin rfl rfl rfl (Bin.add _ _ _ _)
                        refine' TL.y rfl rfl rfl ?hy423 ?_
                        case hy423 => exact Yl.bin rfl rfl rfl (Bin.eql _ _ _ _)
                        refine' TL.y rfl rfl rfl ?hy424 ?_
                        case hy424 => exact Yl.pickT rfl rfl rfl
                        refine' TL.y rfl rfl rfl ?hy425 ?_
                        case hy425 => exact Yl.assign rfl rfl
                        refine TL.nil ?_
                        refine TE.next ?_
                        refine TC.ret ?_
                        refine TE.ret1 rfl rfl ?_
                        exact fun w h => ⟨congrArg (fun b => Ending.returned (Value.bool b)) (by first | rfl | (simp_all <;> omega) : _ = true), h.below⟩
                      · skip
                        (try simp only [decide_eq_true_eq, decide_eq_false_iff_not, beq_iff_eq, beq_eq_false_iff_ne, bne_iff_ne, ne_eq, bne_eq_false_iff_eq, Bool.not_eq_true', Bool.not_eq_false', Int.not_lt, Int.not_le, gt_iff_lt, ge_iff_le] at hs117)
                        refine' TL.y rfl rfl rfl ?hy426 ?_
                        case hy426 => exact Yl.move rfl rfl
                        refine' TL.y rfl rfl rfl ?hy427 ?_
                        case hy427 => exact Yl.move rfl rfl
                        refine' TL.c rfl rfl rfl ?hy428 ?_
                        case hy428 => exact Yc.call rfl Tryd.func17 (by kernel_rfl) rfl rfl (Hp.calls (fun w h => k_get w (h.all _ mem0) other))
                        intro _
                        rw [sL4 f n i0 other on hs117]
                        refine' TL.y rfl rfl rfl ?hy429 ?_
                        case hy429 => exact Yl.move rfl rfl
                        refine' TL.y rfl rfl rfl ?hy430 ?_
                        case hy430 => exact Yl.bin rfl rfl rfl (Bin.eqlB _ _ _ (by kernel_rfl))
                        refine' TL.y rfl rfl rfl ?hy431 ?_
                        case hy431 => exact Yl.pickF rfl rfl rfl
                        refine' TL.y rfl rfl rfl ?hy432 ?_
                        case hy432 => exact Yl.pickT rfl rfl rfl
                        refine' TL.y rfl rfl rfl ?hy433 ?_
                        case hy433 => exact Yl.move rfl rfl
                        refine TL.re (i := 125) (v' := .bool true) rfl (congrArg Value.bool (by first | rfl | (simp_all <;> omega))) ?_
                        refine' TL.y rfl rfl rfl ?hy434 ?_
                        case hy434 => exact Yl.move rfl rfl
                        refine' TL.c rfl rfl rfl ?hy435 ?_
                        case hy435 => exact Yc.call rfl Tryd.func19 (by kernel_rfl) rfl rfl (Hp.calls (fun w h => k_count w (h.all _ mem0)))
                        intro _
                        refine' TL.y rfl rfl rfl ?hy436 ?_
                        case hy436 => exact Yl.move rfl rfl
                        refine' TL.y rfl rfl rfl ?hy437 ?_
                        case hy437 => exact Yl.move rfl rfl
                        refine' TL.y rfl rfl rfl ?hy438 ?_
                        case hy438 => first | (refine Yl.val (Yl.bin rfl rfl rfl (Bin.add _ _ _ _)) (congrArg (Value.int .i64) (i64in ?_ ?_)) <;> omega) | exact Yl.bin rfl rfl rfl (Bin.add _ _ _ _)
                        refine' TL.y rfl rfl rfl ?hy439 ?_
                        case hy439 => exact Yl.bin rfl rfl rfl (Bin.eql _ _ _ _)
                        refine' TL.y rfl rfl rfl ?hy440 ?_
                        case hy440 => exact Yl.pickT rfl rfl rfl
                        refine' TL.y rfl rfl rfl ?hy441 ?_
                        case hy441 => exact Yl.assign rfl rfl
                        refine TL.nil ?_
                        refine TE.next ?_
                        refine TC.ret ?_
                        refine TE.ret1 rfl rfl ?_
                        exact fun w h => ⟨congrArg (fun b => Ending.returned (Value.bool b)) (by first | rfl | (simp_all <;> omega) : _ = true), h.below⟩
              · skip
                (try simp only [decide_eq_true_eq, decide_eq_false_iff_not, beq_iff_eq, beq_eq_false_iff_ne, bne_iff_ne, ne_eq, bne_eq_false_iff_eq, Bool.not_eq_true', Bool.not_eq_false', Int.not_lt, Int.not_le, gt_iff_lt, ge_iff_le] at hs80)
                refine TL.skip rfl rfl rfl ?_
                refine' TL.y rfl rfl rfl ?hy442 ?_
                case hy442 => exact Yl.pickF rfl rfl rfl
                refine TL.nil ?_
                refine TE.next ?_
                refine TC.no rfl rfl ?_
                refine TC.skip ?_
                refine TE.next ?_
                refine TC.seq ?_
                refine TC.seq ?_
                refine TC.region ?_
                refine' TL.y rfl rfl rfl ?hy443 ?_
                case hy443 => exact Yl.move rfl rfl
                refine' TL.y rfl rfl rfl ?hy444 ?_
                case hy444 => exact Yl.move rfl rfl
                refine TL.re (i := 84) (v' := .bool false) rfl (congrArg Value.bool (hs80)) ?_
                refine TL.skip rfl rfl rfl ?_
                refine TL.skip rfl rfl rfl ?_
                refine' TL.y rfl rfl rfl ?hy445 ?_
                case hy445 => exact Yl.pickF rfl rfl rfl
                refine TL.nil ?_
                refine TE.next ?_
                refine TC.no rfl rfl ?_
                refine TC.skip ?_
                refine TE.next ?_
                refine TC.seq ?_
                refine TC.region ?_
                refine' TL.y rfl rfl rfl ?hy446 ?_
                case hy446 => exact Yl.move rfl rfl
                refine' TL.y rfl rfl rfl ?hy447 ?_
                case hy447 => exact Yl.move rfl rfl
                refine' TL.y rfl rfl rfl ?hy448 ?_
                case hy448 => exact Yl.move rfl rfl
                refine' TL.y rfl rfl rfl ?hy449 ?_
                case hy449 => exact Yl.not rfl rfl
                refine' TL.y rfl rfl rfl ?hy450 ?_
                case hy450 => exact Yl.pickT rfl rfl rfl
                refine' TL.y rfl rfl rfl ?hy451 ?_
                case hy451 => exact Yl.move rfl rfl
                refine TL.re (i := 93) (v' := .bool true) rfl (congrArg Value.bool (by first | rfl | (simp_all <;> omega))) ?_
                refine' TL.y rfl rfl rfl ?hy452 ?_
                case hy452 => exact Yl.move rfl rfl
                refine' TL.y rfl rfl rfl ?hy453 ?_
                case hy453 => exact Yl.move rfl rfl
                refine' TL.y rfl rfl rfl ?hy454 ?_
                case hy454 => exact Yl.move rfl rfl
                refine TL.split (i := 96) rfl (fun hs96 => ?_) (fun hs96 => ?_)
                · skip
                  (try simp only [decide_eq_true_eq, decide_eq_false_iff_not, beq_iff_eq, beq_eq_false_iff_ne, bne_iff_ne, ne_eq, bne_eq_false_iff_eq, Bool.not_eq_true', Bool.not_eq_false', Int.not_lt, Int.not_le, gt_iff_lt, ge_iff_le] at hs96)
                  refine' TL.y rfl rfl rfl ?hy455 ?_
                  case hy455 => exact Yl.move rfl rfl
                  refine' TL.y rfl rfl rfl ?hy456 ?_
                  case hy456 => exact Yl.move rfl rfl
                  refine' TL.y rfl rfl rfl ?hy457 ?_
                  case hy457 => exact Yl.bin rfl rfl rfl (Bin.neqB _ _ _ (by kernel_rfl))
                  refine' TL.y rfl rfl rfl ?hy458 ?_
                  case hy458 => exact Yl.pickT rfl rfl rfl
                  refine' TL.y rfl rfl rfl ?hy459 ?_
                  case hy459 => exact Yl.bin rfl rfl rfl (Bin.eqlB _ _ _ (by kernel_rfl))
                  refine' TL.y rfl rfl rfl ?hy460 ?_
                  case hy460 => exact Yl.pickT rfl rfl rfl
                  refine' TL.y rfl rfl rfl ?hy461 ?_
                  case hy461 => exact Yl.move rfl rfl
                  refine TL.re (i := 103) (v' := .bool true) rfl (congrArg Value.bool (by first | rfl | (simp_all <;> omega))) ?_
                  refine' TL.y rfl rfl rfl ?hy462 ?_
                  case hy462 => exact Yl.move rfl rfl
                  refine' TL.y rfl rfl rfl ?hy463 ?_
                  case hy463 => exact Yl.move rfl rfl
                  refine' TL.c rfl rfl rfl ?hy464 ?_
                  case hy464 => exact Yc.call rfl Tryd.func17 (by kernel_rfl) rfl rfl (Hp.calls (fun w h => k_get w (h.all _ mem0) i0))
                  intro _
                  rw [sL3]
                  refine' TL.y rfl rfl rfl ?hy465 ?_
                  case hy465 => exact Yl.move rfl rfl
                  refine' TL.y rfl rfl rfl ?hy466 ?_
                  case hy466 => exact Yl.move rfl rfl
                  refine TL.split (i := 108) rfl (fun hs108 => ?_) (fun hs108 => ?_)
                  · skip
                    (try simp only [decide_eq_true_eq, decide_eq_false_iff_not, beq_iff_eq, beq_eq_false_iff_ne, bne_iff_ne, ne_eq, bne_eq_false_iff_eq, Bool.not_eq_true', Bool.not_eq_false', Int.not_lt, Int.not_le, gt_iff_lt, ge_iff_le] at hs108)
                    refine' TL.y rfl rfl rfl ?hy467 ?_
                    case hy467 => exact Yl.move rfl rfl
                    refine' TL.y rfl rfl rfl ?hy468 ?_
                    case hy468 => exact Yl.pickT rfl rfl rfl
                    refine' TL.y rfl rfl rfl ?hy469 ?_
                    case hy469 => exact Yl.bin rfl rfl rfl (Bin.eqlB _ _ _ (by kernel_rfl))
                    refine' TL.y rfl rfl rfl ?hy470 ?_
                    case hy470 => exact Yl.pickT rfl rfl rfl
                    refine' TL.y rfl rfl rfl ?hy471 ?_
                    case hy471 => exact Yl.move rfl rfl
                    refine TL.re (i := 113) (v' := .bool true) rfl (congrArg Value.bool (by first | rfl | (simp_all <;> omega))) ?_
                    refine' TL.y rfl rfl rfl ?hy472 ?_
                    case hy472 => exact Yl.move rfl rfl
                    refine' TL.y rfl rfl rfl ?hy473 ?_
                    case hy473 => exact Yl.move rfl rfl
                    refine' TL.y rfl rfl rfl ?hy474 ?_
                    case hy474 => exact Yl.bin rfl rfl rfl (Bin.eql _ _ _ _)
                    refine' TL.y rfl rfl rfl ?hy475 ?_
                    case hy475 => exact Yl.move rfl rfl
                    refine TL.split (i := 117) rfl (fun hs117 => ?_) (fun hs117 => ?_)
                    · skip
                      (try simp only [decide_eq_true_eq, decide_eq_false_iff_not, beq_iff_eq, beq_eq_false_iff_ne, bne_iff_ne, ne_eq, bne_eq_false_iff_eq, Bool.not_eq_true', Bool.not_eq_false', Int.not_lt, Int.not_le, gt_iff_lt, ge_iff_le] at hs117)
                      refine TL.skip rfl rfl rfl ?_
                      refine TL.skip rfl rfl rfl ?_
                      refine TL.skip rfl rfl rfl ?_
                      refine TL.skip rfl rfl rfl ?_
                      refine TL.skip rfl rfl rfl ?_
                      refine' TL.y rfl rfl rfl ?hy476 ?_
                      case hy476 => exact Yl.pickT rfl rfl rfl
                      refine' TL.y rfl rfl rfl ?hy477 ?_
                      case hy477 => exact Yl.pickT rfl rfl rfl
                      refine' TL.y rfl rfl rfl ?hy478 ?_
                      case hy478 => exact Yl.move rfl rfl
                      refine' TL.y rfl rfl rfl ?hy479 ?_
                      case hy479 => exact Yl.move rfl rfl
                      refine' TL.c rfl rfl rfl ?hy480 ?_
                      case hy480 => exact Yc.call rfl Tryd.func19 (by kernel_rfl) rfl rfl (Hp.calls (fun w h => k_count w (h.all _ mem0)))
                      intro _
                      refine' TL.y rfl rfl rfl ?hy481 ?_
                      case hy481 => exact Yl.move rfl rfl
                      refine' TL.y rfl rfl rfl ?hy482 ?_
                      case hy482 => exact Yl.move rfl rfl
                      refine' TL.y rfl rfl rfl ?hy483 ?_
                      case hy483 => first | (refine Yl.val (Yl.bin rfl rfl rfl (Bin.add _ _ _ _)) (congrArg (Value.int .i64) (i64in ?_ ?_)) <;> omega) | exact Yl.bin rfl rfl rfl (Bin.add _ _ _ _)
                      refine' TL.y rfl rfl rfl ?hy484 ?_
                      case hy484 => exact Yl.bin rfl rfl rfl (Bin.eql _ _ _ _)
                      refine' TL.y rfl rfl rfl ?hy485 ?_
                      case hy485 => exact Yl.pickT rfl rfl rfl
                      refine' TL.y rfl rfl rfl ?hy486 ?_
                      case hy486 => exact Yl.assign rfl rfl
                      refine TL.nil ?_
                      refine TE.next ?_
                      refine TC.ret ?_
                      refine TE.ret1 rfl rfl ?_
                      exact fun w h => ⟨congrArg (fun b => Ending.returned (Value.bool b)) (by first | rfl | (simp_all <;> omega) : _ = true), h.below⟩
                    · skip
                      (try simp only [decide_eq_true_eq, decide_eq_false_iff_not, beq_iff_eq, beq_eq_false_iff_ne, bne_iff_ne, ne_eq, bne_eq_false_iff_eq, Bool.not_eq_true', Bool.not_eq_false', Int.not_lt, Int.not_le, gt_iff_lt, ge_iff_le] at hs117)
                      refine' TL.y rfl rfl rfl ?hy487 ?_
                      case hy487 => exact Yl.move rfl rfl
                      refine' TL.y rfl rfl rfl ?hy488 ?_
                      case hy488 => exact Yl.move rfl rfl
                      refine' TL.c rfl rfl rfl ?hy489 ?_
                      case hy489 => exact Yc.call rfl Tryd.func17 (by kernel_rfl) rfl rfl (Hp.calls (fun w h => k_get w (h.all _ mem0) other))
                      intro _
                      rw [sL4 f n i0 other on hs117]
                      refine' TL.y rfl rfl rfl ?hy490 ?_
                      case hy490 => exact Yl.move rfl rfl
                      refine' TL.y rfl rfl rfl ?hy491 ?_
                      case hy491 => exact Yl.bin rfl rfl rfl (Bin.eqlB _ _ _ (by kernel_rfl))
                      refine' TL.y rfl rfl rfl ?hy492 ?_
                      case hy492 => exact Yl.pickF rfl rfl rfl
                      refine' TL.y rfl rfl rfl ?hy493 ?_
                      case hy493 => exact Yl.pickT rfl rfl rfl
                      refine' TL.y rfl rfl rfl ?hy494 ?_
                      case hy494 => exact Yl.move rfl rfl
                      refine TL.re (i := 125) (v' := .bool true) rfl (congrArg Value.bool (by first | rfl | (simp_all <;> omega))) ?_
                      refine' TL.y rfl rfl rfl ?hy495 ?_
                      case hy495 => exact Yl.move rfl rfl
                      refine' TL.c rfl rfl rfl ?hy496 ?_
                      case hy496 => exact Yc.call rfl Tryd.func19 (by kernel_rfl) rfl rfl (Hp.calls (fun w h => k_count w (h.all _ mem0)))
                      intro _
                      refine' TL.y rfl rfl rfl ?hy497 ?_
                      case hy497 => exact Yl.move rfl rfl
                      refine' TL.y rfl rfl rfl ?hy498 ?_
                      case hy498 => exact Yl.move rfl rfl
                      refine' TL.y rfl rfl rfl ?hy499 ?_
                      case hy499 => first | (refine Yl.val (Yl.bin rfl rfl rfl (Bin.add _ _ _ _)) (congrArg (Value.int .i64) (i64in ?_ ?_)) <;> omega) | exact Yl.bin rfl rfl rfl (Bin.add _ _ _ _)
                      refine' TL.y rfl rfl rfl ?hy500 ?_
                      case hy500 => exact Yl.bin rfl rfl rfl (Bin.eql _ _ _ _)
                      refine' TL.y rfl rfl rfl ?hy501 ?_
                      case hy501 => exact Yl.pickT rfl rfl rfl
                      refine' TL.y rfl rfl rfl ?hy502 ?_
                      case hy502 => exact Yl.assign rfl rfl
                      refine TL.nil ?_
                      refine TE.next ?_
                      refine TC.ret ?_
                      refine TE.ret1 rfl rfl ?_
                      exact fun w h => ⟨congrArg (fun b => Ending.returned (Value.bool b)) (by first | rfl | (simp_all <;> omega) : _ = true), h.below⟩
                  · skip
                    (try simp only [decide_eq_true_eq, decide_eq_false_iff_not, beq_iff_eq, beq_eq_false_iff_ne, bne_iff_ne, ne_eq, bne_eq_false_iff_eq, Bool.not_eq_true', Bool.not_eq_false', Int.not_lt, Int.not_le, gt_iff_lt, ge_iff_le] at hs108)
                    refine TL.skip rfl rfl rfl ?_
                    refine' TL.y rfl rfl rfl ?hy503 ?_
                    case hy503 => exact Yl.pickF rfl rfl rfl
                    refine' TL.y rfl rfl rfl ?hy504 ?_
                    case hy504 => exact Yl.bin rfl rfl rfl (Bin.eqlB _ _ _ (by kernel_rfl))
                    refine' TL.y rfl rfl rfl ?hy505 ?_
                    case hy505 => exact Yl.pickT rfl rfl rfl
                    refine' TL.y rfl rfl rfl ?hy506 ?_
                    case hy506 => exact Yl.move rfl rfl
                    refine TL.re (i := 113) (v' := .bool true) rfl (congrArg Value.bool (by first | rfl | (simp_all <;> omega))) ?_
                    refine' TL.y rfl rfl rfl ?hy507 ?_
                    case hy507 => exact Yl.move rfl rfl
                    refine' TL.y rfl rfl rfl ?hy508 ?_
                    case hy508 => exact Yl.move rfl rfl
                    refine' TL.y rfl rfl rfl ?hy509 ?_
                    case hy509 => exact Yl.bin rfl rfl rfl (Bin.eql _ _ _ _)
                    refine' TL.y rfl rfl rfl ?hy510 ?_
                    case hy510 => exact Yl.move rfl rfl
                    refine TL.split (i := 117) rfl (fun hs117 => ?_) (fun hs117 => ?_)
                    · skip
                      (try simp only [decide_eq_true_eq, decide_eq_false_iff_not, beq_iff_eq, beq_eq_false_iff_ne, bne_iff_ne, ne_eq, bne_eq_false_iff_eq, Bool.not_eq_true', Bool.not_eq_false', Int.not_lt, Int.not_le, gt_iff_lt, ge_iff_le] at hs117)
                      refine TL.skip rfl rfl rfl ?_
                      refine TL.skip rfl rfl rfl ?_
                      refine TL.skip rfl rfl rfl ?_
                      refine TL.skip rfl rfl rfl ?_
                      refine TL.skip rfl rfl rfl ?_
                      refine' TL.y rfl rfl rfl ?hy511 ?_
                      case hy511 => exact Yl.pickT rfl rfl rfl
                      refine' TL.y rfl rfl rfl ?hy512 ?_
                      case hy512 => exact Yl.pickT rfl rfl rfl
                      refine' TL.y rfl rfl rfl ?hy513 ?_
                      case hy513 => exact Yl.move rfl rfl
                      refine' TL.y rfl rfl rfl ?hy514 ?_
                      case hy514 => exact Yl.move rfl rfl
                      refine' TL.c rfl rfl rfl ?hy515 ?_
                      case hy515 => exact Yc.call rfl Tryd.func19 (by kernel_rfl) rfl rfl (Hp.calls (fun w h => k_count w (h.all _ mem0)))
                      intro _
                      refine' TL.y rfl rfl rfl ?hy516 ?_
                      case hy516 => exact Yl.move rfl rfl
                      refine' TL.y rfl rfl rfl ?hy517 ?_
                      case hy517 => exact Yl.move rfl rfl
                      refine' TL.y rfl rfl rfl ?hy518 ?_
                      case hy518 => first | (refine Yl.val (Yl.bin rfl rfl rfl (Bin.add _ _ _ _)) (congrArg (Value.int .i64) (i64in ?_ ?_)) <;> omega) | exact Yl.bin rfl rfl rfl (Bin.add _ _ _ _)
                      refine' TL.y rfl rfl rfl ?hy519 ?_
                      case hy519 => exact Yl.bin rfl rfl rfl (Bin.eql _ _ _ _)
                      refine' TL.y rfl rfl rfl ?hy520 ?_
                      case hy520 => exact Yl.pickT rfl rfl rfl
                      refine' TL.y rfl rfl rfl ?hy521 ?_
                      case hy521 => exact Yl.assign rfl rfl
                      refine TL.nil ?_
                      refine TE.next ?_
                      refine TC.ret ?_
                      refine TE.ret1 rfl rfl ?_
                      exact fun w h => ⟨congrArg (fun b => Ending.returned (Value.bool b)) (by first | rfl | (simp_all <;> omega) : _ = true), h.below⟩
                    · skip
                      (try simp only [decide_eq_true_eq, decide_eq_false_iff_not, beq_iff_eq, beq_eq_false_iff_ne, bne_iff_ne, ne_eq, bne_eq_false_iff_eq, Bool.not_eq_true', Bool.not_eq_false', Int.not_lt, Int.not_le, gt_iff_lt, ge_iff_le] at hs117)
                      refine' TL.y rfl rfl rfl ?hy522 ?_
                      case hy522 => exact Yl.move rfl rfl
                      refine' TL.y rfl rfl rfl ?hy523 ?_
                      case hy523 => exact Yl.move rfl rfl
                      refine' TL.c rfl rfl rfl ?hy524 ?_
                      case hy524 => exact Yc.call rfl Tryd.func17 (by kernel_rfl) rfl rfl (Hp.calls (fun w h => k_get w (h.all _ mem0) other))
                      intro _
                      rw [sL4 f n i0 other on hs117]
                      refine' TL.y rfl rfl rfl ?hy525 ?_
                      case hy525 => exact Yl.move rfl rfl
                      refine' TL.y rfl rfl rfl ?hy526 ?_
                      case hy526 => exact Yl.bin rfl rfl rfl (Bin.eqlB _ _ _ (by kernel_rfl))
                      refine' TL.y rfl rfl rfl ?hy527 ?_
                      case hy527 => exact Yl.pickF rfl rfl rfl
                      refine' TL.y rfl rfl rfl ?hy528 ?_
                      case hy528 => exact Yl.pickT rfl rfl rfl
                      refine' TL.y rfl rfl rfl ?hy529 ?_
                      case hy529 => exact Yl.move rfl rfl
                      refine TL.re (i := 125) (v' := .bool true) rfl (congrArg Value.bool (by first | rfl | (simp_all <;> omega))) ?_
                      refine' TL.y rfl rfl rfl ?hy530 ?_
                      case hy530 => exact Yl.move rfl rfl
                      refine' TL.c rfl rfl rfl ?hy531 ?_
                      case hy531 => exact Yc.call rfl Tryd.func19 (by kernel_rfl) rfl rfl (Hp.calls (fun w h => k_count w (h.all _ mem0)))
                      intro _
                      refine' TL.y rfl rfl rfl ?hy532 ?_
                      case hy532 => exact Yl.move rfl rfl
                      refine' TL.y rfl rfl rfl ?hy533 ?_
                      case hy533 => exact Yl.move rfl rfl
                      refine' TL.y rfl rfl rfl ?hy534 ?_
                      case hy534 => first | (refine Yl.val (Yl.bin rfl rfl rfl (Bin.add _ _ _ _)) (congrArg (Value.int .i64) (i64in ?_ ?_)) <;> omega) | exact Yl.bin rfl rfl rfl (Bin.add _ _ _ _)
                      refine' TL.y rfl rfl rfl ?hy535 ?_
                      case hy535 => exact Yl.bin rfl rfl rfl (Bin.eql _ _ _ _)
                      refine' TL.y rfl rfl rfl ?hy536 ?_
                      case hy536 => exact Yl.pickT rfl rfl rfl
                      refine' TL.y rfl rfl rfl ?hy537 ?_
                      case hy537 => exact Yl.assign rfl rfl
                      refine TL.nil ?_
                      refine TE.next ?_
                      refine TC.ret ?_
                      refine TE.ret1 rfl rfl ?_
                      exact fun w h => ⟨congrArg (fun b => Ending.returned (Value.bool b)) (by first | rfl | (simp_all <;> omega) : _ = true), h.below⟩
                · skip
                  (try simp only [decide_eq_true_eq, decide_eq_false_iff_not, beq_iff_eq, beq_eq_false_iff_ne, bne_iff_ne, ne_eq, bne_eq_false_iff_eq, Bool.not_eq_true', Bool.not_eq_false', Int.not_lt, Int.not_le, gt_iff_lt, ge_iff_le] at hs96)
                  refine TL.skip rfl rfl rfl ?_
                  refine TL.skip rfl rfl rfl ?_
                  refine TL.skip rfl rfl rfl ?_
                  refine' TL.y rfl rfl rfl ?hy538 ?_
                  case hy538 => exact Yl.pickF rfl rfl rfl
                  refine' TL.y rfl rfl rfl ?hy539 ?_
                  case hy539 => exact Yl.bin rfl rfl rfl (Bin.eqlB _ _ _ (by kernel_rfl))
                  refine' TL.y rfl rfl rfl ?hy540 ?_
                  case hy540 => exact Yl.pickT rfl rfl rfl
                  refine' TL.y rfl rfl rfl ?hy541 ?_
                  case hy541 => exact Yl.move rfl rfl
                  refine TL.re (i := 103) (v' := .bool true) rfl (congrArg Value.bool (by first | rfl | (simp_all <;> omega))) ?_
                  refine' TL.y rfl rfl rfl ?hy542 ?_
                  case hy542 => exact Yl.move rfl rfl
                  refine' TL.y rfl rfl rfl ?hy543 ?_
                  case hy543 => exact Yl.move rfl rfl
                  refine' TL.c rfl rfl rfl ?hy544 ?_
                  case hy544 => exact Yc.call rfl Tryd.func17 (by kernel_rfl) rfl rfl (Hp.calls (fun w h => k_get w (h.all _ mem0) i0))
                  intro _
                  rw [sL3]
                  refine' TL.y rfl rfl rfl ?hy545 ?_
                  case hy545 => exact Yl.move rfl rfl
                  refine' TL.y rfl rfl rfl ?hy546 ?_
                  case hy546 => exact Yl.move rfl rfl
                  refine TL.split (i := 108) rfl (fun hs108 => ?_) (fun hs108 => ?_)
                  · skip
                    (try simp only [decide_eq_true_eq, decide_eq_false_iff_not, beq_iff_eq, beq_eq_false_iff_ne, bne_iff_ne, ne_eq, bne_eq_false_iff_eq, Bool.not_eq_true', Bool.not_eq_false', Int.not_lt, Int.not_le, gt_iff_lt, ge_iff_le] at hs108)
                    refine' TL.y rfl rfl rfl ?hy547 ?_
                    case hy547 => exact Yl.move rfl rfl
                    refine' TL.y rfl rfl rfl ?hy548 ?_
                    case hy548 => exact Yl.pickT rfl rfl rfl
                    refine' TL.y rfl rfl rfl ?hy549 ?_
                    case hy549 => exact Yl.bin rfl rfl rfl (Bin.eqlB _ _ _ (by kernel_rfl))
                    refine' TL.y rfl rfl rfl ?hy550 ?_
                    case hy550 => exact Yl.pickT rfl rfl rfl
                    refine' TL.y rfl rfl rfl ?hy551 ?_
                    case hy551 => exact Yl.move rfl rfl
                    refine TL.re (i := 113) (v' := .bool true) rfl (congrArg Value.bool (by first | rfl | (simp_all <;> omega))) ?_
                    refine' TL.y rfl rfl rfl ?hy552 ?_
                    case hy552 => exact Yl.move rfl rfl
                    refine' TL.y rfl rfl rfl ?hy553 ?_
                    case hy553 => exact Yl.move rfl rfl
                    refine' TL.y rfl rfl rfl ?hy554 ?_
                    case hy554 => exact Yl.bin rfl rfl rfl (Bin.eql _ _ _ _)
                    refine' TL.y rfl rfl rfl ?hy555 ?_
                    case hy555 => exact Yl.move rfl rfl
                    refine TL.split (i := 117) rfl (fun hs117 => ?_) (fun hs117 => ?_)
                    · skip
                      (try simp only [decide_eq_true_eq, decide_eq_false_iff_not, beq_iff_eq, beq_eq_false_iff_ne, bne_iff_ne, ne_eq, bne_eq_false_iff_eq, Bool.not_eq_true', Bool.not_eq_false', Int.not_lt, Int.not_le, gt_iff_lt, ge_iff_le] at hs117)
                      refine TL.skip rfl rfl rfl ?_
                      refine TL.skip rfl rfl rfl ?_
                      refine TL.skip rfl rfl rfl ?_
                      refine TL.skip rfl rfl rfl ?_
                      refine TL.skip rfl rfl rfl ?_
                      refine' TL.y rfl rfl rfl ?hy556 ?_
                      case hy556 => exact Yl.pickT rfl rfl rfl
                      refine' TL.y rfl rfl rfl ?hy557 ?_
                      case hy557 => exact Yl.pickT rfl rfl rfl
                      refine' TL.y rfl rfl rfl ?hy558 ?_
                      case hy558 => exact Yl.move rfl rfl
                      refine' TL.y rfl rfl rfl ?hy559 ?_
                      case hy559 => exact Yl.move rfl rfl
                      refine' TL.c rfl rfl rfl ?hy560 ?_
                      case hy560 => exact Yc.call rfl Tryd.func19 (by kernel_rfl) rfl rfl (Hp.calls (fun w h => k_count w (h.all _ mem0)))
                      intro _
                      refine' TL.y rfl rfl rfl ?hy561 ?_
                      case hy561 => exact Yl.move rfl rfl
                      refine' TL.y rfl rfl rfl ?hy562 ?_
                      case hy562 => exact Yl.move rfl rfl
                      refine' TL.y rfl rfl rfl ?hy563 ?_
                      case hy563 => first | (refine Yl.val (Yl.bin rfl rfl rfl (Bin.add _ _ _ _)) (congrArg (Value.int .i64) (i64in ?_ ?_)) <;> omega) | exact Yl.bin rfl rfl rfl (Bin.add _ _ _ _)
                      refine' TL.y rfl rfl rfl ?hy564 ?_
                      case hy564 => exact Yl.bin rfl rfl rfl (Bin.eql _ _ _ _)
                      refine' TL.y rfl rfl rfl ?hy565 ?_
                      case hy565 => exact Yl.pickT rfl rfl rfl
                      refine' TL.y rfl rfl rfl ?hy566 ?_
                      case hy566 => exact Yl.assign rfl rfl
                      refine TL.nil ?_
                      refine TE.next ?_
                      refine TC.ret ?_
                      refine TE.ret1 rfl rfl ?_
                      exact fun w h => ⟨congrArg (fun b => Ending.returned (Value.bool b)) (by first | rfl | (simp_all <;> omega) : _ = true), h.below⟩
                    · skip
                      (try simp only [decide_eq_true_eq, decide_eq_false_iff_not, beq_iff_eq, beq_eq_false_iff_ne, bne_iff_ne, ne_eq, bne_eq_false_iff_eq, Bool.not_eq_true', Bool.not_eq_false', Int.not_lt, Int.not_le, gt_iff_lt, ge_iff_le] at hs117)
                      refine' TL.y rfl rfl rfl ?hy567 ?_
                      case hy567 => exact Yl.move rfl rfl
                      refine' TL.y rfl rfl rfl ?hy568 ?_
                      case hy568 => exact Yl.move rfl rfl
                      refine' TL.c rfl rfl rfl ?hy569 ?_
                      case hy569 => exact Yc.call rfl Tryd.func17 (by kernel_rfl) rfl rfl (Hp.calls (fun w h => k_get w (h.all _ mem0) other))
                      intro _
                      rw [sL4 f n i0 other on hs117]
                      refine' TL.y rfl rfl rfl ?hy570 ?_
                      case hy570 => exact Yl.move rfl rfl
                      refine' TL.y rfl rfl rfl ?hy571 ?_
                      case hy571 => exact Yl.bin rfl rfl rfl (Bin.eqlB _ _ _ (by kernel_rfl))
                      refine' TL.y rfl rfl rfl ?hy572 ?_
                      case hy572 => exact Yl.pickF rfl rfl rfl
                      refine' TL.y rfl rfl rfl ?hy573 ?_
                      case hy573 => exact Yl.pickT rfl rfl rfl
                      refine' TL.y rfl rfl rfl ?hy574 ?_
                      case hy574 => exact Yl.move rfl rfl
                      refine TL.re (i := 125) (v' := .bool true) rfl (congrArg Value.bool (by first | rfl | (simp_all <;> omega))) ?_
                      refine' TL.y rfl rfl rfl ?hy575 ?_
                      case hy575 => exact Yl.move rfl rfl
                      refine' TL.c rfl rfl rfl ?hy576 ?_
                      case hy576 => exact Yc.call rfl Tryd.func19 (by kernel_rfl) rfl rfl (Hp.calls (fun w h => k_count w (h.all _ mem0)))
                      intro _
                      refine' TL.y rfl rfl rfl ?hy577 ?_
                      case hy577 => exact Yl.move rfl rfl
                      refine' TL.y rfl rfl rfl ?hy578 ?_
                      case hy578 => exact Yl.move rfl rfl
                      refine' TL.y rfl rfl rfl ?hy579 ?_
                      case hy579 => first | (refine Yl.val (Yl.bin rfl rfl rfl (Bin.add _ _ _ _)) (congrArg (Value.int .i64) (i64in ?_ ?_)) <;> omega) | exact Yl.bin rfl rfl rfl (Bin.add _ _ _ _)
                      refine' TL.y rfl rfl rfl ?hy580 ?_
                      case hy580 => exact Yl.bin rfl rfl rfl (Bin.eql _ _ _ _)
                      refine' TL.y rfl rfl rfl ?hy581 ?_
                      case hy581 => exact Yl.pickT rfl rfl rfl
                      refine' TL.y rfl rfl rfl ?hy582 ?_
                      case hy582 => exact Yl.assign rfl rfl
                      refine TL.nil ?_
                      refine TE.next ?_
                      refine TC.ret ?_
                      refine TE.ret1 rfl rfl ?_
                      exact fun w h => ⟨congrArg (fun b => Ending.returned (Value.bool b)) (by first | rfl | (simp_all <;> omega) : _ = true), h.below⟩
                  · skip
                    (try simp only [decide_eq_true_eq, decide_eq_false_iff_not, beq_iff_eq, beq_eq_false_iff_ne, bne_iff_ne, ne_eq, bne_eq_false_iff_eq, Bool.not_eq_true', Bool.not_eq_false', Int.not_lt, Int.not_le, gt_iff_lt, ge_iff_le] at hs108)
                    refine TL.skip rfl rfl rfl ?_
                    refine' TL.y rfl rfl rfl ?hy583 ?_
                    case hy583 => exact Yl.pickF rfl rfl rfl
                    refine' TL.y rfl rfl rfl ?hy584 ?_
                    case hy584 => exact Yl.bin rfl rfl rfl (Bin.eqlB _ _ _ (by kernel_rfl))
                    refine' TL.y rfl rfl rfl ?hy585 ?_
                    case hy585 => exact Yl.pickT rfl rfl rfl
                    refine' TL.y rfl rfl rfl ?hy586 ?_
                    case hy586 => exact Yl.move rfl rfl
                    refine TL.re (i := 113) (v' := .bool true) rfl (congrArg Value.bool (by first | rfl | (simp_all <;> omega))) ?_
                    refine' TL.y rfl rfl rfl ?hy587 ?_
                    case hy587 => exact Yl.move rfl rfl
                    refine' TL.y rfl rfl rfl ?hy588 ?_
                    case hy588 => exact Yl.move rfl rfl
                    refine' TL.y rfl rfl rfl ?hy589 ?_
                    case hy589 => exact Yl.bin rfl rfl rfl (Bin.eql _ _ _ _)
                    refine' TL.y rfl rfl rfl ?hy590 ?_
                    case hy590 => exact Yl.move rfl rfl
                    refine TL.split (i := 117) rfl (fun hs117 => ?_) (fun hs117 => ?_)
                    · skip
                      (try simp only [decide_eq_true_eq, decide_eq_false_iff_not, beq_iff_eq, beq_eq_false_iff_ne, bne_iff_ne, ne_eq, bne_eq_false_iff_eq, Bool.not_eq_true', Bool.not_eq_false', Int.not_lt, Int.not_le, gt_iff_lt, ge_iff_le] at hs117)
                      refine TL.skip rfl rfl rfl ?_
                      refine TL.skip rfl rfl rfl ?_
                      refine TL.skip rfl rfl rfl ?_
                      refine TL.skip rfl rfl rfl ?_
                      refine TL.skip rfl rfl rfl ?_
                      refine' TL.y rfl rfl rfl ?hy591 ?_
                      case hy591 => exact Yl.pickT rfl rfl rfl
                      refine' TL.y rfl rfl rfl ?hy592 ?_
                      case hy592 => exact Yl.pickT rfl rfl rfl
                      refine' TL.y rfl rfl rfl ?hy593 ?_
                      case hy593 => exact Yl.move rfl rfl
                      refine' TL.y rfl rfl rfl ?hy594 ?_
                      case hy594 => exact Yl.move rfl rfl
                      refine' TL.c rfl rfl rfl ?hy595 ?_
                      case hy595 => exact Yc.call rfl Tryd.func19 (by kernel_rfl) rfl rfl (Hp.calls (fun w h => k_count w (h.all _ mem0)))
                      intro _
                      refine' TL.y rfl rfl rfl ?hy596 ?_
                      case hy596 => exact Yl.move rfl rfl
                      refine' TL.y rfl rfl rfl ?hy597 ?_
                      case hy597 => exact Yl.move rfl rfl
                      refine' TL.y rfl rfl rfl ?hy598 ?_
                      case hy598 => first | (refine Yl.val (Yl.bin rfl rfl rfl (Bin.add _ _ _ _)) (congrArg (Value.int .i64) (i64in ?_ ?_)) <;> omega) | exact Yl.bin rfl rfl rfl (Bin.add _ _ _ _)
                      refine' TL.y rfl rfl rfl ?hy599 ?_
                      case hy599 => exact Yl.bin rfl rfl rfl (Bin.eql _ _ _ _)
                      refine' TL.y rfl rfl rfl ?hy600 ?_
                      case hy600 => exact Yl.pickT rfl rfl rfl
                      refine' TL.y rfl rfl rfl ?hy601 ?_
                      case hy601 => exact Yl.assign rfl rfl
                      refine TL.nil ?_
                      refine TE.next ?_
                      refine TC.ret ?_
                      refine TE.ret1 rfl rfl ?_
                      exact fun w h => ⟨congrArg (fun b => Ending.returned (Value.bool b)) (by first | rfl | (simp_all <;> omega) : _ = true), h.below⟩
                    · skip
                      (try simp only [decide_eq_true_eq, decide_eq_false_iff_not, beq_iff_eq, beq_eq_false_iff_ne, bne_iff_ne, ne_eq, bne_eq_false_iff_eq, Bool.not_eq_true', Bool.not_eq_false', Int.not_lt, Int.not_le, gt_iff_lt, ge_iff_le] at hs117)
                      refine' TL.y rfl rfl rfl ?hy602 ?_
                      case hy602 => exact Yl.move rfl rfl
                      refine' TL.y rfl rfl rfl ?hy603 ?_
                      case hy603 => exact Yl.move rfl rfl
                      refine' TL.c rfl rfl rfl ?hy604 ?_
                      case hy604 => exact Yc.call rfl Tryd.func17 (by kernel_rfl) rfl rfl (Hp.calls (fun w h => k_get w (h.all _ mem0) other))
                      intro _
                      rw [sL4 f n i0 other on hs117]
                      refine' TL.y rfl rfl rfl ?hy605 ?_
                      case hy605 => exact Yl.move rfl rfl
                      refine' TL.y rfl rfl rfl ?hy606 ?_
                      case hy606 => exact Yl.bin rfl rfl rfl (Bin.eqlB _ _ _ (by kernel_rfl))
                      refine' TL.y rfl rfl rfl ?hy607 ?_
                      case hy607 => exact Yl.pickF rfl rfl rfl
                      refine' TL.y rfl rfl rfl ?hy608 ?_
                      case hy608 => exact Yl.pickT rfl rfl rfl
                      refine' TL.y rfl rfl rfl ?hy609 ?_
                      case hy609 => exact Yl.move rfl rfl
                      refine TL.re (i := 125) (v' := .bool true) rfl (congrArg Value.bool (by first | rfl | (simp_all <;> omega))) ?_
                      refine' TL.y rfl rfl rfl ?hy610 ?_
                      case hy610 => exact Yl.move rfl rfl
                      refine' TL.c rfl rfl rfl ?hy611 ?_
                      case hy611 => exact Yc.call rfl Tryd.func19 (by kernel_rfl) rfl rfl (Hp.calls (fun w h => k_count w (h.all _ mem0)))
                      intro _
                      refine' TL.y rfl rfl rfl ?hy612 ?_
                      case hy612 => exact Yl.move rfl rfl
                      refine' TL.y rfl rfl rfl ?hy613 ?_
                      case hy613 => exact Yl.move rfl rfl
                      refine' TL.y rfl rfl rfl ?hy614 ?_
                      case hy614 => first | (refine Yl.val (Yl.bin rfl rfl rfl (Bin.add _ _ _ _)) (congrArg (Value.int .i64) (i64in ?_ ?_)) <;> omega) | exact Yl.bin rfl rfl rfl (Bin.add _ _ _ _)
                      refine' TL.y rfl rfl rfl ?hy615 ?_
                      case hy615 => exact Yl.bin rfl rfl rfl (Bin.eql _ _ _ _)
                      refine' TL.y rfl rfl rfl ?hy616 ?_
                      case hy616 => exact Yl.pickT rfl rfl rfl
                      refine' TL.y rfl rfl rfl ?hy617 ?_
                      case hy617 => exact Yl.assign rfl rfl
                      refine TL.nil ?_
                      refine TE.next ?_
                      refine TC.ret ?_
                      refine TE.ret1 rfl rfl ?_
                      exact fun w h => ⟨congrArg (fun b => Ending.returned (Value.bool b)) (by first | rfl | (simp_all <;> omega) : _ = true), h.below⟩
            · skip
              (try simp only [decide_eq_true_eq, decide_eq_false_iff_not, beq_iff_eq, beq_eq_false_iff_ne, bne_iff_ne, ne_eq, bne_eq_false_iff_eq, Bool.not_eq_true', Bool.not_eq_false', Int.not_lt, Int.not_le, gt_iff_lt, ge_iff_le] at hs74)
              refine TL.skip rfl rfl rfl ?_
              refine TL.skip rfl rfl rfl ?_
              refine TL.skip rfl rfl rfl ?_
              refine' TL.y rfl rfl rfl ?hy618 ?_
              case hy618 => exact Yl.pickF rfl rfl rfl
              refine' TL.y rfl rfl rfl ?hy619 ?_
              case hy619 => exact Yl.assign rfl rfl
              refine TL.nil ?_
              refine TE.next ?_
              refine TC.seq ?_
              refine TC.region ?_
              refine' TL.y rfl rfl rfl ?hy620 ?_
              case hy620 => exact Yl.assign rfl rfl
              refine TL.nil ?_
              refine TE.next ?_
              refine TC.seq ?_
              refine TC.seq ?_
              refine TC.region ?_
              refine' TL.y rfl rfl rfl ?hy621 ?_
              case hy621 => exact Yl.move rfl rfl
              refine' TL.y rfl rfl rfl ?hy622 ?_
              case hy622 => exact Yl.move rfl rfl
              refine TL.split (i := 80) rfl (fun hs80 => ?_) (fun hs80 => ?_)
              · skip
                (try simp only [decide_eq_true_eq, decide_eq_false_iff_not, beq_iff_eq, beq_eq_false_iff_ne, bne_iff_ne, ne_eq, bne_eq_false_iff_eq, Bool.not_eq_true', Bool.not_eq_false', Int.not_lt, Int.not_le, gt_iff_lt, ge_iff_le] at hs80)
                refine' TL.y rfl rfl rfl ?hy623 ?_
                case hy623 => exact Yl.move rfl rfl
                refine' TL.y rfl rfl rfl ?hy624 ?_
                case hy624 => exact Yl.pickT rfl rfl rfl
                refine TL.nil ?_
                refine TE.next ?_
                refine TC.cond rfl (fun hs82 => ?_) (fun hs82 => ?_)
                · skip
                  (try simp only [decide_eq_true_eq, decide_eq_false_iff_not, beq_iff_eq, beq_eq_false_iff_ne, bne_iff_ne, ne_eq, bne_eq_false_iff_eq, Bool.not_eq_true', Bool.not_eq_false', Int.not_lt, Int.not_le, gt_iff_lt, ge_iff_le] at hs82)
                  refine TC.region ?_
                  refine' TL.y rfl rfl rfl ?hy625 ?_
                  case hy625 => exact Yl.assign rfl rfl
                  refine TL.nil ?_
                  refine TE.next ?_
                  refine TC.seq ?_
                  refine TC.seq ?_
                  refine TC.region ?_
                  refine' TL.y rfl rfl rfl ?hy626 ?_
                  case hy626 => exact Yl.move rfl rfl
                  refine' TL.y rfl rfl rfl ?hy627 ?_
                  case hy627 => exact Yl.move rfl rfl
                  refine TL.re (i := 84) (v' := .bool true) rfl (congrArg Value.bool (hs80)) ?_
                  refine' TL.y rfl rfl rfl ?hy628 ?_
                  case hy628 => exact Yl.move rfl rfl
                  refine' TL.y rfl rfl rfl ?hy629 ?_
                  case hy629 => exact Yl.not rfl rfl
                  refine' TL.y rfl rfl rfl ?hy630 ?_
                  case hy630 => exact Yl.pickT rfl rfl rfl
                  refine TL.nil ?_
                  refine TE.next ?_
                  refine TC.no rfl (by first | (simp_all; done) | (simp_all <;> omega)) ?_
                  refine TC.skip ?_
                  refine TE.next ?_
                  refine TC.seq ?_
                  refine TC.region ?_
                  refine' TL.y rfl rfl rfl ?hy631 ?_
                  case hy631 => exact Yl.move rfl rfl
                  refine' TL.y rfl rfl rfl ?hy632 ?_
                  case hy632 => exact Yl.move rfl rfl
                  refine' TL.y rfl rfl rfl ?hy633 ?_
                  case hy633 => exact Yl.move rfl rfl
                  refine' TL.y rfl rfl rfl ?hy634 ?_
                  case hy634 => exact Yl.not rfl rfl
                  refine' TL.y rfl rfl rfl ?hy635 ?_
                  case hy635 => exact Yl.pickT rfl rfl rfl
                  refine' TL.y rfl rfl rfl ?hy636 ?_
                  case hy636 => exact Yl.move rfl rfl
                  refine TL.re (i := 93) (v' := .bool true) rfl (congrArg Value.bool (by first | rfl | (simp_all <;> omega))) ?_
                  refine' TL.y rfl rfl rfl ?hy637 ?_
                  case hy637 => exact Yl.move rfl rfl
                  refine' TL.y rfl rfl rfl ?hy638 ?_
                  case hy638 => exact Yl.move rfl rfl
                  refine' TL.y rfl rfl rfl ?hy639 ?_
                  case hy639 => exact Yl.move rfl rfl
                  refine TL.skip rfl rfl rfl ?_
                  refine TL.skip rfl rfl rfl ?_
                  refine TL.skip rfl rfl rfl ?_
                  refine' TL.y rfl rfl rfl ?hy640 ?_
                  case hy640 => exact Yl.pickF rfl rfl rfl
                  refine' TL.y rfl rfl rfl ?hy641 ?_
                  case hy641 => exact Yl.bin rfl rfl rfl (Bin.eqlB _ _ _ (by kernel_rfl))
                  refine' TL.y rfl rfl rfl ?hy642 ?_
                  case hy642 => exact Yl.pickT rfl rfl rfl
                  refine' TL.y rfl rfl rfl ?hy643 ?_
                  case hy643 => exact Yl.move rfl rfl
                  refine TL.re (i := 103) (v' := .bool true) rfl (congrArg Value.bool (by first | rfl | (simp_all <;> omega))) ?_
                  refine' TL.y rfl rfl rfl ?hy644 ?_
                  case hy644 => exact Yl.move rfl rfl
                  refine' TL.y rfl rfl rfl ?hy645 ?_
                  case hy645 => exact Yl.move rfl rfl
                  refine' TL.c rfl rfl rfl ?hy646 ?_
                  case hy646 => exact Yc.call rfl Tryd.func17 (by kernel_rfl) rfl rfl (Hp.calls (fun w h => k_get w (h.all _ mem0) i0))
                  intro _
                  rw [sL3]
                  refine' TL.y rfl rfl rfl ?hy647 ?_
                  case hy647 => exact Yl.move rfl rfl
                  refine' TL.y rfl rfl rfl ?hy648 ?_
                  case hy648 => exact Yl.move rfl rfl
                  refine TL.skip rfl rfl rfl ?_
                  refine' TL.y rfl rfl rfl ?hy649 ?_
                  case hy649 => exact Yl.pickF rfl rfl rfl
                  refine' TL.y rfl rfl rfl ?hy650 ?_
                  case hy650 => exact Yl.bin rfl rfl rfl (Bin.eqlB _ _ _ (by kernel_rfl))
                  refine' TL.y rfl rfl rfl ?hy651 ?_
                  case hy651 => exact Yl.pickT rfl rfl rfl
                  refine' TL.y rfl rfl rfl ?hy652 ?_
                  case hy652 => exact Yl.move rfl rfl
                  refine TL.re (i := 113) (v' := .bool true) rfl (congrArg Value.bool (by first | rfl | (simp_all <;> omega))) ?_
                  refine' TL.y rfl rfl rfl ?hy653 ?_
                  case hy653 => exact Yl.move rfl rfl
                  refine' TL.y rfl rfl rfl ?hy654 ?_
                  case hy654 => exact Yl.move rfl rfl
                  refine' TL.y rfl rfl rfl ?hy655 ?_
                  case hy655 => exact Yl.bin rfl rfl rfl (Bin.eql _ _ _ _)
                  refine' TL.y rfl rfl rfl ?hy656 ?_
                  case hy656 => exact Yl.move rfl rfl
                  refine TL.split (i := 117) rfl (fun hs117 => ?_) (fun hs117 => ?_)
                  · skip
                    (try simp only [decide_eq_true_eq, decide_eq_false_iff_not, beq_iff_eq, beq_eq_false_iff_ne, bne_iff_ne, ne_eq, bne_eq_false_iff_eq, Bool.not_eq_true', Bool.not_eq_false', Int.not_lt, Int.not_le, gt_iff_lt, ge_iff_le] at hs117)
                    refine TL.skip rfl rfl rfl ?_
                    refine TL.skip rfl rfl rfl ?_
                    refine TL.skip rfl rfl rfl ?_
                    refine TL.skip rfl rfl rfl ?_
                    refine TL.skip rfl rfl rfl ?_
                    refine' TL.y rfl rfl rfl ?hy657 ?_
                    case hy657 => exact Yl.pickT rfl rfl rfl
                    refine' TL.y rfl rfl rfl ?hy658 ?_
                    case hy658 => exact Yl.pickT rfl rfl rfl
                    refine' TL.y rfl rfl rfl ?hy659 ?_
                    case hy659 => exact Yl.move rfl rfl
                    refine' TL.y rfl rfl rfl ?hy660 ?_
                    case hy660 => exact Yl.move rfl rfl
                    refine' TL.c rfl rfl rfl ?hy661 ?_
                    case hy661 => exact Yc.call rfl Tryd.func19 (by kernel_rfl) rfl rfl (Hp.calls (fun w h => k_count w (h.all _ mem0)))
                    intro _
                    refine' TL.y rfl rfl rfl ?hy662 ?_
                    case hy662 => exact Yl.move rfl rfl
                    refine' TL.y rfl rfl rfl ?hy663 ?_
                    case hy663 => exact Yl.move rfl rfl
                    refine' TL.y rfl rfl rfl ?hy664 ?_
                    case hy664 => first | (refine Yl.val (Yl.bin rfl rfl rfl (Bin.add _ _ _ _)) (congrArg (Value.int .i64) (i64in ?_ ?_)) <;> omega) | exact Yl.bin rfl rfl rfl (Bin.add _ _ _ _)
                    refine' TL.y rfl rfl rfl ?hy665 ?_
                    case hy665 => exact Yl.bin rfl rfl rfl (Bin.eql _ _ _ _)
                    refine' TL.y rfl rfl rfl ?hy666 ?_
                    case hy666 => exact Yl.pickT rfl rfl rfl
                    refine' TL.y rfl rfl rfl ?hy667 ?_
                    case hy667 => exact Yl.assign rfl rfl
                    refine TL.nil ?_
                    refine TE.next ?_
                    refine TC.ret ?_
                    refine TE.ret1 rfl rfl ?_
                    exact fun w h => ⟨congrArg (fun b => Ending.returned (Value.bool b)) (by first | rfl | (simp_all <;> omega) : _ = true), h.below⟩
                  · skip
                    (try simp only [decide_eq_true_eq, decide_eq_false_iff_not, beq_iff_eq, beq_eq_false_iff_ne, bne_iff_ne, ne_eq, bne_eq_false_iff_eq, Bool.not_eq_true', Bool.not_eq_false', Int.not_lt, Int.not_le, gt_iff_lt, ge_iff_le] at hs117)
                    refine' TL.y rfl rfl rfl ?hy668 ?_
                    case hy668 => exact Yl.move rfl rfl
                    refine' TL.y rfl rfl rfl ?hy669 ?_
                    case hy669 => exact Yl.move rfl rfl
                    refine' TL.c rfl rfl rfl ?hy670 ?_
                    case hy670 => exact Yc.call rfl Tryd.func17 (by kernel_rfl) rfl rfl (Hp.calls (fun w h => k_get w (h.all _ mem0) other))
                    intro _
                    rw [sL4 f n i0 other on hs117]
                    refine' TL.y rfl rfl rfl ?hy671 ?_
                    case hy671 => exact Yl.move rfl rfl
                    refine' TL.y rfl rfl rfl ?hy672 ?_
                    case hy672 => exact Yl.bin rfl rfl rfl (Bin.eqlB _ _ _ (by kernel_rfl))
                    refine' TL.y rfl rfl rfl ?hy673 ?_
                    case hy673 => exact Yl.pickF rfl rfl rfl
                    refine' TL.y rfl rfl rfl ?hy674 ?_
                    case hy674 => exact Yl.pickT rfl rfl rfl
                    refine' TL.y rfl rfl rfl ?hy675 ?_
                    case hy675 => exact Yl.move rfl rfl
                    refine TL.re (i := 125) (v' := .bool true) rfl (congrArg Value.bool (by first | rfl | (simp_all <;> omega))) ?_
                    refine' TL.y rfl rfl rfl ?hy676 ?_
                    case hy676 => exact Yl.move rfl rfl
                    refine' TL.c rfl rfl rfl ?hy677 ?_
                    case hy677 => exact Yc.call rfl Tryd.func19 (by kernel_rfl) rfl rfl (Hp.calls (fun w h => k_count w (h.all _ mem0)))
                    intro _
                    refine' TL.y rfl rfl rfl ?hy678 ?_
                    case hy678 => exact Yl.move rfl rfl
                    refine' TL.y rfl rfl rfl ?hy679 ?_
                    case hy679 => exact Yl.move rfl rfl
                    refine' TL.y rfl rfl rfl ?hy680 ?_
                    case hy680 => first | (refine Yl.val (Yl.bin rfl rfl rfl (Bin.add _ _ _ _)) (congrArg (Value.int .i64) (i64in ?_ ?_)) <;> omega) | exact Yl.bin rfl rfl rfl (Bin.add _ _ _ _)
                    refine' TL.y rfl rfl rfl ?hy681 ?_
                    case hy681 => exact Yl.bin rfl rfl rfl (Bin.eql _ _ _ _)
                    refine' TL.y rfl rfl rfl ?hy682 ?_
                    case hy682 => exact Yl.pickT rfl rfl rfl
                    refine' TL.y rfl rfl rfl ?hy683 ?_
                    case hy683 => exact Yl.assign rfl rfl
                    refine TL.nil ?_
                    refine TE.next ?_
                    refine TC.ret ?_
                    refine TE.ret1 rfl rfl ?_
                    exact fun w h => ⟨congrArg (fun b => Ending.returned (Value.bool b)) (by first | rfl | (simp_all <;> omega) : _ = true), h.below⟩
                · skip
                  (try simp only [decide_eq_true_eq, decide_eq_false_iff_not, beq_iff_eq, beq_eq_false_iff_ne, bne_iff_ne, ne_eq, bne_eq_false_iff_eq, Bool.not_eq_true', Bool.not_eq_false', Int.not_lt, Int.not_le, gt_iff_lt, ge_iff_le] at hs82)
                  refine TC.skip ?_
                  refine TE.next ?_
                  refine TC.seq ?_
                  refine TC.seq ?_
                  refine TC.region ?_
                  refine' TL.y rfl rfl rfl ?hy684 ?_
                  case hy684 => exact Yl.move rfl rfl
                  refine' TL.y rfl rfl rfl ?hy685 ?_
                  case hy685 => exact Yl.move rfl rfl
                  refine TL.re (i := 84) (v' := .bool true) rfl (congrArg Value.bool (hs80)) ?_
                  refine' TL.y rfl rfl rfl ?hy686 ?_
                  case hy686 => exact Yl.move rfl rfl
                  refine' TL.y rfl rfl rfl ?hy687 ?_
                  case hy687 => exact Yl.not rfl rfl
                  refine' TL.y rfl rfl rfl ?hy688 ?_
                  case hy688 => exact Yl.pickT rfl rfl rfl
                  refine TL.nil ?_
                  refine TE.next ?_
                  refine TC.yes rfl (by first | (simp_all; done) | (simp_all <;> omega)) ?_
                  refine TC.region ?_
                  refine' TL.y rfl rfl rfl ?hy689 ?_
                  case hy689 => exact Yl.assign rfl rfl
                  refine TL.nil ?_
                  refine TE.next ?_
                  refine TC.seq ?_
                  refine TC.region ?_
                  refine' TL.y rfl rfl rfl ?hy690 ?_
                  case hy690 => exact Yl.move rfl rfl
                  refine' TL.y rfl rfl rfl ?hy691 ?_
                  case hy691 => exact Yl.move rfl rfl
                  refine' TL.y rfl rfl rfl ?hy692 ?_
                  case hy692 => exact Yl.move rfl rfl
                  refine' TL.y rfl rfl rfl ?hy693 ?_
                  case hy693 => exact Yl.not rfl rfl
                  refine' TL.y rfl rfl rfl ?hy694 ?_
                  case hy694 => exact Yl.pickT rfl rfl rfl
                  refine' TL.y rfl rfl rfl ?hy695 ?_
                  case hy695 => exact Yl.move rfl rfl
                  refine TL.re (i := 93) (v' := .bool true) rfl (congrArg Value.bool (by first | rfl | (simp_all <;> omega))) ?_
                  refine' TL.y rfl rfl rfl ?hy696 ?_
                  case hy696 => exact Yl.move rfl rfl
                  refine' TL.y rfl rfl rfl ?hy697 ?_
                  case hy697 => exact Yl.move rfl rfl
                  refine' TL.y rfl rfl rfl ?hy698 ?_
                  case hy698 => exact Yl.move rfl rfl
                  refine TL.skip rfl rfl rfl ?_
                  refine TL.skip rfl rfl rfl ?_
                  refine TL.skip rfl rfl rfl ?_
                  refine' TL.y rfl rfl rfl ?hy699 ?_
                  case hy699 => exact Yl.pickF rfl rfl rfl
                  refine' TL.y rfl rfl rfl ?hy700 ?_
                  case hy700 => exact Yl.bin rfl rfl rfl (Bin.eqlB _ _ _ (by kernel_rfl))
                  refine' TL.y rfl rfl rfl ?hy701 ?_
                  case hy701 => exact Yl.pickT rfl rfl rfl
                  refine' TL.y rfl rfl rfl ?hy702 ?_
                  case hy702 => exact Yl.move rfl rfl
                  refine TL.re (i := 103) (v' := .bool true) rfl (congrArg Value.bool (by first | rfl | (simp_all <;> omega))) ?_
                  refine' TL.y rfl rfl rfl ?hy703 ?_
                  case hy703 => exact Yl.move rfl rfl
                  refine' TL.y rfl rfl rfl ?hy704 ?_
                  case hy704 => exact Yl.move rfl rfl
                  refine' TL.c rfl rfl rfl ?hy705 ?_
                  case hy705 => exact Yc.call rfl Tryd.func17 (by kernel_rfl) rfl rfl (Hp.calls (fun w h => k_get w (h.all _ mem0) i0))
                  intro _
                  rw [sL3]
                  refine' TL.y rfl rfl rfl ?hy706 ?_
                  case hy706 => exact Yl.move rfl rfl
                  refine' TL.y rfl rfl rfl ?hy707 ?_
                  case hy707 => exact Yl.move rfl rfl
                  refine TL.skip rfl rfl rfl ?_
                  refine' TL.y rfl rfl rfl ?hy708 ?_
                  case hy708 => exact Yl.pickF rfl rfl rfl
                  refine' TL.y rfl rfl rfl ?hy709 ?_
                  case hy709 => exact Yl.bin rfl rfl rfl (Bin.eqlB _ _ _ (by kernel_rfl))
                  refine' TL.y rfl rfl rfl ?hy710 ?_
                  case hy710 => exact Yl.pickT rfl rfl rfl
                  refine' TL.y rfl rfl rfl ?hy711 ?_
                  case hy711 => exact Yl.move rfl rfl
                  refine TL.re (i := 113) (v' := .bool true) rfl (congrArg Value.bool (by first | rfl | (simp_all <;> omega))) ?_
                  refine' TL.y rfl rfl rfl ?hy712 ?_
                  case hy712 => exact Yl.move rfl rfl
                  refine' TL.y rfl rfl rfl ?hy713 ?_
                  case hy713 => exact Yl.move rfl rfl
                  refine' TL.y rfl rfl rfl ?hy714 ?_
                  case hy714 => exact Yl.bin rfl rfl rfl (Bin.eql _ _ _ _)
                  refine' TL.y rfl rfl rfl ?hy715 ?_
                  case hy715 => exact Yl.move rfl rfl
                  refine TL.split (i := 117) rfl (fun hs117 => ?_) (fun hs117 => ?_)
                  · skip
                    (try simp only [decide_eq_true_eq, decide_eq_false_iff_not, beq_iff_eq, beq_eq_false_iff_ne, bne_iff_ne, ne_eq, bne_eq_false_iff_eq, Bool.not_eq_true', Bool.not_eq_false', Int.not_lt, Int.not_le, gt_iff_lt, ge_iff_le] at hs117)
                    refine TL.skip rfl rfl rfl ?_
                    refine TL.skip rfl rfl rfl ?_
                    refine TL.skip rfl rfl rfl ?_
                    refine TL.skip rfl rfl rfl ?_
                    refine TL.skip rfl rfl rfl ?_
                    refine' TL.y rfl rfl rfl ?hy716 ?_
                    case hy716 => exact Yl.pickT rfl rfl rfl
                    refine' TL.y rfl rfl rfl ?hy717 ?_
                    case hy717 => exact Yl.pickT rfl rfl rfl
                    refine' TL.y rfl rfl rfl ?hy718 ?_
                    case hy718 => exact Yl.move rfl rfl
                    refine' TL.y rfl rfl rfl ?hy719 ?_
                    case hy719 => exact Yl.move rfl rfl
                    refine' TL.c rfl rfl rfl ?hy720 ?_
                    case hy720 => exact Yc.call rfl Tryd.func19 (by kernel_rfl) rfl rfl (Hp.calls (fun w h => k_count w (h.all _ mem0)))
                    intro _
                    refine' TL.y rfl rfl rfl ?hy721 ?_
                    case hy721 => exact Yl.move rfl rfl
                    refine' TL.y rfl rfl rfl ?hy722 ?_
                    case hy722 => exact Yl.move rfl rfl
                    refine' TL.y rfl rfl rfl ?hy723 ?_
                    case hy723 => first | (refine Yl.val (Yl.bin rfl rfl rfl (Bin.add _ _ _ _)) (congrArg (Value.int .i64) (i64in ?_ ?_)) <;> omega) | exact Yl.bin rfl rfl rfl (Bin.add _ _ _ _)
                    refine' TL.y rfl rfl rfl ?hy724 ?_
                    case hy724 => exact Yl.bin rfl rfl rfl (Bin.eql _ _ _ _)
                    refine' TL.y rfl rfl rfl ?hy725 ?_
                    case hy725 => exact Yl.pickT rfl rfl rfl
                    refine' TL.y rfl rfl rfl ?hy726 ?_
                    case hy726 => exact Yl.assign rfl rfl
                    refine TL.nil ?_
                    refine TE.next ?_
                    refine TC.ret ?_
                    refine TE.ret1 rfl rfl ?_
                    exact fun w h => ⟨congrArg (fun b => Ending.returned (Value.bool b)) (by first | rfl | (simp_all <;> omega) : _ = true), h.below⟩
                  · skip
                    (try simp only [decide_eq_true_eq, decide_eq_false_iff_not, beq_iff_eq, beq_eq_false_iff_ne, bne_iff_ne, ne_eq, bne_eq_false_iff_eq, Bool.not_eq_true', Bool.not_eq_false', Int.not_lt, Int.not_le, gt_iff_lt, ge_iff_le] at hs117)
                    refine' TL.y rfl rfl rfl ?hy727 ?_
                    case hy727 => exact Yl.move rfl rfl
                    refine' TL.y rfl rfl rfl ?hy728 ?_
                    case hy728 => exact Yl.move rfl rfl
                    refine' TL.c rfl rfl rfl ?hy729 ?_
                    case hy729 => exact Yc.call rfl Tryd.func17 (by kernel_rfl) rfl rfl (Hp.calls (fun w h => k_get w (h.all _ mem0) other))
                    intro _
                    rw [sL4 f n i0 other on hs117]
                    refine' TL.y rfl rfl rfl ?hy730 ?_
                    case hy730 => exact Yl.move rfl rfl
                    refine' TL.y rfl rfl rfl ?hy731 ?_
                    case hy731 => exact Yl.bin rfl rfl rfl (Bin.eqlB _ _ _ (by kernel_rfl))
                    refine' TL.y rfl rfl rfl ?hy732 ?_
                    case hy732 => exact Yl.pickF rfl rfl rfl
                    refine' TL.y rfl rfl rfl ?hy733 ?_
                    case hy733 => exact Yl.pickT rfl rfl rfl
                    refine' TL.y rfl rfl rfl ?hy734 ?_
                    case hy734 => exact Yl.move rfl rfl
                    refine TL.re (i := 125) (v' := .bool true) rfl (congrArg Value.bool (by first | rfl | (simp_all <;> omega))) ?_
                    refine' TL.y rfl rfl rfl ?hy735 ?_
                    case hy735 => exact Yl.move rfl rfl
                    refine' TL.c rfl rfl rfl ?hy736 ?_
                    case hy736 => exact Yc.call rfl Tryd.func19 (by kernel_rfl) rfl rfl (Hp.calls (fun w h => k_count w (h.all _ mem0)))
                    intro _
                    refine' TL.y rfl rfl rfl ?hy737 ?_
                    case hy737 => exact Yl.move rfl rfl
                    refine' TL.y rfl rfl rfl ?hy738 ?_
                    case hy738 => exact Yl.move rfl rfl
                    refine' TL.y rfl rfl rfl ?hy739 ?_
                    case hy739 => first | (refine Yl.val (Yl.bin rfl rfl rfl (Bin.add _ _ _ _)) (congrArg (Value.int .i64) (i64in ?_ ?_)) <;> omega) | exact Yl.bin rfl rfl rfl (Bin.add _ _ _ _)
                    refine' TL.y rfl rfl rfl ?hy740 ?_
                    case hy740 => exact Yl.bin rfl rfl rfl (Bin.eql _ _ _ _)
                    refine' TL.y rfl rfl rfl ?hy741 ?_
                    case hy741 => exact Yl.pickT rfl rfl rfl
                    refine' TL.y rfl rfl rfl ?hy742 ?_
                    case hy742 => exact Yl.assign rfl rfl
                    refine TL.nil ?_
                    refine TE.next ?_
                    refine TC.ret ?_
                    refine TE.ret1 rfl rfl ?_
                    exact fun w h => ⟨congrArg (fun b => Ending.returned (Value.bool b)) (by first | rfl | (simp_all <;> omega) : _ = true), h.below⟩
              · skip
                (try simp only [decide_eq_true_eq, decide_eq_false_iff_not, beq_iff_eq, beq_eq_false_iff_ne, bne_iff_ne, ne_eq, bne_eq_false_iff_eq, Bool.not_eq_true', Bool.not_eq_false', Int.not_lt, Int.not_le, gt_iff_lt, ge_iff_le] at hs80)
                refine TL.skip rfl rfl rfl ?_
                refine' TL.y rfl rfl rfl ?hy743 ?_
                case hy743 => exact Yl.pickF rfl rfl rfl
                refine TL.nil ?_
                refine TE.next ?_
                refine TC.no rfl rfl ?_
                refine TC.skip ?_
                refine TE.next ?_
                refine TC.seq ?_
                refine TC.seq ?_
                refine TC.region ?_
                refine' TL.y rfl rfl rfl ?hy744 ?_
                case hy744 => exact Yl.move rfl rfl
                refine' TL.y rfl rfl rfl ?hy745 ?_
                case hy745 => exact Yl.move rfl rfl
                refine TL.re (i := 84) (v' := .bool false) rfl (congrArg Value.bool (hs80)) ?_
                refine TL.skip rfl rfl rfl ?_
                refine TL.skip rfl rfl rfl ?_
                refine' TL.y rfl rfl rfl ?hy746 ?_
                case hy746 => exact Yl.pickF rfl rfl rfl
                refine TL.nil ?_
                refine TE.next ?_
                refine TC.no rfl rfl ?_
                refine TC.skip ?_
                refine TE.next ?_
                refine TC.seq ?_
                refine TC.region ?_
                refine' TL.y rfl rfl rfl ?hy747 ?_
                case hy747 => exact Yl.move rfl rfl
                refine' TL.y rfl rfl rfl ?hy748 ?_
                case hy748 => exact Yl.move rfl rfl
                refine' TL.y rfl rfl rfl ?hy749 ?_
                case hy749 => exact Yl.move rfl rfl
                refine' TL.y rfl rfl rfl ?hy750 ?_
                case hy750 => exact Yl.not rfl rfl
                refine' TL.y rfl rfl rfl ?hy751 ?_
                case hy751 => exact Yl.pickT rfl rfl rfl
                refine' TL.y rfl rfl rfl ?hy752 ?_
                case hy752 => exact Yl.move rfl rfl
                refine TL.re (i := 93) (v' := .bool true) rfl (congrArg Value.bool (by first | rfl | (simp_all <;> omega))) ?_
                refine' TL.y rfl rfl rfl ?hy753 ?_
                case hy753 => exact Yl.move rfl rfl
                refine' TL.y rfl rfl rfl ?hy754 ?_
                case hy754 => exact Yl.move rfl rfl
                refine' TL.y rfl rfl rfl ?hy755 ?_
                case hy755 => exact Yl.move rfl rfl
                refine TL.skip rfl rfl rfl ?_
                refine TL.skip rfl rfl rfl ?_
                refine TL.skip rfl rfl rfl ?_
                refine' TL.y rfl rfl rfl ?hy756 ?_
                case hy756 => exact Yl.pickF rfl rfl rfl
                refine' TL.y rfl rfl rfl ?hy757 ?_
                case hy757 => exact Yl.bin rfl rfl rfl (Bin.eqlB _ _ _ (by kernel_rfl))
                refine' TL.y rfl rfl rfl ?hy758 ?_
                case hy758 => exact Yl.pickT rfl rfl rfl
                refine' TL.y rfl rfl rfl ?hy759 ?_
                case hy759 => exact Yl.move rfl rfl
                refine TL.re (i := 103) (v' := .bool true) rfl (congrArg Value.bool (by first | rfl | (simp_all <;> omega))) ?_
                refine' TL.y rfl rfl rfl ?hy760 ?_
                case hy760 => exact Yl.move rfl rfl
                refine' TL.y rfl rfl rfl ?hy761 ?_
                case hy761 => exact Yl.move rfl rfl
                refine' TL.c rfl rfl rfl ?hy762 ?_
                case hy762 => exact Yc.call rfl Tryd.func17 (by kernel_rfl) rfl rfl (Hp.calls (fun w h => k_get w (h.all _ mem0) i0))
                intro _
                rw [sL3]
                refine' TL.y rfl rfl rfl ?hy763 ?_
                case hy763 => exact Yl.move rfl rfl
                refine' TL.y rfl rfl rfl ?hy764 ?_
                case hy764 => exact Yl.move rfl rfl
                refine TL.skip rfl rfl rfl ?_
                refine' TL.y rfl rfl rfl ?hy765 ?_
                case hy765 => exact Yl.pickF rfl rfl rfl
                refine' TL.y rfl rfl rfl ?hy766 ?_
                case hy766 => exact Yl.bin rfl rfl rfl (Bin.eqlB _ _ _ (by kernel_rfl))
                refine' TL.y rfl rfl rfl ?hy767 ?_
                case hy767 => exact Yl.pickT rfl rfl rfl
                refine' TL.y rfl rfl rfl ?hy768 ?_
                case hy768 => exact Yl.move rfl rfl
                refine TL.re (i := 113) (v' := .bool true) rfl (congrArg Value.bool (by first | rfl | (simp_all <;> omega))) ?_
                refine' TL.y rfl rfl rfl ?hy769 ?_
                case hy769 => exact Yl.move rfl rfl
                refine' TL.y rfl rfl rfl ?hy770 ?_
                case hy770 => exact Yl.move rfl rfl
                refine' TL.y rfl rfl rfl ?hy771 ?_
                case hy771 => exact Yl.bin rfl rfl rfl (Bin.eql _ _ _ _)
                refine' TL.y rfl rfl rfl ?hy772 ?_
                case hy772 => exact Yl.move rfl rfl
                refine TL.split (i := 117) rfl (fun hs117 => ?_) (fun hs117 => ?_)
                · skip
                  (try simp only [decide_eq_true_eq, decide_eq_false_iff_not, beq_iff_eq, beq_eq_false_iff_ne, bne_iff_ne, ne_eq, bne_eq_false_iff_eq, Bool.not_eq_true', Bool.not_eq_false', Int.not_lt, Int.not_le, gt_iff_lt, ge_iff_le] at hs117)
                  refine TL.skip rfl rfl rfl ?_
                  refine TL.skip rfl rfl rfl ?_
                  refine TL.skip rfl rfl rfl ?_
                  refine TL.skip rfl rfl rfl ?_
                  refine TL.skip rfl rfl rfl ?_
                  refine' TL.y rfl rfl rfl ?hy773 ?_
                  case hy773 => exact Yl.pickT rfl rfl rfl
                  refine' TL.y rfl rfl rfl ?hy774 ?_
                  case hy774 => exact Yl.pickT rfl rfl rfl
                  refine' TL.y rfl rfl rfl ?hy775 ?_
                  case hy775 => exact Yl.move rfl rfl
                  refine' TL.y rfl rfl rfl ?hy776 ?_
                  case hy776 => exact Yl.move rfl rfl
                  refine' TL.c rfl rfl rfl ?hy777 ?_
                  case hy777 => exact Yc.call rfl Tryd.func19 (by kernel_rfl) rfl rfl (Hp.calls (fun w h => k_count w (h.all _ mem0)))
                  intro _
                  refine' TL.y rfl rfl rfl ?hy778 ?_
                  case hy778 => exact Yl.move rfl rfl
                  refine' TL.y rfl rfl rfl ?hy779 ?_
                  case hy779 => exact Yl.move rfl rfl
                  refine' TL.y rfl rfl rfl ?hy780 ?_
                  case hy780 => first | (refine Yl.val (Yl.bin rfl rfl rfl (Bin.add _ _ _ _)) (congrArg (Value.int .i64) (i64in ?_ ?_)) <;> omega) | exact Yl.bin rfl rfl rfl (Bin.add _ _ _ _)
                  refine' TL.y rfl rfl rfl ?hy781 ?_
                  case hy781 => exact Yl.bin rfl rfl rfl (Bin.eql _ _ _ _)
                  refine' TL.y rfl rfl rfl ?hy782 ?_
                  case hy782 => exact Yl.pickT rfl rfl rfl
                  refine' TL.y rfl rfl rfl ?hy783 ?_
                  case hy783 => exact Yl.assign rfl rfl
                  refine TL.nil ?_
                  refine TE.next ?_
                  refine TC.ret ?_
                  refine TE.ret1 rfl rfl ?_
                  exact fun w h => ⟨congrArg (fun b => Ending.returned (Value.bool b)) (by first | rfl | (simp_all <;> omega) : _ = true), h.below⟩
                · skip
                  (try simp only [decide_eq_true_eq, decide_eq_false_iff_not, beq_iff_eq, beq_eq_false_iff_ne, bne_iff_ne, ne_eq, bne_eq_false_iff_eq, Bool.not_eq_true', Bool.not_eq_false', Int.not_lt, Int.not_le, gt_iff_lt, ge_iff_le] at hs117)
                  refine' TL.y rfl rfl rfl ?hy784 ?_
                  case hy784 => exact Yl.move rfl rfl
                  refine' TL.y rfl rfl rfl ?hy785 ?_
                  case hy785 => exact Yl.move rfl rfl
                  refine' TL.c rfl rfl rfl ?hy786 ?_
                  case hy786 => exact Yc.call rfl Tryd.func17 (by kernel_rfl) rfl rfl (Hp.calls (fun w h => k_get w (h.all _ mem0) other))
                  intro _
                  rw [sL4 f n i0 other on hs117]
                  refine' TL.y rfl rfl rfl ?hy787 ?_
                  case hy787 => exact Yl.move rfl rfl
                  refine' TL.y rfl rfl rfl ?hy788 ?_
                  case hy788 => exact Yl.bin rfl rfl rfl (Bin.eqlB _ _ _ (by kernel_rfl))
                  refine' TL.y rfl rfl rfl ?hy789 ?_
                  case hy789 => exact Yl.pickF rfl rfl rfl
                  refine' TL.y rfl rfl rfl ?hy790 ?_
                  case hy790 => exact Yl.pickT rfl rfl rfl
                  refine' TL.y rfl rfl rfl ?hy791 ?_
                  case hy791 => exact Yl.move rfl rfl
                  refine TL.re (i := 125) (v' := .bool true) rfl (congrArg Value.bool (by first | rfl | (simp_all <;> omega))) ?_
                  refine' TL.y rfl rfl rfl ?hy792 ?_
                  case hy792 => exact Yl.move rfl rfl
                  refine' TL.c rfl rfl rfl ?hy793 ?_
                  case hy793 => exact Yc.call rfl Tryd.func19 (by kernel_rfl) rfl rfl (Hp.calls (fun w h => k_count w (h.all _ mem0)))
                  intro _
                  refine' TL.y rfl rfl rfl ?hy794 ?_
                  case hy794 => exact Yl.move rfl rfl
                  refine' TL.y rfl rfl rfl ?hy795 ?_
                  case hy795 => exact Yl.move rfl rfl
                  refine' TL.y rfl rfl rfl ?hy796 ?_
                  case hy796 => first | (refine Yl.val (Yl.bin rfl rfl rfl (Bin.add _ _ _ _)) (congrArg (Value.int .i64) (i64in ?_ ?_)) <;> omega) | exact Yl.bin rfl rfl rfl (Bin.add _ _ _ _)
                  refine' TL.y rfl rfl rfl ?hy797 ?_
                  case hy797 => exact Yl.bin rfl rfl rfl (Bin.eql _ _ _ _)
                  refine' TL.y rfl rfl rfl ?hy798 ?_
                  case hy798 => exact Yl.pickT rfl rfl rfl
                  refine' TL.y rfl rfl rfl ?hy799 ?_
                  case hy799 => exact Yl.assign rfl rfl
                  refine TL.nil ?_
                  refine TE.next ?_
                  refine TC.ret ?_
                  refine TE.ret1 rfl rfl ?_
                  exact fun w h => ⟨congrArg (fun b => Ending.returned (Value.bool b)) (by first | rfl | (simp_all <;> omega) : _ = true), h.below⟩
end Go.Proofs.YtjampfcibocnlaaDoor.Pk
