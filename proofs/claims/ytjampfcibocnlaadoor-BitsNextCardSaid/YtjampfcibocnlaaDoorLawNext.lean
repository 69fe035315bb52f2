/- The walk through BitsNext. -/
import Derived.Test.YtjampfcibocnlaaDoorWorks
import Derived.Test.YtjampfcibocnlaaDoorOpen
import Derived.Test.YtjampfcibocnlaaDoorProg
import Derived.RowKit3
namespace Go.Proofs.YtjampfcibocnlaaDoor.Pk
open Go Go.RowKit Go.Proofs.YtjampfcibocnlaaDoor.HL Go.Proofs.YtjampfcibocnlaaDoor.BM
set_option linter.unusedVariables false
set_option linter.unusedSimpArgs false
attribute [local irreducible] rowA mapR rowR
/-- How many of the first are so. -/
def cntO (f : Nat → Bool) (on : Bool) (a : Nat) : Nat := cntB (fun p => f p == on) a
theorem cntO_step (f : Nat → Bool) (on : Bool) (a q : Nat) (h1 : a ≤ q) (h2 : f q = on) (h3 : ∀ p, a ≤ p → p < q → f p ≠ on) : cntO f on (q + 1) = cntO f on a + 1 := by
  obtain ⟨d, rfl⟩ := Nat.exists_eq_add_of_le h1
  unfold cntO
  rw [cntB_succ, cntB_add, cntB_false _ d (fun i hi => beq_eq_false_iff_ne.2 (h3 (a + i) (by omega) (by omega))), if_pos (beq_iff_eq.2 h2)]
theorem cntO_end (f : Nat → Bool) (on : Bool) (a n : Nat) (h1 : a ≤ n) (h3 : ∀ p, a ≤ p → p < n → f p ≠ on) : cntO f on n = cntO f on a := by
  obtain ⟨d, rfl⟩ := Nat.exists_eq_add_of_le h1
  unfold cntO
  rw [cntB_add, cntB_false _ d (fun i hi => beq_eq_false_iff_ne.2 (h3 (a + i) (by omega) (by omega)))]; rfl
theorem cntO_le (f : Nat → Bool) (on : Bool) (a : Nat) : cntO f on a ≤ a := cntB_le _ a
theorem cntO_true (f : Nat → Bool) (n : Nat) : cntO f true n = cntB f n := cntB_congr n (fun i _ => by cases f i <;> rfl)
theorem cntO_false (f : Nat → Bool) : ∀ n, (cntO f false n : Int) = n - cntB f n
  | 0 => rfl
  | n + 1 => by
    have ih := cntO_false f n
    unfold cntO at *
    rw [cntB_succ, cntB_succ f]
    cases f n <;> simp at ih ⊢ <;> omega
theorem sL1 (f : Nat → Bool) (n : Nat) (i : Int) (on : Bool) : setOK (setF f n i on) n i on = false := by
  unfold setF setOK setB
  by_cases h : 0 ≤ i ∧ i < n <;> cases on <;> cases e : f i.toNat <;> simp [h, e]
theorem sL2 (f : Nat → Bool) (n : Nat) (i : Int) (on : Bool) : setOK f n i on = (decide (0 ≤ i ∧ i < n) && (getB f n i != on)) := by
  unfold setOK getB
  by_cases h : 0 ≤ i ∧ i < n
  · rw [decide_eq_true h]; simp
  · rw [decide_eq_false h]; rfl
theorem sL3 (f : Nat → Bool) (n : Nat) (i : Int) (on : Bool) : getB (setF f n i on) n i = (decide (0 ≤ i ∧ i < n) && on) := by
  unfold setF setOK getB setB
  by_cases h : 0 ≤ i ∧ i < n
  · rw [decide_eq_true h]; cases on <;> cases e : f i.toNat <;> simp [e]
  · rw [decide_eq_false h]; rfl
theorem sL4 (f : Nat → Bool) (n : Nat) (i other : Int) (on : Bool) (h : i ≠ other) : getB (setF f n i on) n other = getB f n other := by
  unfold setF getB
  split
  · rename_i h1
    unfold setOK at h1
    simp only [Bool.and_eq_true, decide_eq_true_eq] at h1
    by_cases h2 : 0 ≤ other ∧ other < n
    · rw [decide_eq_true h2]
      unfold setB
      rw [if_neg (by omega)]
    · rw [decide_eq_false h2]; rfl
  · rfl
theorem sL5 (f : Nat → Bool) (n : Nat) (i : Int) (on : Bool) : (cntB (setF f n i on) n : Int) = cntB f n + (if setOK f n i on then (if on then 1 else -1) else 0) := by
  unfold setF
  by_cases h1 : setOK f n i on = true
  · rw [if_pos h1, if_pos h1]
    unfold setOK at h1
    simp only [Bool.and_eq_true, decide_eq_true_eq, bne_iff_ne] at h1
    rw [cntB_set f i.toNat on n (by omega)]
    have := h1.2
    revert this
    generalize f i.toNat = b
    cases on <;> cases b <;> simp <;> omega
  · rw [if_neg h1, if_neg h1]; omega
set_option maxRecDepth 100000 in
set_option maxHeartbeats 2000000 in
theorem law_Next (W : World) (hT : TabOK W) (n0 : Int) (l : List Open.E31) (A : Option Addr) (cp : Nat) (hS : Sl W A (l.flatMap Open.E31.cells)) (hw : ∀ x ∈ l, Open.wf31 x) (xl : l.length ≤ 9223372036854775807) (on : Bool) : Calls Tryd.prog 7 #[.int .i64 n0, .slice A l.length cp, .bool on] W fun e w' => e = .returned (.bool true) ∧ Below W.heap.size W w' := by
  have hM : Hp W (fun _ => False) [] W := Hp.start
  refine TC.enter (n := 88) Tryd.func7 rfl rfl rfl hM ?_
  refine TC.seq ?_
  refine TC.region ?_
  refine' TL.y rfl rfl rfl ?hy1 ?_
  case hy1 => exact Yl.assign rfl rfl
  refine TL.nil ?_
  refine TE.next ?_
  refine TC.seq ?_
  refine TC.region ?_
  refine' TL.c rfl rfl rfl ?hy2 ?_
  case hy2 => exact Yc.call rfl Tryd.func11 (by kernel_rfl) rfl rfl (Hp.calls (fun w h => k_works w (hT.below h.below)))
  intro _
  refine' TL.y rfl rfl rfl ?hy3 ?_
  case hy3 => exact Yl.assign rfl rfl
  refine TL.nil ?_
  refine TE.next ?_
  refine TC.seq ?_
  refine TC.seq ?_
  refine TC.region ?_
  refine' TL.y rfl rfl rfl ?hy4 ?_
  case hy4 => exact Yl.move rfl rfl
  refine' TL.y rfl rfl rfl ?hy5 ?_
  case hy5 => exact Yl.not rfl rfl
  refine TL.nil ?_
  refine TE.next ?_
  refine TC.no rfl rfl ?_
  refine TC.skip ?_
  refine TE.next ?_
  refine TC.seq ?_
  refine TC.seq ?_
  refine TC.region ?_
  refine' TL.y rfl rfl rfl ?hy6 ?_
  case hy6 => exact Yl.move rfl rfl
  refine' TL.y rfl rfl rfl ?hy7 ?_
  case hy7 => exact Yl.bin rfl rfl rfl (Bin.lss _ _ _ _)
  refine' TL.y rfl rfl rfl ?hy8 ?_
  case hy8 => exact Yl.move rfl rfl
  refine TL.split (i := 18) rfl (fun hs18 => ?_) (fun hs18 => ?_)
  · skip
    (try simp only [decide_eq_true_eq, decide_eq_false_iff_not, beq_iff_eq, beq_eq_false_iff_ne, bne_iff_ne, ne_eq, bne_eq_false_iff_eq, Bool.not_eq_true', Bool.not_eq_false', Int.not_lt, Int.not_le, gt_iff_lt, ge_iff_le] at hs18)
    refine TL.skip rfl rfl rfl ?_
    refine TL.skip rfl rfl rfl ?_
    refine' TL.y rfl rfl rfl ?hy9 ?_
    case hy9 => exact Yl.pickT rfl rfl rfl
    refine' TL.y rfl rfl rfl ?hy10 ?_
    case hy10 => exact Yl.move rfl rfl
    refine TL.skip rfl rfl rfl ?_
    refine TL.skip rfl rfl rfl ?_
    refine TL.skip rfl rfl rfl ?_
    refine' TL.y rfl rfl rfl ?hy11 ?_
    case hy11 => exact Yl.pickT rfl rfl rfl
    refine TL.nil ?_
    refine TE.next ?_
    refine TC.yes rfl rfl ?_
    refine TC.seq ?_
    refine TC.region ?_
    refine' TL.y rfl rfl rfl ?hy12 ?_
    case hy12 => exact Yl.move rfl rfl
    refine' TL.y rfl rfl rfl ?hy13 ?_
    case hy13 => exact Yl.assign rfl rfl
    refine TL.nil ?_
    refine TE.next ?_
    refine TC.ret ?_
    refine TE.thenRet ?_
    refine TE.ret1 rfl rfl ?_
    exact fun w h => ⟨congrArg (fun b => Ending.returned (Value.bool b)) (by first | rfl | (simp; done) : _ = true), h.below⟩
  · skip
    (try simp only [decide_eq_true_eq, decide_eq_false_iff_not, beq_iff_eq, beq_eq_false_iff_ne, bne_iff_ne, ne_eq, bne_eq_false_iff_eq, Bool.not_eq_true', Bool.not_eq_false', Int.not_lt, Int.not_le, gt_iff_lt, ge_iff_le] at hs18)
    refine' TL.y rfl rfl rfl ?hy14 ?_
    case hy14 => exact Yl.move rfl rfl
    refine' TL.y rfl rfl rfl ?hy15 ?_
    case hy15 => exact Yl.bin rfl rfl rfl (Bin.gtr _ _ _ _)
    refine' TL.y rfl rfl rfl ?hy16 ?_
    case hy16 => exact Yl.pickF rfl rfl rfl
    refine' TL.y rfl rfl rfl ?hy17 ?_
    case hy17 => exact Yl.move rfl rfl
    refine TL.split (i := 22) rfl (fun hs22 => ?_) (fun hs22 => ?_)
    · skip
      (try simp only [decide_eq_true_eq, decide_eq_false_iff_not, beq_iff_eq, beq_eq_false_iff_ne, bne_iff_ne, ne_eq, bne_eq_false_iff_eq, Bool.not_eq_true', Bool.not_eq_false', Int.not_lt, Int.not_le, gt_iff_lt, ge_iff_le] at hs22)
      refine TL.skip rfl rfl rfl ?_
      refine TL.skip rfl rfl rfl ?_
      refine TL.skip rfl rfl rfl ?_
      refine' TL.y rfl rfl rfl ?hy18 ?_
      case hy18 => exact Yl.pickT rfl rfl rfl
      refine TL.nil ?_
      refine TE.next ?_
      refine TC.yes rfl rfl ?_
      refine TC.seq ?_
      refine TC.region ?_
      refine' TL.y rfl rfl rfl ?hy19 ?_
      case hy19 => exact Yl.move rfl rfl
      refine' TL.y rfl rfl rfl ?hy20 ?_
      case hy20 => exact Yl.assign rfl rfl
      refine TL.nil ?_
      refine TE.next ?_
      refine TC.ret ?_
      refine TE.thenRet ?_
      refine TE.ret1 rfl rfl ?_
      exact fun w h => ⟨congrArg (fun b => Ending.returned (Value.bool b)) (by first | rfl | (simp; done) : _ = true), h.below⟩
    · skip
      (try simp only [decide_eq_true_eq, decide_eq_false_iff_not, beq_iff_eq, beq_eq_false_iff_ne, bne_iff_ne, ne_eq, bne_eq_false_iff_eq, Bool.not_eq_true', Bool.not_eq_false', Int.not_lt, Int.not_le, gt_iff_lt, ge_iff_le] at hs22)
      refine' TL.y rfl rfl rfl ?hy21 ?_
      case hy21 => exact Yl.move rfl rfl
      refine' TL.y rfl rfl rfl ?hy22 ?_
      case hy22 => exact Yl.len rfl rfl Tryd.underlying22
      refine' TL.y rfl rfl rfl ?hy23 ?_
      case hy23 => exact Yl.bin rfl rfl rfl (Bin.gtr _ _ _ _)
      refine' TL.y rfl rfl rfl ?hy24 ?_
      case hy24 => exact Yl.pickF rfl rfl rfl
      refine TL.nil ?_
      refine TE.next ?_
      refine TC.cond rfl (fun hs26 => ?_) (fun hs26 => ?_)
      · skip
        (try simp only [decide_eq_true_eq, decide_eq_false_iff_not, beq_iff_eq, beq_eq_false_iff_ne, bne_iff_ne, ne_eq, bne_eq_false_iff_eq, Bool.not_eq_true', Bool.not_eq_false', Int.not_lt, Int.not_le, gt_iff_lt, ge_iff_le] at hs26)
        refine TC.seq ?_
        refine TC.region ?_
        refine' TL.y rfl rfl rfl ?hy25 ?_
        case hy25 => exact Yl.move rfl rfl
        refine' TL.y rfl rfl rfl ?hy26 ?_
        case hy26 => exact Yl.assign rfl rfl
        refine TL.nil ?_
        refine TE.next ?_
        refine TC.ret ?_
        refine TE.thenRet ?_
        refine TE.ret1 rfl rfl ?_
        exact fun w h => ⟨congrArg (fun b => Ending.returned (Value.bool b)) (by first | rfl | (simp; done) : _ = true), h.below⟩
      · skip
        (try simp only [decide_eq_true_eq, decide_eq_false_iff_not, beq_iff_eq, beq_eq_false_iff_ne, bne_iff_ne, ne_eq, bne_eq_false_iff_eq, Bool.not_eq_true', Bool.not_eq_false', Int.not_lt, Int.not_le, gt_iff_lt, ge_iff_le] at hs26)
        obtain ⟨n, rfl⟩ := Int.eq_ofNat_of_zero_le (show 0 ≤ n0 by omega)
        refine TC.skip ?_
        refine TE.next ?_
        refine TC.seq ?_
        refine TC.region ?_
        refine' TL.y rfl rfl rfl ?hy27 ?_
        case hy27 => exact Yl.move rfl rfl
        refine' TL.c rfl rfl rfl ?hy28 ?_
        case hy28 => exact Yc.call rfl Tryd.func12 (by kernel_rfl) rfl rfl (Hp.makes (k_new (n : Int)))
        intro ⟨bm, gm⟩
        rw [show newN (n : Int) = n from by unfold newN; omega]
        refine' TL.y rfl rfl rfl ?hy29 ?_
        case hy29 => exact Yl.assign rfl rfl
        refine TL.nil ?_
        refine TE.next ?_
        refine TC.seq ?_
        refine TC.seq ?_
        refine TC.region ?_
        refine' TL.y rfl rfl rfl ?hy30 ?_
        case hy30 => exact Yl.assign rfl rfl
        refine TL.nil ?_
        refine TE.next ?_
        refine TC.block ?_
        refine TC.loop (σ := Nat × (Nat → Bool)) (fun s => [(0, .int .i64 (n : Int)), (1, .slice A l.length cp), (2, .bool on), (7, .bool true), (8, .pointer (some ⟨bm, 0, none⟩)), (9, .int .i64 (s.1 : Int))]) (fun s => Hp W (fun _ => False) [mapR bm gm n s.2]) (fun s => s.1 ≤ l.length) (fun s => l.length - s.1) (0, fun _ => false) ?hF31 ?hs31 ?hm31 ?round31
        case hF31 => exact Nat.zero_le _
        case hs31 => exact ⟨rfl, rfl, rfl, rfl, rfl, rfl, trivial⟩
        case hm31 => exact fun _ h => h
        case round31 =>
          rintro ⟨i, f⟩ h1
          dsimp only at h1 ⊢
          refine TC.seq ?_
          refine TC.seq ?_
          refine TC.region ?_
          refine' TL.y rfl rfl rfl ?hy32 ?_
          case hy32 => exact Yl.move rfl rfl
          refine' TL.y rfl rfl rfl ?hy33 ?_
          case hy33 => exact Yl.move rfl rfl
          refine' TL.y rfl rfl rfl ?hy34 ?_
          case hy34 => exact Yl.len rfl rfl Tryd.underlying22
          refine' TL.y rfl rfl rfl ?hy35 ?_
          case hy35 => exact Yl.bin rfl rfl rfl (Bin.lss _ _ _ _)
          refine TL.nil ?_
          refine TE.next ?_
          refine TC.cond rfl (fun hs33 => ?_) (fun hs33 => ?_)
          · skip
            (try simp only [decide_eq_true_eq, decide_eq_false_iff_not, beq_iff_eq, beq_eq_false_iff_ne, bne_iff_ne, ne_eq, bne_eq_false_iff_eq, Bool.not_eq_true', Bool.not_eq_false', Int.not_lt, Int.not_le, gt_iff_lt, ge_iff_le] at hs33)
            have hlt : i < l.length := by omega
            obtain ⟨bb, oo, rfl⟩ := Sl.some2 hS (by have := Open.at31_0 l i hlt; rw [List.getElem?_eq_some_iff] at this; obtain ⟨h1, _⟩ := this; omega)
            have hwi := hw _ (List.getElem_mem hlt)
            refine TC.skip ?_
            refine TE.next ?_
            refine TC.seq ?_
            refine TC.block ?_
            refine TC.draw (k := 12) (Hp W (fun _ => False) []) [] #[false, false, false, false, false, false, false, false, false, false, false, false] (by kernel_rfl) rfl rfl (fun _ h => h.drew) (fun _ h => h.sub (List.nil_sublist _)) ?_
            refine' TA.y (i := 0) #[true, false, false, false, false, false, false, false, false, false, false, false] rfl rfl rfl (by kernel_rfl) (fun _ _ _ h => h) (fun _ h => by exact Hp.sub h (by repeat (first | exact List.Sublist.refl _ | apply List.Sublist.cons))) rfl ?hy36 ?_
            case hy36 => exact Yl.move rfl rfl
            refine' TA.y (i := 1) #[true, true, false, false, false, false, false, false, false, false, false, false] rfl rfl rfl (by kernel_rfl) (fun _ _ _ h => h) (fun _ h => by exact Hp.sub h (by repeat (first | exact List.Sublist.refl _ | apply List.Sublist.cons))) rfl ?hy37 ?_
            case hy37 => exact Yl.move rfl rfl
            refine' TA.y (i := 2) #[true, true, true, false, false, false, false, false, false, false, false, false] rfl rfl rfl (by kernel_rfl) (fun _ _ _ h => h) (fun _ h => by exact Hp.sub h (by repeat (first | exact List.Sublist.refl _ | apply List.Sublist.cons))) rfl ?hy38 ?_
            case hy38 => exact Yl.move rfl rfl
            refine' TA.y (i := 3) #[true, true, true, true, false, false, false, false, false, false, false, false] rfl rfl rfl (by kernel_rfl) (fun _ _ _ h => h) (fun _ h => by exact Hp.sub h (by repeat (first | exact List.Sublist.refl _ | apply List.Sublist.cons))) rfl ?hy39 ?_
            case hy39 => first | exact Yl.ixkn (k := 2) rfl rfl rfl Tryd.underlying22 (by kernel_rfl) (by omega) | exact Yl.ixkz (k := 2) rfl rfl rfl Tryd.underlying22 (by kernel_rfl) (by omega) (by omega)
            refine' TA.y (i := 4) #[true, true, true, true, true, false, false, false, false, false, false, false] rfl rfl rfl (by kernel_rfl) (fun _ _ _ h => h) (fun _ h => by exact Hp.sub h (by repeat (first | exact List.Sublist.refl _ | apply List.Sublist.cons))) rfl ?hy40 ?_
            case hy40 => first | exact Yl.field0 (k := 0) 0 rfl rfl Tryd.underlying31 rfl (by kernel_rfl) rfl | exact Yl.field (k := 0) 0 rfl rfl Tryd.underlying31 rfl (by kernel_rfl) rfl
            refine' TA.y (i := 5) #[true, true, true, true, true, true, false, false, false, false, false, false] rfl rfl rfl (by kernel_rfl) (fun _ _ _ h => h) (fun _ h => by exact Hp.sub h (by repeat (first | exact List.Sublist.refl _ | apply List.Sublist.cons))) rfl ?hy41 ?_
            case hy41 => exact Yl.load rfl rfl (by kernel_rfl) (Sl.cellAt hS (Open.at31_0 l i hlt) (fun _ => id) (by omega))
            refine' TA.y (i := 6) #[true, true, true, true, true, true, true, false, false, false, false, false] rfl rfl rfl (by kernel_rfl) (fun _ _ _ h => h) (fun _ h => by exact Hp.sub h (by repeat (first | exact List.Sublist.refl _ | apply List.Sublist.cons))) rfl ?hy42 ?_
            case hy42 => exact Yl.move rfl rfl
            refine' TA.y (i := 7) #[true, true, true, true, true, true, true, true, false, false, false, false] rfl rfl rfl (by kernel_rfl) (fun _ _ _ h => h) (fun _ h => by exact Hp.sub h (by repeat (first | exact List.Sublist.refl _ | apply List.Sublist.cons))) rfl ?hy43 ?_
            case hy43 => exact Yl.move rfl rfl
            refine' TA.y (i := 8) #[true, true, true, true, true, true, true, true, true, false, false, false] rfl rfl rfl (by kernel_rfl) (fun _ _ _ h => h) (fun _ h => by exact Hp.sub h (by repeat (first | exact List.Sublist.refl _ | apply List.Sublist.cons))) rfl ?hy44 ?_
            case hy44 => first | exact Yl.ixkn (k := 2) rfl rfl rfl Tryd.underlying22 (by kernel_rfl) (by omega) | exact Yl.ixkz (k := 2) rfl rfl rfl Tryd.underlying22 (by kernel_rfl) (by omega) (by omega)
            refine' TA.y (i := 9) #[true, true, true, true, true, true, true, true, true, true, false, false] rfl rfl rfl (by kernel_rfl) (fun _ _ _ h => h) (fun _ h => by exact Hp.sub h (by repeat (first | exact List.Sublist.refl _ | apply List.Sublist.cons))) rfl ?hy45 ?_
            case hy45 => first | exact Yl.field0 (k := 0) 1 rfl rfl Tryd.underlying31 rfl (by kernel_rfl) rfl | exact Yl.field (k := 0) 1 rfl rfl Tryd.underlying31 rfl (by kernel_rfl) rfl
            refine' TA.y (i := 10) #[true, true, true, true, true, true, true, true, true, true, true, false] rfl rfl rfl (by kernel_rfl) (fun _ _ _ h => h) (fun _ h => by exact Hp.sub h (by repeat (first | exact List.Sublist.refl _ | apply List.Sublist.cons))) rfl ?hy46 ?_
            case hy46 => exact Yl.load rfl rfl (by kernel_rfl) (Sl.cellAt hS (Open.at31_1 l i hlt) (fun _ => id) (by omega))
            refine' TA.c (i := 11) #[true, true, true, true, true, true, true, true, true, true, true, true] rfl rfl rfl (by kernel_rfl) (by decide) rfl ?hy47 ?hz47 ?_
            case hy47 => exact Yc.call rfl Tryd.func15 (by kernel_rfl) rfl rfl (Hp.turn1 mem0 foc0 (k_set (l[i]'hlt).f0 (l[i]'hlt).f1))
            case hz47 => exact (fun _ _ h => by exact Hp.sub h (by repeat (first | exact List.Sublist.refl _ | apply List.Sublist.cons)))
            intro _
            refine TA.done (by kernel_rfl) ?_
            refine TE.inNormal ?_
            refine TE.next ?_
            refine TC.region ?_
            refine' TL.y rfl rfl rfl ?hy48 ?_
            case hy48 => exact Yl.move rfl rfl
            refine' TL.y rfl rfl rfl ?hy49 ?_
            case hy49 => first | (refine Yl.val (Yl.bin rfl rfl rfl (Bin.add _ _ _ _)) (congrArg (Value.int .i64) (i64in ?_ ?_)) <;> omega) | exact Yl.bin rfl rfl rfl (Bin.add _ _ _ _)
            refine' TL.y rfl rfl rfl ?hy50 ?_
            case hy50 => exact Yl.assign rfl rfl
            refine TL.nil ?_
            refine TE.round (i + 1, setF f n (l[i]'hlt).f0 (l[i]'hlt).f1) ?hF51 ?hlt51 ?hs51 ?hm51
            case hF51 => dsimp only; omega
            case hlt51 => dsimp only; omega
            case hs51 => exact ⟨rfl, rfl, rfl, rfl, rfl, rfl, trivial⟩
            case hm51 => exact fun _ h => h
          · skip
            (try simp only [decide_eq_true_eq, decide_eq_false_iff_not, beq_iff_eq, beq_eq_false_iff_ne, bne_iff_ne, ne_eq, bne_eq_false_iff_eq, Bool.not_eq_true', Bool.not_eq_false', Int.not_lt, Int.not_le, gt_iff_lt, ge_iff_le] at hs33)
            refine TC.exit ?_
            refine TE.thenExit ?_
            refine TE.thenExit ?_
            refine TE.inHere ?_
            refine TE.next ?_
            refine TC.seq ?_
            refine TC.region ?_
            refine' TL.y rfl rfl rfl ?hy52 ?_
            case hy52 => exact Yl.assign rfl rfl
            refine TL.nil ?_
            refine TE.next ?_
            refine TC.seq ?_
            refine TC.seq ?_
            refine TC.region ?_
            refine' TL.y rfl rfl rfl ?hy53 ?_
            case hy53 => exact Yl.move rfl rfl
            refine' TL.y rfl rfl rfl ?hy54 ?_
            case hy54 => exact Yl.move rfl rfl
            refine' TL.c rfl rfl rfl ?hy55 ?_
            case hy55 => exact Yc.call rfl Tryd.func21 (by kernel_rfl) rfl rfl (Hp.calls (fun w h => k_next w (h.all _ mem0) (hT.below h.below) 0 (by decide) on))
            intro _
            refine' TL.y rfl rfl rfl ?hy56 ?_
            case hy56 => exact Yl.assign rfl rfl
            refine TL.nil ?_
            refine TE.next ?_
            refine TC.block ?_
            refine TC.loop (σ := Nat) (fun a => [(0, .int .i64 (n : Int)), (2, .bool on), (7, .bool true), (8, .pointer (some ⟨bm, 0, none⟩)), (10, .int .i64 (cntO f on a : Int)), (11, .int .i64 (nextV f n (a : Int) on))]) (fun a => Hp W (fun _ => False) [mapR bm gm n f]) (fun a => a ≤ n) (fun a => n - a) 0 ?hF57 ?hs57 ?hm57 ?round57
            case hF57 => exact Nat.zero_le _
            case hs57 => exact ⟨rfl, rfl, rfl, rfl, rfl, rfl, trivial⟩
            case hm57 => exact fun _ h => h
            case round57 =>
              intro a ha
              have hca := cntO_le f on a
              refine TC.seq ?_
              refine TC.seq ?_
              refine TC.region ?_
              refine' TL.y rfl rfl rfl ?hy58 ?_
              case hy58 => exact Yl.move rfl rfl
              refine' TL.y rfl rfl rfl ?hy59 ?_
              case hy59 => exact Yl.bin rfl rfl rfl (Bin.geq _ _ _ _)
              refine TL.nil ?_
              refine TE.next ?_
              refine TC.cond rfl (fun hs52 => ?_) (fun hs52 => ?_)
              · skip
                (try simp only [decide_eq_true_eq, decide_eq_false_iff_not, beq_iff_eq, beq_eq_false_iff_ne, bne_iff_ne, ne_eq, bne_eq_false_iff_eq, Bool.not_eq_true', Bool.not_eq_false', Int.not_lt, Int.not_le, gt_iff_lt, ge_iff_le] at hs52)
                obtain ⟨q, hq1, hq2, hq3, hq4, hq5⟩ : ∃ q : Nat, nextV f n (a : Int) on = q ∧ a ≤ q ∧ q < n ∧ f q = on ∧ ∀ p, a ≤ p → p < q → f p ≠ on := by
                  rcases nextV_cases f n (a : Int) on with ⟨h1, _⟩ | ⟨q, h1, h2, h3, h4, h5⟩
                  · omega
                  · exact ⟨q, h1, by omega, h3, h4, fun p h6 h7 => h5 p (by omega) h7⟩
                rw [hq1]
                refine TC.skip ?_
                refine TE.next ?_
                refine TC.seq ?_
                refine TC.block ?_
                refine TC.seq ?_
                refine TC.seq ?_
                refine TC.region ?_
                refine' TL.y rfl rfl rfl ?hy60 ?_
                case hy60 => exact Yl.move rfl rfl
                refine' TL.y rfl rfl rfl ?hy61 ?_
                case hy61 => exact Yl.move rfl rfl
                refine' TL.y rfl rfl rfl ?hy62 ?_
                case hy62 => exact Yl.bin rfl rfl rfl (Bin.geq _ _ _ _)
                refine' TL.y rfl rfl rfl ?hy63 ?_
                case hy63 => exact Yl.move rfl rfl
                refine TL.re (i := 61) (v' := .bool false) rfl (congrArg Value.bool (by first | (simp; omega) | (rw [getB_in hq3, hq4]; simp) | simp)) ?_
                refine' TL.y rfl rfl rfl ?hy64 ?_
                case hy64 => exact Yl.move rfl rfl
                refine' TL.y rfl rfl rfl ?hy65 ?_
                case hy65 => exact Yl.move rfl rfl
                refine' TL.c rfl rfl rfl ?hy66 ?_
                case hy66 => exact Yc.call rfl Tryd.func17 (by kernel_rfl) rfl rfl (Hp.calls (fun w h => k_get w (h.all _ mem0) (q : Int)))
                intro _
                refine' TL.y rfl rfl rfl ?hy67 ?_
                case hy67 => exact Yl.move rfl rfl
                refine' TL.y rfl rfl rfl ?hy68 ?_
                case hy68 => exact Yl.bin rfl rfl rfl (Bin.neqB _ _ _ (by kernel_rfl))
                refine' TL.y rfl rfl rfl ?hy69 ?_
                case hy69 => exact Yl.pickF rfl rfl rfl
                refine' TL.y rfl rfl rfl ?hy70 ?_
                case hy70 => exact Yl.move rfl rfl
                refine TL.re (i := 68) (v' := .bool false) rfl (congrArg Value.bool (by first | (simp; omega) | (rw [getB_in hq3, hq4]; simp) | simp)) ?_
                refine' TL.y rfl rfl rfl ?hy71 ?_
                case hy71 => exact Yl.move rfl rfl
                refine' TL.y rfl rfl rfl ?hy72 ?_
                case hy72 => exact Yl.move rfl rfl
                refine' TL.y rfl rfl rfl ?hy73 ?_
                case hy73 => exact Yl.bin rfl rfl rfl (Bin.gtr _ _ _ _)
                refine' TL.y rfl rfl rfl ?hy74 ?_
                case hy74 => exact Yl.pickF rfl rfl rfl
                refine TL.nil ?_
                refine TE.next ?_
                refine TC.no rfl (by first | (simp; omega) | (rw [getB_in hq3, hq4]; simp) | simp) ?_
                refine TC.skip ?_
                refine TE.next ?_
                refine TC.region ?_
                refine' TL.y rfl rfl rfl ?hy75 ?_
                case hy75 => exact Yl.move rfl rfl
                refine' TL.y rfl rfl rfl ?hy76 ?_
                case hy76 => first | (refine Yl.val (Yl.bin rfl rfl rfl (Bin.add _ _ _ _)) (congrArg (Value.int .i64) (i64in ?_ ?_)) <;> omega) | exact Yl.bin rfl rfl rfl (Bin.add _ _ _ _)
                refine' TL.y rfl rfl rfl ?hy77 ?_
                case hy77 => exact Yl.assign rfl rfl
                refine TL.nil ?_
                refine TE.inNormal ?_
                refine TE.next ?_
                refine TC.region ?_
                refine' TL.y rfl rfl rfl ?hy78 ?_
                case hy78 => exact Yl.move rfl rfl
                refine' TL.y rfl rfl rfl ?hy79 ?_
                case hy79 => exact Yl.move rfl rfl
                refine' TL.y rfl rfl rfl ?hy80 ?_
                case hy80 => first | (refine Yl.val (Yl.bin rfl rfl rfl (Bin.add _ _ _ _)) (congrArg (Value.int .i64) (i64in ?_ ?_)) <;> omega) | exact Yl.bin rfl rfl rfl (Bin.add _ _ _ _)
                refine' TL.y rfl rfl rfl ?hy81 ?_
                case hy81 => exact Yl.move rfl rfl
                refine' TL.c rfl rfl rfl ?hy82 ?_
                case hy82 => exact Yc.call rfl Tryd.func21 (by kernel_rfl) rfl rfl (Hp.calls (fun w h => k_next w (h.all _ mem0) (hT.below h.below) ((q : Int) + 1) (by omega) on))
                intro _
                refine' TL.y rfl rfl rfl ?hy83 ?_
                case hy83 => exact Yl.assign rfl rfl
                refine TL.nil ?_
                refine TE.round (q + 1) ?hF84 ?hlt84 ?hs84 ?hm84
                case hF84 => omega
                case hlt84 => omega
                case hs84 => exact ⟨rfl, rfl, rfl, rfl, (by show some (Value.int .i64 ((cntO f on a : Int) + 1)) = _; rw [cntO_step f on a q (by omega) hq4 (fun p h1 h2 => hq5 p (by omega) h2)]; push_cast; rfl), (by show some (Value.int .i64 (nextV f n ((q : Int) + 1) on)) = _; push_cast; rfl), trivial⟩
                case hm84 => exact fun _ h => h
              · skip
                (try simp only [decide_eq_true_eq, decide_eq_false_iff_not, beq_iff_eq, beq_eq_false_iff_ne, bne_iff_ne, ne_eq, bne_eq_false_iff_eq, Bool.not_eq_true', Bool.not_eq_false', Int.not_lt, Int.not_le, gt_iff_lt, ge_iff_le] at hs52)
                have hno : ∀ p, a ≤ p → p < n → f p ≠ on := by
                  rcases nextV_cases f n (a : Int) on with ⟨_, h2⟩ | ⟨q, h1, _⟩
                  · exact fun p h6 h7 => h2 p (by omega) h7
                  · omega
                have hcn := cntB_le f n
                refine TC.exit ?_
                refine TE.thenExit ?_
                refine TE.thenExit ?_
                refine TE.inHere ?_
                refine TE.next ?_
                refine TC.seq ?_
                refine TC.region ?_
                refine' TL.y rfl rfl rfl ?hy85 ?_
                case hy85 => exact Yl.move rfl rfl
                refine' TL.c rfl rfl rfl ?hy86 ?_
                case hy86 => exact Yc.call rfl Tryd.func19 (by kernel_rfl) rfl rfl (Hp.calls (fun w h => k_count w (h.all _ mem0)))
                intro _
                refine' TL.y rfl rfl rfl ?hy87 ?_
                case hy87 => exact Yl.assign rfl rfl
                refine TL.nil ?_
                refine TE.next ?_
                refine TC.seq ?_
                refine TC.seq ?_
                refine TC.region ?_
                refine' TL.y rfl rfl rfl ?hy88 ?_
                case hy88 => exact Yl.move rfl rfl
                refine' TL.y rfl rfl rfl ?hy89 ?_
                case hy89 => exact Yl.not rfl rfl
                refine TL.nil ?_
                refine TE.next ?_
                refine TC.cond rfl (fun hs78 => ?_) (fun hs78 => ?_)
                · skip
                  (try simp only [decide_eq_true_eq, decide_eq_false_iff_not, beq_iff_eq, beq_eq_false_iff_ne, bne_iff_ne, ne_eq, bne_eq_false_iff_eq, Bool.not_eq_true', Bool.not_eq_false', Int.not_lt, Int.not_le, gt_iff_lt, ge_iff_le] at hs78)
                  refine TC.region ?_
                  refine' TL.y rfl rfl rfl ?hy90 ?_
                  case hy90 => exact Yl.move rfl rfl
                  refine' TL.y rfl rfl rfl ?hy91 ?_
                  case hy91 => exact Yl.move rfl rfl
                  refine' TL.y rfl rfl rfl ?hy92 ?_
                  case hy92 => first | (refine Yl.val (Yl.bin rfl rfl rfl (Bin.sub _ _ _ _)) (congrArg (Value.int .i64) (i64in ?_ ?_)) <;> omega) | exact Yl.bin rfl rfl rfl (Bin.sub _ _ _ _)
                  refine' TL.y rfl rfl rfl ?hy93 ?_
                  case hy93 => exact Yl.assign rfl rfl
                  refine TL.nil ?_
                  refine TE.next ?_
                  refine TC.seq ?_
                  refine TC.region ?_
                  refine' TL.y rfl rfl rfl ?hy94 ?_
                  case hy94 => exact Yl.move rfl rfl
                  refine' TL.y rfl rfl rfl ?hy95 ?_
                  case hy95 => exact Yl.move rfl rfl
                  refine' TL.y rfl rfl rfl ?hy96 ?_
                  case hy96 => exact Yl.move rfl rfl
                  refine' TL.y rfl rfl rfl ?hy97 ?_
                  case hy97 => exact Yl.move rfl rfl
                  refine' TL.y rfl rfl rfl ?hy98 ?_
                  case hy98 => exact Yl.bin rfl rfl rfl (Bin.eql _ _ _ _)
                  refine' TL.y rfl rfl rfl ?hy99 ?_
                  case hy99 => exact Yl.pickT rfl rfl rfl
                  refine' TL.y rfl rfl rfl ?hy100 ?_
                  case hy100 => exact Yl.assign rfl rfl
                  refine TL.nil ?_
                  refine TE.next ?_
                  refine TC.ret ?_
                  refine TE.ret1 rfl rfl ?_
                  exact fun w h => ⟨congrArg (fun b => Ending.returned (Value.bool b)) (by rw [← cntO_end f on a n (by omega) hno, show on = false from hs78, cntO_false]; simp : _ = true), h.below⟩
                · skip
                  (try simp only [decide_eq_true_eq, decide_eq_false_iff_not, beq_iff_eq, beq_eq_false_iff_ne, bne_iff_ne, ne_eq, bne_eq_false_iff_eq, Bool.not_eq_true', Bool.not_eq_false', Int.not_lt, Int.not_le, gt_iff_lt, ge_iff_le] at hs78)
                  refine TC.skip ?_
                  refine TE.next ?_
                  refine TC.seq ?_
                  refine TC.region ?_
                  refine' TL.y rfl rfl rfl ?hy101 ?_
                  case hy101 => exact Yl.move rfl rfl
                  refine' TL.y rfl rfl rfl ?hy102 ?_
                  case hy102 => exact Yl.move rfl rfl
                  refine' TL.y rfl rfl rfl ?hy103 ?_
                  case hy103 => exact Yl.move rfl rfl
                  refine' TL.y rfl rfl rfl ?hy104 ?_
                  case hy104 => exact Yl.move rfl rfl
                  refine' TL.y rfl rfl rfl ?hy105 ?_
                  case hy105 => exact Yl.bin rfl rfl rfl (Bin.eql _ _ _ _)
                  refine' TL.y rfl rfl rfl ?hy106 ?_
                  case hy106 => exact Yl.pickT rfl rfl rfl
                  refine' TL.y rfl rfl rfl ?hy107 ?_
                  case hy107 => exact Yl.assign rfl rfl
                  refine TL.nil ?_
                  refine TE.next ?_
                  refine TC.ret ?_
                  refine TE.ret1 rfl rfl ?_
                  exact fun w h => ⟨congrArg (fun b => Ending.returned (Value.bool b)) (by rw [← cntO_end f on a n (by omega) hno, show on = true from by simpa using hs78, cntO_true]; simp : _ = true), h.below⟩
end Go.Proofs.YtjampfcibocnlaaDoor.Pk
