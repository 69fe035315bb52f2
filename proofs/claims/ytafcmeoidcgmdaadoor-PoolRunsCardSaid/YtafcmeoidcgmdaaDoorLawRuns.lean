/- The walk through PoolRuns. -/
import Derived.Test.YtafcmeoidcgmdaaDoorWorks
import Derived.Test.YtafcmeoidcgmdaaDoorProg
import Derived.RowKit3
namespace Go.Proofs.YtafcmeoidcgmdaaDoor.Pk
open Go Go.RowKit Go.Proofs.YtafcmeoidcgmdaaDoor.HL Go.Proofs.YtafcmeoidcgmdaaDoor.Ev Go.Proofs.YtafcmeoidcgmdaaDoorW.PrintWords Go.Proofs.YtafcmeoidcgmdaaDoor.BM
set_option linter.unusedVariables false
set_option linter.unusedSimpArgs false
theorem cnt_full {f : Nat → Bool} {n : Nat} (h : ∀ p, p < n → f p = true) : cntB f n = n := by
  induction n with
  | zero => rfl
  | succ n ih => rw [cntB_succ, ih (fun p hp => h p (by omega)), if_pos (h n (by omega))]
theorem cnt_hole {f : Nat → Bool} : ∀ {n q : Nat}, q < n → f q = false → cntB f n < n
  | n + 1, q, hq, hf => by
    rw [cntB_succ]
    have hl := cntB_le f n
    by_cases e : q = n
    · subst e; rw [hf]; simp; omega
    · have := cnt_hole (f := f) (n := n) (q := q) (by omega) hf
      split <;> omega
theorem take_cases (f : Nat → Bool) (n : Nat) : (runA f n 1 = (-1, 3) ∧ runF f n 1 = f ∧ cntB f n = n ∧ ∀ p, p < n → f p = true) ∨ ∃ q : Nat, q < n ∧ runA f n 1 = ((q : Int), 0) ∧ runF f n 1 = setB f q true ∧ f q = false ∧ cntB f n < n ∧ (∀ p, p < q → f p = true) ∧ cntB (setB f q true) n = cntB f n + 1 := by
  have e1 : (1 : Int).toNat = 1 := rfl
  rcases nextV_cases f n 0 false with ⟨h1, h2⟩ | ⟨q, h1, h2, h3, h4, h5⟩
  · have hr : runV f n (1 : Int).toNat = -1 := by rw [e1, runV_one]; exact h1
    have h := runA_none (k := 1) (by decide) hr
    have ht : ∀ p, p < n → f p = true := fun p hp => by have := h2 p (by omega) hp; cases e : f p; exact absurd e this; rfl
    exact .inl ⟨h.1, h.2, cnt_full ht, ht⟩
  · have hr : runV f n (1 : Int).toNat = q := by rw [e1, runV_one]; exact h1
    have h := runA_some (k := 1) (by decide) hr
    refine .inr ⟨q, h3, h.1, by rw [h.2, e1, fillB_one], h4, cnt_hole h3 h4, fun p hp => by have := h5 p (by omega) hp; cases e : f p; exact absurd e this; rfl, ?_⟩
    have := cntB_set f q true n h3
    rw [h4] at this; simp at this; omega
theorem cnt_give {f : Nat → Bool} {n j : Nat} (h : j < n) (hf : f j = true) : (cntB (setB f j false) n : Int) = cntB f n - 1 := by
  have := cntB_set f j false n h
  rw [hf] at this; simp at this; omega
theorem cnt_fill {f : Nat → Bool} {n a : Nat} : ∀ k, a + k ≤ n → (∀ p, a ≤ p → p < a + k → f p = false) → cntB (fillB f a k) n = cntB f n + k
  | 0, _, _ => by rw [fillB_zero]; rfl
  | k + 1, h, hf => by
    rw [← fillB_succ]
    have := cntB_set (fillB f a k) (a + k) true n (by omega)
    rw [show fillB f a k (a + k) = false from by unfold fillB; rw [if_neg (by omega)]; exact hf _ (by omega) (by omega), cnt_fill k (by omega) (fun p h1 h2 => hf p h1 (by omega))] at this
    simp at this; omega
theorem run_less {f : Nat → Bool} {n k a : Nat} (k2 : Nat) (hk : k2 ≤ k) (h2 : a + k ≤ n) (h3 : ∀ p, a ≤ p → p < a + k → f p = false) : ∃ a2 : Nat, runV f n k2 = a2 ∧ a2 ≤ a := by
  rcases runV_cases f n k2 with ⟨_, h5⟩ | ⟨a2, h4, h5, h6, h7⟩
  · exact absurd (fun p h1 h2 => h3 p h1 (by omega)) (h5 a (by omega))
  · refine ⟨a2, h4, ?_⟩
    rcases Nat.lt_or_ge a a2 with h | h
    · exact absurd (fun p h1 h2 => h3 p h1 (by omega)) (h7 a h)
    · exact h
theorem give_split (f : Nat → Bool) (n : Nat) (x : Int) : x < 0 ∨ (0 ≤ x ∧ (n : Int) ≤ x) ∨ (∃ j : Nat, x = j ∧ j < n ∧ f j = false) ∨ ∃ j : Nat, x = j ∧ j < n ∧ f j = true := by
  by_cases h0 : x < 0
  · exact .inl h0
  · by_cases h1 : (n : Int) ≤ x
    · exact .inr (.inl ⟨by omega, h1⟩)
    · obtain ⟨j, rfl⟩ := Int.eq_ofNat_of_zero_le (show 0 ≤ x by omega)
      cases e : f j
      · exact .inr (.inr (.inl ⟨j, rfl, by omega, e⟩))
      · exact .inr (.inr (.inr ⟨j, rfl, by omega, e⟩))
theorem mod_gap {s p i : Nat} (h : p % s = i % s) (hl : i < p) : i + s ≤ p := by
  have h1 := Nat.div_add_mod p s
  have h2 := Nat.div_add_mod i s
  have h3 : i / s < p / s := by
    rcases Nat.lt_or_ge (i / s) (p / s) with h3 | h3
    · exact h3
    · have := Nat.mul_le_mul_left s h3; omega
  have h4 : s * (i / s + 1) ≤ s * (p / s) := Nat.mul_le_mul_left s h3
  rw [Nat.mul_add, Nat.mul_one] at h4
  omega
theorem level_facts (x low high : Int) (h : 0 ≤ x) : 0 ≤ levelV x low high ∧ levelV x low high ≤ 2 ∧ (levelV x low high = 0 ↔ x < low) ∧ levelV (x - 1) low high ≤ levelV x low high ∧ 0 ≤ levelV (x - 1) low high := by
  unfold levelV
  refine ⟨?_, ?_, ?_, ?_, ?_⟩ <;> repeat' split <;> omega
attribute [local irreducible] rowA mapR rowR poolR rpoolR
set_option maxRecDepth 100000 in
set_option maxHeartbeats 2000000 in
theorem law_Runs (W : World) (hT : TabOK W) (n0 : Int) (l : List Int) (A : Option Addr) (cp : Nat) (hS : Sl W A (l.map (Value.int .i64))) (hw : wfI l) (xl : l.length ≤ 9223372036854775807) (k0 : Int) : Calls Tryd.prog 5 #[.int .i64 n0, .slice A l.length cp, .int .i64 k0] W fun e w' => e = .returned (.bool true) ∧ Below W.heap.size W w' := by
  have hM : Hp W (fun _ => False) [] W := Hp.start
  refine TC.enter (n := 155) Tryd.func5 rfl rfl rfl hM ?_
  refine TC.seq ?_
  refine TC.region ?_
  refine' TL.y rfl rfl rfl ?hy1 ?_
  case hy1 => exact Yl.assign rfl rfl
  refine TL.nil ?_
  refine TE.next ?_
  refine TC.seq ?_
  refine TC.region ?_
  refine' TL.c rfl rfl rfl ?hy2 ?_
  case hy2 => exact Yc.call rfl Tryd.func9 (by kernel_rfl) rfl rfl (Hp.calls (fun w h => k_works w (hT.below h.below)))
  intro _
  refine' TL.y rfl rfl rfl ?hy3 ?_
  case hy3 => exact Yl.assign rfl rfl
  refine TL.nil ?_
  refine TE.next ?_
  refine TC.seq ?_
  refine TC.seq ?_
  refine TC.region ?_
  refine' TL.y rfl rfl rfl ?hy4 ?_
  case hy4 => exact Yl.move rfl rfl
  refine' TL.y rfl rfl rfl ?hy5 ?_
  case hy5 => exact Yl.not rfl rfl
  refine TL.nil ?_
  refine TE.next ?_
  refine TC.no rfl rfl ?_
  refine TC.skip ?_
  refine TE.next ?_
  refine TC.seq ?_
  refine TC.seq ?_
  refine TC.region ?_
  refine' TL.y rfl rfl rfl ?hy6 ?_
  case hy6 => exact Yl.move rfl rfl
  refine' TL.y rfl rfl rfl ?hy7 ?_
  case hy7 => exact Yl.bin rfl rfl rfl (Bin.lss _ _ _ _)
  refine' TL.y rfl rfl rfl ?hy8 ?_
  case hy8 => exact Yl.move rfl rfl
  refine TL.split (i := 23) rfl (fun hs23 => ?_) (fun hs23 => ?_)
  · skip
    (try simp only [decide_eq_true_eq, decide_eq_false_iff_not, beq_iff_eq, beq_eq_false_iff_ne, bne_iff_ne, ne_eq, bne_eq_false_iff_eq, Bool.not_eq_true', Bool.not_eq_false', Int.not_lt, Int.not_le, gt_iff_lt, ge_iff_le] at hs23)
    refine TL.skip rfl rfl rfl ?_
    refine TL.skip rfl rfl rfl ?_
    refine' TL.y rfl rfl rfl ?hy9 ?_
    case hy9 => exact Yl.pickT rfl rfl rfl
    refine' TL.y rfl rfl rfl ?hy10 ?_
    case hy10 => exact Yl.move rfl rfl
    refine TL.skip rfl rfl rfl ?_
    refine TL.skip rfl rfl rfl ?_
    refine TL.skip rfl rfl rfl ?_
    refine' TL.y rfl rfl rfl ?hy11 ?_
    case hy11 => exact Yl.pickT rfl rfl rfl
    refine' TL.y rfl rfl rfl ?hy12 ?_
    case hy12 => exact Yl.move rfl rfl
    refine TL.skip rfl rfl rfl ?_
    refine TL.skip rfl rfl rfl ?_
    refine' TL.y rfl rfl rfl ?hy13 ?_
    case hy13 => exact Yl.pickT rfl rfl rfl
    refine' TL.y rfl rfl rfl ?hy14 ?_
    case hy14 => exact Yl.move rfl rfl
    refine TL.skip rfl rfl rfl ?_
    refine TL.skip rfl rfl rfl ?_
    refine' TL.y rfl rfl rfl ?hy15 ?_
    case hy15 => exact Yl.pickT rfl rfl rfl
    refine TL.nil ?_
    refine TE.next ?_
    refine TC.yes rfl rfl ?_
    refine TC.seq ?_
    refine TC.region ?_
    refine' TL.y rfl rfl rfl ?hy16 ?_
    case hy16 => exact Yl.move rfl rfl
    refine' TL.y rfl rfl rfl ?hy17 ?_
    case hy17 => exact Yl.assign rfl rfl
    refine TL.nil ?_
    refine TE.next ?_
    refine TC.ret ?_
    refine TE.thenRet ?_
    refine TE.ret1 rfl rfl ?_
    exact fun w h => ⟨congrArg (fun b => Ending.returned (Value.bool b)) (by first | rfl | (simp; done) : _ = true), h.below⟩
  · skip
    (try simp only [decide_eq_true_eq, decide_eq_false_iff_not, beq_iff_eq, beq_eq_false_iff_ne, bne_iff_ne, ne_eq, bne_eq_false_iff_eq, Bool.not_eq_true', Bool.not_eq_false', Int.not_lt, Int.not_le, gt_iff_lt, ge_iff_le] at hs23)
    refine' TL.y rfl rfl rfl ?hy18 ?_
    case hy18 => exact Yl.move rfl rfl
    refine' TL.y rfl rfl rfl ?hy19 ?_
    case hy19 => exact Yl.bin rfl rfl rfl (Bin.gtr _ _ _ _)
    refine' TL.y rfl rfl rfl ?hy20 ?_
    case hy20 => exact Yl.pickF rfl rfl rfl
    refine' TL.y rfl rfl rfl ?hy21 ?_
    case hy21 => exact Yl.move rfl rfl
    refine TL.split (i := 27) rfl (fun hs27 => ?_) (fun hs27 => ?_)
    · skip
      (try simp only [decide_eq_true_eq, decide_eq_false_iff_not, beq_iff_eq, beq_eq_false_iff_ne, bne_iff_ne, ne_eq, bne_eq_false_iff_eq, Bool.not_eq_true', Bool.not_eq_false', Int.not_lt, Int.not_le, gt_iff_lt, ge_iff_le] at hs27)
      refine TL.skip rfl rfl rfl ?_
      refine TL.skip rfl rfl rfl ?_
      refine TL.skip rfl rfl rfl ?_
      refine' TL.y rfl rfl rfl ?hy22 ?_
      case hy22 => exact Yl.pickT rfl rfl rfl
      refine' TL.y rfl rfl rfl ?hy23 ?_
      case hy23 => exact Yl.move rfl rfl
      refine TL.skip rfl rfl rfl ?_
      refine TL.skip rfl rfl rfl ?_
      refine' TL.y rfl rfl rfl ?hy24 ?_
      case hy24 => exact Yl.pickT rfl rfl rfl
      refine' TL.y rfl rfl rfl ?hy25 ?_
      case hy25 => exact Yl.move rfl rfl
      refine TL.skip rfl rfl rfl ?_
      refine TL.skip rfl rfl rfl ?_
      refine' TL.y rfl rfl rfl ?hy26 ?_
      case hy26 => exact Yl.pickT rfl rfl rfl
      refine TL.nil ?_
      refine TE.next ?_
      refine TC.yes rfl rfl ?_
      refine TC.seq ?_
      refine TC.region ?_
      refine' TL.y rfl rfl rfl ?hy27 ?_
      case hy27 => exact Yl.move rfl rfl
      refine' TL.y rfl rfl rfl ?hy28 ?_
      case hy28 => exact Yl.assign rfl rfl
      refine TL.nil ?_
      refine TE.next ?_
      refine TC.ret ?_
      refine TE.thenRet ?_
      refine TE.ret1 rfl rfl ?_
      exact fun w h => ⟨congrArg (fun b => Ending.returned (Value.bool b)) (by first | rfl | (simp; done) : _ = true), h.below⟩
    · skip
      (try simp only [decide_eq_true_eq, decide_eq_false_iff_not, beq_iff_eq, beq_eq_false_iff_ne, bne_iff_ne, ne_eq, bne_eq_false_iff_eq, Bool.not_eq_true', Bool.not_eq_false', Int.not_lt, Int.not_le, gt_iff_lt, ge_iff_le] at hs27)
      refine' TL.y rfl rfl rfl ?hy29 ?_
      case hy29 => exact Yl.move rfl rfl
      refine' TL.y rfl rfl rfl ?hy30 ?_
      case hy30 => exact Yl.len rfl rfl Tryd.underlying46
      refine' TL.y rfl rfl rfl ?hy31 ?_
      case hy31 => exact Yl.bin rfl rfl rfl (Bin.gtr _ _ _ _)
      refine' TL.y rfl rfl rfl ?hy32 ?_
      case hy32 => exact Yl.pickF rfl rfl rfl
      refine' TL.y rfl rfl rfl ?hy33 ?_
      case hy33 => exact Yl.move rfl rfl
      refine TL.split (i := 32) rfl (fun hs32 => ?_) (fun hs32 => ?_)
      · skip
        (try simp only [decide_eq_true_eq, decide_eq_false_iff_not, beq_iff_eq, beq_eq_false_iff_ne, bne_iff_ne, ne_eq, bne_eq_false_iff_eq, Bool.not_eq_true', Bool.not_eq_false', Int.not_lt, Int.not_le, gt_iff_lt, ge_iff_le] at hs32)
        refine TL.skip rfl rfl rfl ?_
        refine TL.skip rfl rfl rfl ?_
        refine' TL.y rfl rfl rfl ?hy34 ?_
        case hy34 => exact Yl.pickT rfl rfl rfl
        refine' TL.y rfl rfl rfl ?hy35 ?_
        case hy35 => exact Yl.move rfl rfl
        refine TL.skip rfl rfl rfl ?_
        refine TL.skip rfl rfl rfl ?_
        refine' TL.y rfl rfl rfl ?hy36 ?_
        case hy36 => exact Yl.pickT rfl rfl rfl
        refine TL.nil ?_
        refine TE.next ?_
        refine TC.yes rfl rfl ?_
        refine TC.seq ?_
        refine TC.region ?_
        refine' TL.y rfl rfl rfl ?hy37 ?_
        case hy37 => exact Yl.move rfl rfl
        refine' TL.y rfl rfl rfl ?hy38 ?_
        case hy38 => exact Yl.assign rfl rfl
        refine TL.nil ?_
        refine TE.next ?_
        refine TC.ret ?_
        refine TE.thenRet ?_
        refine TE.ret1 rfl rfl ?_
        exact fun w h => ⟨congrArg (fun b => Ending.returned (Value.bool b)) (by first | rfl | (simp; done) : _ = true), h.below⟩
      · skip
        (try simp only [decide_eq_true_eq, decide_eq_false_iff_not, beq_iff_eq, beq_eq_false_iff_ne, bne_iff_ne, ne_eq, bne_eq_false_iff_eq, Bool.not_eq_true', Bool.not_eq_false', Int.not_lt, Int.not_le, gt_iff_lt, ge_iff_le] at hs32)
        refine' TL.y rfl rfl rfl ?hy39 ?_
        case hy39 => exact Yl.move rfl rfl
        refine' TL.y rfl rfl rfl ?hy40 ?_
        case hy40 => exact Yl.bin rfl rfl rfl (Bin.lss _ _ _ _)
        refine' TL.y rfl rfl rfl ?hy41 ?_
        case hy41 => exact Yl.pickF rfl rfl rfl
        refine' TL.y rfl rfl rfl ?hy42 ?_
        case hy42 => exact Yl.move rfl rfl
        refine TL.split (i := 36) rfl (fun hs36 => ?_) (fun hs36 => ?_)
        · skip
          (try simp only [decide_eq_true_eq, decide_eq_false_iff_not, beq_iff_eq, beq_eq_false_iff_ne, bne_iff_ne, ne_eq, bne_eq_false_iff_eq, Bool.not_eq_true', Bool.not_eq_false', Int.not_lt, Int.not_le, gt_iff_lt, ge_iff_le] at hs36)
          refine TL.skip rfl rfl rfl ?_
          refine TL.skip rfl rfl rfl ?_
          refine' TL.y rfl rfl rfl ?hy43 ?_
          case hy43 => exact Yl.pickT rfl rfl rfl
          refine TL.nil ?_
          refine TE.next ?_
          refine TC.yes rfl rfl ?_
          refine TC.seq ?_
          refine TC.region ?_
          refine' TL.y rfl rfl rfl ?hy44 ?_
          case hy44 => exact Yl.move rfl rfl
          refine' TL.y rfl rfl rfl ?hy45 ?_
          case hy45 => exact Yl.assign rfl rfl
          refine TL.nil ?_
          refine TE.next ?_
          refine TC.ret ?_
          refine TE.thenRet ?_
          refine TE.ret1 rfl rfl ?_
          exact fun w h => ⟨congrArg (fun b => Ending.returned (Value.bool b)) (by first | rfl | (simp; done) : _ = true), h.below⟩
        · skip
          (try simp only [decide_eq_true_eq, decide_eq_false_iff_not, beq_iff_eq, beq_eq_false_iff_ne, bne_iff_ne, ne_eq, bne_eq_false_iff_eq, Bool.not_eq_true', Bool.not_eq_false', Int.not_lt, Int.not_le, gt_iff_lt, ge_iff_le] at hs36)
          refine' TL.y rfl rfl rfl ?hy46 ?_
          case hy46 => exact Yl.move rfl rfl
          refine' TL.y rfl rfl rfl ?hy47 ?_
          case hy47 => exact Yl.bin rfl rfl rfl (Bin.gtr _ _ _ _)
          refine' TL.y rfl rfl rfl ?hy48 ?_
          case hy48 => exact Yl.pickF rfl rfl rfl
          refine TL.nil ?_
          refine TE.next ?_
          refine TC.cond rfl (fun hs39 => ?_) (fun hs39 => ?_)
          · skip
            (try simp only [decide_eq_true_eq, decide_eq_false_iff_not, beq_iff_eq, beq_eq_false_iff_ne, bne_iff_ne, ne_eq, bne_eq_false_iff_eq, Bool.not_eq_true', Bool.not_eq_false', Int.not_lt, Int.not_le, gt_iff_lt, ge_iff_le] at hs39)
            refine TC.seq ?_
            refine TC.region ?_
            refine' TL.y rfl rfl rfl ?hy49 ?_
            case hy49 => exact Yl.move rfl rfl
            refine' TL.y rfl rfl rfl ?hy50 ?_
            case hy50 => exact Yl.assign rfl rfl
            refine TL.nil ?_
            refine TE.next ?_
            refine TC.ret ?_
            refine TE.thenRet ?_
            refine TE.ret1 rfl rfl ?_
            exact fun w h => ⟨congrArg (fun b => Ending.returned (Value.bool b)) (by first | rfl | (simp; done) : _ = true), h.below⟩
          · skip
            (try simp only [decide_eq_true_eq, decide_eq_false_iff_not, beq_iff_eq, beq_eq_false_iff_ne, bne_iff_ne, ne_eq, bne_eq_false_iff_eq, Bool.not_eq_true', Bool.not_eq_false', Int.not_lt, Int.not_le, gt_iff_lt, ge_iff_le] at hs39)
            obtain ⟨n, rfl⟩ := Int.eq_ofNat_of_zero_le (show 0 ≤ n0 by omega)
            obtain ⟨k, rfl⟩ := Int.eq_ofNat_of_zero_le (show 0 ≤ k0 by omega)
            refine TC.skip ?_
            refine TE.next ?_
            refine TC.seq ?_
            refine TC.region ?_
            refine' TL.y rfl rfl rfl ?hy51 ?_
            case hy51 => exact Yl.move rfl rfl
            refine' TL.c rfl rfl rfl ?hy52 ?_
            case hy52 => exact Yc.call rfl Tryd.func10 (by kernel_rfl) rfl rfl (Hp.makes (k_pnew (n : Int)))
            intro ⟨p, b1, g1⟩
            rw [show newN (min (n : Int) 1024) = n from by unfold newN; omega]
            refine' TL.y rfl rfl rfl ?hy53 ?_
            case hy53 => exact Yl.assign rfl rfl
            refine TL.nil ?_
            refine TE.next ?_
            refine TC.seq ?_
            refine TC.region ?_
            refine' TL.y rfl rfl rfl ?hy54 ?_
            case hy54 => exact Yl.move rfl rfl
            refine' TL.c rfl rfl rfl ?hy55 ?_
            case hy55 => exact Yc.call rfl Tryd.func10 (by kernel_rfl) rfl rfl (Hp.makes (k_pnew (n : Int)))
            intro ⟨q, b2, g2⟩
            rw [show newN (min (n : Int) 1024) = n from by unfold newN; omega]
            refine' TL.y rfl rfl rfl ?hy56 ?_
            case hy56 => exact Yl.assign rfl rfl
            refine TL.nil ?_
            refine TE.next ?_
            refine TC.seq ?_
            refine TC.seq ?_
            refine TC.region ?_
            refine' TL.y rfl rfl rfl ?hy57 ?_
            case hy57 => exact Yl.assign rfl rfl
            refine TL.nil ?_
            refine TE.next ?_
            refine TC.block ?_
            refine TC.loop (σ := Nat × (Nat → Bool)) (fun s => [(0, .int .i64 (n : Int)), (1, .slice A l.length cp), (2, .int .i64 (k : Int)), (7, .bool true), (8, .pointer (some ⟨p, 0, none⟩)), (9, .pointer (some ⟨q, 0, none⟩)), (10, .int .i64 (s.1 : Int))]) (fun s => Hp W (fun _ => False) [poolR q b2 g2 n s.2, poolR p b1 g1 n s.2]) (fun s => s.1 ≤ l.length) (fun s => l.length - s.1) (0, fun _ => false) ?hF58 ?hs58 ?hm58 ?round58
            case hF58 => exact Nat.zero_le _
            case hs58 => exact ⟨rfl, rfl, rfl, rfl, rfl, rfl, rfl, trivial⟩
            case hm58 => exact fun _ h => h
            case round58 =>
              rintro ⟨i, f⟩ h1
              dsimp only at h1 ⊢
              refine TC.seq ?_
              refine TC.seq ?_
              refine TC.region ?_
              refine' TL.y rfl rfl rfl ?hy59 ?_
              case hy59 => exact Yl.move rfl rfl
              refine' TL.y rfl rfl rfl ?hy60 ?_
              case hy60 => exact Yl.move rfl rfl
              refine' TL.y rfl rfl rfl ?hy61 ?_
              case hy61 => exact Yl.len rfl rfl Tryd.underlying46
              refine' TL.y rfl rfl rfl ?hy62 ?_
              case hy62 => exact Yl.bin rfl rfl rfl (Bin.lss _ _ _ _)
              refine TL.nil ?_
              refine TE.next ?_
              refine TC.cond rfl (fun hs48 => ?_) (fun hs48 => ?_)
              · skip
                (try simp only [decide_eq_true_eq, decide_eq_false_iff_not, beq_iff_eq, beq_eq_false_iff_ne, bne_iff_ne, ne_eq, bne_eq_false_iff_eq, Bool.not_eq_true', Bool.not_eq_false', Int.not_lt, Int.not_le, gt_iff_lt, ge_iff_le] at hs48)
                have hlt : i < l.length := by omega
                obtain ⟨bb, oo, rfl⟩ := Sl.in hS (by omega)
                refine TC.skip ?_
                refine TE.next ?_
                refine TC.seq ?_
                refine TC.block ?_
                refine TC.seq ?_
                refine TC.seq ?_
                refine TC.region ?_
                refine' TL.y rfl rfl rfl ?hy63 ?_
                case hy63 => exact Yl.move rfl rfl
                refine' TL.y rfl rfl rfl ?hy64 ?_
                case hy64 => exact Yl.move rfl rfl
                refine' TL.y rfl rfl rfl ?hy65 ?_
                case hy65 => first | exact Yl.ixn rfl rfl rfl Tryd.underlying46 (by kernel_rfl) (by omega) | exact Yl.ixz rfl rfl rfl Tryd.underlying46 (by kernel_rfl) (by omega) (by omega) | exact Yl.ixcn rfl rfl rfl Tryd.underlying46 (by kernel_rfl) (by omega) | exact Yl.ixcz rfl rfl rfl Tryd.underlying46 (by kernel_rfl) (by omega) (by omega)
                refine' TL.y rfl rfl rfl ?hy66 ?_
                case hy66 => first | exact Yl.load rfl rfl (by kernel_rfl) (Sl.rd 0 hS rfl (by omega) (fun _ => id)) | exact Yl.load rfl rfl (by kernel_rfl) (Hp.cell mem0 rfl) | exact Yl.load rfl rfl (by kernel_rfl) (Hp.cell mem1 rfl) | exact Yl.load rfl rfl (by kernel_rfl) (Hp.rowAt mem0 (by omega) rfl) | exact Yl.load rfl rfl (by kernel_rfl) (Hp.rowAt mem1 (by omega) rfl)
                refine' TL.y rfl rfl rfl ?hy67 ?_
                case hy67 => exact Yl.bin rfl rfl rfl (Bin.lss _ _ _ _)
                refine TL.nil ?_
                refine TE.next ?_
                refine TC.cond rfl (fun hs55 => ?_) (fun hs55 => ?_)
                · skip
                  (try simp only [decide_eq_true_eq, decide_eq_false_iff_not, beq_iff_eq, beq_eq_false_iff_ne, bne_iff_ne, ne_eq, bne_eq_false_iff_eq, Bool.not_eq_true', Bool.not_eq_false', Int.not_lt, Int.not_le, gt_iff_lt, ge_iff_le] at hs55)
                  refine TC.seq ?_
                  refine TC.region ?_
                  refine' TL.y rfl rfl rfl ?hy68 ?_
                  case hy68 => exact Yl.move rfl rfl
                  refine' TL.y rfl rfl rfl ?hy69 ?_
                  case hy69 => exact Yl.assign rfl rfl
                  refine TL.nil ?_
                  refine TE.next ?_
                  refine TC.ret ?_
                  refine TE.thenRet ?_
                  refine TE.inRet ?_
                  refine TE.thenRet ?_
                  refine TE.thenRet ?_
                  refine TE.inRet ?_
                  refine TE.thenRet ?_
                  refine TE.ret1 rfl rfl ?_
                  exact fun w h => ⟨congrArg (fun b => Ending.returned (Value.bool b)) (by first | rfl | (simp; done) : _ = true), h.below⟩
                · skip
                  (try simp only [decide_eq_true_eq, decide_eq_false_iff_not, beq_iff_eq, beq_eq_false_iff_ne, bne_iff_ne, ne_eq, bne_eq_false_iff_eq, Bool.not_eq_true', Bool.not_eq_false', Int.not_lt, Int.not_le, gt_iff_lt, ge_iff_le] at hs55)
                  refine TC.skip ?_
                  refine TE.next ?_
                  refine TC.seq ?_
                  refine TC.region ?_
                  refine' TL.y rfl rfl rfl ?hy70 ?_
                  case hy70 => exact Yl.move rfl rfl
                  refine' TL.y rfl rfl rfl ?hy71 ?_
                  case hy71 => exact Yl.move rfl rfl
                  refine' TL.y rfl rfl rfl ?hy72 ?_
                  case hy72 => exact Yl.move rfl rfl
                  refine' TL.y rfl rfl rfl ?hy73 ?_
                  case hy73 => first | exact Yl.ixn rfl rfl rfl Tryd.underlying46 (by kernel_rfl) (by omega) | exact Yl.ixz rfl rfl rfl Tryd.underlying46 (by kernel_rfl) (by omega) (by omega) | exact Yl.ixcn rfl rfl rfl Tryd.underlying46 (by kernel_rfl) (by omega) | exact Yl.ixcz rfl rfl rfl Tryd.underlying46 (by kernel_rfl) (by omega) (by omega)
                  refine' TL.y rfl rfl rfl ?hy74 ?_
                  case hy74 => first | exact Yl.load rfl rfl (by kernel_rfl) (Sl.rd 0 hS rfl (by omega) (fun _ => id)) | exact Yl.load rfl rfl (by kernel_rfl) (Hp.cell mem0 rfl) | exact Yl.load rfl rfl (by kernel_rfl) (Hp.cell mem1 rfl) | exact Yl.load rfl rfl (by kernel_rfl) (Hp.rowAt mem0 (by omega) rfl) | exact Yl.load rfl rfl (by kernel_rfl) (Hp.rowAt mem1 (by omega) rfl)
                  refine' TL.c rfl rfl rfl ?hy75 ?_
                  case hy75 => exact Yc.call rfl Tryd.func16 (by kernel_rfl) rfl rfl (Hp.turnT (fun w hw => hT.below hw.below) mem1 foc1 (k_run (l.getD i 0) (hw.at_ hlt).2))
                  intro _
                  refine TL.nil ?_
                  refine TE.next ?_
                  refine TC.region ?_
                  refine' TL.y rfl rfl rfl ?hy76 ?_
                  case hy76 => exact Yl.move rfl rfl
                  refine' TL.y rfl rfl rfl ?hy77 ?_
                  case hy77 => exact Yl.move rfl rfl
                  refine' TL.y rfl rfl rfl ?hy78 ?_
                  case hy78 => exact Yl.move rfl rfl
                  refine' TL.y rfl rfl rfl ?hy79 ?_
                  case hy79 => first | exact Yl.ixn rfl rfl rfl Tryd.underlying46 (by kernel_rfl) (by omega) | exact Yl.ixz rfl rfl rfl Tryd.underlying46 (by kernel_rfl) (by omega) (by omega) | exact Yl.ixcn rfl rfl rfl Tryd.underlying46 (by kernel_rfl) (by omega) | exact Yl.ixcz rfl rfl rfl Tryd.underlying46 (by kernel_rfl) (by omega) (by omega)
                  refine' TL.y rfl rfl rfl ?hy80 ?_
                  case hy80 => first | exact Yl.load rfl rfl (by kernel_rfl) (Sl.rd 0 hS rfl (by omega) (fun _ => id)) | exact Yl.load rfl rfl (by kernel_rfl) (Hp.cell mem0 rfl) | exact Yl.load rfl rfl (by kernel_rfl) (Hp.cell mem1 rfl) | exact Yl.load rfl rfl (by kernel_rfl) (Hp.rowAt mem0 (by omega) rfl) | exact Yl.load rfl rfl (by kernel_rfl) (Hp.rowAt mem1 (by omega) rfl)
                  refine' TL.c rfl rfl rfl ?hy81 ?_
                  case hy81 => exact Yc.call rfl Tryd.func16 (by kernel_rfl) rfl rfl (Hp.turnT (fun w hw => hT.below hw.below) mem0 foc0 (k_run (l.getD i 0) (hw.at_ hlt).2))
                  intro _
                  refine TL.nil ?_
                  refine TE.inNormal ?_
                  refine TE.next ?_
                  refine TC.region ?_
                  refine' TL.y rfl rfl rfl ?hy82 ?_
                  case hy82 => exact Yl.move rfl rfl
                  refine' TL.y rfl rfl rfl ?hy83 ?_
                  case hy83 => first | (refine Yl.val (Yl.bin rfl rfl rfl (Bin.add _ _ _ _)) (congrArg (Value.int .i64) (i64in ?_ ?_)) <;> omega) | exact Yl.bin rfl rfl rfl (Bin.add _ _ _ _)
                  refine' TL.y rfl rfl rfl ?hy84 ?_
                  case hy84 => exact Yl.assign rfl rfl
                  refine TL.nil ?_
                  refine TE.round (i + 1, runF f n (l.getD i 0)) ?hF85 ?hlt85 ?hs85 ?hm85
                  case hF85 => dsimp only; omega
                  case hlt85 => dsimp only; omega
                  case hs85 => exact ⟨rfl, rfl, rfl, rfl, rfl, rfl, rfl, trivial⟩
                  case hm85 => exact fun _ h => h
              · skip
                (try simp only [decide_eq_true_eq, decide_eq_false_iff_not, beq_iff_eq, beq_eq_false_iff_ne, bne_iff_ne, ne_eq, bne_eq_false_iff_eq, Bool.not_eq_true', Bool.not_eq_false', Int.not_lt, Int.not_le, gt_iff_lt, ge_iff_le] at hs48)
                refine TC.exit ?_
                refine TE.thenExit ?_
                refine TE.thenExit ?_
                refine TE.inHere ?_
                refine TE.next ?_
                refine TC.seq ?_
                refine TC.seq ?_
                refine TC.region ?_
                refine' TL.y rfl rfl rfl ?hy86 ?_
                case hy86 => exact Yl.assign rfl rfl
                refine TL.nil ?_
                refine TE.next ?_
                refine TC.block ?_
                refine TC.loop (σ := Nat × (Nat → Bool)) (fun s => [(0, .int .i64 (n : Int)), (1, .slice A l.length cp), (2, .int .i64 (k : Int)), (7, .bool true), (8, .pointer (some ⟨p, 0, none⟩)), (9, .pointer (some ⟨q, 0, none⟩)), (11, .int .i64 (s.1 : Int))]) (fun s => Hp W (fun _ => False) [poolR q b2 g2 n s.2, poolR p b1 g1 n s.2]) (fun s => s.1 ≤ l.length + 1) (fun s => l.length + 1 - s.1) (0, f) ?hF87 ?hs87 ?hm87 ?round87
                case hF87 => exact Nat.zero_le _
                case hs87 => exact ⟨rfl, rfl, rfl, rfl, rfl, rfl, rfl, trivial⟩
                case hm87 => exact fun _ h => h
                case round87 =>
                  rintro ⟨i, f⟩ h1
                  dsimp only at h1 ⊢
                  refine TC.seq ?_
                  refine TC.seq ?_
                  refine TC.region ?_
                  refine' TL.y rfl rfl rfl ?hy88 ?_
                  case hy88 => exact Yl.move rfl rfl
                  refine' TL.y rfl rfl rfl ?hy89 ?_
                  case hy89 => exact Yl.move rfl rfl
                  refine' TL.y rfl rfl rfl ?hy90 ?_
                  case hy90 => exact Yl.len rfl rfl Tryd.underlying46
                  refine' TL.y rfl rfl rfl ?hy91 ?_
                  case hy91 => exact Yl.bin rfl rfl rfl (Bin.lss _ _ _ _)
                  refine TL.nil ?_
                  refine TE.next ?_
                  refine TC.cond rfl (fun hs72 => ?_) (fun hs72 => ?_)
                  · skip
                    (try simp only [decide_eq_true_eq, decide_eq_false_iff_not, beq_iff_eq, beq_eq_false_iff_ne, bne_iff_ne, ne_eq, bne_eq_false_iff_eq, Bool.not_eq_true', Bool.not_eq_false', Int.not_lt, Int.not_le, gt_iff_lt, ge_iff_le] at hs72)
                    have hlt : i < l.length := by omega
                    obtain ⟨bb, oo, rfl⟩ := Sl.in hS (by omega)
                    refine TC.skip ?_
                    refine TE.next ?_
                    refine TC.seq ?_
                    refine TC.block ?_
                    refine TC.seq ?_
                    refine TC.region ?_
                    refine' TL.y rfl rfl rfl ?hy92 ?_
                    case hy92 => exact Yl.move rfl rfl
                    refine' TL.y rfl rfl rfl ?hy93 ?_
                    case hy93 => exact Yl.move rfl rfl
                    refine' TL.y rfl rfl rfl ?hy94 ?_
                    case hy94 => exact Yl.move rfl rfl
                    refine' TL.y rfl rfl rfl ?hy95 ?_
                    case hy95 => first | exact Yl.ixn rfl rfl rfl Tryd.underlying46 (by kernel_rfl) (by omega) | exact Yl.ixz rfl rfl rfl Tryd.underlying46 (by kernel_rfl) (by omega) (by omega) | exact Yl.ixcn rfl rfl rfl Tryd.underlying46 (by kernel_rfl) (by omega) | exact Yl.ixcz rfl rfl rfl Tryd.underlying46 (by kernel_rfl) (by omega) (by omega)
                    refine' TL.y rfl rfl rfl ?hy96 ?_
                    case hy96 => first | exact Yl.load rfl rfl (by kernel_rfl) (Sl.rd 0 hS rfl (by omega) (fun _ => id)) | exact Yl.load rfl rfl (by kernel_rfl) (Hp.cell mem0 rfl) | exact Yl.load rfl rfl (by kernel_rfl) (Hp.cell mem1 rfl) | exact Yl.load rfl rfl (by kernel_rfl) (Hp.rowAt mem0 (by omega) rfl) | exact Yl.load rfl rfl (by kernel_rfl) (Hp.rowAt mem1 (by omega) rfl)
                    refine' TL.c rfl rfl rfl ?hy97 ?_
                    case hy97 => exact Yc.call rfl Tryd.func14 (by kernel_rfl) rfl rfl (Hp.turnT (fun w hw => hT.below hw.below) mem1 foc1 (k_give (l.getD i 0)))
                    intro _
                    refine TL.nil ?_
                    refine TE.next ?_
                    refine TC.region ?_
                    refine' TL.y rfl rfl rfl ?hy98 ?_
                    case hy98 => exact Yl.move rfl rfl
                    refine' TL.y rfl rfl rfl ?hy99 ?_
                    case hy99 => exact Yl.move rfl rfl
                    refine' TL.y rfl rfl rfl ?hy100 ?_
                    case hy100 => exact Yl.move rfl rfl
                    refine' TL.y rfl rfl rfl ?hy101 ?_
                    case hy101 => first | exact Yl.ixn rfl rfl rfl Tryd.underlying46 (by kernel_rfl) (by omega) | exact Yl.ixz rfl rfl rfl Tryd.underlying46 (by kernel_rfl) (by omega) (by omega) | exact Yl.ixcn rfl rfl rfl Tryd.underlying46 (by kernel_rfl) (by omega) | exact Yl.ixcz rfl rfl rfl Tryd.underlying46 (by kernel_rfl) (by omega) (by omega)
                    refine' TL.y rfl rfl rfl ?hy102 ?_
                    case hy102 => first | exact Yl.load rfl rfl (by kernel_rfl) (Sl.rd 0 hS rfl (by omega) (fun _ => id)) | exact Yl.load rfl rfl (by kernel_rfl) (Hp.cell mem0 rfl) | exact Yl.load rfl rfl (by kernel_rfl) (Hp.cell mem1 rfl) | exact Yl.load rfl rfl (by kernel_rfl) (Hp.rowAt mem0 (by omega) rfl) | exact Yl.load rfl rfl (by kernel_rfl) (Hp.rowAt mem1 (by omega) rfl)
                    refine' TL.c rfl rfl rfl ?hy103 ?_
                    case hy103 => exact Yc.call rfl Tryd.func14 (by kernel_rfl) rfl rfl (Hp.turnT (fun w hw => hT.below hw.below) mem0 foc0 (k_give (l.getD i 0)))
                    intro _
                    refine TL.nil ?_
                    refine TE.inNormal ?_
                    refine TE.next ?_
                    refine TC.region ?_
                    refine' TL.y rfl rfl rfl ?hy104 ?_
                    case hy104 => exact Yl.move rfl rfl
                    refine' TL.y rfl rfl rfl ?hy105 ?_
                    case hy105 => first | (refine Yl.val (Yl.bin rfl rfl rfl (Bin.add _ _ _ _)) (congrArg (Value.int .i64) (i64in ?_ ?_)) <;> omega) | exact Yl.bin rfl rfl rfl (Bin.add _ _ _ _)
                    refine' TL.y rfl rfl rfl ?hy106 ?_
                    case hy106 => exact Yl.assign rfl rfl
                    refine TL.nil ?_
                    refine TE.round (i + 2, giveF f n (l.getD i 0)) ?hF107 ?hlt107 ?hs107 ?hm107
                    case hF107 => dsimp only; omega
                    case hlt107 => dsimp only; omega
                    case hs107 => exact ⟨rfl, rfl, rfl, rfl, rfl, rfl, rfl, trivial⟩
                    case hm107 => exact fun _ h => h
                  · skip
                    (try simp only [decide_eq_true_eq, decide_eq_false_iff_not, beq_iff_eq, beq_eq_false_iff_ne, bne_iff_ne, ne_eq, bne_eq_false_iff_eq, Bool.not_eq_true', Bool.not_eq_false', Int.not_lt, Int.not_le, gt_iff_lt, ge_iff_le] at hs72)
                    have hcn := cntB_le f n
                    refine TC.exit ?_
                    refine TE.thenExit ?_
                    refine TE.thenExit ?_
                    refine TE.inHere ?_
                    refine TE.next ?_
                    refine TC.seq ?_
                    refine TC.region ?_
                    refine' TL.y rfl rfl rfl ?hy108 ?_
                    case hy108 => exact Yl.move rfl rfl
                    refine' TL.c rfl rfl rfl ?hy109 ?_
                    case hy109 => exact Yc.call rfl Tryd.func18 (by kernel_rfl) rfl rfl (Hp.calls (fun w h => k_free w (h.all _ mem1)))
                    intro _
                    refine' TL.y rfl rfl rfl ?hy110 ?_
                    case hy110 => exact Yl.assign rfl rfl
                    refine TL.nil ?_
                    refine TE.next ?_
                    refine TC.seq ?_
                    refine TC.region ?_
                    refine' TL.y rfl rfl rfl ?hy111 ?_
                    case hy111 => exact Yl.move rfl rfl
                    refine' TL.y rfl rfl rfl ?hy112 ?_
                    case hy112 => exact Yl.move rfl rfl
                    refine' TL.c rfl rfl rfl ?hy113 ?_
                    case hy113 => exact Yc.call rfl Tryd.func16 (by kernel_rfl) rfl rfl (Hp.turnT (fun w hw => hT.below hw.below) mem1 foc1 (k_run (k : Int) (by omega)))
                    intro _
                    rcases runV_cases f n k with ⟨har, _⟩ | ⟨a, har, har3, har4, har5⟩
                    · skip
                      have hE := runA_none (k := (k : Int)) (by omega) (by rw [Int.toNat_natCast]; exact har)
                      rw [hE.1, hE.2]
                      refine' TL.y rfl rfl rfl ?hy114 ?_
                      case hy114 => exact Yl.move rfl rfl
                      refine' TL.y rfl rfl rfl ?hy115 ?_
                      case hy115 => exact Yl.extract rfl rfl rfl
                      refine' TL.y rfl rfl rfl ?hy116 ?_
                      case hy116 => exact Yl.extract rfl rfl rfl
                      refine' TL.y rfl rfl rfl ?hy117 ?_
                      case hy117 => exact Yl.assign rfl rfl
                      refine' TL.y rfl rfl rfl ?hy118 ?_
                      case hy118 => exact Yl.assign rfl rfl
                      refine TL.nil ?_
                      refine TE.next ?_
                      refine TC.seq ?_
                      refine TC.seq ?_
                      refine TC.region ?_
                      refine' TL.y rfl rfl rfl ?hy119 ?_
                      case hy119 => exact Yl.move rfl rfl
                      refine' TL.y rfl rfl rfl ?hy120 ?_
                      case hy120 => exact Yl.bin rfl rfl rfl (Bin.neq _ _ _ _)
                      refine TL.nil ?_
                      refine TE.next ?_
                      refine TC.yes rfl (rfl) ?_
                      refine TC.seq ?_
                      refine TC.region ?_
                      refine' TL.y rfl rfl rfl ?hy121 ?_
                      case hy121 => exact Yl.move rfl rfl
                      refine' TL.y rfl rfl rfl ?hy122 ?_
                      case hy122 => exact Yl.move rfl rfl
                      refine' TL.y rfl rfl rfl ?hy123 ?_
                      case hy123 => exact Yl.move rfl rfl
                      refine' TL.y rfl rfl rfl ?hy124 ?_
                      case hy124 => exact Yl.bin rfl rfl rfl (Bin.eql _ _ _ _)
                      refine' TL.y rfl rfl rfl ?hy125 ?_
                      case hy125 => exact Yl.pickT rfl rfl rfl
                      refine' TL.y rfl rfl rfl ?hy126 ?_
                      case hy126 => exact Yl.move rfl rfl
                      refine TL.re (i := 102) (v' := .bool true) rfl (congrArg Value.bool (by first | rfl | (simp; done))) ?_
                      refine' TL.y rfl rfl rfl ?hy127 ?_
                      case hy127 => exact Yl.move rfl rfl
                      refine' TL.y rfl rfl rfl ?hy128 ?_
                      case hy128 => exact Yl.bin rfl rfl rfl (Bin.eql _ _ _ _)
                      refine' TL.y rfl rfl rfl ?hy129 ?_
                      case hy129 => exact Yl.pickT rfl rfl rfl
                      refine' TL.y rfl rfl rfl ?hy130 ?_
                      case hy130 => exact Yl.move rfl rfl
                      refine TL.re (i := 106) (v' := .bool true) rfl (congrArg Value.bool (by first | rfl | (simp; done))) ?_
                      refine' TL.y rfl rfl rfl ?hy131 ?_
                      case hy131 => exact Yl.move rfl rfl
                      refine' TL.c rfl rfl rfl ?hy132 ?_
                      case hy132 => exact Yc.call rfl Tryd.func18 (by kernel_rfl) rfl rfl (Hp.calls (fun w h => k_free w (h.all _ mem1)))
                      intro _
                      refine' TL.y rfl rfl rfl ?hy133 ?_
                      case hy133 => exact Yl.move rfl rfl
                      refine' TL.y rfl rfl rfl ?hy134 ?_
                      case hy134 => exact Yl.bin rfl rfl rfl (Bin.eql _ _ _ _)
                      refine' TL.y rfl rfl rfl ?hy135 ?_
                      case hy135 => exact Yl.pickT rfl rfl rfl
                      refine' TL.y rfl rfl rfl ?hy136 ?_
                      case hy136 => exact Yl.assign rfl rfl
                      refine TL.nil ?_
                      refine TE.next ?_
                      refine TC.ret ?_
                      refine TE.thenRet ?_
                      refine TE.ret1 rfl rfl ?_
                      exact fun w h => ⟨congrArg (fun b => Ending.returned (Value.bool b)) (by first | rfl | (simp; done) : _ = true), h.below⟩
                    · skip
                      have hE := runA_some (k := (k : Int)) (by omega) (by rw [Int.toNat_natCast]; exact har)
                      rw [hE.1, hE.2, Int.toNat_natCast]
                      have hcf := cnt_fill (f := f) (n := n) (a := a) k har3 har4
                      refine' TL.y rfl rfl rfl ?hy137 ?_
                      case hy137 => exact Yl.move rfl rfl
                      refine' TL.y rfl rfl rfl ?hy138 ?_
                      case hy138 => exact Yl.extract rfl rfl rfl
                      refine' TL.y rfl rfl rfl ?hy139 ?_
                      case hy139 => exact Yl.extract rfl rfl rfl
                      refine' TL.y rfl rfl rfl ?hy140 ?_
                      case hy140 => exact Yl.assign rfl rfl
                      refine' TL.y rfl rfl rfl ?hy141 ?_
                      case hy141 => exact Yl.assign rfl rfl
                      refine TL.nil ?_
                      refine TE.next ?_
                      refine TC.seq ?_
                      refine TC.seq ?_
                      refine TC.region ?_
                      refine' TL.y rfl rfl rfl ?hy142 ?_
                      case hy142 => exact Yl.move rfl rfl
                      refine' TL.y rfl rfl rfl ?hy143 ?_
                      case hy143 => exact Yl.bin rfl rfl rfl (Bin.neq _ _ _ _)
                      refine TL.nil ?_
                      refine TE.next ?_
                      refine TC.no rfl (rfl) ?_
                      refine TC.skip ?_
                      refine TE.next ?_
                      refine TC.seq ?_
                      refine TC.seq ?_
                      refine TC.region ?_
                      refine' TL.y rfl rfl rfl ?hy144 ?_
                      case hy144 => exact Yl.move rfl rfl
                      refine' TL.y rfl rfl rfl ?hy145 ?_
                      case hy145 => exact Yl.assign rfl rfl
                      refine TL.nil ?_
                      refine TE.next ?_
                      refine TC.block ?_
                      refine TC.loop (σ := Nat) (fun t => [(2, .int .i64 (k : Int)), (7, .bool true), (8, .pointer (some ⟨p, 0, none⟩)), (9, .pointer (some ⟨q, 0, none⟩)), (12, .int .i64 ((n : Int) - cntB f n)), (13, .int .i64 (a : Int)), (15, .int .i64 ((a + t : Nat) : Int))]) (fun t => Hp W (fun _ => False) [poolR q b2 g2 n f, poolR p b1 g1 n (fillB f a k)]) (fun t => t ≤ k) (fun t => k - t) 0 ?hF146 ?hs146 ?hm146 ?round146
                      case hF146 => exact Nat.zero_le _
                      case hs146 => exact ⟨rfl, rfl, rfl, rfl, rfl, rfl, rfl, trivial⟩
                      case hm146 => exact fun _ h => h
                      case round146 =>
                        intro t ht
                        refine TC.seq ?_
                        refine TC.seq ?_
                        refine TC.region ?_
                        refine' TL.y rfl rfl rfl ?hy147 ?_
                        case hy147 => exact Yl.move rfl rfl
                        refine' TL.y rfl rfl rfl ?hy148 ?_
                        case hy148 => exact Yl.move rfl rfl
                        refine' TL.y rfl rfl rfl ?hy149 ?_
                        case hy149 => exact Yl.move rfl rfl
                        refine' TL.y rfl rfl rfl ?hy150 ?_
                        case hy150 => exact Yl.val (Yl.bin rfl rfl rfl (Bin.add _ _ _ _)) (congrArg (Value.int .i64) (show IntKind.i64.wrap ((a : Int) + (k : Int)) = ((a + k : Nat) : Int) from by rw [i64in (by omega) (by omega)]; omega))
                        refine' TL.y rfl rfl rfl ?hy151 ?_
                        case hy151 => exact Yl.bin rfl rfl rfl (Bin.lss _ _ _ _)
                        refine TL.nil ?_
                        refine TE.next ?_
                        refine TC.cond rfl (fun hs117 => ?_) (fun hs117 => ?_)
                        · skip
                          (try simp only [decide_eq_true_eq, decide_eq_false_iff_not, beq_iff_eq, beq_eq_false_iff_ne, bne_iff_ne, ne_eq, bne_eq_false_iff_eq, Bool.not_eq_true', Bool.not_eq_false', Int.not_lt, Int.not_le, gt_iff_lt, ge_iff_le] at hs117)
                          refine TC.skip ?_
                          refine TE.next ?_
                          refine TC.seq ?_
                          refine TC.block ?_
                          refine TC.seq ?_
                          refine TC.region ?_
                          refine' TL.y rfl rfl rfl ?hy152 ?_
                          case hy152 => exact Yl.move rfl rfl
                          refine' TL.y rfl rfl rfl ?hy153 ?_
                          case hy153 => exact Yl.move rfl rfl
                          refine' TL.c rfl rfl rfl ?hy154 ?_
                          case hy154 => exact Yc.call rfl Tryd.func20 (by kernel_rfl) rfl rfl (Hp.calls (fun w h => k_taken w (h.all _ mem0) _))
                          intro _
                          rw [getB_in (show a + t < n by omega), har4 _ (by omega) (by omega)]
                          refine' TL.y rfl rfl rfl ?hy155 ?_
                          case hy155 => exact Yl.move rfl rfl
                          refine' TL.y rfl rfl rfl ?hy156 ?_
                          case hy156 => exact Yl.move rfl rfl
                          refine' TL.y rfl rfl rfl ?hy157 ?_
                          case hy157 => exact Yl.move rfl rfl
                          refine' TL.c rfl rfl rfl ?hy158 ?_
                          case hy158 => exact Yc.call rfl Tryd.func20 (by kernel_rfl) rfl rfl (Hp.calls (fun w h => k_taken w (h.all _ mem1) _))
                          intro _
                          rw [getB_in (show a + t < n by omega), show fillB f a k (a + t) = true from by unfold fillB; rw [if_pos (by omega)]]
                          refine' TL.y rfl rfl rfl ?hy159 ?_
                          case hy159 => exact Yl.not rfl rfl
                          refine' TL.y rfl rfl rfl ?hy160 ?_
                          case hy160 => exact Yl.pickF rfl rfl rfl
                          refine TL.nil ?_
                          refine TE.next ?_
                          refine TC.no rfl rfl ?_
                          refine TC.skip ?_
                          refine TE.inNormal ?_
                          refine TE.next ?_
                          refine TC.region ?_
                          refine' TL.y rfl rfl rfl ?hy161 ?_
                          case hy161 => exact Yl.move rfl rfl
                          refine' TL.y rfl rfl rfl ?hy162 ?_
                          case hy162 => exact Yl.val (Yl.bin rfl rfl rfl (Bin.add _ _ _ _)) (congrArg (Value.int .i64) (show IntKind.i64.wrap (((a + t : Nat) : Int) + 1) = ((a + (t + 1) : Nat) : Int) from by rw [i64in (by omega) (by omega)]; omega))
                          refine' TL.y rfl rfl rfl ?hy163 ?_
                          case hy163 => exact Yl.assign rfl rfl
                          refine TL.nil ?_
                          refine TE.round (t + 1) ?hF164 ?hlt164 ?hs164 ?hm164
                          case hF164 => omega
                          case hlt164 => omega
                          case hs164 => exact ⟨rfl, rfl, rfl, rfl, rfl, rfl, rfl, trivial⟩
                          case hm164 => exact fun _ h => h
                        · skip
                          (try simp only [decide_eq_true_eq, decide_eq_false_iff_not, beq_iff_eq, beq_eq_false_iff_ne, bne_iff_ne, ne_eq, bne_eq_false_iff_eq, Bool.not_eq_true', Bool.not_eq_false', Int.not_lt, Int.not_le, gt_iff_lt, ge_iff_le] at hs117)
                          refine TC.exit ?_
                          refine TE.thenExit ?_
                          refine TE.thenExit ?_
                          refine TE.inHere ?_
                          refine TE.next ?_
                          refine TC.seq ?_
                          refine TC.region ?_
                          refine' TL.y rfl rfl rfl ?hy165 ?_
                          case hy165 => exact Yl.move rfl rfl
                          refine' TL.y rfl rfl rfl ?hy166 ?_
                          case hy166 => exact Yl.move rfl rfl
                          refine' TL.y rfl rfl rfl ?hy167 ?_
                          case hy167 => first | (refine Yl.val (Yl.bin rfl rfl rfl (Bin.add _ _ _ _)) (congrArg (Value.int .i64) (i64in ?_ ?_)) <;> omega) | exact Yl.bin rfl rfl rfl (Bin.add _ _ _ _)
                          refine' TL.y rfl rfl rfl ?hy168 ?_
                          case hy168 => exact Yl.val (Yl.bin rfl rfl rfl (Bin.quo _ _ _ _ (by omega))) (congrArg (Value.int .i64) (show IntKind.i64.wrap (((k : Int) + 1).tdiv 2) = (((k + 1) / 2 : Nat) : Int) from by rw [Int.tdiv_eq_ediv_of_nonneg (by omega), i64in (by omega) (by omega)]; omega))
                          refine' TL.c rfl rfl rfl ?hy169 ?_
                          case hy169 => exact Yc.call rfl Tryd.func16 (by kernel_rfl) rfl rfl (Hp.turnT (fun w hw => hT.below hw.below) mem0 foc0 (k_run (((k + 1) / 2 : Nat) : Int) (by omega)))
                          intro _
                          obtain ⟨a2, ha2, ha3⟩ := run_less ((k + 1) / 2) (by omega) har3 har4
                          rw [(runA_some (k := (((k + 1) / 2 : Nat) : Int)) (by omega) (by rw [Int.toNat_natCast]; exact ha2)).1]
                          refine' TL.y rfl rfl rfl ?hy170 ?_
                          case hy170 => exact Yl.move rfl rfl
                          refine' TL.y rfl rfl rfl ?hy171 ?_
                          case hy171 => exact Yl.extract rfl rfl rfl
                          refine' TL.y rfl rfl rfl ?hy172 ?_
                          case hy172 => exact Yl.extract rfl rfl rfl
                          refine' TL.y rfl rfl rfl ?hy173 ?_
                          case hy173 => exact Yl.assign rfl rfl
                          refine' TL.y rfl rfl rfl ?hy174 ?_
                          case hy174 => exact Yl.assign rfl rfl
                          refine TL.nil ?_
                          refine TE.next ?_
                          refine TC.seq ?_
                          refine TC.region ?_
                          refine' TL.y rfl rfl rfl ?hy175 ?_
                          case hy175 => exact Yl.move rfl rfl
                          refine' TL.y rfl rfl rfl ?hy176 ?_
                          case hy176 => exact Yl.move rfl rfl
                          refine' TL.y rfl rfl rfl ?hy177 ?_
                          case hy177 => exact Yl.move rfl rfl
                          refine' TL.c rfl rfl rfl ?hy178 ?_
                          case hy178 => exact Yc.call rfl Tryd.func18 (by kernel_rfl) rfl rfl (Hp.calls (fun w h => k_free w (h.all _ mem1)))
                          intro _
                          refine' TL.y rfl rfl rfl ?hy179 ?_
                          case hy179 => exact Yl.move rfl rfl
                          refine' TL.y rfl rfl rfl ?hy180 ?_
                          case hy180 => exact Yl.move rfl rfl
                          refine' TL.y rfl rfl rfl ?hy181 ?_
                          case hy181 => first | (refine Yl.val (Yl.bin rfl rfl rfl (Bin.sub _ _ _ _)) (congrArg (Value.int .i64) (i64in ?_ ?_)) <;> omega) | exact Yl.bin rfl rfl rfl (Bin.sub _ _ _ _)
                          refine' TL.y rfl rfl rfl ?hy182 ?_
                          case hy182 => exact Yl.bin rfl rfl rfl (Bin.eql _ _ _ _)
                          refine' TL.y rfl rfl rfl ?hy183 ?_
                          case hy183 => exact Yl.pickT rfl rfl rfl
                          refine' TL.y rfl rfl rfl ?hy184 ?_
                          case hy184 => exact Yl.move rfl rfl
                          refine TL.re (i := 146) (v' := .bool true) rfl (congrArg Value.bool (by simp; omega)) ?_
                          refine' TL.y rfl rfl rfl ?hy185 ?_
                          case hy185 => exact Yl.move rfl rfl
                          refine' TL.y rfl rfl rfl ?hy186 ?_
                          case hy186 => exact Yl.bin rfl rfl rfl (Bin.eql _ _ _ _)
                          refine' TL.y rfl rfl rfl ?hy187 ?_
                          case hy187 => exact Yl.pickT rfl rfl rfl
                          refine' TL.y rfl rfl rfl ?hy188 ?_
                          case hy188 => exact Yl.move rfl rfl
                          refine TL.re (i := 150) (v' := .bool true) rfl (congrArg Value.bool (by first | rfl | (simp; done))) ?_
                          refine' TL.y rfl rfl rfl ?hy189 ?_
                          case hy189 => exact Yl.move rfl rfl
                          refine' TL.y rfl rfl rfl ?hy190 ?_
                          case hy190 => exact Yl.move rfl rfl
                          refine' TL.y rfl rfl rfl ?hy191 ?_
                          case hy191 => exact Yl.bin rfl rfl rfl (Bin.leq _ _ _ _)
                          refine' TL.y rfl rfl rfl ?hy192 ?_
                          case hy192 => exact Yl.pickT rfl rfl rfl
                          refine' TL.y rfl rfl rfl ?hy193 ?_
                          case hy193 => exact Yl.assign rfl rfl
                          refine TL.nil ?_
                          refine TE.next ?_
                          refine TC.ret ?_
                          refine TE.ret1 rfl rfl ?_
                          exact fun w h => ⟨congrArg (fun b => Ending.returned (Value.bool b)) (by first | rfl | (simp; omega) : _ = true), h.below⟩
end Go.Proofs.YtafcmeoidcgmdaaDoor.Pk
