/- The walk through PoolWhole. -/
import Derived.Test.YtafcmeoidcgmdaaDoorWorks
import Derived.Test.YtafcmeoidcgmdaaDoorProg
import Derived.RowKit3
namespace Go.Proofs.YtafcmeoidcgmdaaDoor.Pk
open Go Go.RowKit Go.Proofs.YtafcmeoidcgmdaaDoor.HL Go.Proofs.YtafcmeoidcgmdaaDoor.Ev Go.Proofs.YtafcmeoidcgmdaaDoorW.PrintWords Go.Proofs.YtafcmeoidcgmdaaDoor.BM
set_option linter.unusedVariables false
set_option linter.unusedSimpArgs false
theorem cnt_full {f : Nat → Bool} {n : Nat} (h : ∀ p, p < n → f p = true) : cntB f n = n := by
  induction n with
  | zero => rfl
  | succ n ih => rw [cntB_succ, ih (fun p hp => h p (by omega)), if_pos (h n (by omega))]
theorem cnt_hole {f : Nat → Bool} : ∀ {n q : Nat}, q < n → f q = false → cntB f n < n
  | n + 1, q, hq, hf => by
    rw [cntB_succ]
    have hl := cntB_le f n
    by_cases e : q = n
    · subst e; rw [hf]; simp; omega
    · have := cnt_hole (f := f) (n := n) (q := q) (by omega) hf
      split <;> omega
theorem take_cases (f : Nat → Bool) (n : Nat) : (runA f n 1 = (-1, 3) ∧ runF f n 1 = f ∧ cntB f n = n ∧ ∀ p, p < n → f p = true) ∨ ∃ q : Nat, q < n ∧ runA f n 1 = ((q : Int), 0) ∧ runF f n 1 = setB f q true ∧ f q = false ∧ cntB f n < n ∧ (∀ p, p < q → f p = true) ∧ cntB (setB f q true) n = cntB f n + 1 := by
  have e1 : (1 : Int).toNat = 1 := rfl
  rcases nextV_cases f n 0 false with ⟨h1, h2⟩ | ⟨q, h1, h2, h3, h4, h5⟩
  · have hr : runV f n (1 : Int).toNat = -1 := by rw [e1, runV_one]; exact h1
    have h := runA_none (k := 1) (by decide) hr
    have ht : ∀ p, p < n → f p = true := fun p hp => by have := h2 p (by omega) hp; cases e : f p; exact absurd e this; rfl
    exact .inl ⟨h.1, h.2, cnt_full ht, ht⟩
  · have hr : runV f n (1 : Int).toNat = q := by rw [e1, runV_one]; exact h1
    have h := runA_some (k := 1) (by decide) hr
    refine .inr ⟨q, h3, h.1, by rw [h.2, e1, fillB_one], h4, cnt_hole h3 h4, fun p hp => by have := h5 p (by omega) hp; cases e : f p; exact absurd e this; rfl, ?_⟩
    have := cntB_set f q true n h3
    rw [h4] at this; simp at this; omega
theorem cnt_give {f : Nat → Bool} {n j : Nat} (h : j < n) (hf : f j = true) : (cntB (setB f j false) n : Int) = cntB f n - 1 := by
  have := cntB_set f j false n h
  rw [hf] at this; simp at this; omega
theorem cnt_fill {f : Nat → Bool} {n a : Nat} : ∀ k, a + k ≤ n → (∀ p, a ≤ p → p < a + k → f p = false) → cntB (fillB f a k) n = cntB f n + k
  | 0, _, _ => by rw [fillB_zero]; rfl
  | k + 1, h, hf => by
    rw [← fillB_succ]
    have := cntB_set (fillB f a k) (a + k) true n (by omega)
    rw [show fillB f a k (a + k) = false from by unfold fillB; rw [if_neg (by omega)]; exact hf _ (by omega) (by omega), cnt_fill k (by omega) (fun p h1 h2 => hf p h1 (by omega))] at this
    simp at this; omega
theorem run_less {f : Nat → Bool} {n k a : Nat} (k2 : Nat) (hk : k2 ≤ k) (h2 : a + k ≤ n) (h3 : ∀ p, a ≤ p → p < a + k → f p = false) : ∃ a2 : Nat, runV f n k2 = a2 ∧ a2 ≤ a := by
  rcases runV_cases f n k2 with ⟨_, h5⟩ | ⟨a2, h4, h5, h6, h7⟩
  · exact absurd (fun p h1 h2 => h3 p h1 (by omega)) (h5 a (by omega))
  · refine ⟨a2, h4, ?_⟩
    rcases Nat.lt_or_ge a a2 with h | h
    · exact absurd (fun p h1 h2 => h3 p h1 (by omega)) (h7 a h)
    · exact h
theorem give_split (f : Nat → Bool) (n : Nat) (x : Int) : x < 0 ∨ (0 ≤ x ∧ (n : Int) ≤ x) ∨ (∃ j : Nat, x = j ∧ j < n ∧ f j = false) ∨ ∃ j : Nat, x = j ∧ j < n ∧ f j = true := by
  by_cases h0 : x < 0
  · exact .inl h0
  · by_cases h1 : (n : Int) ≤ x
    · exact .inr (.inl ⟨by omega, h1⟩)
    · obtain ⟨j, rfl⟩ := Int.eq_ofNat_of_zero_le (show 0 ≤ x by omega)
      cases e : f j
      · exact .inr (.inr (.inl ⟨j, rfl, by omega, e⟩))
      · exact .inr (.inr (.inr ⟨j, rfl, by omega, e⟩))
theorem mod_gap {s p i : Nat} (h : p % s = i % s) (hl : i < p) : i + s ≤ p := by
  have h1 := Nat.div_add_mod p s
  have h2 := Nat.div_add_mod i s
  have h3 : i / s < p / s := by
    rcases Nat.lt_or_ge (i / s) (p / s) with h3 | h3
    · exact h3
    · have := Nat.mul_le_mul_left s h3; omega
  have h4 : s * (i / s + 1) ≤ s * (p / s) := Nat.mul_le_mul_left s h3
  rw [Nat.mul_add, Nat.mul_one] at h4
  omega
theorem level_facts (x low high : Int) (h : 0 ≤ x) : 0 ≤ levelV x low high ∧ levelV x low high ≤ 2 ∧ (levelV x low high = 0 ↔ x < low) ∧ levelV (x - 1) low high ≤ levelV x low high ∧ 0 ≤ levelV (x - 1) low high := by
  unfold levelV
  refine ⟨?_, ?_, ?_, ?_, ?_⟩ <;> repeat' split <;> omega
attribute [local irreducible] rowA mapR rowR poolR rpoolR
set_option maxRecDepth 100000 in
set_option maxHeartbeats 2000000 in
theorem law_Whole (W : World) (hT : TabOK W) (n0 st0 : Int) : Calls Tryd.prog 8 #[.int .i64 n0, .int .i64 st0] W fun e w' => e = .returned (.bool true) ∧ Below W.heap.size W w' := by
  have hM : Hp W (fun _ => False) [] W := Hp.start
  refine TC.enter (n := 101) Tryd.func8 rfl rfl rfl hM ?_
  refine TC.seq ?_
  refine TC.region ?_
  refine' TL.y rfl rfl rfl ?hy1 ?_
  case hy1 => exact Yl.assign rfl rfl
  refine TL.nil ?_
  refine TE.next ?_
  refine TC.seq ?_
  refine TC.region ?_
  refine' TL.c rfl rfl rfl ?hy2 ?_
  case hy2 => exact Yc.call rfl Tryd.func9 (by kernel_rfl) rfl rfl (Hp.calls (fun w h => k_works w (hT.below h.below)))
  intro _
  refine' TL.y rfl rfl rfl ?hy3 ?_
  case hy3 => exact Yl.assign rfl rfl
  refine TL.nil ?_
  refine TE.next ?_
  refine TC.seq ?_
  refine TC.seq ?_
  refine TC.region ?_
  refine' TL.y rfl rfl rfl ?hy4 ?_
  case hy4 => exact Yl.move rfl rfl
  refine' TL.y rfl rfl rfl ?hy5 ?_
  case hy5 => exact Yl.not rfl rfl
  refine TL.nil ?_
  refine TE.next ?_
  refine TC.no rfl rfl ?_
  refine TC.skip ?_
  refine TE.next ?_
  refine TC.seq ?_
  refine TC.seq ?_
  refine TC.region ?_
  refine' TL.y rfl rfl rfl ?hy6 ?_
  case hy6 => exact Yl.move rfl rfl
  refine' TL.y rfl rfl rfl ?hy7 ?_
  case hy7 => exact Yl.bin rfl rfl rfl (Bin.lss _ _ _ _)
  refine' TL.y rfl rfl rfl ?hy8 ?_
  case hy8 => exact Yl.move rfl rfl
  refine TL.split (i := 20) rfl (fun hs20 => ?_) (fun hs20 => ?_)
  · skip
    (try simp only [decide_eq_true_eq, decide_eq_false_iff_not, beq_iff_eq, beq_eq_false_iff_ne, bne_iff_ne, ne_eq, bne_eq_false_iff_eq, Bool.not_eq_true', Bool.not_eq_false', Int.not_lt, Int.not_le, gt_iff_lt, ge_iff_le] at hs20)
    refine TL.skip rfl rfl rfl ?_
    refine TL.skip rfl rfl rfl ?_
    refine' TL.y rfl rfl rfl ?hy9 ?_
    case hy9 => exact Yl.pickT rfl rfl rfl
    refine' TL.y rfl rfl rfl ?hy10 ?_
    case hy10 => exact Yl.move rfl rfl
    refine TL.skip rfl rfl rfl ?_
    refine TL.skip rfl rfl rfl ?_
    refine' TL.y rfl rfl rfl ?hy11 ?_
    case hy11 => exact Yl.pickT rfl rfl rfl
    refine' TL.y rfl rfl rfl ?hy12 ?_
    case hy12 => exact Yl.move rfl rfl
    refine TL.skip rfl rfl rfl ?_
    refine TL.skip rfl rfl rfl ?_
    refine' TL.y rfl rfl rfl ?hy13 ?_
    case hy13 => exact Yl.pickT rfl rfl rfl
    refine TL.nil ?_
    refine TE.next ?_
    refine TC.yes rfl rfl ?_
    refine TC.seq ?_
    refine TC.region ?_
    refine' TL.y rfl rfl rfl ?hy14 ?_
    case hy14 => exact Yl.move rfl rfl
    refine' TL.y rfl rfl rfl ?hy15 ?_
    case hy15 => exact Yl.assign rfl rfl
    refine TL.nil ?_
    refine TE.next ?_
    refine TC.ret ?_
    refine TE.thenRet ?_
    refine TE.ret1 rfl rfl ?_
    exact fun w h => ⟨congrArg (fun b => Ending.returned (Value.bool b)) (by first | rfl | (simp; done) : _ = true), h.below⟩
  · skip
    (try simp only [decide_eq_true_eq, decide_eq_false_iff_not, beq_iff_eq, beq_eq_false_iff_ne, bne_iff_ne, ne_eq, bne_eq_false_iff_eq, Bool.not_eq_true', Bool.not_eq_false', Int.not_lt, Int.not_le, gt_iff_lt, ge_iff_le] at hs20)
    refine' TL.y rfl rfl rfl ?hy16 ?_
    case hy16 => exact Yl.move rfl rfl
    refine' TL.y rfl rfl rfl ?hy17 ?_
    case hy17 => exact Yl.bin rfl rfl rfl (Bin.gtr _ _ _ _)
    refine' TL.y rfl rfl rfl ?hy18 ?_
    case hy18 => exact Yl.pickF rfl rfl rfl
    refine' TL.y rfl rfl rfl ?hy19 ?_
    case hy19 => exact Yl.move rfl rfl
    refine TL.split (i := 24) rfl (fun hs24 => ?_) (fun hs24 => ?_)
    · skip
      (try simp only [decide_eq_true_eq, decide_eq_false_iff_not, beq_iff_eq, beq_eq_false_iff_ne, bne_iff_ne, ne_eq, bne_eq_false_iff_eq, Bool.not_eq_true', Bool.not_eq_false', Int.not_lt, Int.not_le, gt_iff_lt, ge_iff_le] at hs24)
      refine TL.skip rfl rfl rfl ?_
      refine TL.skip rfl rfl rfl ?_
      refine' TL.y rfl rfl rfl ?hy20 ?_
      case hy20 => exact Yl.pickT rfl rfl rfl
      refine' TL.y rfl rfl rfl ?hy21 ?_
      case hy21 => exact Yl.move rfl rfl
      refine TL.skip rfl rfl rfl ?_
      refine TL.skip rfl rfl rfl ?_
      refine' TL.y rfl rfl rfl ?hy22 ?_
      case hy22 => exact Yl.pickT rfl rfl rfl
      refine TL.nil ?_
      refine TE.next ?_
      refine TC.yes rfl rfl ?_
      refine TC.seq ?_
      refine TC.region ?_
      refine' TL.y rfl rfl rfl ?hy23 ?_
      case hy23 => exact Yl.move rfl rfl
      refine' TL.y rfl rfl rfl ?hy24 ?_
      case hy24 => exact Yl.assign rfl rfl
      refine TL.nil ?_
      refine TE.next ?_
      refine TC.ret ?_
      refine TE.thenRet ?_
      refine TE.ret1 rfl rfl ?_
      exact fun w h => ⟨congrArg (fun b => Ending.returned (Value.bool b)) (by first | rfl | (simp; done) : _ = true), h.below⟩
    · skip
      (try simp only [decide_eq_true_eq, decide_eq_false_iff_not, beq_iff_eq, beq_eq_false_iff_ne, bne_iff_ne, ne_eq, bne_eq_false_iff_eq, Bool.not_eq_true', Bool.not_eq_false', Int.not_lt, Int.not_le, gt_iff_lt, ge_iff_le] at hs24)
      refine' TL.y rfl rfl rfl ?hy25 ?_
      case hy25 => exact Yl.move rfl rfl
      refine' TL.y rfl rfl rfl ?hy26 ?_
      case hy26 => exact Yl.bin rfl rfl rfl (Bin.lss _ _ _ _)
      refine' TL.y rfl rfl rfl ?hy27 ?_
      case hy27 => exact Yl.pickF rfl rfl rfl
      refine' TL.y rfl rfl rfl ?hy28 ?_
      case hy28 => exact Yl.move rfl rfl
      refine TL.split (i := 28) rfl (fun hs28 => ?_) (fun hs28 => ?_)
      · skip
        (try simp only [decide_eq_true_eq, decide_eq_false_iff_not, beq_iff_eq, beq_eq_false_iff_ne, bne_iff_ne, ne_eq, bne_eq_false_iff_eq, Bool.not_eq_true', Bool.not_eq_false', Int.not_lt, Int.not_le, gt_iff_lt, ge_iff_le] at hs28)
        refine TL.skip rfl rfl rfl ?_
        refine TL.skip rfl rfl rfl ?_
        refine' TL.y rfl rfl rfl ?hy29 ?_
        case hy29 => exact Yl.pickT rfl rfl rfl
        refine TL.nil ?_
        refine TE.next ?_
        refine TC.yes rfl rfl ?_
        refine TC.seq ?_
        refine TC.region ?_
        refine' TL.y rfl rfl rfl ?hy30 ?_
        case hy30 => exact Yl.move rfl rfl
        refine' TL.y rfl rfl rfl ?hy31 ?_
        case hy31 => exact Yl.assign rfl rfl
        refine TL.nil ?_
        refine TE.next ?_
        refine TC.ret ?_
        refine TE.thenRet ?_
        refine TE.ret1 rfl rfl ?_
        exact fun w h => ⟨congrArg (fun b => Ending.returned (Value.bool b)) (by first | rfl | (simp; done) : _ = true), h.below⟩
      · skip
        (try simp only [decide_eq_true_eq, decide_eq_false_iff_not, beq_iff_eq, beq_eq_false_iff_ne, bne_iff_ne, ne_eq, bne_eq_false_iff_eq, Bool.not_eq_true', Bool.not_eq_false', Int.not_lt, Int.not_le, gt_iff_lt, ge_iff_le] at hs28)
        refine' TL.y rfl rfl rfl ?hy32 ?_
        case hy32 => exact Yl.move rfl rfl
        refine' TL.y rfl rfl rfl ?hy33 ?_
        case hy33 => exact Yl.bin rfl rfl rfl (Bin.gtr _ _ _ _)
        refine' TL.y rfl rfl rfl ?hy34 ?_
        case hy34 => exact Yl.pickF rfl rfl rfl
        refine TL.nil ?_
        refine TE.next ?_
        refine TC.cond rfl (fun hs31 => ?_) (fun hs31 => ?_)
        · skip
          (try simp only [decide_eq_true_eq, decide_eq_false_iff_not, beq_iff_eq, beq_eq_false_iff_ne, bne_iff_ne, ne_eq, bne_eq_false_iff_eq, Bool.not_eq_true', Bool.not_eq_false', Int.not_lt, Int.not_le, gt_iff_lt, ge_iff_le] at hs31)
          refine TC.seq ?_
          refine TC.region ?_
          refine' TL.y rfl rfl rfl ?hy35 ?_
          case hy35 => exact Yl.move rfl rfl
          refine' TL.y rfl rfl rfl ?hy36 ?_
          case hy36 => exact Yl.assign rfl rfl
          refine TL.nil ?_
          refine TE.next ?_
          refine TC.ret ?_
          refine TE.thenRet ?_
          refine TE.ret1 rfl rfl ?_
          exact fun w h => ⟨congrArg (fun b => Ending.returned (Value.bool b)) (by first | rfl | (simp; done) : _ = true), h.below⟩
        · skip
          (try simp only [decide_eq_true_eq, decide_eq_false_iff_not, beq_iff_eq, beq_eq_false_iff_ne, bne_iff_ne, ne_eq, bne_eq_false_iff_eq, Bool.not_eq_true', Bool.not_eq_false', Int.not_lt, Int.not_le, gt_iff_lt, ge_iff_le] at hs31)
          obtain ⟨n, rfl⟩ := Int.eq_ofNat_of_zero_le (show 0 ≤ n0 by omega)
          obtain ⟨st, rfl⟩ := Int.eq_ofNat_of_zero_le (show 0 ≤ st0 by omega)
          refine TC.skip ?_
          refine TE.next ?_
          refine TC.seq ?_
          refine TC.region ?_
          refine' TL.y rfl rfl rfl ?hy37 ?_
          case hy37 => exact Yl.move rfl rfl
          refine' TL.c rfl rfl rfl ?hy38 ?_
          case hy38 => exact Yc.call rfl Tryd.func10 (by kernel_rfl) rfl rfl (Hp.makes (k_pnew (n : Int)))
          intro ⟨p, b, g⟩
          rw [show newN (min (n : Int) 1024) = n from by unfold newN; omega]
          refine' TL.y rfl rfl rfl ?hy39 ?_
          case hy39 => exact Yl.assign rfl rfl
          refine TL.nil ?_
          refine TE.next ?_
          refine TC.seq ?_
          refine TC.seq ?_
          refine TC.region ?_
          refine' TL.y rfl rfl rfl ?hy40 ?_
          case hy40 => exact Yl.assign rfl rfl
          refine TL.nil ?_
          refine TE.next ?_
          refine TC.block ?_
          refine TC.loop (σ := Nat × (Nat → Bool)) (fun s => [(0, .int .i64 (n : Int)), (1, .int .i64 (st : Int)), (5, .bool true), (6, .pointer (some ⟨p, 0, none⟩)), (7, .int .i64 (s.1 : Int))]) (fun s => Hp W (fun _ => False) [poolR p b g n s.2]) (fun s => s.1 ≤ n ∧ ∀ p, s.2 p = decide (p < s.1)) (fun s => n - s.1) (0, fun _ => false) ?hF41 ?hs41 ?hm41 ?round41
          case hF41 => exact ⟨Nat.zero_le _, fun p => by simp⟩
          case hs41 => exact ⟨rfl, rfl, rfl, rfl, rfl, trivial⟩
          case hm41 => exact fun _ h => h
          case round41 =>
            rintro ⟨i, f⟩ ⟨h1, h2⟩
            dsimp only at h1 h2 ⊢
            refine TC.seq ?_
            refine TC.seq ?_
            refine TC.region ?_
            refine' TL.y rfl rfl rfl ?hy42 ?_
            case hy42 => exact Yl.move rfl rfl
            refine' TL.y rfl rfl rfl ?hy43 ?_
            case hy43 => exact Yl.move rfl rfl
            refine' TL.y rfl rfl rfl ?hy44 ?_
            case hy44 => exact Yl.bin rfl rfl rfl (Bin.lss _ _ _ _)
            refine TL.nil ?_
            refine TE.next ?_
            refine TC.cond rfl (fun hs37 => ?_) (fun hs37 => ?_)
            · skip
              (try simp only [decide_eq_true_eq, decide_eq_false_iff_not, beq_iff_eq, beq_eq_false_iff_ne, bne_iff_ne, ne_eq, bne_eq_false_iff_eq, Bool.not_eq_true', Bool.not_eq_false', Int.not_lt, Int.not_le, gt_iff_lt, ge_iff_le] at hs37)
              refine TC.skip ?_
              refine TE.next ?_
              refine TC.seq ?_
              refine TC.block ?_
              refine TC.seq ?_
              refine TC.region ?_
              refine' TL.y rfl rfl rfl ?hy45 ?_
              case hy45 => exact Yl.move rfl rfl
              refine' TL.c rfl rfl rfl ?hy46 ?_
              case hy46 => exact Yc.call rfl Tryd.func12 (by kernel_rfl) rfl rfl (Hp.turnT (fun w hw => hT.below hw.below) mem0 foc0 k_take)
              intro _
              obtain ⟨q, hq1, hq2, hq5, hq3, hq4, hq7, hq6⟩ := (take_cases f n).resolve_left (fun h => by have := h.2.2.2 i (by omega); rw [h2] at this; simp at this)
              obtain rfl : i = q := by
                rw [h2] at hq3
                have a1 : i ≤ q := by simpa using hq3
                rcases Nat.lt_or_ge i q with h | h
                · have := hq7 i h; rw [h2] at this; simp at this
                · omega
              rw [hq2, hq5]
              refine' TL.y rfl rfl rfl ?hy47 ?_
              case hy47 => exact Yl.move rfl rfl
              refine' TL.y rfl rfl rfl ?hy48 ?_
              case hy48 => exact Yl.extract rfl rfl rfl
              refine' TL.y rfl rfl rfl ?hy49 ?_
              case hy49 => exact Yl.extract rfl rfl rfl
              refine' TL.y rfl rfl rfl ?hy50 ?_
              case hy50 => exact Yl.assign rfl rfl
              refine' TL.y rfl rfl rfl ?hy51 ?_
              case hy51 => exact Yl.assign rfl rfl
              refine TL.nil ?_
              refine TE.next ?_
              refine TC.seq ?_
              refine TC.region ?_
              refine' TL.y rfl rfl rfl ?hy52 ?_
              case hy52 => exact Yl.move rfl rfl
              refine' TL.y rfl rfl rfl ?hy53 ?_
              case hy53 => exact Yl.move rfl rfl
              refine' TL.y rfl rfl rfl ?hy54 ?_
              case hy54 => exact Yl.bin rfl rfl rfl (Bin.neq _ _ _ _)
              refine' TL.y rfl rfl rfl ?hy55 ?_
              case hy55 => exact Yl.move rfl rfl
              refine TL.re (i := 48) (v' := .bool false) rfl (congrArg Value.bool (by first | rfl | (simp; done))) ?_
              refine' TL.y rfl rfl rfl ?hy56 ?_
              case hy56 => exact Yl.move rfl rfl
              refine' TL.y rfl rfl rfl ?hy57 ?_
              case hy57 => exact Yl.bin rfl rfl rfl (Bin.neq _ _ _ _)
              refine' TL.y rfl rfl rfl ?hy58 ?_
              case hy58 => exact Yl.pickF rfl rfl rfl
              refine TL.nil ?_
              refine TE.next ?_
              refine TC.no rfl (by first | rfl | (simp; done)) ?_
              refine TC.skip ?_
              refine TE.inNormal ?_
              refine TE.next ?_
              refine TC.region ?_
              refine' TL.y rfl rfl rfl ?hy59 ?_
              case hy59 => exact Yl.move rfl rfl
              refine' TL.y rfl rfl rfl ?hy60 ?_
              case hy60 => first | (refine Yl.val (Yl.bin rfl rfl rfl (Bin.add _ _ _ _)) (congrArg (Value.int .i64) (i64in ?_ ?_)) <;> omega) | exact Yl.bin rfl rfl rfl (Bin.add _ _ _ _)
              refine' TL.y rfl rfl rfl ?hy61 ?_
              case hy61 => exact Yl.assign rfl rfl
              refine TL.nil ?_
              refine TE.round (i + 1, setB f i true) ?hF62 ?hlt62 ?hs62 ?hm62
              case hF62 => exact ⟨by dsimp only; omega, fun p => by (dsimp only; unfold setB; rw [h2]; by_cases e : p = i; simp [e]; simp [e]; omega)⟩
              case hlt62 => dsimp only; omega
              case hs62 => exact ⟨rfl, rfl, rfl, rfl, rfl, trivial⟩
              case hm62 => exact fun _ h => h
            · skip
              (try simp only [decide_eq_true_eq, decide_eq_false_iff_not, beq_iff_eq, beq_eq_false_iff_ne, bne_iff_ne, ne_eq, bne_eq_false_iff_eq, Bool.not_eq_true', Bool.not_eq_false', Int.not_lt, Int.not_le, gt_iff_lt, ge_iff_le] at hs37)
              have hin : i = n := by omega
              refine TC.exit ?_
              refine TE.thenExit ?_
              refine TE.thenExit ?_
              refine TE.inHere ?_
              refine TE.next ?_
              refine TC.seq ?_
              refine TC.region ?_
              refine' TL.y rfl rfl rfl ?hy63 ?_
              case hy63 => exact Yl.move rfl rfl
              refine' TL.c rfl rfl rfl ?hy64 ?_
              case hy64 => exact Yc.call rfl Tryd.func12 (by kernel_rfl) rfl rfl (Hp.turnT (fun w hw => hT.below hw.below) mem0 foc0 k_take)
              intro _
              have hfull : cntB f n = n := cnt_full (fun p hp => by rw [h2, hin]; simpa using hp)
              obtain ⟨hq1, hq2, hq3, hq4⟩ := (take_cases f n).resolve_right (fun h => by obtain ⟨q, h1, _, _, h3, _⟩ := h; rw [h2, hin] at h3; simp at h3; omega)
              rw [hq1, hq2]
              refine' TL.y rfl rfl rfl ?hy65 ?_
              case hy65 => exact Yl.move rfl rfl
              refine' TL.y rfl rfl rfl ?hy66 ?_
              case hy66 => exact Yl.extract rfl rfl rfl
              refine' TL.y rfl rfl rfl ?hy67 ?_
              case hy67 => exact Yl.extract rfl rfl rfl
              refine' TL.y rfl rfl rfl ?hy68 ?_
              case hy68 => exact Yl.assign rfl rfl
              refine' TL.y rfl rfl rfl ?hy69 ?_
              case hy69 => exact Yl.assign rfl rfl
              refine TL.nil ?_
              refine TE.next ?_
              refine TC.seq ?_
              refine TC.region ?_
              refine' TL.y rfl rfl rfl ?hy70 ?_
              case hy70 => exact Yl.assign rfl rfl
              refine TL.nil ?_
              refine TE.next ?_
              refine TC.seq ?_
              refine TC.seq ?_
              refine TC.region ?_
              refine' TL.y rfl rfl rfl ?hy71 ?_
              case hy71 => exact Yl.assign rfl rfl
              refine TL.nil ?_
              refine TE.next ?_
              refine TC.block ?_
              refine TC.loop (σ := Nat × (Nat → Bool)) (fun s => [(0, .int .i64 (n : Int)), (1, .int .i64 (st : Int)), (5, .bool true), (6, .pointer (some ⟨p, 0, none⟩)), (11, .int .i64 3), (12, .int .i64 ((n : Int) - cntB s.2 n)), (13, .int .i64 (s.1 : Int))]) (fun s => Hp W (fun _ => False) [poolR p b g n s.2]) (fun s => s.1 ≤ 200 ∧ ∀ p, s.2 p = decide (p < n ∧ s.1 ≤ p % st)) (fun s => 200 - s.1) (0, f) ?hF72 ?hs72 ?hm72 ?round72
              case hF72 => exact ⟨Nat.zero_le _, fun p => by dsimp only; rw [h2, hin]; simp⟩
              case hs72 => exact ⟨rfl, rfl, rfl, rfl, rfl, (by show some (Value.int .i64 0) = _; rw [hfull]; simp), rfl, trivial⟩
              case hm72 => exact fun _ h => h
              case round72 =>
                rintro ⟨fr, f⟩ ⟨h1, h2⟩
                dsimp only at h1 h2 ⊢
                refine TC.seq ?_
                refine TC.seq ?_
                refine TC.region ?_
                refine' TL.y rfl rfl rfl ?hy73 ?_
                case hy73 => exact Yl.move rfl rfl
                refine' TL.y rfl rfl rfl ?hy74 ?_
                case hy74 => exact Yl.move rfl rfl
                refine' TL.y rfl rfl rfl ?hy75 ?_
                case hy75 => exact Yl.bin rfl rfl rfl (Bin.lss _ _ _ _)
                refine' TL.y rfl rfl rfl ?hy76 ?_
                case hy76 => exact Yl.move rfl rfl
                refine TL.split (i := 60) rfl (fun hs60 => ?_) (fun hs60 => ?_)
                · skip
                  (try simp only [decide_eq_true_eq, decide_eq_false_iff_not, beq_iff_eq, beq_eq_false_iff_ne, bne_iff_ne, ne_eq, bne_eq_false_iff_eq, Bool.not_eq_true', Bool.not_eq_false', Int.not_lt, Int.not_le, gt_iff_lt, ge_iff_le] at hs60)
                  refine' TL.y rfl rfl rfl ?hy77 ?_
                  case hy77 => exact Yl.move rfl rfl
                  refine' TL.y rfl rfl rfl ?hy78 ?_
                  case hy78 => exact Yl.move rfl rfl
                  refine' TL.y rfl rfl rfl ?hy79 ?_
                  case hy79 => exact Yl.bin rfl rfl rfl (Bin.lss _ _ _ _)
                  refine' TL.y rfl rfl rfl ?hy80 ?_
                  case hy80 => exact Yl.pickT rfl rfl rfl
                  refine TL.nil ?_
                  refine TE.next ?_
                  refine TC.cond rfl (fun hs64 => ?_) (fun hs64 => ?_)
                  · skip
                    (try simp only [decide_eq_true_eq, decide_eq_false_iff_not, beq_iff_eq, beq_eq_false_iff_ne, bne_iff_ne, ne_eq, bne_eq_false_iff_eq, Bool.not_eq_true', Bool.not_eq_false', Int.not_lt, Int.not_le, gt_iff_lt, ge_iff_le] at hs64)
                    refine TC.skip ?_
                    refine TE.next ?_
                    refine TC.seq ?_
                    refine TC.block ?_
                    refine TC.seq ?_
                    refine TC.region ?_
                    refine' TL.y rfl rfl rfl ?hy81 ?_
                    case hy81 => exact Yl.move rfl rfl
                    refine' TL.y rfl rfl rfl ?hy82 ?_
                    case hy82 => exact Yl.assign rfl rfl
                    refine TL.nil ?_
                    refine TE.next ?_
                    refine TC.block ?_
                    refine TC.loop (σ := Nat × (Nat → Bool)) (fun s => [(0, .int .i64 (n : Int)), (1, .int .i64 (st : Int)), (5, .bool true), (6, .pointer (some ⟨p, 0, none⟩)), (11, .int .i64 3), (12, .int .i64 ((n : Int) - cntB s.2 n)), (13, .int .i64 (fr : Int)), (14, .int .i64 (s.1 : Int))]) (fun s => Hp W (fun _ => False) [poolR p b g n s.2]) (fun s => s.1 % st = fr ∧ s.1 ≤ n + st ∧ ∀ p, s.2 p = decide (p < n ∧ fr ≤ p % st ∧ (p % st = fr → s.1 ≤ p))) (fun s => n + st - s.1) (fr, f) ?hF83 ?hs83 ?hm83 ?round83
                    case hF83 => exact ⟨Nat.mod_eq_of_lt (by omega), by dsimp only; omega, fun p => by dsimp only; rw [h2]; exact decide_eq_decide.2 ⟨fun h => ⟨h.1, h.2, fun e => by rw [← e]; exact Nat.mod_le _ _⟩, fun h => ⟨h.1, h.2.1⟩⟩⟩
                    case hs83 => exact ⟨rfl, rfl, rfl, rfl, rfl, rfl, rfl, rfl, trivial⟩
                    case hm83 => exact fun _ h => h
                    case round83 =>
                      rintro ⟨i, f⟩ ⟨h3, h5, h4⟩
                      dsimp only at h3 h5 h4 ⊢
                      have hcn := cntB_le f n
                      refine TC.seq ?_
                      refine TC.seq ?_
                      refine TC.region ?_
                      refine' TL.y rfl rfl rfl ?hy84 ?_
                      case hy84 => exact Yl.move rfl rfl
                      refine' TL.y rfl rfl rfl ?hy85 ?_
                      case hy85 => exact Yl.move rfl rfl
                      refine' TL.y rfl rfl rfl ?hy86 ?_
                      case hy86 => exact Yl.bin rfl rfl rfl (Bin.lss _ _ _ _)
                      refine TL.nil ?_
                      refine TE.next ?_
                      refine TC.cond rfl (fun hs70 => ?_) (fun hs70 => ?_)
                      · skip
                        (try simp only [decide_eq_true_eq, decide_eq_false_iff_not, beq_iff_eq, beq_eq_false_iff_ne, bne_iff_ne, ne_eq, bne_eq_false_iff_eq, Bool.not_eq_true', Bool.not_eq_false', Int.not_lt, Int.not_le, gt_iff_lt, ge_iff_le] at hs70)
                        refine TC.skip ?_
                        refine TE.next ?_
                        refine TC.seq ?_
                        refine TC.block ?_
                        refine TC.seq ?_
                        refine TC.seq ?_
                        refine TC.region ?_
                        refine' TL.y rfl rfl rfl ?hy87 ?_
                        case hy87 => exact Yl.move rfl rfl
                        refine' TL.y rfl rfl rfl ?hy88 ?_
                        case hy88 => exact Yl.move rfl rfl
                        refine' TL.c rfl rfl rfl ?hy89 ?_
                        case hy89 => exact Yc.call rfl Tryd.func14 (by kernel_rfl) rfl rfl (Hp.turnT (fun w hw => hT.below hw.below) mem0 foc0 (k_give (i : Int)))
                        intro _
                        have hfi : f i = true := by rw [h4, decide_eq_true_eq]; exact ⟨by omega, by omega, fun _ => Nat.le_refl _⟩
                        have hcg := cnt_give (n := n) (show i < n by omega) hfi
                        rw [(give_in (show i < n by omega) hfi).1, (give_in (show i < n by omega) hfi).2]
                        refine' TL.y rfl rfl rfl ?hy90 ?_
                        case hy90 => exact Yl.bin rfl rfl rfl (Bin.neq _ _ _ _)
                        refine TL.nil ?_
                        refine TE.next ?_
                        refine TC.no rfl (rfl) ?_
                        refine TC.skip ?_
                        refine TE.next ?_
                        refine TC.region ?_
                        refine' TL.y rfl rfl rfl ?hy91 ?_
                        case hy91 => exact Yl.move rfl rfl
                        refine' TL.y rfl rfl rfl ?hy92 ?_
                        case hy92 => first | (refine Yl.val (Yl.bin rfl rfl rfl (Bin.add _ _ _ _)) (congrArg (Value.int .i64) (i64in ?_ ?_)) <;> omega) | exact Yl.bin rfl rfl rfl (Bin.add _ _ _ _)
                        refine' TL.y rfl rfl rfl ?hy93 ?_
                        case hy93 => exact Yl.assign rfl rfl
                        refine TL.nil ?_
                        refine TE.inNormal ?_
                        refine TE.next ?_
                        refine TC.region ?_
                        refine' TL.y rfl rfl rfl ?hy94 ?_
                        case hy94 => exact Yl.move rfl rfl
                        refine' TL.y rfl rfl rfl ?hy95 ?_
                        case hy95 => exact Yl.move rfl rfl
                        refine' TL.y rfl rfl rfl ?hy96 ?_
                        case hy96 => first | (refine Yl.val (Yl.bin rfl rfl rfl (Bin.add _ _ _ _)) (congrArg (Value.int .i64) (i64in ?_ ?_)) <;> omega) | exact Yl.bin rfl rfl rfl (Bin.add _ _ _ _)
                        refine' TL.y rfl rfl rfl ?hy97 ?_
                        case hy97 => exact Yl.assign rfl rfl
                        refine TL.nil ?_
                        refine TE.round (i + st, setB f i false) ?hF98 ?hlt98 ?hs98 ?hm98
                        case hF98 => exact ⟨by dsimp only; rw [Nat.add_mod_right]; exact h3, by dsimp only; omega, fun p => by
                          dsimp only; unfold setB
                          by_cases e : p = i
                          · rw [if_pos e]; symm; rw [decide_eq_false_iff_not]; rintro ⟨_, _, h⟩; have := h (by rw [e]; exact h3); omega
                          · rw [if_neg e, h4]; exact decide_eq_decide.2 ⟨fun h => ⟨h.1, h.2.1, fun e2 => mod_gap (by omega) (by have := h.2.2 e2; omega)⟩, fun h => ⟨h.1, h.2.1, fun e2 => by have := h.2.2 e2; omega⟩⟩⟩
                        case hlt98 => dsimp only; omega
                        case hs98 => exact ⟨rfl, rfl, rfl, rfl, rfl, (by show some (Value.int .i64 ((n : Int) - cntB f n + 1)) = _; rw [show ((n : Int) - cntB f n + 1) = (n : Int) - cntB (setB f i false) n from by rw [hcg]; omega]), rfl, rfl, trivial⟩
                        case hm98 => exact fun _ h => h
                      · skip
                        (try simp only [decide_eq_true_eq, decide_eq_false_iff_not, beq_iff_eq, beq_eq_false_iff_ne, bne_iff_ne, ne_eq, bne_eq_false_iff_eq, Bool.not_eq_true', Bool.not_eq_false', Int.not_lt, Int.not_le, gt_iff_lt, ge_iff_le] at hs70)
                        refine TC.exit ?_
                        refine TE.thenExit ?_
                        refine TE.thenExit ?_
                        refine TE.inHere ?_
                        refine TE.inNormal ?_
                        refine TE.next ?_
                        refine TC.region ?_
                        refine' TL.y rfl rfl rfl ?hy99 ?_
                        case hy99 => exact Yl.move rfl rfl
                        refine' TL.y rfl rfl rfl ?hy100 ?_
                        case hy100 => first | (refine Yl.val (Yl.bin rfl rfl rfl (Bin.add _ _ _ _)) (congrArg (Value.int .i64) (i64in ?_ ?_)) <;> omega) | exact Yl.bin rfl rfl rfl (Bin.add _ _ _ _)
                        refine' TL.y rfl rfl rfl ?hy101 ?_
                        case hy101 => exact Yl.assign rfl rfl
                        refine TL.nil ?_
                        refine TE.round (fr + 1, f) ?hF102 ?hlt102 ?hs102 ?hm102
                        case hF102 => exact ⟨by dsimp only; omega, fun p => by dsimp only; rw [h4]; exact decide_eq_decide.2 (by omega)⟩
                        case hlt102 => dsimp only; omega
                        case hs102 => exact ⟨rfl, rfl, rfl, rfl, rfl, rfl, rfl, trivial⟩
                        case hm102 => exact fun _ h => h
                  · skip
                    (try simp only [decide_eq_true_eq, decide_eq_false_iff_not, beq_iff_eq, beq_eq_false_iff_ne, bne_iff_ne, ne_eq, bne_eq_false_iff_eq, Bool.not_eq_true', Bool.not_eq_false', Int.not_lt, Int.not_le, gt_iff_lt, ge_iff_le] at hs64)
                    have hnone : ∀ p, f p = false := fun p => by rw [h2, decide_eq_false_iff_not]; rintro ⟨h3, h⟩; have := Nat.mod_le p st; omega
                    have hzero : cntB f n = 0 := cntB_false f n (fun p _ => hnone p)
                    refine TC.exit ?_
                    refine TE.thenExit ?_
                    refine TE.thenExit ?_
                    refine TE.inHere ?_
                    refine TE.next ?_
                    refine TC.seq ?_
                    refine TC.region ?_
                    refine' TL.y rfl rfl rfl ?hy103 ?_
                    case hy103 => exact Yl.move rfl rfl
                    refine' TL.y rfl rfl rfl ?hy104 ?_
                    case hy104 => exact Yl.move rfl rfl
                    refine' TL.y rfl rfl rfl ?hy105 ?_
                    case hy105 => exact Yl.move rfl rfl
                    refine' TL.y rfl rfl rfl ?hy106 ?_
                    case hy106 => exact Yl.bin rfl rfl rfl (Bin.eql _ _ _ _)
                    refine' TL.y rfl rfl rfl ?hy107 ?_
                    case hy107 => exact Yl.pickT rfl rfl rfl
                    refine' TL.y rfl rfl rfl ?hy108 ?_
                    case hy108 => exact Yl.move rfl rfl
                    refine TL.re (i := 85) (v' := .bool true) rfl (congrArg Value.bool (by first | rfl | (simp; done) | (rw [hzero]; simp))) ?_
                    refine' TL.y rfl rfl rfl ?hy109 ?_
                    case hy109 => exact Yl.move rfl rfl
                    refine' TL.y rfl rfl rfl ?hy110 ?_
                    case hy110 => exact Yl.move rfl rfl
                    refine' TL.y rfl rfl rfl ?hy111 ?_
                    case hy111 => exact Yl.bin rfl rfl rfl (Bin.eql _ _ _ _)
                    refine' TL.y rfl rfl rfl ?hy112 ?_
                    case hy112 => exact Yl.pickT rfl rfl rfl
                    refine' TL.y rfl rfl rfl ?hy113 ?_
                    case hy113 => exact Yl.move rfl rfl
                    refine TL.re (i := 90) (v' := .bool true) rfl (congrArg Value.bool (by first | rfl | (simp; done) | (rw [hzero]; simp))) ?_
                    refine' TL.y rfl rfl rfl ?hy114 ?_
                    case hy114 => exact Yl.move rfl rfl
                    refine' TL.c rfl rfl rfl ?hy115 ?_
                    case hy115 => exact Yc.call rfl Tryd.func18 (by kernel_rfl) rfl rfl (Hp.calls (fun w h => k_free w (h.all _ mem0)))
                    intro _
                    rw [hzero]
                    refine' TL.y rfl rfl rfl ?hy116 ?_
                    case hy116 => exact Yl.move rfl rfl
                    refine' TL.y rfl rfl rfl ?hy117 ?_
                    case hy117 => exact Yl.bin rfl rfl rfl (Bin.eql _ _ _ _)
                    refine' TL.y rfl rfl rfl ?hy118 ?_
                    case hy118 => exact Yl.pickT rfl rfl rfl
                    refine' TL.y rfl rfl rfl ?hy119 ?_
                    case hy119 => exact Yl.move rfl rfl
                    refine TL.re (i := 96) (v' := .bool true) rfl (congrArg Value.bool (by first | rfl | (simp; done) | (rw [hzero]; simp))) ?_
                    refine' TL.y rfl rfl rfl ?hy120 ?_
                    case hy120 => exact Yl.move rfl rfl
                    refine' TL.c rfl rfl rfl ?hy121 ?_
                    case hy121 => exact Yc.call rfl Tryd.func14 (by kernel_rfl) rfl rfl (Hp.turnT (fun w hw => hT.below hw.below) mem0 foc0 (k_give ((0 : Nat) : Int)))
                    intro _
                    rw [(give_free (show 0 < n by omega) (hnone 0)).1]
                    refine' TL.y rfl rfl rfl ?hy122 ?_
                    case hy122 => exact Yl.bin rfl rfl rfl (Bin.eql _ _ _ _)
                    refine' TL.y rfl rfl rfl ?hy123 ?_
                    case hy123 => exact Yl.pickT rfl rfl rfl
                    refine' TL.y rfl rfl rfl ?hy124 ?_
                    case hy124 => exact Yl.assign rfl rfl
                    refine TL.nil ?_
                    refine TE.next ?_
                    refine TC.ret ?_
                    refine TE.ret1 rfl rfl ?_
                    exact fun w h => ⟨congrArg (fun b => Ending.returned (Value.bool b)) (by first | rfl | (simp; done) : _ = true), h.below⟩
                · skip
                  (try simp only [decide_eq_true_eq, decide_eq_false_iff_not, beq_iff_eq, beq_eq_false_iff_ne, bne_iff_ne, ne_eq, bne_eq_false_iff_eq, Bool.not_eq_true', Bool.not_eq_false', Int.not_lt, Int.not_le, gt_iff_lt, ge_iff_le] at hs60)
                  have hnone : ∀ p, f p = false := fun p => by rw [h2, decide_eq_false_iff_not]; rintro ⟨_, h⟩; have := Nat.mod_lt p (show 0 < st by omega); omega
                  have hzero : cntB f n = 0 := cntB_false f n (fun p _ => hnone p)
                  refine TL.skip rfl rfl rfl ?_
                  refine TL.skip rfl rfl rfl ?_
                  refine TL.skip rfl rfl rfl ?_
                  refine' TL.y rfl rfl rfl ?hy125 ?_
                  case hy125 => exact Yl.pickF rfl rfl rfl
                  refine TL.nil ?_
                  refine TE.next ?_
                  refine TC.no rfl rfl ?_
                  refine TC.exit ?_
                  refine TE.thenExit ?_
                  refine TE.thenExit ?_
                  refine TE.inHere ?_
                  refine TE.next ?_
                  refine TC.seq ?_
                  refine TC.region ?_
                  refine' TL.y rfl rfl rfl ?hy126 ?_
                  case hy126 => exact Yl.move rfl rfl
                  refine' TL.y rfl rfl rfl ?hy127 ?_
                  case hy127 => exact Yl.move rfl rfl
                  refine' TL.y rfl rfl rfl ?hy128 ?_
                  case hy128 => exact Yl.move rfl rfl
                  refine' TL.y rfl rfl rfl ?hy129 ?_
                  case hy129 => exact Yl.bin rfl rfl rfl (Bin.eql _ _ _ _)
                  refine' TL.y rfl rfl rfl ?hy130 ?_
                  case hy130 => exact Yl.pickT rfl rfl rfl
                  refine' TL.y rfl rfl rfl ?hy131 ?_
                  case hy131 => exact Yl.move rfl rfl
                  refine TL.re (i := 85) (v' := .bool true) rfl (congrArg Value.bool (by first | rfl | (simp; done) | (rw [hzero]; simp))) ?_
                  refine' TL.y rfl rfl rfl ?hy132 ?_
                  case hy132 => exact Yl.move rfl rfl
                  refine' TL.y rfl rfl rfl ?hy133 ?_
                  case hy133 => exact Yl.move rfl rfl
                  refine' TL.y rfl rfl rfl ?hy134 ?_
                  case hy134 => exact Yl.bin rfl rfl rfl (Bin.eql _ _ _ _)
                  refine' TL.y rfl rfl rfl ?hy135 ?_
                  case hy135 => exact Yl.pickT rfl rfl rfl
                  refine' TL.y rfl rfl rfl ?hy136 ?_
                  case hy136 => exact Yl.move rfl rfl
                  refine TL.re (i := 90) (v' := .bool true) rfl (congrArg Value.bool (by first | rfl | (simp; done) | (rw [hzero]; simp))) ?_
                  refine' TL.y rfl rfl rfl ?hy137 ?_
                  case hy137 => exact Yl.move rfl rfl
                  refine' TL.c rfl rfl rfl ?hy138 ?_
                  case hy138 => exact Yc.call rfl Tryd.func18 (by kernel_rfl) rfl rfl (Hp.calls (fun w h => k_free w (h.all _ mem0)))
                  intro _
                  rw [hzero]
                  refine' TL.y rfl rfl rfl ?hy139 ?_
                  case hy139 => exact Yl.move rfl rfl
                  refine' TL.y rfl rfl rfl ?hy140 ?_
                  case hy140 => exact Yl.bin rfl rfl rfl (Bin.eql _ _ _ _)
                  refine' TL.y rfl rfl rfl ?hy141 ?_
                  case hy141 => exact Yl.pickT rfl rfl rfl
                  refine' TL.y rfl rfl rfl ?hy142 ?_
                  case hy142 => exact Yl.move rfl rfl
                  refine TL.re (i := 96) (v' := .bool true) rfl (congrArg Value.bool (by first | rfl | (simp; done) | (rw [hzero]; simp))) ?_
                  refine' TL.y rfl rfl rfl ?hy143 ?_
                  case hy143 => exact Yl.move rfl rfl
                  refine' TL.c rfl rfl rfl ?hy144 ?_
                  case hy144 => exact Yc.call rfl Tryd.func14 (by kernel_rfl) rfl rfl (Hp.turnT (fun w hw => hT.below hw.below) mem0 foc0 (k_give ((0 : Nat) : Int)))
                  intro _
                  rw [(give_free (show 0 < n by omega) (hnone 0)).1]
                  refine' TL.y rfl rfl rfl ?hy145 ?_
                  case hy145 => exact Yl.bin rfl rfl rfl (Bin.eql _ _ _ _)
                  refine' TL.y rfl rfl rfl ?hy146 ?_
                  case hy146 => exact Yl.pickT rfl rfl rfl
                  refine' TL.y rfl rfl rfl ?hy147 ?_
                  case hy147 => exact Yl.assign rfl rfl
                  refine TL.nil ?_
                  refine TE.next ?_
                  refine TC.ret ?_
                  refine TE.ret1 rfl rfl ?_
                  exact fun w h => ⟨congrArg (fun b => Ending.returned (Value.bool b)) (by first | rfl | (simp; done) : _ = true), h.below⟩
end Go.Proofs.YtafcmeoidcgmdaaDoor.Pk
