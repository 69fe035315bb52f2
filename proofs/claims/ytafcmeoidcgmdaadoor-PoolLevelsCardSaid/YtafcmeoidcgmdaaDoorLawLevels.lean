/- The walk through PoolLevels. -/
import Derived.Test.YtafcmeoidcgmdaaDoorWorks
import Derived.Test.YtafcmeoidcgmdaaDoorProg
import Derived.RowKit3
namespace Go.Proofs.YtafcmeoidcgmdaaDoor.Pk
open Go Go.RowKit Go.Proofs.YtafcmeoidcgmdaaDoor.HL Go.Proofs.YtafcmeoidcgmdaaDoor.Ev Go.Proofs.YtafcmeoidcgmdaaDoorW.PrintWords Go.Proofs.YtafcmeoidcgmdaaDoor.BM
set_option linter.unusedVariables false
set_option linter.unusedSimpArgs false
theorem cnt_full {f : Nat → Bool} {n : Nat} (h : ∀ p, p < n → f p = true) : cntB f n = n := by
  induction n with
  | zero => rfl
  | succ n ih => rw [cntB_succ, ih (fun p hp => h p (by omega)), if_pos (h n (by omega))]
theorem cnt_hole {f : Nat → Bool} : ∀ {n q : Nat}, q < n → f q = false → cntB f n < n
  | n + 1, q, hq, hf => by
    rw [cntB_succ]
    have hl := cntB_le f n
    by_cases e : q = n
    · subst e; rw [hf]; simp; omega
    · have := cnt_hole (f := f) (n := n) (q := q) (by omega) hf
      split <;> omega
theorem take_cases (f : Nat → Bool) (n : Nat) : (runA f n 1 = (-1, 3) ∧ runF f n 1 = f ∧ cntB f n = n ∧ ∀ p, p < n → f p = true) ∨ ∃ q : Nat, q < n ∧ runA f n 1 = ((q : Int), 0) ∧ runF f n 1 = setB f q true ∧ f q = false ∧ cntB f n < n ∧ (∀ p, p < q → f p = true) ∧ cntB (setB f q true) n = cntB f n + 1 := by
  have e1 : (1 : Int).toNat = 1 := rfl
  rcases nextV_cases f n 0 false with ⟨h1, h2⟩ | ⟨q, h1, h2, h3, h4, h5⟩
  · have hr : runV f n (1 : Int).toNat = -1 := by rw [e1, runV_one]; exact h1
    have h := runA_none (k := 1) (by decide) hr
    have ht : ∀ p, p < n → f p = true := fun p hp => by have := h2 p (by omega) hp; cases e : f p; exact absurd e this; rfl
    exact .inl ⟨h.1, h.2, cnt_full ht, ht⟩
  · have hr : runV f n (1 : Int).toNat = q := by rw [e1, runV_one]; exact h1
    have h := runA_some (k := 1) (by decide) hr
    refine .inr ⟨q, h3, h.1, by rw [h.2, e1, fillB_one], h4, cnt_hole h3 h4, fun p hp => by have := h5 p (by omega) hp; cases e : f p; exact absurd e this; rfl, ?_⟩
    have := cntB_set f q true n h3
    rw [h4] at this; simp at this; omega
theorem cnt_give {f : Nat → Bool} {n j : Nat} (h : j < n) (hf : f j = true) : (cntB (setB f j false) n : Int) = cntB f n - 1 := by
  have := cntB_set f j false n h
  rw [hf] at this; simp at this; omega
theorem cnt_fill {f : Nat → Bool} {n a : Nat} : ∀ k, a + k ≤ n → (∀ p, a ≤ p → p < a + k → f p = false) → cntB (fillB f a k) n = cntB f n + k
  | 0, _, _ => by rw [fillB_zero]; rfl
  | k + 1, h, hf => by
    rw [← fillB_succ]
    have := cntB_set (fillB f a k) (a + k) true n (by omega)
    rw [show fillB f a k (a + k) = false from by unfold fillB; rw [if_neg (by omega)]; exact hf _ (by omega) (by omega), cnt_fill k (by omega) (fun p h1 h2 => hf p h1 (by omega))] at this
    simp at this; omega
theorem run_less {f : Nat → Bool} {n k a : Nat} (k2 : Nat) (hk : k2 ≤ k) (h2 : a + k ≤ n) (h3 : ∀ p, a ≤ p → p < a + k → f p = false) : ∃ a2 : Nat, runV f n k2 = a2 ∧ a2 ≤ a := by
  rcases runV_cases f n k2 with ⟨_, h5⟩ | ⟨a2, h4, h5, h6, h7⟩
  · exact absurd (fun p h1 h2 => h3 p h1 (by omega)) (h5 a (by omega))
  · refine ⟨a2, h4, ?_⟩
    rcases Nat.lt_or_ge a a2 with h | h
    · exact absurd (fun p h1 h2 => h3 p h1 (by omega)) (h7 a h)
    · exact h
theorem give_split (f : Nat → Bool) (n : Nat) (x : Int) : x < 0 ∨ (0 ≤ x ∧ (n : Int) ≤ x) ∨ (∃ j : Nat, x = j ∧ j < n ∧ f j = false) ∨ ∃ j : Nat, x = j ∧ j < n ∧ f j = true := by
  by_cases h0 : x < 0
  · exact .inl h0
  · by_cases h1 : (n : Int) ≤ x
    · exact .inr (.inl ⟨by omega, h1⟩)
    · obtain ⟨j, rfl⟩ := Int.eq_ofNat_of_zero_le (show 0 ≤ x by omega)
      cases e : f j
      · exact .inr (.inr (.inl ⟨j, rfl, by omega, e⟩))
      · exact .inr (.inr (.inr ⟨j, rfl, by omega, e⟩))
theorem mod_gap {s p i : Nat} (h : p % s = i % s) (hl : i < p) : i + s ≤ p := by
  have h1 := Nat.div_add_mod p s
  have h2 := Nat.div_add_mod i s
  have h3 : i / s < p / s := by
    rcases Nat.lt_or_ge (i / s) (p / s) with h3 | h3
    · exact h3
    · have := Nat.mul_le_mul_left s h3; omega
  have h4 : s * (i / s + 1) ≤ s * (p / s) := Nat.mul_le_mul_left s h3
  rw [Nat.mul_add, Nat.mul_one] at h4
  omega
theorem level_facts (x low high : Int) (h : 0 ≤ x) : 0 ≤ levelV x low high ∧ levelV x low high ≤ 2 ∧ (levelV x low high = 0 ↔ x < low) ∧ levelV (x - 1) low high ≤ levelV x low high ∧ 0 ≤ levelV (x - 1) low high := by
  unfold levelV
  refine ⟨?_, ?_, ?_, ?_, ?_⟩ <;> repeat' split <;> omega
attribute [local irreducible] rowA mapR rowR poolR rpoolR
set_option maxRecDepth 100000 in
set_option maxHeartbeats 2000000 in
theorem law_Levels (W : World) (hT : TabOK W) (n0 k0 low high : Int) : Calls Tryd.prog 7 #[.int .i64 n0, .int .i64 k0, .int .i64 low, .int .i64 high] W fun e w' => e = .returned (.bool true) ∧ Below W.heap.size W w' := by
  have hM : Hp W (fun _ => False) [] W := Hp.start
  refine TC.enter (n := 80) Tryd.func7 rfl rfl rfl hM ?_
  refine TC.seq ?_
  refine TC.region ?_
  refine' TL.y rfl rfl rfl ?hy1 ?_
  case hy1 => exact Yl.assign rfl rfl
  refine TL.nil ?_
  refine TE.next ?_
  refine TC.seq ?_
  refine TC.region ?_
  refine' TL.c rfl rfl rfl ?hy2 ?_
  case hy2 => exact Yc.call rfl Tryd.func9 (by kernel_rfl) rfl rfl (Hp.calls (fun w h => k_works w (hT.below h.below)))
  intro _
  refine' TL.y rfl rfl rfl ?hy3 ?_
  case hy3 => exact Yl.assign rfl rfl
  refine TL.nil ?_
  refine TE.next ?_
  refine TC.seq ?_
  refine TC.seq ?_
  refine TC.region ?_
  refine' TL.y rfl rfl rfl ?hy4 ?_
  case hy4 => exact Yl.move rfl rfl
  refine' TL.y rfl rfl rfl ?hy5 ?_
  case hy5 => exact Yl.not rfl rfl
  refine TL.nil ?_
  refine TE.next ?_
  refine TC.no rfl rfl ?_
  refine TC.skip ?_
  refine TE.next ?_
  refine TC.seq ?_
  refine TC.seq ?_
  refine TC.region ?_
  refine' TL.y rfl rfl rfl ?hy6 ?_
  case hy6 => exact Yl.move rfl rfl
  refine' TL.y rfl rfl rfl ?hy7 ?_
  case hy7 => exact Yl.bin rfl rfl rfl (Bin.lss _ _ _ _)
  refine' TL.y rfl rfl rfl ?hy8 ?_
  case hy8 => exact Yl.move rfl rfl
  refine TL.split (i := 19) rfl (fun hs19 => ?_) (fun hs19 => ?_)
  · skip
    (try simp only [decide_eq_true_eq, decide_eq_false_iff_not, beq_iff_eq, beq_eq_false_iff_ne, bne_iff_ne, ne_eq, bne_eq_false_iff_eq, Bool.not_eq_true', Bool.not_eq_false', Int.not_lt, Int.not_le, gt_iff_lt, ge_iff_le] at hs19)
    refine TL.skip rfl rfl rfl ?_
    refine TL.skip rfl rfl rfl ?_
    refine' TL.y rfl rfl rfl ?hy9 ?_
    case hy9 => exact Yl.pickT rfl rfl rfl
    refine' TL.y rfl rfl rfl ?hy10 ?_
    case hy10 => exact Yl.move rfl rfl
    refine TL.skip rfl rfl rfl ?_
    refine TL.skip rfl rfl rfl ?_
    refine' TL.y rfl rfl rfl ?hy11 ?_
    case hy11 => exact Yl.pickT rfl rfl rfl
    refine' TL.y rfl rfl rfl ?hy12 ?_
    case hy12 => exact Yl.move rfl rfl
    refine TL.skip rfl rfl rfl ?_
    refine TL.skip rfl rfl rfl ?_
    refine TL.skip rfl rfl rfl ?_
    refine' TL.y rfl rfl rfl ?hy13 ?_
    case hy13 => exact Yl.pickT rfl rfl rfl
    refine TL.nil ?_
    refine TE.next ?_
    refine TC.yes rfl rfl ?_
    refine TC.seq ?_
    refine TC.region ?_
    refine' TL.y rfl rfl rfl ?hy14 ?_
    case hy14 => exact Yl.move rfl rfl
    refine' TL.y rfl rfl rfl ?hy15 ?_
    case hy15 => exact Yl.assign rfl rfl
    refine TL.nil ?_
    refine TE.next ?_
    refine TC.ret ?_
    refine TE.thenRet ?_
    refine TE.ret1 rfl rfl ?_
    exact fun w h => ⟨congrArg (fun b => Ending.returned (Value.bool b)) (by first | rfl | (have hL := level_facts ((n : Int) - k) low high (by omega); rw [show ((levelV ((n : Int) - k) low high == 0) : Bool) = decide ((n : Int) - k < low) from by rw [Bool.eq_iff_iff]; simp; omega]; simp) : _ = true), h.below⟩
  · skip
    (try simp only [decide_eq_true_eq, decide_eq_false_iff_not, beq_iff_eq, beq_eq_false_iff_ne, bne_iff_ne, ne_eq, bne_eq_false_iff_eq, Bool.not_eq_true', Bool.not_eq_false', Int.not_lt, Int.not_le, gt_iff_lt, ge_iff_le] at hs19)
    refine' TL.y rfl rfl rfl ?hy16 ?_
    case hy16 => exact Yl.move rfl rfl
    refine' TL.y rfl rfl rfl ?hy17 ?_
    case hy17 => exact Yl.bin rfl rfl rfl (Bin.gtr _ _ _ _)
    refine' TL.y rfl rfl rfl ?hy18 ?_
    case hy18 => exact Yl.pickF rfl rfl rfl
    refine' TL.y rfl rfl rfl ?hy19 ?_
    case hy19 => exact Yl.move rfl rfl
    refine TL.split (i := 23) rfl (fun hs23 => ?_) (fun hs23 => ?_)
    · skip
      (try simp only [decide_eq_true_eq, decide_eq_false_iff_not, beq_iff_eq, beq_eq_false_iff_ne, bne_iff_ne, ne_eq, bne_eq_false_iff_eq, Bool.not_eq_true', Bool.not_eq_false', Int.not_lt, Int.not_le, gt_iff_lt, ge_iff_le] at hs23)
      refine TL.skip rfl rfl rfl ?_
      refine TL.skip rfl rfl rfl ?_
      refine' TL.y rfl rfl rfl ?hy20 ?_
      case hy20 => exact Yl.pickT rfl rfl rfl
      refine' TL.y rfl rfl rfl ?hy21 ?_
      case hy21 => exact Yl.move rfl rfl
      refine TL.skip rfl rfl rfl ?_
      refine TL.skip rfl rfl rfl ?_
      refine TL.skip rfl rfl rfl ?_
      refine' TL.y rfl rfl rfl ?hy22 ?_
      case hy22 => exact Yl.pickT rfl rfl rfl
      refine TL.nil ?_
      refine TE.next ?_
      refine TC.yes rfl rfl ?_
      refine TC.seq ?_
      refine TC.region ?_
      refine' TL.y rfl rfl rfl ?hy23 ?_
      case hy23 => exact Yl.move rfl rfl
      refine' TL.y rfl rfl rfl ?hy24 ?_
      case hy24 => exact Yl.assign rfl rfl
      refine TL.nil ?_
      refine TE.next ?_
      refine TC.ret ?_
      refine TE.thenRet ?_
      refine TE.ret1 rfl rfl ?_
      exact fun w h => ⟨congrArg (fun b => Ending.returned (Value.bool b)) (by first | rfl | (have hL := level_facts ((n : Int) - k) low high (by omega); rw [show ((levelV ((n : Int) - k) low high == 0) : Bool) = decide ((n : Int) - k < low) from by rw [Bool.eq_iff_iff]; simp; omega]; simp) : _ = true), h.below⟩
    · skip
      (try simp only [decide_eq_true_eq, decide_eq_false_iff_not, beq_iff_eq, beq_eq_false_iff_ne, bne_iff_ne, ne_eq, bne_eq_false_iff_eq, Bool.not_eq_true', Bool.not_eq_false', Int.not_lt, Int.not_le, gt_iff_lt, ge_iff_le] at hs23)
      refine' TL.y rfl rfl rfl ?hy25 ?_
      case hy25 => exact Yl.move rfl rfl
      refine' TL.y rfl rfl rfl ?hy26 ?_
      case hy26 => exact Yl.bin rfl rfl rfl (Bin.lss _ _ _ _)
      refine' TL.y rfl rfl rfl ?hy27 ?_
      case hy27 => exact Yl.pickF rfl rfl rfl
      refine' TL.y rfl rfl rfl ?hy28 ?_
      case hy28 => exact Yl.move rfl rfl
      refine TL.split (i := 27) rfl (fun hs27 => ?_) (fun hs27 => ?_)
      · skip
        (try simp only [decide_eq_true_eq, decide_eq_false_iff_not, beq_iff_eq, beq_eq_false_iff_ne, bne_iff_ne, ne_eq, bne_eq_false_iff_eq, Bool.not_eq_true', Bool.not_eq_false', Int.not_lt, Int.not_le, gt_iff_lt, ge_iff_le] at hs27)
        refine TL.skip rfl rfl rfl ?_
        refine TL.skip rfl rfl rfl ?_
        refine TL.skip rfl rfl rfl ?_
        refine' TL.y rfl rfl rfl ?hy29 ?_
        case hy29 => exact Yl.pickT rfl rfl rfl
        refine TL.nil ?_
        refine TE.next ?_
        refine TC.yes rfl rfl ?_
        refine TC.seq ?_
        refine TC.region ?_
        refine' TL.y rfl rfl rfl ?hy30 ?_
        case hy30 => exact Yl.move rfl rfl
        refine' TL.y rfl rfl rfl ?hy31 ?_
        case hy31 => exact Yl.assign rfl rfl
        refine TL.nil ?_
        refine TE.next ?_
        refine TC.ret ?_
        refine TE.thenRet ?_
        refine TE.ret1 rfl rfl ?_
        exact fun w h => ⟨congrArg (fun b => Ending.returned (Value.bool b)) (by first | rfl | (have hL := level_facts ((n : Int) - k) low high (by omega); rw [show ((levelV ((n : Int) - k) low high == 0) : Bool) = decide ((n : Int) - k < low) from by rw [Bool.eq_iff_iff]; simp; omega]; simp) : _ = true), h.below⟩
      · skip
        (try simp only [decide_eq_true_eq, decide_eq_false_iff_not, beq_iff_eq, beq_eq_false_iff_ne, bne_iff_ne, ne_eq, bne_eq_false_iff_eq, Bool.not_eq_true', Bool.not_eq_false', Int.not_lt, Int.not_le, gt_iff_lt, ge_iff_le] at hs27)
        refine' TL.y rfl rfl rfl ?hy32 ?_
        case hy32 => exact Yl.move rfl rfl
        refine' TL.y rfl rfl rfl ?hy33 ?_
        case hy33 => exact Yl.move rfl rfl
        refine' TL.y rfl rfl rfl ?hy34 ?_
        case hy34 => exact Yl.bin rfl rfl rfl (Bin.geq _ _ _ _)
        refine' TL.y rfl rfl rfl ?hy35 ?_
        case hy35 => exact Yl.pickF rfl rfl rfl
        refine TL.nil ?_
        refine TE.next ?_
        refine TC.cond rfl (fun hs31 => ?_) (fun hs31 => ?_)
        · skip
          (try simp only [decide_eq_true_eq, decide_eq_false_iff_not, beq_iff_eq, beq_eq_false_iff_ne, bne_iff_ne, ne_eq, bne_eq_false_iff_eq, Bool.not_eq_true', Bool.not_eq_false', Int.not_lt, Int.not_le, gt_iff_lt, ge_iff_le] at hs31)
          refine TC.seq ?_
          refine TC.region ?_
          refine' TL.y rfl rfl rfl ?hy36 ?_
          case hy36 => exact Yl.move rfl rfl
          refine' TL.y rfl rfl rfl ?hy37 ?_
          case hy37 => exact Yl.assign rfl rfl
          refine TL.nil ?_
          refine TE.next ?_
          refine TC.ret ?_
          refine TE.thenRet ?_
          refine TE.ret1 rfl rfl ?_
          exact fun w h => ⟨congrArg (fun b => Ending.returned (Value.bool b)) (by first | rfl | (have hL := level_facts ((n : Int) - k) low high (by omega); rw [show ((levelV ((n : Int) - k) low high == 0) : Bool) = decide ((n : Int) - k < low) from by rw [Bool.eq_iff_iff]; simp; omega]; simp) : _ = true), h.below⟩
        · skip
          (try simp only [decide_eq_true_eq, decide_eq_false_iff_not, beq_iff_eq, beq_eq_false_iff_ne, bne_iff_ne, ne_eq, bne_eq_false_iff_eq, Bool.not_eq_true', Bool.not_eq_false', Int.not_lt, Int.not_le, gt_iff_lt, ge_iff_le] at hs31)
          obtain ⟨n, rfl⟩ := Int.eq_ofNat_of_zero_le (show 0 ≤ n0 by omega)
          obtain ⟨k, rfl⟩ := Int.eq_ofNat_of_zero_le (show 0 ≤ k0 by omega)
          refine TC.skip ?_
          refine TE.next ?_
          refine TC.seq ?_
          refine TC.region ?_
          refine' TL.y rfl rfl rfl ?hy38 ?_
          case hy38 => exact Yl.move rfl rfl
          refine' TL.c rfl rfl rfl ?hy39 ?_
          case hy39 => exact Yc.call rfl Tryd.func10 (by kernel_rfl) rfl rfl (Hp.makes (k_pnew (n : Int)))
          intro ⟨p, b, g⟩
          rw [show newN (min (n : Int) 1024) = n from by unfold newN; omega]
          refine' TL.y rfl rfl rfl ?hy40 ?_
          case hy40 => exact Yl.assign rfl rfl
          refine TL.nil ?_
          refine TE.next ?_
          refine TC.seq ?_
          refine TC.seq ?_
          refine TC.region ?_
          refine' TL.y rfl rfl rfl ?hy41 ?_
          case hy41 => exact Yl.assign rfl rfl
          refine TL.nil ?_
          refine TE.next ?_
          refine TC.block ?_
          refine TC.loop (σ := Nat × (Nat → Bool)) (fun s => [(0, .int .i64 (n : Int)), (1, .int .i64 (k : Int)), (2, .int .i64 low), (3, .int .i64 high), (9, .bool true), (10, .pointer (some ⟨p, 0, none⟩)), (11, .int .i64 (s.1 : Int))]) (fun s => Hp W (fun _ => False) [poolR p b g n s.2]) (fun s => s.1 ≤ k ∧ cntB s.2 n = s.1) (fun s => k - s.1) (0, fun _ => false) ?hF42 ?hs42 ?hm42 ?round42
          case hF42 => exact ⟨Nat.zero_le _, cntB_false _ _ (fun _ _ => rfl)⟩
          case hs42 => exact ⟨rfl, rfl, rfl, rfl, rfl, rfl, rfl, trivial⟩
          case hm42 => exact fun _ h => h
          case round42 =>
            rintro ⟨i, f⟩ ⟨h1, h2⟩
            dsimp only at h1 h2 ⊢
            refine TC.seq ?_
            refine TC.seq ?_
            refine TC.region ?_
            refine' TL.y rfl rfl rfl ?hy43 ?_
            case hy43 => exact Yl.move rfl rfl
            refine' TL.y rfl rfl rfl ?hy44 ?_
            case hy44 => exact Yl.move rfl rfl
            refine' TL.y rfl rfl rfl ?hy45 ?_
            case hy45 => exact Yl.bin rfl rfl rfl (Bin.lss _ _ _ _)
            refine TL.nil ?_
            refine TE.next ?_
            refine TC.cond rfl (fun hs37 => ?_) (fun hs37 => ?_)
            · skip
              (try simp only [decide_eq_true_eq, decide_eq_false_iff_not, beq_iff_eq, beq_eq_false_iff_ne, bne_iff_ne, ne_eq, bne_eq_false_iff_eq, Bool.not_eq_true', Bool.not_eq_false', Int.not_lt, Int.not_le, gt_iff_lt, ge_iff_le] at hs37)
              refine TC.skip ?_
              refine TE.next ?_
              refine TC.seq ?_
              refine TC.block ?_
              refine TC.region ?_
              refine' TL.y rfl rfl rfl ?hy46 ?_
              case hy46 => exact Yl.move rfl rfl
              refine' TL.c rfl rfl rfl ?hy47 ?_
              case hy47 => exact Yc.call rfl Tryd.func12 (by kernel_rfl) rfl rfl (Hp.turnT (fun w hw => hT.below hw.below) mem0 foc0 k_take)
              intro _
              obtain ⟨q, hq1, hq2, hq5, hq3, hq4, hq7, hq6⟩ := (take_cases f n).resolve_left (fun h => by omega)
              rw [hq2, hq5]
              refine TL.nil ?_
              refine TE.inNormal ?_
              refine TE.next ?_
              refine TC.region ?_
              refine' TL.y rfl rfl rfl ?hy48 ?_
              case hy48 => exact Yl.move rfl rfl
              refine' TL.y rfl rfl rfl ?hy49 ?_
              case hy49 => first | (refine Yl.val (Yl.bin rfl rfl rfl (Bin.add _ _ _ _)) (congrArg (Value.int .i64) (i64in ?_ ?_)) <;> omega) | exact Yl.bin rfl rfl rfl (Bin.add _ _ _ _)
              refine' TL.y rfl rfl rfl ?hy50 ?_
              case hy50 => exact Yl.assign rfl rfl
              refine TL.nil ?_
              refine TE.round (i + 1, setB f q true) ?hF51 ?hlt51 ?hs51 ?hm51
              case hF51 => exact ⟨by dsimp only; omega, by dsimp only; omega⟩
              case hlt51 => dsimp only; omega
              case hs51 => exact ⟨rfl, rfl, rfl, rfl, rfl, rfl, rfl, trivial⟩
              case hm51 => exact fun _ h => h
            · skip
              (try simp only [decide_eq_true_eq, decide_eq_false_iff_not, beq_iff_eq, beq_eq_false_iff_ne, bne_iff_ne, ne_eq, bne_eq_false_iff_eq, Bool.not_eq_true', Bool.not_eq_false', Int.not_lt, Int.not_le, gt_iff_lt, ge_iff_le] at hs37)
              refine TC.exit ?_
              refine TE.thenExit ?_
              refine TE.thenExit ?_
              refine TE.inHere ?_
              refine TE.next ?_
              refine TC.seq ?_
              refine TC.region ?_
              refine' TL.y rfl rfl rfl ?hy52 ?_
              case hy52 => exact Yl.move rfl rfl
              refine' TL.y rfl rfl rfl ?hy53 ?_
              case hy53 => exact Yl.move rfl rfl
              refine' TL.y rfl rfl rfl ?hy54 ?_
              case hy54 => exact Yl.move rfl rfl
              refine' TL.c rfl rfl rfl ?hy55 ?_
              case hy55 => exact Yc.call rfl Tryd.func21 (by kernel_rfl) rfl rfl (Hp.calls (fun w h => k_level w (h.all _ mem0) low high))
              intro _
              rw [show ((n : Int) - cntB f n) = (n : Int) - k from by omega]
              refine' TL.y rfl rfl rfl ?hy56 ?_
              case hy56 => exact Yl.assign rfl rfl
              refine TL.nil ?_
              refine TE.next ?_
              refine TC.seq ?_
              refine TC.region ?_
              refine' TL.y rfl rfl rfl ?hy57 ?_
              case hy57 => exact Yl.move rfl rfl
              refine' TL.c rfl rfl rfl ?hy58 ?_
              case hy58 => exact Yc.call rfl Tryd.func12 (by kernel_rfl) rfl rfl (Hp.turnT (fun w hw => hT.below hw.below) mem0 foc0 k_take)
              intro _
              obtain ⟨q, hq1, hq2, hq5, hq3, hq4, hq7, hq6⟩ := (take_cases f n).resolve_left (fun h => by omega)
              rw [hq2, hq5]
              refine TL.nil ?_
              refine TE.next ?_
              refine TC.seq ?_
              refine TC.region ?_
              refine' TL.y rfl rfl rfl ?hy59 ?_
              case hy59 => exact Yl.move rfl rfl
              refine' TL.y rfl rfl rfl ?hy60 ?_
              case hy60 => exact Yl.move rfl rfl
              refine' TL.y rfl rfl rfl ?hy61 ?_
              case hy61 => exact Yl.move rfl rfl
              refine' TL.c rfl rfl rfl ?hy62 ?_
              case hy62 => exact Yc.call rfl Tryd.func21 (by kernel_rfl) rfl rfl (Hp.calls (fun w h => k_level w (h.all _ mem0) low high))
              intro _
              rw [show ((n : Int) - cntB (setB f q true) n) = (n : Int) - k - 1 from by omega]
              refine' TL.y rfl rfl rfl ?hy63 ?_
              case hy63 => exact Yl.assign rfl rfl
              refine TL.nil ?_
              refine TE.next ?_
              refine TC.seq ?_
              refine TC.region ?_
              refine' TL.y rfl rfl rfl ?hy64 ?_
              case hy64 => exact Yl.move rfl rfl
              refine' TL.y rfl rfl rfl ?hy65 ?_
              case hy65 => exact Yl.move rfl rfl
              refine' TL.y rfl rfl rfl ?hy66 ?_
              case hy66 => exact Yl.move rfl rfl
              refine' TL.y rfl rfl rfl ?hy67 ?_
              case hy67 => exact Yl.move rfl rfl
              refine' TL.y rfl rfl rfl ?hy68 ?_
              case hy68 => exact Yl.bin rfl rfl rfl (Bin.geq _ _ _ _)
              refine' TL.y rfl rfl rfl ?hy69 ?_
              case hy69 => exact Yl.pickT rfl rfl rfl
              refine' TL.y rfl rfl rfl ?hy70 ?_
              case hy70 => exact Yl.move rfl rfl
              refine TL.re (i := 58) (v' := .bool true) rfl (congrArg Value.bool (by first | rfl | (simp; done) | (simp; omega) | (have hL := level_facts ((n : Int) - k) low high (by omega); simp; omega))) ?_
              refine' TL.y rfl rfl rfl ?hy71 ?_
              case hy71 => exact Yl.move rfl rfl
              refine' TL.y rfl rfl rfl ?hy72 ?_
              case hy72 => exact Yl.bin rfl rfl rfl (Bin.geq _ _ _ _)
              refine' TL.y rfl rfl rfl ?hy73 ?_
              case hy73 => exact Yl.pickT rfl rfl rfl
              refine' TL.y rfl rfl rfl ?hy74 ?_
              case hy74 => exact Yl.move rfl rfl
              refine TL.re (i := 62) (v' := .bool true) rfl (congrArg Value.bool (by first | rfl | (simp; done) | (simp; omega) | (have hL := level_facts ((n : Int) - k) low high (by omega); simp; omega))) ?_
              refine' TL.y rfl rfl rfl ?hy75 ?_
              case hy75 => exact Yl.move rfl rfl
              refine' TL.y rfl rfl rfl ?hy76 ?_
              case hy76 => exact Yl.bin rfl rfl rfl (Bin.leq _ _ _ _)
              refine' TL.y rfl rfl rfl ?hy77 ?_
              case hy77 => exact Yl.pickT rfl rfl rfl
              refine' TL.y rfl rfl rfl ?hy78 ?_
              case hy78 => exact Yl.move rfl rfl
              refine TL.re (i := 66) (v' := .bool true) rfl (congrArg Value.bool (by first | rfl | (simp; done) | (simp; omega) | (have hL := level_facts ((n : Int) - k) low high (by omega); simp; omega))) ?_
              refine' TL.y rfl rfl rfl ?hy79 ?_
              case hy79 => exact Yl.move rfl rfl
              refine' TL.y rfl rfl rfl ?hy80 ?_
              case hy80 => exact Yl.bin rfl rfl rfl (Bin.geq _ _ _ _)
              refine' TL.y rfl rfl rfl ?hy81 ?_
              case hy81 => exact Yl.pickT rfl rfl rfl
              refine' TL.y rfl rfl rfl ?hy82 ?_
              case hy82 => exact Yl.move rfl rfl
              refine TL.re (i := 70) (v' := .bool true) rfl (congrArg Value.bool (by first | rfl | (simp; done) | (simp; omega) | (have hL := level_facts ((n : Int) - k) low high (by omega); simp; omega))) ?_
              refine' TL.y rfl rfl rfl ?hy83 ?_
              case hy83 => exact Yl.move rfl rfl
              refine' TL.y rfl rfl rfl ?hy84 ?_
              case hy84 => exact Yl.bin rfl rfl rfl (Bin.eql _ _ _ _)
              refine' TL.y rfl rfl rfl ?hy85 ?_
              case hy85 => exact Yl.move rfl rfl
              refine' TL.y rfl rfl rfl ?hy86 ?_
              case hy86 => exact Yl.move rfl rfl
              refine' TL.y rfl rfl rfl ?hy87 ?_
              case hy87 => first | (refine Yl.val (Yl.bin rfl rfl rfl (Bin.sub _ _ _ _)) (congrArg (Value.int .i64) (i64in ?_ ?_)) <;> omega) | exact Yl.bin rfl rfl rfl (Bin.sub _ _ _ _)
              refine' TL.y rfl rfl rfl ?hy88 ?_
              case hy88 => exact Yl.move rfl rfl
              refine' TL.y rfl rfl rfl ?hy89 ?_
              case hy89 => exact Yl.bin rfl rfl rfl (Bin.lss _ _ _ _)
              refine' TL.y rfl rfl rfl ?hy90 ?_
              case hy90 => exact Yl.bin rfl rfl rfl (Bin.eqlB _ _ _ (by kernel_rfl))
              refine' TL.y rfl rfl rfl ?hy91 ?_
              case hy91 => exact Yl.pickT rfl rfl rfl
              refine' TL.y rfl rfl rfl ?hy92 ?_
              case hy92 => exact Yl.assign rfl rfl
              refine TL.nil ?_
              refine TE.next ?_
              refine TC.ret ?_
              refine TE.ret1 rfl rfl ?_
              exact fun w h => ⟨congrArg (fun b => Ending.returned (Value.bool b)) (by first | rfl | (have hL := level_facts ((n : Int) - k) low high (by omega); rw [show ((levelV ((n : Int) - k) low high == 0) : Bool) = decide ((n : Int) - k < low) from by rw [Bool.eq_iff_iff]; simp; omega]; simp) : _ = true), h.below⟩
end Go.Proofs.YtafcmeoidcgmdaaDoor.Pk
