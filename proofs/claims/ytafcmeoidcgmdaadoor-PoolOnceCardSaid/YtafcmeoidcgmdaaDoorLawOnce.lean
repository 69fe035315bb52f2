/- The walk through PoolOnce. -/
import Derived.Test.YtafcmeoidcgmdaaDoorWorks
import Derived.Test.YtafcmeoidcgmdaaDoorProg
import Derived.RowKit3
namespace Go.Proofs.YtafcmeoidcgmdaaDoor.Pk
open Go Go.RowKit Go.Proofs.YtafcmeoidcgmdaaDoor.HL Go.Proofs.YtafcmeoidcgmdaaDoor.Ev Go.Proofs.YtafcmeoidcgmdaaDoorW.PrintWords Go.Proofs.YtafcmeoidcgmdaaDoor.BM
set_option linter.unusedVariables false
set_option linter.unusedSimpArgs false
theorem cnt_full {f : Nat → Bool} {n : Nat} (h : ∀ p, p < n → f p = true) : cntB f n = n := by
  induction n with
  | zero => rfl
  | succ n ih => rw [cntB_succ, ih (fun p hp => h p (by omega)), if_pos (h n (by omega))]
theorem cnt_hole {f : Nat → Bool} : ∀ {n q : Nat}, q < n → f q = false → cntB f n < n
  | n + 1, q, hq, hf => by
    rw [cntB_succ]
    have hl := cntB_le f n
    by_cases e : q = n
    · subst e; rw [hf]; simp; omega
    · have := cnt_hole (f := f) (n := n) (q := q) (by omega) hf
      split <;> omega
theorem take_cases (f : Nat → Bool) (n : Nat) : (runA f n 1 = (-1, 3) ∧ runF f n 1 = f ∧ cntB f n = n ∧ ∀ p, p < n → f p = true) ∨ ∃ q : Nat, q < n ∧ runA f n 1 = ((q : Int), 0) ∧ runF f n 1 = setB f q true ∧ f q = false ∧ cntB f n < n ∧ (∀ p, p < q → f p = true) ∧ cntB (setB f q true) n = cntB f n + 1 := by
  have e1 : (1 : Int).toNat = 1 := rfl
  rcases nextV_cases f n 0 false with ⟨h1, h2⟩ | ⟨q, h1, h2, h3, h4, h5⟩
  · have hr : runV f n (1 : Int).toNat = -1 := by rw [e1, runV_one]; exact h1
    have h := runA_none (k := 1) (by decide) hr
    have ht : ∀ p, p < n → f p = true := fun p hp => by have := h2 p (by omega) hp; cases e : f p; exact absurd e this; rfl
    exact .inl ⟨h.1, h.2, cnt_full ht, ht⟩
  · have hr : runV f n (1 : Int).toNat = q := by rw [e1, runV_one]; exact h1
    have h := runA_some (k := 1) (by decide) hr
    refine .inr ⟨q, h3, h.1, by rw [h.2, e1, fillB_one], h4, cnt_hole h3 h4, fun p hp => by have := h5 p (by omega) hp; cases e : f p; exact absurd e this; rfl, ?_⟩
    have := cntB_set f q true n h3
    rw [h4] at this; simp at this; omega
theorem cnt_give {f : Nat → Bool} {n j : Nat} (h : j < n) (hf : f j = true) : (cntB (setB f j false) n : Int) = cntB f n - 1 := by
  have := cntB_set f j false n h
  rw [hf] at this; simp at this; omega
theorem cnt_fill {f : Nat → Bool} {n a : Nat} : ∀ k, a + k ≤ n → (∀ p, a ≤ p → p < a + k → f p = false) → cntB (fillB f a k) n = cntB f n + k
  | 0, _, _ => by rw [fillB_zero]; rfl
  | k + 1, h, hf => by
    rw [← fillB_succ]
    have := cntB_set (fillB f a k) (a + k) true n (by omega)
    rw [show fillB f a k (a + k) = false from by unfold fillB; rw [if_neg (by omega)]; exact hf _ (by omega) (by omega), cnt_fill k (by omega) (fun p h1 h2 => hf p h1 (by omega))] at this
    simp at this; omega
theorem run_less {f : Nat → Bool} {n k a : Nat} (k2 : Nat) (hk : k2 ≤ k) (h2 : a + k ≤ n) (h3 : ∀ p, a ≤ p → p < a + k → f p = false) : ∃ a2 : Nat, runV f n k2 = a2 ∧ a2 ≤ a := by
  rcases runV_cases f n k2 with ⟨_, h5⟩ | ⟨a2, h4, h5, h6, h7⟩
  · exact absurd (fun p h1 h2 => h3 p h1 (by omega)) (h5 a (by omega))
  · refine ⟨a2, h4, ?_⟩
    rcases Nat.lt_or_ge a a2 with h | h
    · exact absurd (fun p h1 h2 => h3 p h1 (by omega)) (h7 a h)
    · exact h
theorem give_split (f : Nat → Bool) (n : Nat) (x : Int) : x < 0 ∨ (0 ≤ x ∧ (n : Int) ≤ x) ∨ (∃ j : Nat, x = j ∧ j < n ∧ f j = false) ∨ ∃ j : Nat, x = j ∧ j < n ∧ f j = true := by
  by_cases h0 : x < 0
  · exact .inl h0
  · by_cases h1 : (n : Int) ≤ x
    · exact .inr (.inl ⟨by omega, h1⟩)
    · obtain ⟨j, rfl⟩ := Int.eq_ofNat_of_zero_le (show 0 ≤ x by omega)
      cases e : f j
      · exact .inr (.inr (.inl ⟨j, rfl, by omega, e⟩))
      · exact .inr (.inr (.inr ⟨j, rfl, by omega, e⟩))
theorem mod_gap {s p i : Nat} (h : p % s = i % s) (hl : i < p) : i + s ≤ p := by
  have h1 := Nat.div_add_mod p s
  have h2 := Nat.div_add_mod i s
  have h3 : i / s < p / s := by
    rcases Nat.lt_or_ge (i / s) (p / s) with h3 | h3
    · exact h3
    · have := Nat.mul_le_mul_left s h3; omega
  have h4 : s * (i / s + 1) ≤ s * (p / s) := Nat.mul_le_mul_left s h3
  rw [Nat.mul_add, Nat.mul_one] at h4
  omega
theorem level_facts (x low high : Int) (h : 0 ≤ x) : 0 ≤ levelV x low high ∧ levelV x low high ≤ 2 ∧ (levelV x low high = 0 ↔ x < low) ∧ levelV (x - 1) low high ≤ levelV x low high ∧ 0 ≤ levelV (x - 1) low high := by
  unfold levelV
  refine ⟨?_, ?_, ?_, ?_, ?_⟩ <;> repeat' split <;> omega
attribute [local irreducible] rowA mapR rowR poolR rpoolR
set_option maxRecDepth 100000 in
set_option maxHeartbeats 2000000 in
theorem law_Once (W : World) (hT : TabOK W) (n0 : Int) (l : List Open.E30) (A : Option Addr) (cp : Nat) (hS : Sl W A (l.flatMap Open.E30.cells)) (hw : ∀ x ∈ l, Open.wf30 x) (xl : l.length ≤ 9223372036854775807) : Calls Tryd.prog 4 #[.int .i64 n0, .slice A l.length cp] W fun e w' => e = .returned (.bool true) ∧ Below W.heap.size W w' := by
  have hM : Hp W (fun _ => False) [] W := Hp.start
  refine TC.enter (n := 144) Tryd.func4 rfl rfl rfl hM ?_
  refine TC.seq ?_
  refine TC.region ?_
  refine' TL.y rfl rfl rfl ?hy1 ?_
  case hy1 => exact Yl.assign rfl rfl
  refine TL.nil ?_
  refine TE.next ?_
  refine TC.seq ?_
  refine TC.region ?_
  refine' TL.c rfl rfl rfl ?hy2 ?_
  case hy2 => exact Yc.call rfl Tryd.func9 (by kernel_rfl) rfl rfl (Hp.calls (fun w h => k_works w (hT.below h.below)))
  intro _
  refine' TL.y rfl rfl rfl ?hy3 ?_
  case hy3 => exact Yl.assign rfl rfl
  refine TL.nil ?_
  refine TE.next ?_
  refine TC.seq ?_
  refine TC.seq ?_
  refine TC.region ?_
  refine' TL.y rfl rfl rfl ?hy4 ?_
  case hy4 => exact Yl.move rfl rfl
  refine' TL.y rfl rfl rfl ?hy5 ?_
  case hy5 => exact Yl.not rfl rfl
  refine TL.nil ?_
  refine TE.next ?_
  refine TC.no rfl rfl ?_
  refine TC.skip ?_
  refine TE.next ?_
  refine TC.seq ?_
  refine TC.seq ?_
  refine TC.region ?_
  refine' TL.y rfl rfl rfl ?hy6 ?_
  case hy6 => exact Yl.move rfl rfl
  refine' TL.y rfl rfl rfl ?hy7 ?_
  case hy7 => exact Yl.bin rfl rfl rfl (Bin.lss _ _ _ _)
  refine' TL.y rfl rfl rfl ?hy8 ?_
  case hy8 => exact Yl.move rfl rfl
  refine TL.split (i := 20) rfl (fun hs20 => ?_) (fun hs20 => ?_)
  · skip
    (try simp only [decide_eq_true_eq, decide_eq_false_iff_not, beq_iff_eq, beq_eq_false_iff_ne, bne_iff_ne, ne_eq, bne_eq_false_iff_eq, Bool.not_eq_true', Bool.not_eq_false', Int.not_lt, Int.not_le, gt_iff_lt, ge_iff_le] at hs20)
    refine TL.skip rfl rfl rfl ?_
    refine TL.skip rfl rfl rfl ?_
    refine' TL.y rfl rfl rfl ?hy9 ?_
    case hy9 => exact Yl.pickT rfl rfl rfl
    refine' TL.y rfl rfl rfl ?hy10 ?_
    case hy10 => exact Yl.move rfl rfl
    refine TL.skip rfl rfl rfl ?_
    refine TL.skip rfl rfl rfl ?_
    refine TL.skip rfl rfl rfl ?_
    refine' TL.y rfl rfl rfl ?hy11 ?_
    case hy11 => exact Yl.pickT rfl rfl rfl
    refine TL.nil ?_
    refine TE.next ?_
    refine TC.yes rfl rfl ?_
    refine TC.seq ?_
    refine TC.region ?_
    refine' TL.y rfl rfl rfl ?hy12 ?_
    case hy12 => exact Yl.move rfl rfl
    refine' TL.y rfl rfl rfl ?hy13 ?_
    case hy13 => exact Yl.assign rfl rfl
    refine TL.nil ?_
    refine TE.next ?_
    refine TC.ret ?_
    refine TE.thenRet ?_
    refine TE.ret1 rfl rfl ?_
    exact fun w h => ⟨congrArg (fun b => Ending.returned (Value.bool b)) (by first | rfl | (simp; done) : _ = true), h.below⟩
  · skip
    (try simp only [decide_eq_true_eq, decide_eq_false_iff_not, beq_iff_eq, beq_eq_false_iff_ne, bne_iff_ne, ne_eq, bne_eq_false_iff_eq, Bool.not_eq_true', Bool.not_eq_false', Int.not_lt, Int.not_le, gt_iff_lt, ge_iff_le] at hs20)
    refine' TL.y rfl rfl rfl ?hy14 ?_
    case hy14 => exact Yl.move rfl rfl
    refine' TL.y rfl rfl rfl ?hy15 ?_
    case hy15 => exact Yl.bin rfl rfl rfl (Bin.gtr _ _ _ _)
    refine' TL.y rfl rfl rfl ?hy16 ?_
    case hy16 => exact Yl.pickF rfl rfl rfl
    refine' TL.y rfl rfl rfl ?hy17 ?_
    case hy17 => exact Yl.move rfl rfl
    refine TL.split (i := 24) rfl (fun hs24 => ?_) (fun hs24 => ?_)
    · skip
      (try simp only [decide_eq_true_eq, decide_eq_false_iff_not, beq_iff_eq, beq_eq_false_iff_ne, bne_iff_ne, ne_eq, bne_eq_false_iff_eq, Bool.not_eq_true', Bool.not_eq_false', Int.not_lt, Int.not_le, gt_iff_lt, ge_iff_le] at hs24)
      refine TL.skip rfl rfl rfl ?_
      refine TL.skip rfl rfl rfl ?_
      refine TL.skip rfl rfl rfl ?_
      refine' TL.y rfl rfl rfl ?hy18 ?_
      case hy18 => exact Yl.pickT rfl rfl rfl
      refine TL.nil ?_
      refine TE.next ?_
      refine TC.yes rfl rfl ?_
      refine TC.seq ?_
      refine TC.region ?_
      refine' TL.y rfl rfl rfl ?hy19 ?_
      case hy19 => exact Yl.move rfl rfl
      refine' TL.y rfl rfl rfl ?hy20 ?_
      case hy20 => exact Yl.assign rfl rfl
      refine TL.nil ?_
      refine TE.next ?_
      refine TC.ret ?_
      refine TE.thenRet ?_
      refine TE.ret1 rfl rfl ?_
      exact fun w h => ⟨congrArg (fun b => Ending.returned (Value.bool b)) (by first | rfl | (simp; done) : _ = true), h.below⟩
    · skip
      (try simp only [decide_eq_true_eq, decide_eq_false_iff_not, beq_iff_eq, beq_eq_false_iff_ne, bne_iff_ne, ne_eq, bne_eq_false_iff_eq, Bool.not_eq_true', Bool.not_eq_false', Int.not_lt, Int.not_le, gt_iff_lt, ge_iff_le] at hs24)
      refine' TL.y rfl rfl rfl ?hy21 ?_
      case hy21 => exact Yl.move rfl rfl
      refine' TL.y rfl rfl rfl ?hy22 ?_
      case hy22 => exact Yl.len rfl rfl Tryd.underlying22
      refine' TL.y rfl rfl rfl ?hy23 ?_
      case hy23 => exact Yl.bin rfl rfl rfl (Bin.gtr _ _ _ _)
      refine' TL.y rfl rfl rfl ?hy24 ?_
      case hy24 => exact Yl.pickF rfl rfl rfl
      refine TL.nil ?_
      refine TE.next ?_
      refine TC.cond rfl (fun hs28 => ?_) (fun hs28 => ?_)
      · skip
        (try simp only [decide_eq_true_eq, decide_eq_false_iff_not, beq_iff_eq, beq_eq_false_iff_ne, bne_iff_ne, ne_eq, bne_eq_false_iff_eq, Bool.not_eq_true', Bool.not_eq_false', Int.not_lt, Int.not_le, gt_iff_lt, ge_iff_le] at hs28)
        refine TC.seq ?_
        refine TC.region ?_
        refine' TL.y rfl rfl rfl ?hy25 ?_
        case hy25 => exact Yl.move rfl rfl
        refine' TL.y rfl rfl rfl ?hy26 ?_
        case hy26 => exact Yl.assign rfl rfl
        refine TL.nil ?_
        refine TE.next ?_
        refine TC.ret ?_
        refine TE.thenRet ?_
        refine TE.ret1 rfl rfl ?_
        exact fun w h => ⟨congrArg (fun b => Ending.returned (Value.bool b)) (by first | rfl | (simp; done) : _ = true), h.below⟩
      · skip
        (try simp only [decide_eq_true_eq, decide_eq_false_iff_not, beq_iff_eq, beq_eq_false_iff_ne, bne_iff_ne, ne_eq, bne_eq_false_iff_eq, Bool.not_eq_true', Bool.not_eq_false', Int.not_lt, Int.not_le, gt_iff_lt, ge_iff_le] at hs28)
        obtain ⟨n, rfl⟩ := Int.eq_ofNat_of_zero_le (show 0 ≤ n0 by omega)
        refine TC.skip ?_
        refine TE.next ?_
        refine TC.seq ?_
        refine TC.region ?_
        refine' TL.y rfl rfl rfl ?hy27 ?_
        case hy27 => exact Yl.move rfl rfl
        refine' TL.c rfl rfl rfl ?hy28 ?_
        case hy28 => exact Yc.call rfl Tryd.func10 (by kernel_rfl) rfl rfl (Hp.makes (k_pnew (n : Int)))
        intro ⟨p, b, g⟩
        rw [show newN (min (n : Int) 1024) = n from by unfold newN; omega]
        refine' TL.y rfl rfl rfl ?hy29 ?_
        case hy29 => exact Yl.assign rfl rfl
        refine TL.nil ?_
        refine TE.next ?_
        refine TC.seq ?_
        refine TC.region ?_
        refine' TL.y rfl rfl rfl ?hy30 ?_
        case hy30 => exact Yl.move rfl rfl
        refine' TL.mx rfl rfl rfl ?hy31 ?_
        case hy31 => exact Ym.makeRow (z := .bool false) (by_ := 1) rfl rfl rfl Tryd.underlying35 (by kernel_rfl) rfl (by omega) (by omega) (by omega)
        intro cm
        simp only [Int.toNat_natCast]
        refine' TL.y rfl rfl rfl ?hy32 ?_
        case hy32 => exact Yl.assign rfl rfl
        refine TL.nil ?_
        refine TE.next ?_
        refine TC.seq ?_
        refine TC.region ?_
        refine' TL.y rfl rfl rfl ?hy33 ?_
        case hy33 => exact Yl.assign rfl rfl
        refine TL.nil ?_
        refine TE.next ?_
        refine TC.seq ?_
        refine TC.seq ?_
        refine TC.region ?_
        refine' TL.y rfl rfl rfl ?hy34 ?_
        case hy34 => exact Yl.assign rfl rfl
        refine TL.nil ?_
        refine TE.next ?_
        refine TC.block ?_
        refine TC.loop (σ := Nat × (Nat → Bool)) (fun s => [(0, .int .i64 (n : Int)), (1, .slice A l.length cp), (5, .bool true), (6, .pointer (some ⟨p, 0, none⟩)), (7, .slice (some ⟨cm, 0, none⟩) n n), (8, .int .i64 (cntB s.2 n : Int)), (9, .int .i64 (s.1 : Int))]) (fun s => Hp W (fun _ => False) [blk cm (.cells (rowA n (fun j => .bool (s.2 j))) 4 (0, 0)), poolR p b g n s.2]) (fun s => s.1 ≤ l.length) (fun s => l.length - s.1) (0, fun _ => false) ?hF35 ?hs35 ?hm35 ?round35
        case hF35 => exact Nat.zero_le _
        case hs35 => exact ⟨rfl, rfl, rfl, rfl, rfl, (by show some (Value.int .i64 0) = _; rw [cntB_false _ _ (fun _ _ => rfl)]; rfl), rfl, trivial⟩
        case hm35 => exact fun _ h => h
        case round35 =>
          rintro ⟨i, f⟩ h1
          dsimp only at h1 ⊢
          refine TC.fact (poolR_n mem1) ?_
          intro hfn
          have hcn := cntB_le f n
          refine TC.seq ?_
          refine TC.seq ?_
          refine TC.region ?_
          refine' TL.y rfl rfl rfl ?hy36 ?_
          case hy36 => exact Yl.move rfl rfl
          refine' TL.y rfl rfl rfl ?hy37 ?_
          case hy37 => exact Yl.move rfl rfl
          refine' TL.y rfl rfl rfl ?hy38 ?_
          case hy38 => exact Yl.len rfl rfl Tryd.underlying22
          refine' TL.y rfl rfl rfl ?hy39 ?_
          case hy39 => exact Yl.bin rfl rfl rfl (Bin.lss _ _ _ _)
          refine TL.nil ?_
          refine TE.next ?_
          refine TC.cond rfl (fun hs37 => ?_) (fun hs37 => ?_)
          · skip
            (try simp only [decide_eq_true_eq, decide_eq_false_iff_not, beq_iff_eq, beq_eq_false_iff_ne, bne_iff_ne, ne_eq, bne_eq_false_iff_eq, Bool.not_eq_true', Bool.not_eq_false', Int.not_lt, Int.not_le, gt_iff_lt, ge_iff_le] at hs37)
            have hlt : i < l.length := by omega
            obtain ⟨bb, oo, rfl⟩ := Sl.some2 hS (by have := Open.at30_0 l i hlt; rw [List.getElem?_eq_some_iff] at this; obtain ⟨h1, _⟩ := this; omega)
            have hwi := hw _ (List.getElem_mem hlt)
            have hwx := of_i64 hwi.2
            obtain ⟨x, hx⟩ : ∃ x, (l[i]'hlt).f1 = x := ⟨_, rfl⟩
            rw [hx] at hwx
            refine TC.skip ?_
            refine TE.next ?_
            refine TC.seq ?_
            refine TC.block ?_
            refine TC.seq ?_
            refine TC.seq ?_
            refine TC.region ?_
            refine' TL.y rfl rfl rfl ?hy40 ?_
            case hy40 => exact Yl.move rfl rfl
            refine' TL.y rfl rfl rfl ?hy41 ?_
            case hy41 => exact Yl.move rfl rfl
            refine' TL.y rfl rfl rfl ?hy42 ?_
            case hy42 => first | exact Yl.ixkn (k := 2) rfl rfl rfl Tryd.underlying22 (by kernel_rfl) (by omega) | exact Yl.ixkz (k := 2) rfl rfl rfl Tryd.underlying22 (by kernel_rfl) (by omega) (by omega)
            refine' TL.y rfl rfl rfl ?hy43 ?_
            case hy43 => first | exact Yl.field0 (k := 0) 0 rfl rfl Tryd.underlying30 rfl (by kernel_rfl) rfl | exact Yl.field (k := 0) 0 rfl rfl Tryd.underlying30 rfl (by kernel_rfl) rfl
            refine' TL.y rfl rfl rfl ?hy44 ?_
            case hy44 => exact (Yl.load rfl rfl (by kernel_rfl) (Sl.cellAt hS (Open.at30_0 l i hlt) (fun _ => id) (by omega)))
            refine' TL.y rfl rfl rfl ?hy45 ?_
            case hy45 => exact Yl.bin rfl rfl rfl (Bin.rem _ _ _ _ (by omega))
            refine' TL.y rfl rfl rfl ?hy46 ?_
            case hy46 => exact Yl.bin rfl rfl rfl (Bin.eql _ _ _ _)
            refine TL.nil ?_
            refine TE.next ?_
            refine TC.cond rfl (fun hs46 => ?_) (fun hs46 => ?_)
            · skip
              (try simp only [decide_eq_true_eq, decide_eq_false_iff_not, beq_iff_eq, beq_eq_false_iff_ne, bne_iff_ne, ne_eq, bne_eq_false_iff_eq, Bool.not_eq_true', Bool.not_eq_false', Int.not_lt, Int.not_le, gt_iff_lt, ge_iff_le] at hs46)
              refine TC.seq ?_
              refine TC.region ?_
              refine' TL.y rfl rfl rfl ?hy47 ?_
              case hy47 => exact Yl.move rfl rfl
              refine' TL.c rfl rfl rfl ?hy48 ?_
              case hy48 => exact Yc.call rfl Tryd.func12 (by kernel_rfl) rfl rfl (Hp.turnT (fun w hw => hT.below hw.below) mem1 foc1 k_take)
              intro _
              rcases take_cases f n with ⟨hq1, hq2, hq3, hq4⟩ | ⟨q, hq1, hq2, hq5, hq3, hq4, _, hq6⟩
              · skip
                rw [hq1, hq2]
                refine' TL.y rfl rfl rfl ?hy49 ?_
                case hy49 => exact Yl.move rfl rfl
                refine' TL.y rfl rfl rfl ?hy50 ?_
                case hy50 => exact Yl.extract rfl rfl rfl
                refine' TL.y rfl rfl rfl ?hy51 ?_
                case hy51 => exact Yl.extract rfl rfl rfl
                refine' TL.y rfl rfl rfl ?hy52 ?_
                case hy52 => exact Yl.assign rfl rfl
                refine' TL.y rfl rfl rfl ?hy53 ?_
                case hy53 => exact Yl.assign rfl rfl
                refine TL.nil ?_
                refine TE.next ?_
                refine TC.seq ?_
                refine TC.seq ?_
                refine TC.region ?_
                refine' TL.y rfl rfl rfl ?hy54 ?_
                case hy54 => exact Yl.move rfl rfl
                refine' TL.y rfl rfl rfl ?hy55 ?_
                case hy55 => exact Yl.bin rfl rfl rfl (Bin.eql _ _ _ _)
                refine' TL.y rfl rfl rfl ?hy56 ?_
                case hy56 => exact Yl.move rfl rfl
                refine' TL.y rfl rfl rfl ?hy57 ?_
                case hy57 => exact Yl.move rfl rfl
                refine' TL.y rfl rfl rfl ?hy58 ?_
                case hy58 => exact Yl.bin rfl rfl rfl (Bin.lss _ _ _ _)
                refine' TL.y rfl rfl rfl ?hy59 ?_
                case hy59 => exact Yl.bin rfl rfl rfl (Bin.neqB _ _ _ (by kernel_rfl))
                refine TL.nil ?_
                refine TE.next ?_
                refine TC.no rfl (by first | (simp; omega) | (simp; done) | rfl) ?_
                refine TC.skip ?_
                refine TE.next ?_
                refine TC.seq ?_
                refine TC.region ?_
                refine' TL.y rfl rfl rfl ?hy60 ?_
                case hy60 => exact Yl.move rfl rfl
                refine' TL.y rfl rfl rfl ?hy61 ?_
                case hy61 => exact Yl.bin rfl rfl rfl (Bin.eql _ _ _ _)
                refine TL.nil ?_
                refine TE.next ?_
                refine TC.no rfl (rfl) ?_
                refine TC.skip ?_
                refine TE.next ?_
                refine TC.seq ?_
                refine TC.region ?_
                refine' TL.y rfl rfl rfl ?hy62 ?_
                case hy62 => exact Yl.move rfl rfl
                refine' TL.c rfl rfl rfl ?hy63 ?_
                case hy63 => exact Yc.call rfl Tryd.func18 (by kernel_rfl) rfl rfl (Hp.calls (fun w h => k_free w (h.all _ mem1)))
                intro _
                refine' TL.y rfl rfl rfl ?hy64 ?_
                case hy64 => exact Yl.move rfl rfl
                refine' TL.y rfl rfl rfl ?hy65 ?_
                case hy65 => exact Yl.move rfl rfl
                refine' TL.y rfl rfl rfl ?hy66 ?_
                case hy66 => first | (refine Yl.val (Yl.bin rfl rfl rfl (Bin.sub _ _ _ _)) (congrArg (Value.int .i64) (i64in ?_ ?_)) <;> omega) | exact Yl.bin rfl rfl rfl (Bin.sub _ _ _ _)
                refine' TL.y rfl rfl rfl ?hy67 ?_
                case hy67 => exact Yl.bin rfl rfl rfl (Bin.neq _ _ _ _)
                refine TL.nil ?_
                refine TE.next ?_
                refine TC.no rfl (by first | (simp; done) | (simp; omega) | (have hg := cnt_give hj hfj; simp; omega)) ?_
                refine TC.skip ?_
                refine TE.inNormal ?_
                refine TE.next ?_
                refine TC.region ?_
                refine' TL.y rfl rfl rfl ?hy68 ?_
                case hy68 => exact Yl.move rfl rfl
                refine' TL.y rfl rfl rfl ?hy69 ?_
                case hy69 => first | (refine Yl.val (Yl.bin rfl rfl rfl (Bin.add _ _ _ _)) (congrArg (Value.int .i64) (i64in ?_ ?_)) <;> omega) | exact Yl.bin rfl rfl rfl (Bin.add _ _ _ _)
                refine' TL.y rfl rfl rfl ?hy70 ?_
                case hy70 => exact Yl.assign rfl rfl
                refine TL.nil ?_
                refine TE.round (i + 1, f) ?hF71 ?hlt71 ?hs71 ?hm71
                case hF71 => dsimp only; omega
                case hlt71 => dsimp only; omega
                case hs71 => exact ⟨rfl, rfl, rfl, rfl, rfl, rfl, rfl, trivial⟩
                case hm71 => exact fun _ h => h
              · skip
                rw [hq2, hq5]
                refine' TL.y rfl rfl rfl ?hy72 ?_
                case hy72 => exact Yl.move rfl rfl
                refine' TL.y rfl rfl rfl ?hy73 ?_
                case hy73 => exact Yl.extract rfl rfl rfl
                refine' TL.y rfl rfl rfl ?hy74 ?_
                case hy74 => exact Yl.extract rfl rfl rfl
                refine' TL.y rfl rfl rfl ?hy75 ?_
                case hy75 => exact Yl.assign rfl rfl
                refine' TL.y rfl rfl rfl ?hy76 ?_
                case hy76 => exact Yl.assign rfl rfl
                refine TL.nil ?_
                refine TE.next ?_
                refine TC.seq ?_
                refine TC.seq ?_
                refine TC.region ?_
                refine' TL.y rfl rfl rfl ?hy77 ?_
                case hy77 => exact Yl.move rfl rfl
                refine' TL.y rfl rfl rfl ?hy78 ?_
                case hy78 => exact Yl.bin rfl rfl rfl (Bin.eql _ _ _ _)
                refine' TL.y rfl rfl rfl ?hy79 ?_
                case hy79 => exact Yl.move rfl rfl
                refine' TL.y rfl rfl rfl ?hy80 ?_
                case hy80 => exact Yl.move rfl rfl
                refine' TL.y rfl rfl rfl ?hy81 ?_
                case hy81 => exact Yl.bin rfl rfl rfl (Bin.lss _ _ _ _)
                refine' TL.y rfl rfl rfl ?hy82 ?_
                case hy82 => exact Yl.bin rfl rfl rfl (Bin.neqB _ _ _ (by kernel_rfl))
                refine TL.nil ?_
                refine TE.next ?_
                refine TC.no rfl (by first | (simp; omega) | (simp; done) | rfl) ?_
                refine TC.skip ?_
                refine TE.next ?_
                refine TC.seq ?_
                refine TC.region ?_
                refine' TL.y rfl rfl rfl ?hy83 ?_
                case hy83 => exact Yl.move rfl rfl
                refine' TL.y rfl rfl rfl ?hy84 ?_
                case hy84 => exact Yl.bin rfl rfl rfl (Bin.eql _ _ _ _)
                refine TL.nil ?_
                refine TE.next ?_
                refine TC.yes rfl (rfl) ?_
                refine TC.seq ?_
                refine TC.seq ?_
                refine TC.region ?_
                refine' TL.y rfl rfl rfl ?hy85 ?_
                case hy85 => exact Yl.move rfl rfl
                refine' TL.y rfl rfl rfl ?hy86 ?_
                case hy86 => exact Yl.bin rfl rfl rfl (Bin.lss _ _ _ _)
                refine' TL.y rfl rfl rfl ?hy87 ?_
                case hy87 => exact Yl.move rfl rfl
                refine TL.re (i := 62) (v' := .bool false) rfl (congrArg Value.bool (by first | (simp; omega) | (simp; done) | (rw [hq3]))) ?_
                refine' TL.y rfl rfl rfl ?hy88 ?_
                case hy88 => exact Yl.move rfl rfl
                refine' TL.y rfl rfl rfl ?hy89 ?_
                case hy89 => exact Yl.move rfl rfl
                refine' TL.y rfl rfl rfl ?hy90 ?_
                case hy90 => exact Yl.bin rfl rfl rfl (Bin.geq _ _ _ _)
                refine' TL.y rfl rfl rfl ?hy91 ?_
                case hy91 => exact Yl.pickF rfl rfl rfl
                refine' TL.y rfl rfl rfl ?hy92 ?_
                case hy92 => exact Yl.move rfl rfl
                refine TL.re (i := 67) (v' := .bool false) rfl (congrArg Value.bool (by first | (simp; omega) | (simp; done) | (rw [hq3]))) ?_
                refine' TL.y rfl rfl rfl ?hy93 ?_
                case hy93 => exact Yl.move rfl rfl
                refine' TL.y rfl rfl rfl ?hy94 ?_
                case hy94 => exact Yl.move rfl rfl
                refine' TL.y rfl rfl rfl ?hy95 ?_
                case hy95 => first | exact Yl.ixn rfl rfl rfl Tryd.underlying35 (by kernel_rfl) (by omega) | exact Yl.ixz rfl rfl rfl Tryd.underlying35 (by kernel_rfl) (by omega) (by omega) | exact Yl.ixcn rfl rfl rfl Tryd.underlying35 (by kernel_rfl) (by omega) | exact Yl.ixcz rfl rfl rfl Tryd.underlying35 (by kernel_rfl) (by omega) (by omega)
                refine' TL.y rfl rfl rfl ?hy96 ?_
                case hy96 => first | exact Yl.load rfl rfl (by kernel_rfl) (Hp.cell mem0 rfl) | exact Yl.load rfl rfl (by kernel_rfl) (Hp.cell mem1 rfl) | exact Yl.load rfl rfl (by kernel_rfl) (Hp.rowAt mem0 (by omega) rfl) | exact Yl.load rfl rfl (by kernel_rfl) (Hp.rowAt mem1 (by omega) rfl)
                refine' TL.y rfl rfl rfl ?hy97 ?_
                case hy97 => exact Yl.pickF rfl rfl rfl
                refine TL.nil ?_
                refine TE.next ?_
                refine TC.no rfl (by first | (simp; omega) | (simp; done) | (rw [hq3])) ?_
                refine TC.skip ?_
                refine TE.next ?_
                refine TC.seq ?_
                refine TC.region ?_
                refine' TL.y rfl rfl rfl ?hy98 ?_
                case hy98 => exact Yl.move rfl rfl
                refine' TL.y rfl rfl rfl ?hy99 ?_
                case hy99 => exact Yl.move rfl rfl
                refine' TL.y rfl rfl rfl ?hy100 ?_
                case hy100 => first | exact Yl.ixn rfl rfl rfl Tryd.underlying35 (by kernel_rfl) (by omega) | exact Yl.ixz rfl rfl rfl Tryd.underlying35 (by kernel_rfl) (by omega) (by omega) | exact Yl.ixcn rfl rfl rfl Tryd.underlying35 (by kernel_rfl) (by omega) | exact Yl.ixcz rfl rfl rfl Tryd.underlying35 (by kernel_rfl) (by omega) (by omega)
                refine' TL.s rfl rfl ?hy101 ?_
                case hy101 => first | exact Ys.row rfl rfl rfl rfl (by kernel_rfl) rfl foc0 (by omega) rfl | exact Ys.row rfl rfl rfl rfl (by kernel_rfl) rfl foc1 (by omega) rfl | exact Ys.store rfl rfl rfl rfl (by kernel_rfl) (by simp [Value.oneCell', Value.cells]) foc0 (by simp [Value.cells]) rfl | exact Ys.store rfl rfl rfl rfl (by kernel_rfl) (by simp [Value.oneCell', Value.cells]) foc1 (by simp [Value.cells]) rfl
                refine TL.nil ?_
                refine TE.next ?_
                refine TC.region ?_
                refine' TL.y rfl rfl rfl ?hy102 ?_
                case hy102 => exact Yl.move rfl rfl
                refine' TL.y rfl rfl rfl ?hy103 ?_
                case hy103 => first | (refine Yl.val (Yl.bin rfl rfl rfl (Bin.add _ _ _ _)) (congrArg (Value.int .i64) (i64in ?_ ?_)) <;> omega) | exact Yl.bin rfl rfl rfl (Bin.add _ _ _ _)
                refine' TL.y rfl rfl rfl ?hy104 ?_
                case hy104 => exact Yl.assign rfl rfl
                refine TL.nil ?_
                refine TE.next ?_
                refine TC.seq ?_
                refine TC.region ?_
                refine' TL.y rfl rfl rfl ?hy105 ?_
                case hy105 => exact Yl.move rfl rfl
                refine' TL.c rfl rfl rfl ?hy106 ?_
                case hy106 => exact Yc.call rfl Tryd.func18 (by kernel_rfl) rfl rfl (Hp.calls (fun w h => k_free w (h.all _ mem1)))
                intro _
                refine' TL.y rfl rfl rfl ?hy107 ?_
                case hy107 => exact Yl.move rfl rfl
                refine' TL.y rfl rfl rfl ?hy108 ?_
                case hy108 => exact Yl.move rfl rfl
                refine' TL.y rfl rfl rfl ?hy109 ?_
                case hy109 => first | (refine Yl.val (Yl.bin rfl rfl rfl (Bin.sub _ _ _ _)) (congrArg (Value.int .i64) (i64in ?_ ?_)) <;> omega) | exact Yl.bin rfl rfl rfl (Bin.sub _ _ _ _)
                refine' TL.y rfl rfl rfl ?hy110 ?_
                case hy110 => exact Yl.bin rfl rfl rfl (Bin.neq _ _ _ _)
                refine TL.nil ?_
                refine TE.next ?_
                refine TC.no rfl (by first | (simp; done) | (simp; omega) | (have hg := cnt_give hj hfj; simp; omega)) ?_
                refine TC.skip ?_
                refine TE.inNormal ?_
                refine TE.next ?_
                refine TC.region ?_
                refine' TL.y rfl rfl rfl ?hy111 ?_
                case hy111 => exact Yl.move rfl rfl
                refine' TL.y rfl rfl rfl ?hy112 ?_
                case hy112 => first | (refine Yl.val (Yl.bin rfl rfl rfl (Bin.add _ _ _ _)) (congrArg (Value.int .i64) (i64in ?_ ?_)) <;> omega) | exact Yl.bin rfl rfl rfl (Bin.add _ _ _ _)
                refine' TL.y rfl rfl rfl ?hy113 ?_
                case hy113 => exact Yl.assign rfl rfl
                refine TL.nil ?_
                refine TE.round (i + 1, setB f q true) ?hF114 ?hlt114 ?hs114 ?hm114
                case hF114 => dsimp only; omega
                case hlt114 => dsimp only; omega
                case hs114 => exact ⟨rfl, rfl, rfl, rfl, rfl, (by show some (Value.int .i64 ((cntB f n : Int) + 1)) = _; rw [hq6]; rfl), rfl, trivial⟩
                case hm114 => exact fun w h => by rw [show rowA n (upV (fun j => Value.bool (f j)) q (.bool true)) = rowA n (fun r => .bool (setB f q true r)) from rset] at h; exact h
            · skip
              (try simp only [decide_eq_true_eq, decide_eq_false_iff_not, beq_iff_eq, beq_eq_false_iff_ne, bne_iff_ne, ne_eq, bne_eq_false_iff_eq, Bool.not_eq_true', Bool.not_eq_false', Int.not_lt, Int.not_le, gt_iff_lt, ge_iff_le] at hs46)
              refine TC.seq ?_
              refine TC.region ?_
              refine' TL.y rfl rfl rfl ?hy115 ?_
              case hy115 => exact Yl.move rfl rfl
              refine' TL.y rfl rfl rfl ?hy116 ?_
              case hy116 => exact Yl.move rfl rfl
              refine' TL.y rfl rfl rfl ?hy117 ?_
              case hy117 => exact Yl.move rfl rfl
              refine' TL.y rfl rfl rfl ?hy118 ?_
              case hy118 => first | exact Yl.ixkn (k := 2) rfl rfl rfl Tryd.underlying22 (by kernel_rfl) (by omega) | exact Yl.ixkz (k := 2) rfl rfl rfl Tryd.underlying22 (by kernel_rfl) (by omega) (by omega)
              refine' TL.y rfl rfl rfl ?hy119 ?_
              case hy119 => first | exact Yl.field0 (k := 0) 1 rfl rfl Tryd.underlying30 rfl (by kernel_rfl) rfl | exact Yl.field (k := 0) 1 rfl rfl Tryd.underlying30 rfl (by kernel_rfl) rfl
              refine' TL.y rfl rfl rfl ?hy120 ?_
              case hy120 => exact Yl.val (Yl.load rfl rfl (by kernel_rfl) (Sl.cellAt hS (Open.at30_1 l i hlt) (fun _ => id) (by omega))) (congrArg (Value.int .i64) hx)
              refine' TL.c rfl rfl rfl ?hy121 ?_
              case hy121 => exact Yc.call rfl Tryd.func14 (by kernel_rfl) rfl rfl (Hp.turnT (fun w hw => hT.below hw.below) mem1 foc1 (k_give x))
              intro _
              rcases give_split f n x with hlo | hhi | ⟨j, rfl, hj, hfj⟩ | ⟨j, rfl, hj, hfj⟩
              · skip
                rw [(give_out (f := f) (n := n) (i := x) (by omega)).1, (give_out (f := f) (n := n) (i := x) (by omega)).2]
                refine' TL.y rfl rfl rfl ?hy122 ?_
                case hy122 => exact Yl.assign rfl rfl
                refine TL.nil ?_
                refine TE.next ?_
                refine TC.seq ?_
                refine TC.region ?_
                refine' TL.y rfl rfl rfl ?hy123 ?_
                case hy123 => exact Yl.move rfl rfl
                refine' TL.y rfl rfl rfl ?hy124 ?_
                case hy124 => exact Yl.move rfl rfl
                refine' TL.y rfl rfl rfl ?hy125 ?_
                case hy125 => first | exact Yl.ixkn (k := 2) rfl rfl rfl Tryd.underlying22 (by kernel_rfl) (by omega) | exact Yl.ixkz (k := 2) rfl rfl rfl Tryd.underlying22 (by kernel_rfl) (by omega) (by omega)
                refine' TL.y rfl rfl rfl ?hy126 ?_
                case hy126 => first | exact Yl.field0 (k := 0) 1 rfl rfl Tryd.underlying30 rfl (by kernel_rfl) rfl | exact Yl.field (k := 0) 1 rfl rfl Tryd.underlying30 rfl (by kernel_rfl) rfl
                refine' TL.y rfl rfl rfl ?hy127 ?_
                case hy127 => exact Yl.val (Yl.load rfl rfl (by kernel_rfl) (Sl.cellAt hS (Open.at30_1 l i hlt) (fun _ => id) (by omega))) (congrArg (Value.int .i64) hx)
                refine' TL.y rfl rfl rfl ?hy128 ?_
                case hy128 => exact Yl.bin rfl rfl rfl (Bin.geq _ _ _ _)
                refine' TL.y rfl rfl rfl ?hy129 ?_
                case hy129 => exact Yl.move rfl rfl
                refine TL.re (i := 91) (v' := .bool false) rfl (congrArg Value.bool (by simp; omega)) ?_
                refine TL.skip rfl rfl rfl ?_
                refine TL.skip rfl rfl rfl ?_
                refine TL.skip rfl rfl rfl ?_
                refine TL.skip rfl rfl rfl ?_
                refine TL.skip rfl rfl rfl ?_
                refine TL.skip rfl rfl rfl ?_
                refine TL.skip rfl rfl rfl ?_
                refine' TL.y rfl rfl rfl ?hy130 ?_
                case hy130 => exact Yl.pickF rfl rfl rfl
                refine' TL.y rfl rfl rfl ?hy131 ?_
                case hy131 => exact Yl.move rfl rfl
                refine TL.skip rfl rfl rfl ?_
                refine TL.skip rfl rfl rfl ?_
                refine TL.skip rfl rfl rfl ?_
                refine TL.skip rfl rfl rfl ?_
                refine TL.skip rfl rfl rfl ?_
                refine TL.skip rfl rfl rfl ?_
                refine TL.skip rfl rfl rfl ?_
                refine TL.skip rfl rfl rfl ?_
                refine' TL.y rfl rfl rfl ?hy132 ?_
                case hy132 => exact Yl.pickF rfl rfl rfl
                refine' TL.y rfl rfl rfl ?hy133 ?_
                case hy133 => exact Yl.assign rfl rfl
                refine TL.nil ?_
                refine TE.next ?_
                refine TC.seq ?_
                refine TC.seq ?_
                refine TC.region ?_
                refine' TL.y rfl rfl rfl ?hy134 ?_
                case hy134 => exact Yl.move rfl rfl
                refine' TL.y rfl rfl rfl ?hy135 ?_
                case hy135 => exact Yl.bin rfl rfl rfl (Bin.eql _ _ _ _)
                refine' TL.y rfl rfl rfl ?hy136 ?_
                case hy136 => exact Yl.move rfl rfl
                refine' TL.y rfl rfl rfl ?hy137 ?_
                case hy137 => exact Yl.bin rfl rfl rfl (Bin.neqB _ _ _ (by kernel_rfl))
                refine TL.nil ?_
                refine TE.next ?_
                refine TC.no rfl (by first | rfl | (rw [hfj]; rfl) | (simp; done)) ?_
                refine TC.skip ?_
                refine TE.next ?_
                refine TC.seq ?_
                refine TC.region ?_
                refine' TL.y rfl rfl rfl ?hy138 ?_
                case hy138 => exact Yl.move rfl rfl
                refine TL.nil ?_
                refine TE.next ?_
                refine TC.no rfl rfl ?_
                refine TC.skip ?_
                refine TE.next ?_
                refine TC.seq ?_
                refine TC.region ?_
                refine' TL.y rfl rfl rfl ?hy139 ?_
                case hy139 => exact Yl.move rfl rfl
                refine' TL.c rfl rfl rfl ?hy140 ?_
                case hy140 => exact Yc.call rfl Tryd.func18 (by kernel_rfl) rfl rfl (Hp.calls (fun w h => k_free w (h.all _ mem1)))
                intro _
                refine' TL.y rfl rfl rfl ?hy141 ?_
                case hy141 => exact Yl.move rfl rfl
                refine' TL.y rfl rfl rfl ?hy142 ?_
                case hy142 => exact Yl.move rfl rfl
                refine' TL.y rfl rfl rfl ?hy143 ?_
                case hy143 => first | (refine Yl.val (Yl.bin rfl rfl rfl (Bin.sub _ _ _ _)) (congrArg (Value.int .i64) (i64in ?_ ?_)) <;> omega) | exact Yl.bin rfl rfl rfl (Bin.sub _ _ _ _)
                refine' TL.y rfl rfl rfl ?hy144 ?_
                case hy144 => exact Yl.bin rfl rfl rfl (Bin.neq _ _ _ _)
                refine TL.nil ?_
                refine TE.next ?_
                refine TC.no rfl (by first | (simp; done) | (simp; omega) | (have hg := cnt_give hj hfj; simp; omega)) ?_
                refine TC.skip ?_
                refine TE.inNormal ?_
                refine TE.next ?_
                refine TC.region ?_
                refine' TL.y rfl rfl rfl ?hy145 ?_
                case hy145 => exact Yl.move rfl rfl
                refine' TL.y rfl rfl rfl ?hy146 ?_
                case hy146 => first | (refine Yl.val (Yl.bin rfl rfl rfl (Bin.add _ _ _ _)) (congrArg (Value.int .i64) (i64in ?_ ?_)) <;> omega) | exact Yl.bin rfl rfl rfl (Bin.add _ _ _ _)
                refine' TL.y rfl rfl rfl ?hy147 ?_
                case hy147 => exact Yl.assign rfl rfl
                refine TL.nil ?_
                refine TE.round (i + 1, f) ?hF148 ?hlt148 ?hs148 ?hm148
                case hF148 => dsimp only; omega
                case hlt148 => dsimp only; omega
                case hs148 => exact ⟨rfl, rfl, rfl, rfl, rfl, rfl, rfl, trivial⟩
                case hm148 => exact fun _ h => h
              · skip
                rw [(give_out (f := f) (n := n) (i := x) (by omega)).1, (give_out (f := f) (n := n) (i := x) (by omega)).2]
                refine' TL.y rfl rfl rfl ?hy149 ?_
                case hy149 => exact Yl.assign rfl rfl
                refine TL.nil ?_
                refine TE.next ?_
                refine TC.seq ?_
                refine TC.region ?_
                refine' TL.y rfl rfl rfl ?hy150 ?_
                case hy150 => exact Yl.move rfl rfl
                refine' TL.y rfl rfl rfl ?hy151 ?_
                case hy151 => exact Yl.move rfl rfl
                refine' TL.y rfl rfl rfl ?hy152 ?_
                case hy152 => first | exact Yl.ixkn (k := 2) rfl rfl rfl Tryd.underlying22 (by kernel_rfl) (by omega) | exact Yl.ixkz (k := 2) rfl rfl rfl Tryd.underlying22 (by kernel_rfl) (by omega) (by omega)
                refine' TL.y rfl rfl rfl ?hy153 ?_
                case hy153 => first | exact Yl.field0 (k := 0) 1 rfl rfl Tryd.underlying30 rfl (by kernel_rfl) rfl | exact Yl.field (k := 0) 1 rfl rfl Tryd.underlying30 rfl (by kernel_rfl) rfl
                refine' TL.y rfl rfl rfl ?hy154 ?_
                case hy154 => exact Yl.val (Yl.load rfl rfl (by kernel_rfl) (Sl.cellAt hS (Open.at30_1 l i hlt) (fun _ => id) (by omega))) (congrArg (Value.int .i64) hx)
                refine' TL.y rfl rfl rfl ?hy155 ?_
                case hy155 => exact Yl.bin rfl rfl rfl (Bin.geq _ _ _ _)
                refine' TL.y rfl rfl rfl ?hy156 ?_
                case hy156 => exact Yl.move rfl rfl
                refine TL.re (i := 91) (v' := .bool true) rfl (congrArg Value.bool (by first | rfl | (simp; done) | (simp; omega))) ?_
                refine' TL.y rfl rfl rfl ?hy157 ?_
                case hy157 => exact Yl.move rfl rfl
                refine' TL.y rfl rfl rfl ?hy158 ?_
                case hy158 => exact Yl.move rfl rfl
                refine' TL.y rfl rfl rfl ?hy159 ?_
                case hy159 => first | exact Yl.ixkn (k := 2) rfl rfl rfl Tryd.underlying22 (by kernel_rfl) (by omega) | exact Yl.ixkz (k := 2) rfl rfl rfl Tryd.underlying22 (by kernel_rfl) (by omega) (by omega)
                refine' TL.y rfl rfl rfl ?hy160 ?_
                case hy160 => first | exact Yl.field0 (k := 0) 1 rfl rfl Tryd.underlying30 rfl (by kernel_rfl) rfl | exact Yl.field (k := 0) 1 rfl rfl Tryd.underlying30 rfl (by kernel_rfl) rfl
                refine' TL.y rfl rfl rfl ?hy161 ?_
                case hy161 => exact Yl.val (Yl.load rfl rfl (by kernel_rfl) (Sl.cellAt hS (Open.at30_1 l i hlt) (fun _ => id) (by omega))) (congrArg (Value.int .i64) hx)
                refine' TL.y rfl rfl rfl ?hy162 ?_
                case hy162 => exact Yl.move rfl rfl
                refine' TL.y rfl rfl rfl ?hy163 ?_
                case hy163 => exact Yl.bin rfl rfl rfl (Bin.lss _ _ _ _)
                refine' TL.y rfl rfl rfl ?hy164 ?_
                case hy164 => exact Yl.pickT rfl rfl rfl
                refine' TL.y rfl rfl rfl ?hy165 ?_
                case hy165 => exact Yl.move rfl rfl
                refine TL.re (i := 100) (v' := .bool false) rfl (congrArg Value.bool (by first | rfl | (simp; omega))) ?_
                refine TL.skip rfl rfl rfl ?_
                refine TL.skip rfl rfl rfl ?_
                refine TL.skip rfl rfl rfl ?_
                refine TL.skip rfl rfl rfl ?_
                refine TL.skip rfl rfl rfl ?_
                refine TL.skip rfl rfl rfl ?_
                refine TL.skip rfl rfl rfl ?_
                refine TL.skip rfl rfl rfl ?_
                refine' TL.y rfl rfl rfl ?hy166 ?_
                case hy166 => exact Yl.pickF rfl rfl rfl
                refine' TL.y rfl rfl rfl ?hy167 ?_
                case hy167 => exact Yl.assign rfl rfl
                refine TL.nil ?_
                refine TE.next ?_
                refine TC.seq ?_
                refine TC.seq ?_
                refine TC.region ?_
                refine' TL.y rfl rfl rfl ?hy168 ?_
                case hy168 => exact Yl.move rfl rfl
                refine' TL.y rfl rfl rfl ?hy169 ?_
                case hy169 => exact Yl.bin rfl rfl rfl (Bin.eql _ _ _ _)
                refine' TL.y rfl rfl rfl ?hy170 ?_
                case hy170 => exact Yl.move rfl rfl
                refine' TL.y rfl rfl rfl ?hy171 ?_
                case hy171 => exact Yl.bin rfl rfl rfl (Bin.neqB _ _ _ (by kernel_rfl))
                refine TL.nil ?_
                refine TE.next ?_
                refine TC.no rfl (by first | rfl | (rw [hfj]; rfl) | (simp; done)) ?_
                refine TC.skip ?_
                refine TE.next ?_
                refine TC.seq ?_
                refine TC.region ?_
                refine' TL.y rfl rfl rfl ?hy172 ?_
                case hy172 => exact Yl.move rfl rfl
                refine TL.nil ?_
                refine TE.next ?_
                refine TC.no rfl rfl ?_
                refine TC.skip ?_
                refine TE.next ?_
                refine TC.seq ?_
                refine TC.region ?_
                refine' TL.y rfl rfl rfl ?hy173 ?_
                case hy173 => exact Yl.move rfl rfl
                refine' TL.c rfl rfl rfl ?hy174 ?_
                case hy174 => exact Yc.call rfl Tryd.func18 (by kernel_rfl) rfl rfl (Hp.calls (fun w h => k_free w (h.all _ mem1)))
                intro _
                refine' TL.y rfl rfl rfl ?hy175 ?_
                case hy175 => exact Yl.move rfl rfl
                refine' TL.y rfl rfl rfl ?hy176 ?_
                case hy176 => exact Yl.move rfl rfl
                refine' TL.y rfl rfl rfl ?hy177 ?_
                case hy177 => first | (refine Yl.val (Yl.bin rfl rfl rfl (Bin.sub _ _ _ _)) (congrArg (Value.int .i64) (i64in ?_ ?_)) <;> omega) | exact Yl.bin rfl rfl rfl (Bin.sub _ _ _ _)
                refine' TL.y rfl rfl rfl ?hy178 ?_
                case hy178 => exact Yl.bin rfl rfl rfl (Bin.neq _ _ _ _)
                refine TL.nil ?_
                refine TE.next ?_
                refine TC.no rfl (by first | (simp; done) | (simp; omega) | (have hg := cnt_give hj hfj; simp; omega)) ?_
                refine TC.skip ?_
                refine TE.inNormal ?_
                refine TE.next ?_
                refine TC.region ?_
                refine' TL.y rfl rfl rfl ?hy179 ?_
                case hy179 => exact Yl.move rfl rfl
                refine' TL.y rfl rfl rfl ?hy180 ?_
                case hy180 => first | (refine Yl.val (Yl.bin rfl rfl rfl (Bin.add _ _ _ _)) (congrArg (Value.int .i64) (i64in ?_ ?_)) <;> omega) | exact Yl.bin rfl rfl rfl (Bin.add _ _ _ _)
                refine' TL.y rfl rfl rfl ?hy181 ?_
                case hy181 => exact Yl.assign rfl rfl
                refine TL.nil ?_
                refine TE.round (i + 1, f) ?hF182 ?hlt182 ?hs182 ?hm182
                case hF182 => dsimp only; omega
                case hlt182 => dsimp only; omega
                case hs182 => exact ⟨rfl, rfl, rfl, rfl, rfl, rfl, rfl, trivial⟩
                case hm182 => exact fun _ h => h
              · skip
                rw [(give_free hj hfj).1, (give_free hj hfj).2]
                refine' TL.y rfl rfl rfl ?hy183 ?_
                case hy183 => exact Yl.assign rfl rfl
                refine TL.nil ?_
                refine TE.next ?_
                refine TC.seq ?_
                refine TC.region ?_
                refine' TL.y rfl rfl rfl ?hy184 ?_
                case hy184 => exact Yl.move rfl rfl
                refine' TL.y rfl rfl rfl ?hy185 ?_
                case hy185 => exact Yl.move rfl rfl
                refine' TL.y rfl rfl rfl ?hy186 ?_
                case hy186 => first | exact Yl.ixkn (k := 2) rfl rfl rfl Tryd.underlying22 (by kernel_rfl) (by omega) | exact Yl.ixkz (k := 2) rfl rfl rfl Tryd.underlying22 (by kernel_rfl) (by omega) (by omega)
                refine' TL.y rfl rfl rfl ?hy187 ?_
                case hy187 => first | exact Yl.field0 (k := 0) 1 rfl rfl Tryd.underlying30 rfl (by kernel_rfl) rfl | exact Yl.field (k := 0) 1 rfl rfl Tryd.underlying30 rfl (by kernel_rfl) rfl
                refine' TL.y rfl rfl rfl ?hy188 ?_
                case hy188 => exact Yl.val (Yl.load rfl rfl (by kernel_rfl) (Sl.cellAt hS (Open.at30_1 l i hlt) (fun _ => id) (by omega))) (congrArg (Value.int .i64) hx)
                refine' TL.y rfl rfl rfl ?hy189 ?_
                case hy189 => exact Yl.bin rfl rfl rfl (Bin.geq _ _ _ _)
                refine' TL.y rfl rfl rfl ?hy190 ?_
                case hy190 => exact Yl.move rfl rfl
                refine TL.re (i := 91) (v' := .bool true) rfl (congrArg Value.bool (by first | rfl | (simp; done) | (simp; omega))) ?_
                refine' TL.y rfl rfl rfl ?hy191 ?_
                case hy191 => exact Yl.move rfl rfl
                refine' TL.y rfl rfl rfl ?hy192 ?_
                case hy192 => exact Yl.move rfl rfl
                refine' TL.y rfl rfl rfl ?hy193 ?_
                case hy193 => first | exact Yl.ixkn (k := 2) rfl rfl rfl Tryd.underlying22 (by kernel_rfl) (by omega) | exact Yl.ixkz (k := 2) rfl rfl rfl Tryd.underlying22 (by kernel_rfl) (by omega) (by omega)
                refine' TL.y rfl rfl rfl ?hy194 ?_
                case hy194 => first | exact Yl.field0 (k := 0) 1 rfl rfl Tryd.underlying30 rfl (by kernel_rfl) rfl | exact Yl.field (k := 0) 1 rfl rfl Tryd.underlying30 rfl (by kernel_rfl) rfl
                refine' TL.y rfl rfl rfl ?hy195 ?_
                case hy195 => exact Yl.val (Yl.load rfl rfl (by kernel_rfl) (Sl.cellAt hS (Open.at30_1 l i hlt) (fun _ => id) (by omega))) (congrArg (Value.int .i64) hx)
                refine' TL.y rfl rfl rfl ?hy196 ?_
                case hy196 => exact Yl.move rfl rfl
                refine' TL.y rfl rfl rfl ?hy197 ?_
                case hy197 => exact Yl.bin rfl rfl rfl (Bin.lss _ _ _ _)
                refine' TL.y rfl rfl rfl ?hy198 ?_
                case hy198 => exact Yl.pickT rfl rfl rfl
                refine' TL.y rfl rfl rfl ?hy199 ?_
                case hy199 => exact Yl.move rfl rfl
                refine TL.re (i := 100) (v' := .bool true) rfl (congrArg Value.bool (by simp; omega)) ?_
                refine' TL.y rfl rfl rfl ?hy200 ?_
                case hy200 => exact Yl.move rfl rfl
                refine' TL.y rfl rfl rfl ?hy201 ?_
                case hy201 => exact Yl.move rfl rfl
                refine' TL.y rfl rfl rfl ?hy202 ?_
                case hy202 => exact Yl.move rfl rfl
                refine' TL.y rfl rfl rfl ?hy203 ?_
                case hy203 => first | exact Yl.ixkn (k := 2) rfl rfl rfl Tryd.underlying22 (by kernel_rfl) (by omega) | exact Yl.ixkz (k := 2) rfl rfl rfl Tryd.underlying22 (by kernel_rfl) (by omega) (by omega)
                refine' TL.y rfl rfl rfl ?hy204 ?_
                case hy204 => first | exact Yl.field0 (k := 0) 1 rfl rfl Tryd.underlying30 rfl (by kernel_rfl) rfl | exact Yl.field (k := 0) 1 rfl rfl Tryd.underlying30 rfl (by kernel_rfl) rfl
                refine' TL.y rfl rfl rfl ?hy205 ?_
                case hy205 => exact Yl.val (Yl.load rfl rfl (by kernel_rfl) (Sl.cellAt hS (Open.at30_1 l i hlt) (fun _ => id) (by omega))) (congrArg (Value.int .i64) hx)
                refine' TL.y rfl rfl rfl ?hy206 ?_
                case hy206 => first | exact Yl.ixn rfl rfl rfl Tryd.underlying35 (by kernel_rfl) (by omega) | exact Yl.ixz rfl rfl rfl Tryd.underlying35 (by kernel_rfl) (by omega) (by omega) | exact Yl.ixcn rfl rfl rfl Tryd.underlying35 (by kernel_rfl) (by omega) | exact Yl.ixcz rfl rfl rfl Tryd.underlying35 (by kernel_rfl) (by omega) (by omega)
                refine' TL.y rfl rfl rfl ?hy207 ?_
                case hy207 => first | exact Yl.load rfl rfl (by kernel_rfl) (Hp.cell mem0 rfl) | exact Yl.load rfl rfl (by kernel_rfl) (Hp.cell mem1 rfl) | exact Yl.load rfl rfl (by kernel_rfl) (Hp.rowAt mem0 (by omega) rfl) | exact Yl.load rfl rfl (by kernel_rfl) (Hp.rowAt mem1 (by omega) rfl)
                refine' TL.y rfl rfl rfl ?hy208 ?_
                case hy208 => exact Yl.pickT rfl rfl rfl
                refine' TL.y rfl rfl rfl ?hy209 ?_
                case hy209 => exact Yl.assign rfl rfl
                refine TL.nil ?_
                refine TE.next ?_
                refine TC.seq ?_
                refine TC.seq ?_
                refine TC.region ?_
                refine' TL.y rfl rfl rfl ?hy210 ?_
                case hy210 => exact Yl.move rfl rfl
                refine' TL.y rfl rfl rfl ?hy211 ?_
                case hy211 => exact Yl.bin rfl rfl rfl (Bin.eql _ _ _ _)
                refine' TL.y rfl rfl rfl ?hy212 ?_
                case hy212 => exact Yl.move rfl rfl
                refine' TL.y rfl rfl rfl ?hy213 ?_
                case hy213 => exact Yl.bin rfl rfl rfl (Bin.neqB _ _ _ (by kernel_rfl))
                refine TL.nil ?_
                refine TE.next ?_
                refine TC.no rfl (by first | rfl | (rw [hfj]; rfl) | (simp; done)) ?_
                refine TC.skip ?_
                refine TE.next ?_
                refine TC.seq ?_
                refine TC.region ?_
                refine' TL.y rfl rfl rfl ?hy214 ?_
                case hy214 => exact Yl.move rfl rfl
                refine TL.nil ?_
                refine TE.next ?_
                refine TC.no rfl (by first | exact hfj | rfl) ?_
                refine TC.skip ?_
                refine TE.next ?_
                refine TC.seq ?_
                refine TC.region ?_
                refine' TL.y rfl rfl rfl ?hy215 ?_
                case hy215 => exact Yl.move rfl rfl
                refine' TL.c rfl rfl rfl ?hy216 ?_
                case hy216 => exact Yc.call rfl Tryd.func18 (by kernel_rfl) rfl rfl (Hp.calls (fun w h => k_free w (h.all _ mem1)))
                intro _
                refine' TL.y rfl rfl rfl ?hy217 ?_
                case hy217 => exact Yl.move rfl rfl
                refine' TL.y rfl rfl rfl ?hy218 ?_
                case hy218 => exact Yl.move rfl rfl
                refine' TL.y rfl rfl rfl ?hy219 ?_
                case hy219 => first | (refine Yl.val (Yl.bin rfl rfl rfl (Bin.sub _ _ _ _)) (congrArg (Value.int .i64) (i64in ?_ ?_)) <;> omega) | exact Yl.bin rfl rfl rfl (Bin.sub _ _ _ _)
                refine' TL.y rfl rfl rfl ?hy220 ?_
                case hy220 => exact Yl.bin rfl rfl rfl (Bin.neq _ _ _ _)
                refine TL.nil ?_
                refine TE.next ?_
                refine TC.no rfl (by first | (simp; done) | (simp; omega) | (have hg := cnt_give hj hfj; simp; omega)) ?_
                refine TC.skip ?_
                refine TE.inNormal ?_
                refine TE.next ?_
                refine TC.region ?_
                refine' TL.y rfl rfl rfl ?hy221 ?_
                case hy221 => exact Yl.move rfl rfl
                refine' TL.y rfl rfl rfl ?hy222 ?_
                case hy222 => first | (refine Yl.val (Yl.bin rfl rfl rfl (Bin.add _ _ _ _)) (congrArg (Value.int .i64) (i64in ?_ ?_)) <;> omega) | exact Yl.bin rfl rfl rfl (Bin.add _ _ _ _)
                refine' TL.y rfl rfl rfl ?hy223 ?_
                case hy223 => exact Yl.assign rfl rfl
                refine TL.nil ?_
                refine TE.round (i + 1, f) ?hF224 ?hlt224 ?hs224 ?hm224
                case hF224 => dsimp only; omega
                case hlt224 => dsimp only; omega
                case hs224 => exact ⟨rfl, rfl, rfl, rfl, rfl, rfl, rfl, trivial⟩
                case hm224 => exact fun _ h => h
              · skip
                rw [(give_in hj hfj).1, (give_in hj hfj).2]
                refine' TL.y rfl rfl rfl ?hy225 ?_
                case hy225 => exact Yl.assign rfl rfl
                refine TL.nil ?_
                refine TE.next ?_
                refine TC.seq ?_
                refine TC.region ?_
                refine' TL.y rfl rfl rfl ?hy226 ?_
                case hy226 => exact Yl.move rfl rfl
                refine' TL.y rfl rfl rfl ?hy227 ?_
                case hy227 => exact Yl.move rfl rfl
                refine' TL.y rfl rfl rfl ?hy228 ?_
                case hy228 => first | exact Yl.ixkn (k := 2) rfl rfl rfl Tryd.underlying22 (by kernel_rfl) (by omega) | exact Yl.ixkz (k := 2) rfl rfl rfl Tryd.underlying22 (by kernel_rfl) (by omega) (by omega)
                refine' TL.y rfl rfl rfl ?hy229 ?_
                case hy229 => first | exact Yl.field0 (k := 0) 1 rfl rfl Tryd.underlying30 rfl (by kernel_rfl) rfl | exact Yl.field (k := 0) 1 rfl rfl Tryd.underlying30 rfl (by kernel_rfl) rfl
                refine' TL.y rfl rfl rfl ?hy230 ?_
                case hy230 => exact Yl.val (Yl.load rfl rfl (by kernel_rfl) (Sl.cellAt hS (Open.at30_1 l i hlt) (fun _ => id) (by omega))) (congrArg (Value.int .i64) hx)
                refine' TL.y rfl rfl rfl ?hy231 ?_
                case hy231 => exact Yl.bin rfl rfl rfl (Bin.geq _ _ _ _)
                refine' TL.y rfl rfl rfl ?hy232 ?_
                case hy232 => exact Yl.move rfl rfl
                refine TL.re (i := 91) (v' := .bool true) rfl (congrArg Value.bool (by first | rfl | (simp; done) | (simp; omega))) ?_
                refine' TL.y rfl rfl rfl ?hy233 ?_
                case hy233 => exact Yl.move rfl rfl
                refine' TL.y rfl rfl rfl ?hy234 ?_
                case hy234 => exact Yl.move rfl rfl
                refine' TL.y rfl rfl rfl ?hy235 ?_
                case hy235 => first | exact Yl.ixkn (k := 2) rfl rfl rfl Tryd.underlying22 (by kernel_rfl) (by omega) | exact Yl.ixkz (k := 2) rfl rfl rfl Tryd.underlying22 (by kernel_rfl) (by omega) (by omega)
                refine' TL.y rfl rfl rfl ?hy236 ?_
                case hy236 => first | exact Yl.field0 (k := 0) 1 rfl rfl Tryd.underlying30 rfl (by kernel_rfl) rfl | exact Yl.field (k := 0) 1 rfl rfl Tryd.underlying30 rfl (by kernel_rfl) rfl
                refine' TL.y rfl rfl rfl ?hy237 ?_
                case hy237 => exact Yl.val (Yl.load rfl rfl (by kernel_rfl) (Sl.cellAt hS (Open.at30_1 l i hlt) (fun _ => id) (by omega))) (congrArg (Value.int .i64) hx)
                refine' TL.y rfl rfl rfl ?hy238 ?_
                case hy238 => exact Yl.move rfl rfl
                refine' TL.y rfl rfl rfl ?hy239 ?_
                case hy239 => exact Yl.bin rfl rfl rfl (Bin.lss _ _ _ _)
                refine' TL.y rfl rfl rfl ?hy240 ?_
                case hy240 => exact Yl.pickT rfl rfl rfl
                refine' TL.y rfl rfl rfl ?hy241 ?_
                case hy241 => exact Yl.move rfl rfl
                refine TL.re (i := 100) (v' := .bool true) rfl (congrArg Value.bool (by simp; omega)) ?_
                refine' TL.y rfl rfl rfl ?hy242 ?_
                case hy242 => exact Yl.move rfl rfl
                refine' TL.y rfl rfl rfl ?hy243 ?_
                case hy243 => exact Yl.move rfl rfl
                refine' TL.y rfl rfl rfl ?hy244 ?_
                case hy244 => exact Yl.move rfl rfl
                refine' TL.y rfl rfl rfl ?hy245 ?_
                case hy245 => first | exact Yl.ixkn (k := 2) rfl rfl rfl Tryd.underlying22 (by kernel_rfl) (by omega) | exact Yl.ixkz (k := 2) rfl rfl rfl Tryd.underlying22 (by kernel_rfl) (by omega) (by omega)
                refine' TL.y rfl rfl rfl ?hy246 ?_
                case hy246 => first | exact Yl.field0 (k := 0) 1 rfl rfl Tryd.underlying30 rfl (by kernel_rfl) rfl | exact Yl.field (k := 0) 1 rfl rfl Tryd.underlying30 rfl (by kernel_rfl) rfl
                refine' TL.y rfl rfl rfl ?hy247 ?_
                case hy247 => exact Yl.val (Yl.load rfl rfl (by kernel_rfl) (Sl.cellAt hS (Open.at30_1 l i hlt) (fun _ => id) (by omega))) (congrArg (Value.int .i64) hx)
                refine' TL.y rfl rfl rfl ?hy248 ?_
                case hy248 => first | exact Yl.ixn rfl rfl rfl Tryd.underlying35 (by kernel_rfl) (by omega) | exact Yl.ixz rfl rfl rfl Tryd.underlying35 (by kernel_rfl) (by omega) (by omega) | exact Yl.ixcn rfl rfl rfl Tryd.underlying35 (by kernel_rfl) (by omega) | exact Yl.ixcz rfl rfl rfl Tryd.underlying35 (by kernel_rfl) (by omega) (by omega)
                refine' TL.y rfl rfl rfl ?hy249 ?_
                case hy249 => first | exact Yl.load rfl rfl (by kernel_rfl) (Hp.cell mem0 rfl) | exact Yl.load rfl rfl (by kernel_rfl) (Hp.cell mem1 rfl) | exact Yl.load rfl rfl (by kernel_rfl) (Hp.rowAt mem0 (by omega) rfl) | exact Yl.load rfl rfl (by kernel_rfl) (Hp.rowAt mem1 (by omega) rfl)
                refine' TL.y rfl rfl rfl ?hy250 ?_
                case hy250 => exact Yl.pickT rfl rfl rfl
                refine' TL.y rfl rfl rfl ?hy251 ?_
                case hy251 => exact Yl.assign rfl rfl
                refine TL.nil ?_
                refine TE.next ?_
                refine TC.seq ?_
                refine TC.seq ?_
                refine TC.region ?_
                refine' TL.y rfl rfl rfl ?hy252 ?_
                case hy252 => exact Yl.move rfl rfl
                refine' TL.y rfl rfl rfl ?hy253 ?_
                case hy253 => exact Yl.bin rfl rfl rfl (Bin.eql _ _ _ _)
                refine' TL.y rfl rfl rfl ?hy254 ?_
                case hy254 => exact Yl.move rfl rfl
                refine' TL.y rfl rfl rfl ?hy255 ?_
                case hy255 => exact Yl.bin rfl rfl rfl (Bin.neqB _ _ _ (by kernel_rfl))
                refine TL.nil ?_
                refine TE.next ?_
                refine TC.no rfl (by first | rfl | (rw [hfj]; rfl) | (simp; done)) ?_
                refine TC.skip ?_
                refine TE.next ?_
                refine TC.seq ?_
                refine TC.region ?_
                refine' TL.y rfl rfl rfl ?hy256 ?_
                case hy256 => exact Yl.move rfl rfl
                refine TL.nil ?_
                refine TE.next ?_
                refine TC.yes rfl (by first | exact hfj | rfl) ?_
                refine TC.seq ?_
                refine TC.region ?_
                refine' TL.y rfl rfl rfl ?hy257 ?_
                case hy257 => exact Yl.move rfl rfl
                refine' TL.y rfl rfl rfl ?hy258 ?_
                case hy258 => exact Yl.move rfl rfl
                refine' TL.y rfl rfl rfl ?hy259 ?_
                case hy259 => exact Yl.move rfl rfl
                refine' TL.y rfl rfl rfl ?hy260 ?_
                case hy260 => first | exact Yl.ixkn (k := 2) rfl rfl rfl Tryd.underlying22 (by kernel_rfl) (by omega) | exact Yl.ixkz (k := 2) rfl rfl rfl Tryd.underlying22 (by kernel_rfl) (by omega) (by omega)
                refine' TL.y rfl rfl rfl ?hy261 ?_
                case hy261 => first | exact Yl.field0 (k := 0) 1 rfl rfl Tryd.underlying30 rfl (by kernel_rfl) rfl | exact Yl.field (k := 0) 1 rfl rfl Tryd.underlying30 rfl (by kernel_rfl) rfl
                refine' TL.y rfl rfl rfl ?hy262 ?_
                case hy262 => exact Yl.val (Yl.load rfl rfl (by kernel_rfl) (Sl.cellAt hS (Open.at30_1 l i hlt) (fun _ => id) (by omega))) (congrArg (Value.int .i64) hx)
                refine' TL.y rfl rfl rfl ?hy263 ?_
                case hy263 => first | exact Yl.ixn rfl rfl rfl Tryd.underlying35 (by kernel_rfl) (by omega) | exact Yl.ixz rfl rfl rfl Tryd.underlying35 (by kernel_rfl) (by omega) (by omega) | exact Yl.ixcn rfl rfl rfl Tryd.underlying35 (by kernel_rfl) (by omega) | exact Yl.ixcz rfl rfl rfl Tryd.underlying35 (by kernel_rfl) (by omega) (by omega)
                refine' TL.s rfl rfl ?hy264 ?_
                case hy264 => first | exact Ys.row rfl rfl rfl rfl (by kernel_rfl) rfl foc0 (by omega) rfl | exact Ys.row rfl rfl rfl rfl (by kernel_rfl) rfl foc1 (by omega) rfl | exact Ys.store rfl rfl rfl rfl (by kernel_rfl) (by simp [Value.oneCell', Value.cells]) foc0 (by simp [Value.cells]) rfl | exact Ys.store rfl rfl rfl rfl (by kernel_rfl) (by simp [Value.oneCell', Value.cells]) foc1 (by simp [Value.cells]) rfl
                refine TL.nil ?_
                refine TE.next ?_
                refine TC.region ?_
                refine' TL.y rfl rfl rfl ?hy265 ?_
                case hy265 => exact Yl.move rfl rfl
                refine' TL.y rfl rfl rfl ?hy266 ?_
                case hy266 => first | (refine Yl.val (Yl.bin rfl rfl rfl (Bin.sub _ _ _ _)) (congrArg (Value.int .i64) (i64in ?_ ?_)) <;> omega) | exact Yl.bin rfl rfl rfl (Bin.sub _ _ _ _)
                refine' TL.y rfl rfl rfl ?hy267 ?_
                case hy267 => exact Yl.assign rfl rfl
                refine TL.nil ?_
                refine TE.next ?_
                refine TC.seq ?_
                refine TC.region ?_
                refine' TL.y rfl rfl rfl ?hy268 ?_
                case hy268 => exact Yl.move rfl rfl
                refine' TL.c rfl rfl rfl ?hy269 ?_
                case hy269 => exact Yc.call rfl Tryd.func18 (by kernel_rfl) rfl rfl (Hp.calls (fun w h => k_free w (h.all _ mem1)))
                intro _
                refine' TL.y rfl rfl rfl ?hy270 ?_
                case hy270 => exact Yl.move rfl rfl
                refine' TL.y rfl rfl rfl ?hy271 ?_
                case hy271 => exact Yl.move rfl rfl
                refine' TL.y rfl rfl rfl ?hy272 ?_
                case hy272 => first | (refine Yl.val (Yl.bin rfl rfl rfl (Bin.sub _ _ _ _)) (congrArg (Value.int .i64) (i64in ?_ ?_)) <;> omega) | exact Yl.bin rfl rfl rfl (Bin.sub _ _ _ _)
                refine' TL.y rfl rfl rfl ?hy273 ?_
                case hy273 => exact Yl.bin rfl rfl rfl (Bin.neq _ _ _ _)
                refine TL.nil ?_
                refine TE.next ?_
                refine TC.no rfl (by first | (simp; done) | (simp; omega) | (have hg := cnt_give hj hfj; simp; omega)) ?_
                refine TC.skip ?_
                refine TE.inNormal ?_
                refine TE.next ?_
                refine TC.region ?_
                refine' TL.y rfl rfl rfl ?hy274 ?_
                case hy274 => exact Yl.move rfl rfl
                refine' TL.y rfl rfl rfl ?hy275 ?_
                case hy275 => first | (refine Yl.val (Yl.bin rfl rfl rfl (Bin.add _ _ _ _)) (congrArg (Value.int .i64) (i64in ?_ ?_)) <;> omega) | exact Yl.bin rfl rfl rfl (Bin.add _ _ _ _)
                refine' TL.y rfl rfl rfl ?hy276 ?_
                case hy276 => exact Yl.assign rfl rfl
                refine TL.nil ?_
                refine TE.round (i + 1, setB f j false) ?hF277 ?hlt277 ?hs277 ?hm277
                case hF277 => dsimp only; omega
                case hlt277 => dsimp only; omega
                case hs277 => exact ⟨rfl, rfl, rfl, rfl, rfl, (by show some (Value.int .i64 ((cntB f n : Int) - 1)) = _; rw [cnt_give hj hfj]), rfl, trivial⟩
                case hm277 => exact fun w h => by rw [show rowA n (upV (fun r => Value.bool (f r)) j (.bool false)) = rowA n (fun r => .bool (setB f j false r)) from rset] at h; exact h
          · skip
            (try simp only [decide_eq_true_eq, decide_eq_false_iff_not, beq_iff_eq, beq_eq_false_iff_ne, bne_iff_ne, ne_eq, bne_eq_false_iff_eq, Bool.not_eq_true', Bool.not_eq_false', Int.not_lt, Int.not_le, gt_iff_lt, ge_iff_le] at hs37)
            refine TC.exit ?_
            refine TE.thenExit ?_
            refine TE.thenExit ?_
            refine TE.inHere ?_
            refine TE.next ?_
            refine TC.seq ?_
            refine TC.seq ?_
            refine TC.region ?_
            refine' TL.y rfl rfl rfl ?hy278 ?_
            case hy278 => exact Yl.assign rfl rfl
            refine TL.nil ?_
            refine TE.next ?_
            refine TC.block ?_
            refine TC.loop (σ := Nat) (fun j2 => [(0, .int .i64 (n : Int)), (5, .bool true), (6, .pointer (some ⟨p, 0, none⟩)), (7, .slice (some ⟨cm, 0, none⟩) n n), (14, .int .i64 (j2 : Int))]) (fun j2 => Hp W (fun _ => False) [blk cm (.cells (rowA n (fun j => .bool (f j))) 4 (0, 0)), poolR p b g n f]) (fun j2 => j2 ≤ n) (fun j2 => n - j2) 0 ?hF279 ?hs279 ?hm279 ?round279
            case hF279 => exact Nat.zero_le _
            case hs279 => exact ⟨rfl, rfl, rfl, rfl, rfl, trivial⟩
            case hm279 => exact fun _ h => h
            case round279 =>
              intro j2 hj2
              refine TC.seq ?_
              refine TC.seq ?_
              refine TC.region ?_
              refine' TL.y rfl rfl rfl ?hy280 ?_
              case hy280 => exact Yl.move rfl rfl
              refine' TL.y rfl rfl rfl ?hy281 ?_
              case hy281 => exact Yl.move rfl rfl
              refine' TL.y rfl rfl rfl ?hy282 ?_
              case hy282 => exact Yl.bin rfl rfl rfl (Bin.lss _ _ _ _)
              refine TL.nil ?_
              refine TE.next ?_
              refine TC.cond rfl (fun hs132 => ?_) (fun hs132 => ?_)
              · skip
                (try simp only [decide_eq_true_eq, decide_eq_false_iff_not, beq_iff_eq, beq_eq_false_iff_ne, bne_iff_ne, ne_eq, bne_eq_false_iff_eq, Bool.not_eq_true', Bool.not_eq_false', Int.not_lt, Int.not_le, gt_iff_lt, ge_iff_le] at hs132)
                refine TC.skip ?_
                refine TE.next ?_
                refine TC.seq ?_
                refine TC.block ?_
                refine TC.seq ?_
                refine TC.draw (k := 8) _ [] #[false, false, false, false, false, false, false, false] (by kernel_rfl) rfl rfl (fun _ h => h.drew) (fun _ h => h) ?_
                refine' TA.y (i := 0) #[true, false, false, false, false, false, false, false] rfl rfl rfl (by kernel_rfl) (fun _ _ _ h => h) (fun _ h => by exact Hp.sub h (by repeat (first | exact List.Sublist.refl _ | apply List.Sublist.cons))) rfl ?hy283 ?_
                case hy283 => exact Yl.move rfl rfl
                refine' TA.y (i := 1) #[true, true, false, false, false, false, false, false] rfl rfl rfl (by kernel_rfl) (fun _ _ _ h => h) (fun _ h => by exact Hp.sub h (by repeat (first | exact List.Sublist.refl _ | apply List.Sublist.cons))) rfl ?hy284 ?_
                case hy284 => exact Yl.move rfl rfl
                refine' TA.y (i := 3) #[true, true, false, true, false, false, false, false] rfl rfl rfl (by kernel_rfl) (fun _ _ _ h => h) (fun _ h => by exact Hp.sub h (by repeat (first | exact List.Sublist.refl _ | apply List.Sublist.cons))) rfl ?hy285 ?_
                case hy285 => exact Yl.move rfl rfl
                refine' TA.y (i := 4) #[true, true, false, true, true, false, false, false] rfl rfl rfl (by kernel_rfl) (fun _ _ _ h => h) (fun _ h => by exact Hp.sub h (by repeat (first | exact List.Sublist.refl _ | apply List.Sublist.cons))) rfl ?hy286 ?_
                case hy286 => exact Yl.move rfl rfl
                refine' TA.y (i := 5) #[true, true, false, true, true, true, false, false] rfl rfl rfl (by kernel_rfl) (fun _ _ _ h => h) (fun _ h => by exact Hp.sub h (by repeat (first | exact List.Sublist.refl _ | apply List.Sublist.cons))) rfl ?hy287 ?_
                case hy287 => first | exact Yl.ixn rfl rfl rfl Tryd.underlying35 (by kernel_rfl) (by omega) | exact Yl.ixz rfl rfl rfl Tryd.underlying35 (by kernel_rfl) (by omega) (by omega) | exact Yl.ixcn rfl rfl rfl Tryd.underlying35 (by kernel_rfl) (by omega) | exact Yl.ixcz rfl rfl rfl Tryd.underlying35 (by kernel_rfl) (by omega) (by omega)
                refine' TA.y (i := 6) #[true, true, false, true, true, true, true, false] rfl rfl rfl (by kernel_rfl) (fun _ _ _ h => h) (fun _ h => by exact Hp.sub h (by repeat (first | exact List.Sublist.refl _ | apply List.Sublist.cons))) rfl ?hy288 ?_
                case hy288 => first | exact Yl.load rfl rfl (by kernel_rfl) (Hp.cell mem0 rfl) | exact Yl.load rfl rfl (by kernel_rfl) (Hp.cell mem1 rfl) | exact Yl.load rfl rfl (by kernel_rfl) (Hp.rowAt mem0 (by omega) rfl) | exact Yl.load rfl rfl (by kernel_rfl) (Hp.rowAt mem1 (by omega) rfl)
                refine' TA.c (i := 2) #[true, true, true, true, true, true, true, false] rfl rfl rfl (by kernel_rfl) (by decide) rfl ?hy289 ?hz289 ?_
                case hy289 => exact Yc.call rfl Tryd.func20 (by kernel_rfl) rfl rfl (Hp.calls (fun w h => k_taken w (h.all _ mem1) _))
                case hz289 => exact (fun _ _ h => by exact Hp.sub h (by repeat (first | exact List.Sublist.refl _ | apply List.Sublist.cons)))
                intro _
                refine' TA.y (i := 7) #[true, true, true, true, true, true, true, true] rfl rfl rfl (by kernel_rfl) (fun _ _ _ h => h) (fun _ h => by exact Hp.sub h (by repeat (first | exact List.Sublist.refl _ | apply List.Sublist.cons))) rfl ?hy290 ?_
                case hy290 => exact Yl.bin rfl rfl rfl (Bin.neqB _ _ _ (by kernel_rfl))
                refine TA.done (by kernel_rfl) ?_
                refine TE.next ?_
                refine TC.no rfl (by rw [getB_in (show j2 < n by omega)]; simp) ?_
                refine TC.skip ?_
                refine TE.inNormal ?_
                refine TE.next ?_
                refine TC.region ?_
                refine' TL.y rfl rfl rfl ?hy291 ?_
                case hy291 => exact Yl.move rfl rfl
                refine' TL.y rfl rfl rfl ?hy292 ?_
                case hy292 => first | (refine Yl.val (Yl.bin rfl rfl rfl (Bin.add _ _ _ _)) (congrArg (Value.int .i64) (i64in ?_ ?_)) <;> omega) | exact Yl.bin rfl rfl rfl (Bin.add _ _ _ _)
                refine' TL.y rfl rfl rfl ?hy293 ?_
                case hy293 => exact Yl.assign rfl rfl
                refine TL.nil ?_
                refine TE.round (j2 + 1) ?hF294 ?hlt294 ?hs294 ?hm294
                case hF294 => omega
                case hlt294 => omega
                case hs294 => exact ⟨rfl, rfl, rfl, rfl, rfl, trivial⟩
                case hm294 => exact fun _ h => h
              · skip
                (try simp only [decide_eq_true_eq, decide_eq_false_iff_not, beq_iff_eq, beq_eq_false_iff_ne, bne_iff_ne, ne_eq, bne_eq_false_iff_eq, Bool.not_eq_true', Bool.not_eq_false', Int.not_lt, Int.not_le, gt_iff_lt, ge_iff_le] at hs132)
                refine TC.exit ?_
                refine TE.thenExit ?_
                refine TE.thenExit ?_
                refine TE.inHere ?_
                refine TE.next ?_
                refine TC.seq ?_
                refine TC.region ?_
                refine' TL.y rfl rfl rfl ?hy295 ?_
                case hy295 => exact Yl.move rfl rfl
                refine' TL.y rfl rfl rfl ?hy296 ?_
                case hy296 => exact Yl.assign rfl rfl
                refine TL.nil ?_
                refine TE.next ?_
                refine TC.ret ?_
                refine TE.ret1 rfl rfl ?_
                exact fun w h => ⟨congrArg (fun b => Ending.returned (Value.bool b)) (by first | rfl | (simp; done) : _ = true), h.below⟩
end Go.Proofs.YtafcmeoidcgmdaaDoor.Pk
