/- From whom nothing is taken. -/
import Derived.Test.YtipdpmmjmlimhaaPrB
import Derived.Test.YtipdpmmjmlimhaaProg
import Derived.RowKit3
namespace Go.Proofs.Ytipdpmmjmlimhaa.Pk
open Go Go.RowKit Go.Proofs.Ytipdpmmjmlimhaa.HL Go.Proofs.Ytipdpmmjmlimhaa.Ev Go.Proofs.YtipdpmmjmlimhaaW.PrintWords Go.Proofs.PrP Go.Proofs.DvP
set_option linter.unusedVariables false
set_option linter.unusedSimpArgs false
attribute [local irreducible] upR nU Nw Vw
set_option maxRecDepth 100000 in
set_option maxHeartbeats 2000000 in
theorem k_right (W : World) {m : Nat} {f : Nat → Nd} {A : Option Addr} {cp : Nat} (hS : Sl W A (Nw m f)) (hm : m ≤ 9223372036854775807) {k : Nat} {ef : Nat → Int} {B : Option Addr} {cq : Nat} (hS2 : Sl W B (Vw k ef)) (hk : k ≤ 9223372036854775807) (t : Int) : Calls Try.prog 29 #[.slice A m cp, .slice B k cq, .int .i64 t] W fun e w' => e = .returned (.bool (decide (Rgt m f k t))) ∧ Below W.heap.size W w' := by
  have hM : Hp W (fun _ => False) [] W := Hp.start
  refine TC.enter (n := 26) Try.func29 rfl rfl rfl hM ?_
  refine TC.seq ?_
  refine TC.region ?_
  refine' TL.y rfl rfl rfl ?hy1 ?_
  case hy1 => exact Yl.assign rfl rfl
  refine TL.nil ?_
  refine TE.next ?_
  refine TC.seq ?_
  refine TC.region ?_
  refine' TL.y rfl rfl rfl ?hy2 ?_
  case hy2 => exact Yl.move rfl rfl
  refine' TL.c rfl rfl rfl ?hy3 ?_
  case hy3 => exact Yc.call rfl Try.func14 (by kernel_rfl) rfl rfl (Hp.calls (fun w h => k_valid w (hS.below h.below) hm))
  intro _
  refine' TL.y rfl rfl rfl ?hy4 ?_
  case hy4 => exact Yl.move rfl rfl
  refine TL.split (i := 9) rfl (fun hs9 => ?_) (fun hs9 => ?_)
  · skip
    (try simp only [decide_eq_true_eq, decide_eq_false_iff_not, beq_iff_eq, beq_eq_false_iff_ne, bne_iff_ne, ne_eq, bne_eq_false_iff_eq, Bool.not_eq_true', Bool.not_eq_false', Int.not_lt, Int.not_le, gt_iff_lt, ge_iff_le] at hs9)
    have hv : Vld m f := by simpa using hs9
    refine' TL.y rfl rfl rfl ?hy5 ?_
    case hy5 => exact Yl.move rfl rfl
    refine' TL.y rfl rfl rfl ?hy6 ?_
    case hy6 => exact Yl.len rfl rfl Try.underlying25
    refine' TL.y rfl rfl rfl ?hy7 ?_
    case hy7 => exact Yl.move rfl rfl
    refine' TL.y rfl rfl rfl ?hy8 ?_
    case hy8 => exact Yl.len rfl rfl Try.underlying22
    refine' TL.y rfl rfl rfl ?hy9 ?_
    case hy9 => exact Yl.bin rfl rfl rfl (Bin.eql _ _ _ _)
    refine' TL.y rfl rfl rfl ?hy10 ?_
    case hy10 => exact Yl.pickT rfl rfl rfl
    refine' TL.y rfl rfl rfl ?hy11 ?_
    case hy11 => exact Yl.move rfl rfl
    refine TL.split (i := 16) rfl (fun hs16 => ?_) (fun hs16 => ?_)
    · skip
      (try simp only [decide_eq_true_eq, decide_eq_false_iff_not, beq_iff_eq, beq_eq_false_iff_ne, bne_iff_ne, ne_eq, bne_eq_false_iff_eq, Bool.not_eq_true', Bool.not_eq_false', Int.not_lt, Int.not_le, gt_iff_lt, ge_iff_le] at hs16)
      refine' TL.y rfl rfl rfl ?hy12 ?_
      case hy12 => exact Yl.move rfl rfl
      refine' TL.y rfl rfl rfl ?hy13 ?_
      case hy13 => exact Yl.bin rfl rfl rfl (Bin.leq _ _ _ _)
      refine' TL.y rfl rfl rfl ?hy14 ?_
      case hy14 => exact Yl.pickT rfl rfl rfl
      refine' TL.y rfl rfl rfl ?hy15 ?_
      case hy15 => exact Yl.move rfl rfl
      refine TL.split (i := 20) rfl (fun hs20 => ?_) (fun hs20 => ?_)
      · skip
        (try simp only [decide_eq_true_eq, decide_eq_false_iff_not, beq_iff_eq, beq_eq_false_iff_ne, bne_iff_ne, ne_eq, bne_eq_false_iff_eq, Bool.not_eq_true', Bool.not_eq_false', Int.not_lt, Int.not_le, gt_iff_lt, ge_iff_le] at hs20)
        refine' TL.y rfl rfl rfl ?hy16 ?_
        case hy16 => exact Yl.move rfl rfl
        refine' TL.y rfl rfl rfl ?hy17 ?_
        case hy17 => exact Yl.move rfl rfl
        refine' TL.y rfl rfl rfl ?hy18 ?_
        case hy18 => exact Yl.len rfl rfl Try.underlying22
        refine' TL.y rfl rfl rfl ?hy19 ?_
        case hy19 => exact Yl.bin rfl rfl rfl (Bin.lss _ _ _ _)
        refine' TL.y rfl rfl rfl ?hy20 ?_
        case hy20 => exact Yl.pickT rfl rfl rfl
        refine' TL.y rfl rfl rfl ?hy21 ?_
        case hy21 => exact Yl.assign rfl rfl
        refine TL.nil ?_
        refine TE.next ?_
        refine TC.ret ?_
        refine TE.ret1 rfl rfl ?_
        exact fun w h => ⟨by congr 2; apply decide_eq_decide.2; rw [rgt_iff]; exact ⟨fun h => ⟨hv, by omega, by omega, h⟩, fun h => h.2.2.2⟩, h.below⟩
      · skip
        (try simp only [decide_eq_true_eq, decide_eq_false_iff_not, beq_iff_eq, beq_eq_false_iff_ne, bne_iff_ne, ne_eq, bne_eq_false_iff_eq, Bool.not_eq_true', Bool.not_eq_false', Int.not_lt, Int.not_le, gt_iff_lt, ge_iff_le] at hs20)
        refine TL.skip rfl rfl rfl ?_
        refine TL.skip rfl rfl rfl ?_
        refine TL.skip rfl rfl rfl ?_
        refine TL.skip rfl rfl rfl ?_
        refine' TL.y rfl rfl rfl ?hy22 ?_
        case hy22 => exact Yl.pickF rfl rfl rfl
        refine' TL.y rfl rfl rfl ?hy23 ?_
        case hy23 => exact Yl.assign rfl rfl
        refine TL.nil ?_
        refine TE.next ?_
        refine TC.ret ?_
        refine TE.ret1 rfl rfl ?_
        exact fun w h => ⟨by rw [decide_eq_false (fun h : Rgt m f k t => by have := h.k; have := h.t0; have := h.t1; omega)], h.below⟩
    · skip
      (try simp only [decide_eq_true_eq, decide_eq_false_iff_not, beq_iff_eq, beq_eq_false_iff_ne, bne_iff_ne, ne_eq, bne_eq_false_iff_eq, Bool.not_eq_true', Bool.not_eq_false', Int.not_lt, Int.not_le, gt_iff_lt, ge_iff_le] at hs16)
      refine TL.skip rfl rfl rfl ?_
      refine TL.skip rfl rfl rfl ?_
      refine' TL.y rfl rfl rfl ?hy24 ?_
      case hy24 => exact Yl.pickF rfl rfl rfl
      refine' TL.y rfl rfl rfl ?hy25 ?_
      case hy25 => exact Yl.move rfl rfl
      refine TL.skip rfl rfl rfl ?_
      refine TL.skip rfl rfl rfl ?_
      refine TL.skip rfl rfl rfl ?_
      refine TL.skip rfl rfl rfl ?_
      refine' TL.y rfl rfl rfl ?hy26 ?_
      case hy26 => exact Yl.pickF rfl rfl rfl
      refine' TL.y rfl rfl rfl ?hy27 ?_
      case hy27 => exact Yl.assign rfl rfl
      refine TL.nil ?_
      refine TE.next ?_
      refine TC.ret ?_
      refine TE.ret1 rfl rfl ?_
      exact fun w h => ⟨by rw [decide_eq_false (fun h : Rgt m f k t => by have := h.k; have := h.t0; have := h.t1; omega)], h.below⟩
  · skip
    (try simp only [decide_eq_true_eq, decide_eq_false_iff_not, beq_iff_eq, beq_eq_false_iff_ne, bne_iff_ne, ne_eq, bne_eq_false_iff_eq, Bool.not_eq_true', Bool.not_eq_false', Int.not_lt, Int.not_le, gt_iff_lt, ge_iff_le] at hs9)
    have hv : ¬ Vld m f := by simpa using hs9
    refine TL.skip rfl rfl rfl ?_
    refine TL.skip rfl rfl rfl ?_
    refine TL.skip rfl rfl rfl ?_
    refine TL.skip rfl rfl rfl ?_
    refine TL.skip rfl rfl rfl ?_
    refine' TL.y rfl rfl rfl ?hy28 ?_
    case hy28 => exact Yl.pickF rfl rfl rfl
    refine' TL.y rfl rfl rfl ?hy29 ?_
    case hy29 => exact Yl.move rfl rfl
    refine TL.skip rfl rfl rfl ?_
    refine TL.skip rfl rfl rfl ?_
    refine' TL.y rfl rfl rfl ?hy30 ?_
    case hy30 => exact Yl.pickF rfl rfl rfl
    refine' TL.y rfl rfl rfl ?hy31 ?_
    case hy31 => exact Yl.move rfl rfl
    refine TL.skip rfl rfl rfl ?_
    refine TL.skip rfl rfl rfl ?_
    refine TL.skip rfl rfl rfl ?_
    refine TL.skip rfl rfl rfl ?_
    refine' TL.y rfl rfl rfl ?hy32 ?_
    case hy32 => exact Yl.pickF rfl rfl rfl
    refine' TL.y rfl rfl rfl ?hy33 ?_
    case hy33 => exact Yl.assign rfl rfl
    refine TL.nil ?_
    refine TE.next ?_
    refine TC.ret ?_
    refine TE.ret1 rfl rfl ?_
    exact fun w h => ⟨by rw [decide_eq_false (fun h => hv h.v)], h.below⟩
set_option maxRecDepth 100000 in
set_option maxHeartbeats 2000000 in
theorem k_rright (W : World) {m : Nat} {f : Nat → Nd} {A : Option Addr} {cp : Nat} (hS : Sl W A (Nw m f)) (hm : m ≤ 9223372036854775807) {k : Nat} {ef : Nat → Int} {B : Option Addr} {cq : Nat} (hS2 : Sl W B (Vw k ef)) (hk : k ≤ 9223372036854775807) (t : Int) : Calls Try.prog 28 #[.slice A m cp, .slice B k cq, .int .i64 t] W fun e w' => e = .returned (.bool (decide (Rgt m f k t))) ∧ Below W.heap.size W w' := by
  have hM : Hp W (fun _ => False) [] W := Hp.start
  refine TC.enter (n := 26) Try.func28 rfl rfl rfl hM ?_
  refine TC.seq ?_
  refine TC.region ?_
  refine' TL.y rfl rfl rfl ?hy1 ?_
  case hy1 => exact Yl.assign rfl rfl
  refine TL.nil ?_
  refine TE.next ?_
  refine TC.seq ?_
  refine TC.region ?_
  refine' TL.y rfl rfl rfl ?hy2 ?_
  case hy2 => exact Yl.move rfl rfl
  refine' TL.c rfl rfl rfl ?hy3 ?_
  case hy3 => exact Yc.call rfl Try.func15 (by kernel_rfl) rfl rfl (Hp.calls (fun w h => k_rvalid w (hS.below h.below) hm))
  intro _
  refine' TL.y rfl rfl rfl ?hy4 ?_
  case hy4 => exact Yl.move rfl rfl
  refine TL.split (i := 9) rfl (fun hs9 => ?_) (fun hs9 => ?_)
  · skip
    (try simp only [decide_eq_true_eq, decide_eq_false_iff_not, beq_iff_eq, beq_eq_false_iff_ne, bne_iff_ne, ne_eq, bne_eq_false_iff_eq, Bool.not_eq_true', Bool.not_eq_false', Int.not_lt, Int.not_le, gt_iff_lt, ge_iff_le] at hs9)
    have hv : Vld m f := by simpa using hs9
    refine' TL.y rfl rfl rfl ?hy5 ?_
    case hy5 => exact Yl.move rfl rfl
    refine' TL.y rfl rfl rfl ?hy6 ?_
    case hy6 => exact Yl.len rfl rfl Try.underlying25
    refine' TL.y rfl rfl rfl ?hy7 ?_
    case hy7 => exact Yl.move rfl rfl
    refine' TL.y rfl rfl rfl ?hy8 ?_
    case hy8 => exact Yl.len rfl rfl Try.underlying28
    refine' TL.y rfl rfl rfl ?hy9 ?_
    case hy9 => exact Yl.bin rfl rfl rfl (Bin.eql _ _ _ _)
    refine' TL.y rfl rfl rfl ?hy10 ?_
    case hy10 => exact Yl.pickT rfl rfl rfl
    refine' TL.y rfl rfl rfl ?hy11 ?_
    case hy11 => exact Yl.move rfl rfl
    refine TL.split (i := 16) rfl (fun hs16 => ?_) (fun hs16 => ?_)
    · skip
      (try simp only [decide_eq_true_eq, decide_eq_false_iff_not, beq_iff_eq, beq_eq_false_iff_ne, bne_iff_ne, ne_eq, bne_eq_false_iff_eq, Bool.not_eq_true', Bool.not_eq_false', Int.not_lt, Int.not_le, gt_iff_lt, ge_iff_le] at hs16)
      refine' TL.y rfl rfl rfl ?hy12 ?_
      case hy12 => exact Yl.move rfl rfl
      refine' TL.y rfl rfl rfl ?hy13 ?_
      case hy13 => exact Yl.bin rfl rfl rfl (Bin.geq _ _ _ _)
      refine' TL.y rfl rfl rfl ?hy14 ?_
      case hy14 => exact Yl.pickT rfl rfl rfl
      refine' TL.y rfl rfl rfl ?hy15 ?_
      case hy15 => exact Yl.move rfl rfl
      refine TL.split (i := 20) rfl (fun hs20 => ?_) (fun hs20 => ?_)
      · skip
        (try simp only [decide_eq_true_eq, decide_eq_false_iff_not, beq_iff_eq, beq_eq_false_iff_ne, bne_iff_ne, ne_eq, bne_eq_false_iff_eq, Bool.not_eq_true', Bool.not_eq_false', Int.not_lt, Int.not_le, gt_iff_lt, ge_iff_le] at hs20)
        refine' TL.y rfl rfl rfl ?hy16 ?_
        case hy16 => exact Yl.move rfl rfl
        refine' TL.y rfl rfl rfl ?hy17 ?_
        case hy17 => exact Yl.move rfl rfl
        refine' TL.y rfl rfl rfl ?hy18 ?_
        case hy18 => exact Yl.len rfl rfl Try.underlying28
        refine' TL.y rfl rfl rfl ?hy19 ?_
        case hy19 => exact Yl.bin rfl rfl rfl (Bin.lss _ _ _ _)
        refine' TL.y rfl rfl rfl ?hy20 ?_
        case hy20 => exact Yl.pickT rfl rfl rfl
        refine' TL.y rfl rfl rfl ?hy21 ?_
        case hy21 => exact Yl.assign rfl rfl
        refine TL.nil ?_
        refine TE.next ?_
        refine TC.ret ?_
        refine TE.ret1 rfl rfl ?_
        exact fun w h => ⟨by congr 2; apply decide_eq_decide.2; rw [rgt_iff]; exact ⟨fun h => ⟨hv, by omega, by omega, h⟩, fun h => h.2.2.2⟩, h.below⟩
      · skip
        (try simp only [decide_eq_true_eq, decide_eq_false_iff_not, beq_iff_eq, beq_eq_false_iff_ne, bne_iff_ne, ne_eq, bne_eq_false_iff_eq, Bool.not_eq_true', Bool.not_eq_false', Int.not_lt, Int.not_le, gt_iff_lt, ge_iff_le] at hs20)
        refine TL.skip rfl rfl rfl ?_
        refine TL.skip rfl rfl rfl ?_
        refine TL.skip rfl rfl rfl ?_
        refine TL.skip rfl rfl rfl ?_
        refine' TL.y rfl rfl rfl ?hy22 ?_
        case hy22 => exact Yl.pickF rfl rfl rfl
        refine' TL.y rfl rfl rfl ?hy23 ?_
        case hy23 => exact Yl.assign rfl rfl
        refine TL.nil ?_
        refine TE.next ?_
        refine TC.ret ?_
        refine TE.ret1 rfl rfl ?_
        exact fun w h => ⟨by rw [decide_eq_false (fun h : Rgt m f k t => by have := h.k; have := h.t0; have := h.t1; omega)], h.below⟩
    · skip
      (try simp only [decide_eq_true_eq, decide_eq_false_iff_not, beq_iff_eq, beq_eq_false_iff_ne, bne_iff_ne, ne_eq, bne_eq_false_iff_eq, Bool.not_eq_true', Bool.not_eq_false', Int.not_lt, Int.not_le, gt_iff_lt, ge_iff_le] at hs16)
      refine TL.skip rfl rfl rfl ?_
      refine TL.skip rfl rfl rfl ?_
      refine' TL.y rfl rfl rfl ?hy24 ?_
      case hy24 => exact Yl.pickF rfl rfl rfl
      refine' TL.y rfl rfl rfl ?hy25 ?_
      case hy25 => exact Yl.move rfl rfl
      refine TL.skip rfl rfl rfl ?_
      refine TL.skip rfl rfl rfl ?_
      refine TL.skip rfl rfl rfl ?_
      refine TL.skip rfl rfl rfl ?_
      refine' TL.y rfl rfl rfl ?hy26 ?_
      case hy26 => exact Yl.pickF rfl rfl rfl
      refine' TL.y rfl rfl rfl ?hy27 ?_
      case hy27 => exact Yl.assign rfl rfl
      refine TL.nil ?_
      refine TE.next ?_
      refine TC.ret ?_
      refine TE.ret1 rfl rfl ?_
      exact fun w h => ⟨by rw [decide_eq_false (fun h : Rgt m f k t => by have := h.k; have := h.t0; have := h.t1; omega)], h.below⟩
  · skip
    (try simp only [decide_eq_true_eq, decide_eq_false_iff_not, beq_iff_eq, beq_eq_false_iff_ne, bne_iff_ne, ne_eq, bne_eq_false_iff_eq, Bool.not_eq_true', Bool.not_eq_false', Int.not_lt, Int.not_le, gt_iff_lt, ge_iff_le] at hs9)
    have hv : ¬ Vld m f := by simpa using hs9
    refine TL.skip rfl rfl rfl ?_
    refine TL.skip rfl rfl rfl ?_
    refine TL.skip rfl rfl rfl ?_
    refine TL.skip rfl rfl rfl ?_
    refine TL.skip rfl rfl rfl ?_
    refine' TL.y rfl rfl rfl ?hy28 ?_
    case hy28 => exact Yl.pickF rfl rfl rfl
    refine' TL.y rfl rfl rfl ?hy29 ?_
    case hy29 => exact Yl.move rfl rfl
    refine TL.skip rfl rfl rfl ?_
    refine TL.skip rfl rfl rfl ?_
    refine' TL.y rfl rfl rfl ?hy30 ?_
    case hy30 => exact Yl.pickF rfl rfl rfl
    refine' TL.y rfl rfl rfl ?hy31 ?_
    case hy31 => exact Yl.move rfl rfl
    refine TL.skip rfl rfl rfl ?_
    refine TL.skip rfl rfl rfl ?_
    refine TL.skip rfl rfl rfl ?_
    refine TL.skip rfl rfl rfl ?_
    refine' TL.y rfl rfl rfl ?hy32 ?_
    case hy32 => exact Yl.pickF rfl rfl rfl
    refine' TL.y rfl rfl rfl ?hy33 ?_
    case hy33 => exact Yl.assign rfl rfl
    refine TL.nil ?_
    refine TE.next ?_
    refine TC.ret ?_
    refine TE.ret1 rfl rfl ?_
    exact fun w h => ⟨by rw [decide_eq_false (fun h => hv h.v)], h.below⟩
set_option maxRecDepth 100000 in
set_option maxHeartbeats 2000000 in
theorem k_rbelow (W : World) {m : Nat} {f : Nat → Nd} {A : Option Addr} {cp : Nat} (hS : Sl W A (Nw m f)) (hv : Vld m f) {g t : Int} (hg0 : 0 ≤ g) (hg1 : g < m) (ht : 0 ≤ t) : Calls Try.prog 25 #[.slice A m cp, .int .i64 g, .int .i64 t] W fun e w' => e = .returned (.bool (blV f t (m + 1) g)) ∧ Below W.heap.size W w' := by
  obtain ⟨b, o, rfl⟩ := Sl.some2 hS (by rw [Nw_length]; omega)
  have hm64 := hv.m1
  have hM : Hp W (fun _ => False) [] W := Hp.start
  refine TC.enter (n := 22) Try.func25 rfl rfl rfl hM ?_
  refine TC.seq ?_
  refine TC.region ?_
  refine' TL.y rfl rfl rfl ?hy1 ?_
  case hy1 => exact Yl.assign rfl rfl
  refine TL.nil ?_
  refine TE.next ?_
  refine TC.seq ?_
  refine TC.block ?_
  refine TC.loop (σ := Int × Nat) (fun s => [(0, .slice (some ⟨b, o, none⟩) m cp), (1, .int .i64 s.1), (2, .int .i64 t)]) (fun s => Hp W (fun _ => False) []) (fun s => -1 ≤ s.1 ∧ s.1 < m ∧ s.1 + 2 ≤ s.2 ∧ blV f t s.2 s.1 = blV f t (m + 1) g) (fun s => s.2) (g, m + 1) ?hF2 ?hs2 ?hm2 ?round2
  case hF2 => exact ⟨by dsimp only; omega, hg1, by dsimp only; omega, rfl⟩
  case hs2 => exact ⟨rfl, rfl, rfl, trivial⟩
  case hm2 => exact fun _ h => h
  case round2 =>
    rintro ⟨x, k⟩ ⟨h1, h2, h3, h4⟩
    dsimp only at h1 h2 h3 h4 ⊢
    obtain ⟨k, rfl⟩ : ∃ k', k = k' + 1 := ⟨k - 1, by omega⟩
    refine TC.seq ?_
    refine TC.seq ?_
    refine TC.region ?_
    refine' TL.y rfl rfl rfl ?hy3 ?_
    case hy3 => exact Yl.move rfl rfl
    refine' TL.y rfl rfl rfl ?hy4 ?_
    case hy4 => exact Yl.bin rfl rfl rfl (Bin.geq _ _ _ _)
    refine' TL.y rfl rfl rfl ?hy5 ?_
    case hy5 => exact Yl.move rfl rfl
    refine TL.split (i := 9) rfl (fun hs9 => ?_) (fun hs9 => ?_)
    · skip
      (try simp only [decide_eq_true_eq, decide_eq_false_iff_not, beq_iff_eq, beq_eq_false_iff_ne, bne_iff_ne, ne_eq, bne_eq_false_iff_eq, Bool.not_eq_true', Bool.not_eq_false', Int.not_lt, Int.not_le, gt_iff_lt, ge_iff_le] at hs9)
      refine' TL.y rfl rfl rfl ?hy6 ?_
      case hy6 => exact Yl.move rfl rfl
      refine' TL.y rfl rfl rfl ?hy7 ?_
      case hy7 => exact Yl.move rfl rfl
      refine' TL.y rfl rfl rfl ?hy8 ?_
      case hy8 => exact Yl.bin rfl rfl rfl (Bin.neq _ _ _ _)
      refine' TL.y rfl rfl rfl ?hy9 ?_
      case hy9 => exact Yl.pickT rfl rfl rfl
      refine TL.nil ?_
      refine TE.next ?_
      refine TC.cond rfl (fun hs13 => ?_) (fun hs13 => ?_)
      · skip
        (try simp only [decide_eq_true_eq, decide_eq_false_iff_not, beq_iff_eq, beq_eq_false_iff_ne, bne_iff_ne, ne_eq, bne_eq_false_iff_eq, Bool.not_eq_true', Bool.not_eq_false', Int.not_lt, Int.not_le, gt_iff_lt, ge_iff_le] at hs13)
        have hp := hv.par (i := x.toNat) (by omega)
        refine TC.skip ?_
        refine TE.next ?_
        refine TC.block ?_
        refine TC.region ?_
        refine' TL.y rfl rfl rfl ?hy10 ?_
        case hy10 => exact Yl.move rfl rfl
        refine' TL.y rfl rfl rfl ?hy11 ?_
        case hy11 => exact Yl.move rfl rfl
        refine' TL.y rfl rfl rfl ?hy12 ?_
        case hy12 => first | exact Yl.ixkn (k := 3) rfl rfl rfl Try.underlying28 (by kernel_rfl) (by omega) | exact Yl.ixkz (k := 3) rfl rfl rfl Try.underlying28 (by kernel_rfl) (by omega) (by omega)
        refine' TL.y rfl rfl rfl ?hy13 ?_
        case hy13 => first | exact Yl.field0 (k := 0) 0 rfl rfl Try.underlying45 rfl (by kernel_rfl) rfl | exact Yl.field (k := 0) 0 rfl rfl Try.underlying45 rfl (by kernel_rfl) rfl
        refine' TL.y rfl rfl rfl ?hy14 ?_
        case hy14 => first | exact Yl.load rfl rfl (by kernel_rfl) (Sl.nw hS (i := 0) rfl (by omega) (by decide)) | exact Yl.load rfl rfl (by kernel_rfl) (Sl.nw hS (i := 1) rfl (by omega) (by decide)) | exact Yl.load rfl rfl (by kernel_rfl) (Sl.nw hS (i := 2) rfl (by omega) (by decide)) | exact Yl.load rfl rfl (by kernel_rfl) (Hp.cell mem0 rfl) | exact Yl.load rfl rfl (by kernel_rfl) (Hp.cell mem1 rfl) | exact Yl.load rfl rfl (by kernel_rfl) (Hp.cell mem2 rfl) | exact Yl.load rfl rfl (by kernel_rfl) (Hp.cell mem3 rfl) | exact Yl.load rfl rfl (by kernel_rfl) (Hp.cell mem4 rfl) | exact Yl.load rfl rfl (by kernel_rfl) (Hp.rowAt mem0 (by omega) rfl) | exact Yl.load rfl rfl (by kernel_rfl) (Hp.rowAt mem1 (by omega) rfl) | exact Yl.load rfl rfl (by kernel_rfl) (Hp.rowAt mem2 (by omega) rfl) | exact Yl.load rfl rfl (by kernel_rfl) (Hp.rowAt mem3 (by omega) rfl) | exact Yl.load rfl rfl (by kernel_rfl) (Hp.rowAt mem4 (by omega) rfl)
        refine' TL.y rfl rfl rfl ?hy15 ?_
        case hy15 => exact Yl.assign rfl rfl
        refine TL.nil ?_
        refine TE.inNormal ?_
        refine TE.round ((f x.toNat).1, k) ?hF16 ?hlt16 ?hs16 ?hm16
        case hF16 => exact ⟨hp.1, by dsimp only; omega, by dsimp only; omega, by dsimp only; rw [← h4, blV, if_neg (by omega), if_neg (by omega)]⟩
        case hlt16 => dsimp only; omega
        case hs16 => exact ⟨rfl, rfl, rfl, trivial⟩
        case hm16 => exact fun _ h => h
      · skip
        (try simp only [decide_eq_true_eq, decide_eq_false_iff_not, beq_iff_eq, beq_eq_false_iff_ne, bne_iff_ne, ne_eq, bne_eq_false_iff_eq, Bool.not_eq_true', Bool.not_eq_false', Int.not_lt, Int.not_le, gt_iff_lt, ge_iff_le] at hs13)
        refine TC.exit ?_
        refine TE.thenExit ?_
        refine TE.thenExit ?_
        refine TE.inHere ?_
        refine TE.next ?_
        refine TC.seq ?_
        refine TC.region ?_
        refine' TL.y rfl rfl rfl ?hy17 ?_
        case hy17 => exact Yl.move rfl rfl
        refine' TL.y rfl rfl rfl ?hy18 ?_
        case hy18 => exact Yl.move rfl rfl
        refine' TL.y rfl rfl rfl ?hy19 ?_
        case hy19 => exact Yl.bin rfl rfl rfl (Bin.eql _ _ _ _)
        refine' TL.y rfl rfl rfl ?hy20 ?_
        case hy20 => exact Yl.assign rfl rfl
        refine TL.nil ?_
        refine TE.next ?_
        refine TC.ret ?_
        refine TE.ret1 rfl rfl ?_
        rw [blV] at h4
        exact fun w h => ⟨by rw [← h4]; by_cases e : x = t; rw [if_pos e, e]; simp; rw [if_neg e, if_pos (by omega)]; simp [e], h.below⟩
    · skip
      (try simp only [decide_eq_true_eq, decide_eq_false_iff_not, beq_iff_eq, beq_eq_false_iff_ne, bne_iff_ne, ne_eq, bne_eq_false_iff_eq, Bool.not_eq_true', Bool.not_eq_false', Int.not_lt, Int.not_le, gt_iff_lt, ge_iff_le] at hs9)
      refine TL.skip rfl rfl rfl ?_
      refine TL.skip rfl rfl rfl ?_
      refine TL.skip rfl rfl rfl ?_
      refine' TL.y rfl rfl rfl ?hy21 ?_
      case hy21 => exact Yl.pickF rfl rfl rfl
      refine TL.nil ?_
      refine TE.next ?_
      refine TC.no rfl rfl ?_
      refine TC.exit ?_
      refine TE.thenExit ?_
      refine TE.thenExit ?_
      refine TE.inHere ?_
      refine TE.next ?_
      refine TC.seq ?_
      refine TC.region ?_
      refine' TL.y rfl rfl rfl ?hy22 ?_
      case hy22 => exact Yl.move rfl rfl
      refine' TL.y rfl rfl rfl ?hy23 ?_
      case hy23 => exact Yl.move rfl rfl
      refine' TL.y rfl rfl rfl ?hy24 ?_
      case hy24 => exact Yl.bin rfl rfl rfl (Bin.eql _ _ _ _)
      refine' TL.y rfl rfl rfl ?hy25 ?_
      case hy25 => exact Yl.assign rfl rfl
      refine TL.nil ?_
      refine TE.next ?_
      refine TC.ret ?_
      refine TE.ret1 rfl rfl ?_
      rw [blV] at h4
      exact fun w h => ⟨by rw [← h4]; by_cases e : x = t; rw [if_pos e, e]; simp; rw [if_neg e, if_pos (by omega)]; simp [e], h.below⟩
set_option maxRecDepth 100000 in
set_option maxHeartbeats 2000000 in
theorem k_rheld (W : World) {m : Nat} {f : Nat → Nd} {A : Option Addr} {cp : Nat} (hS : Sl W A (Nw m f)) (hm : m ≤ 9223372036854775807) {k : Nat} {ef : Nat → Int} {B : Option Addr} {cq : Nat} (hS2 : Sl W B (Vw k ef)) (hk : k ≤ 9223372036854775807) (t g : Int) : Calls Try.prog 16 #[.slice A m cp, .slice B k cq, .int .i64 t, .int .i64 g] W fun e w' => e = .returned (.bool (heldV m f k ef t g)) ∧ Below W.heap.size W w' := by
  have hM : Hp W (fun _ => False) [] W := Hp.start
  refine TC.enter (n := 49) Try.func16 rfl rfl rfl hM ?_
  refine TC.seq ?_
  refine TC.region ?_
  refine' TL.y rfl rfl rfl ?hy1 ?_
  case hy1 => exact Yl.assign rfl rfl
  refine TL.nil ?_
  refine TE.next ?_
  refine TC.seq ?_
  refine TC.seq ?_
  refine TC.region ?_
  refine' TL.y rfl rfl rfl ?hy2 ?_
  case hy2 => exact Yl.move rfl rfl
  refine' TL.y rfl rfl rfl ?hy3 ?_
  case hy3 => exact Yl.move rfl rfl
  refine' TL.y rfl rfl rfl ?hy4 ?_
  case hy4 => exact Yl.move rfl rfl
  refine' TL.c rfl rfl rfl ?hy5 ?_
  case hy5 => exact Yc.call rfl Try.func28 (by kernel_rfl) rfl rfl (Hp.calls (fun w h => k_rright w (hS.below h.below) hm (hS2.below h.below) hk t))
  intro _
  refine' TL.y rfl rfl rfl ?hy6 ?_
  case hy6 => exact Yl.not rfl rfl
  refine' TL.y rfl rfl rfl ?hy7 ?_
  case hy7 => exact Yl.move rfl rfl
  refine TL.split (i := 14) rfl (fun hs14 => ?_) (fun hs14 => ?_)
  · skip
    (try simp only [decide_eq_true_eq, decide_eq_false_iff_not, beq_iff_eq, beq_eq_false_iff_ne, bne_iff_ne, ne_eq, bne_eq_false_iff_eq, Bool.not_eq_true', Bool.not_eq_false', Int.not_lt, Int.not_le, gt_iff_lt, ge_iff_le] at hs14)
    have hr : ¬ Rgt m f k t := by simpa using hs14
    refine TL.skip rfl rfl rfl ?_
    refine TL.skip rfl rfl rfl ?_
    refine' TL.y rfl rfl rfl ?hy8 ?_
    case hy8 => exact Yl.pickT rfl rfl rfl
    refine' TL.y rfl rfl rfl ?hy9 ?_
    case hy9 => exact Yl.move rfl rfl
    refine TL.skip rfl rfl rfl ?_
    refine TL.skip rfl rfl rfl ?_
    refine TL.skip rfl rfl rfl ?_
    refine TL.skip rfl rfl rfl ?_
    refine' TL.y rfl rfl rfl ?hy10 ?_
    case hy10 => exact Yl.pickT rfl rfl rfl
    refine' TL.y rfl rfl rfl ?hy11 ?_
    case hy11 => exact Yl.move rfl rfl
    refine TL.skip rfl rfl rfl ?_
    refine TL.skip rfl rfl rfl ?_
    refine TL.skip rfl rfl rfl ?_
    refine TL.skip rfl rfl rfl ?_
    refine TL.skip rfl rfl rfl ?_
    refine' TL.y rfl rfl rfl ?hy12 ?_
    case hy12 => exact Yl.pickT rfl rfl rfl
    refine TL.nil ?_
    refine TE.next ?_
    refine TC.yes rfl rfl ?_
    refine TC.seq ?_
    refine TC.region ?_
    refine' TL.y rfl rfl rfl ?hy13 ?_
    case hy13 => exact Yl.assign rfl rfl
    refine TL.nil ?_
    refine TE.next ?_
    refine TC.ret ?_
    refine TE.thenRet ?_
    refine TE.ret1 rfl rfl ?_
    exact fun w h => ⟨by rw [held_no1 (fun h => hr h.1)], h.below⟩
  · skip
    (try simp only [decide_eq_true_eq, decide_eq_false_iff_not, beq_iff_eq, beq_eq_false_iff_ne, bne_iff_ne, ne_eq, bne_eq_false_iff_eq, Bool.not_eq_true', Bool.not_eq_false', Int.not_lt, Int.not_le, gt_iff_lt, ge_iff_le] at hs14)
    have hr : Rgt m f k t := by by_cases e : Rgt m f k t; exact e; simp [e] at hs14
    have hv := hr.v
    have hm64 := hv.m1
    have hkm := hr.k
    have ht0 := hr.t0
    have ht1 := hr.t1
    refine' TL.y rfl rfl rfl ?hy14 ?_
    case hy14 => exact Yl.move rfl rfl
    refine' TL.y rfl rfl rfl ?hy15 ?_
    case hy15 => exact Yl.bin rfl rfl rfl (Bin.lss _ _ _ _)
    refine' TL.y rfl rfl rfl ?hy16 ?_
    case hy16 => exact Yl.pickF rfl rfl rfl
    refine' TL.y rfl rfl rfl ?hy17 ?_
    case hy17 => exact Yl.move rfl rfl
    refine TL.split (i := 18) rfl (fun hs18 => ?_) (fun hs18 => ?_)
    · skip
      (try simp only [decide_eq_true_eq, decide_eq_false_iff_not, beq_iff_eq, beq_eq_false_iff_ne, bne_iff_ne, ne_eq, bne_eq_false_iff_eq, Bool.not_eq_true', Bool.not_eq_false', Int.not_lt, Int.not_le, gt_iff_lt, ge_iff_le] at hs18)
      refine TL.skip rfl rfl rfl ?_
      refine TL.skip rfl rfl rfl ?_
      refine TL.skip rfl rfl rfl ?_
      refine TL.skip rfl rfl rfl ?_
      refine' TL.y rfl rfl rfl ?hy18 ?_
      case hy18 => exact Yl.pickT rfl rfl rfl
      refine' TL.y rfl rfl rfl ?hy19 ?_
      case hy19 => exact Yl.move rfl rfl
      refine TL.skip rfl rfl rfl ?_
      refine TL.skip rfl rfl rfl ?_
      refine TL.skip rfl rfl rfl ?_
      refine TL.skip rfl rfl rfl ?_
      refine TL.skip rfl rfl rfl ?_
      refine' TL.y rfl rfl rfl ?hy20 ?_
      case hy20 => exact Yl.pickT rfl rfl rfl
      refine TL.nil ?_
      refine TE.next ?_
      refine TC.yes rfl rfl ?_
      refine TC.seq ?_
      refine TC.region ?_
      refine' TL.y rfl rfl rfl ?hy21 ?_
      case hy21 => exact Yl.assign rfl rfl
      refine TL.nil ?_
      refine TE.next ?_
      refine TC.ret ?_
      refine TE.thenRet ?_
      refine TE.ret1 rfl rfl ?_
      exact fun w h => ⟨by rw [held_no1 (fun h => by omega)], h.below⟩
    · skip
      (try simp only [decide_eq_true_eq, decide_eq_false_iff_not, beq_iff_eq, beq_eq_false_iff_ne, bne_iff_ne, ne_eq, bne_eq_false_iff_eq, Bool.not_eq_true', Bool.not_eq_false', Int.not_lt, Int.not_le, gt_iff_lt, ge_iff_le] at hs18)
      refine' TL.y rfl rfl rfl ?hy22 ?_
      case hy22 => exact Yl.move rfl rfl
      refine' TL.y rfl rfl rfl ?hy23 ?_
      case hy23 => exact Yl.move rfl rfl
      refine' TL.y rfl rfl rfl ?hy24 ?_
      case hy24 => exact Yl.len rfl rfl Try.underlying28
      refine' TL.y rfl rfl rfl ?hy25 ?_
      case hy25 => exact Yl.bin rfl rfl rfl (Bin.geq _ _ _ _)
      refine' TL.y rfl rfl rfl ?hy26 ?_
      case hy26 => exact Yl.pickF rfl rfl rfl
      refine' TL.y rfl rfl rfl ?hy27 ?_
      case hy27 => exact Yl.move rfl rfl
      refine TL.split (i := 24) rfl (fun hs24 => ?_) (fun hs24 => ?_)
      · skip
        (try simp only [decide_eq_true_eq, decide_eq_false_iff_not, beq_iff_eq, beq_eq_false_iff_ne, bne_iff_ne, ne_eq, bne_eq_false_iff_eq, Bool.not_eq_true', Bool.not_eq_false', Int.not_lt, Int.not_le, gt_iff_lt, ge_iff_le] at hs24)
        refine TL.skip rfl rfl rfl ?_
        refine TL.skip rfl rfl rfl ?_
        refine TL.skip rfl rfl rfl ?_
        refine TL.skip rfl rfl rfl ?_
        refine TL.skip rfl rfl rfl ?_
        refine' TL.y rfl rfl rfl ?hy28 ?_
        case hy28 => exact Yl.pickT rfl rfl rfl
        refine TL.nil ?_
        refine TE.next ?_
        refine TC.yes rfl rfl ?_
        refine TC.seq ?_
        refine TC.region ?_
        refine' TL.y rfl rfl rfl ?hy29 ?_
        case hy29 => exact Yl.assign rfl rfl
        refine TL.nil ?_
        refine TE.next ?_
        refine TC.ret ?_
        refine TE.thenRet ?_
        refine TE.ret1 rfl rfl ?_
        exact fun w h => ⟨by rw [held_no1 (fun h => by omega)], h.below⟩
      · skip
        (try simp only [decide_eq_true_eq, decide_eq_false_iff_not, beq_iff_eq, beq_eq_false_iff_ne, bne_iff_ne, ne_eq, bne_eq_false_iff_eq, Bool.not_eq_true', Bool.not_eq_false', Int.not_lt, Int.not_le, gt_iff_lt, ge_iff_le] at hs24)
        refine' TL.y rfl rfl rfl ?hy30 ?_
        case hy30 => exact Yl.move rfl rfl
        refine' TL.y rfl rfl rfl ?hy31 ?_
        case hy31 => exact Yl.move rfl rfl
        refine' TL.y rfl rfl rfl ?hy32 ?_
        case hy32 => exact Yl.move rfl rfl
        refine' TL.c rfl rfl rfl ?hy33 ?_
        case hy33 => exact Yc.call rfl Try.func25 (by kernel_rfl) rfl rfl (Hp.calls (fun w h => k_rbelow w (hS.below h.below) hv (by omega) (by omega) ht0))
        intro _
        refine' TL.y rfl rfl rfl ?hy34 ?_
        case hy34 => exact Yl.not rfl rfl
        refine' TL.y rfl rfl rfl ?hy35 ?_
        case hy35 => exact Yl.pickF rfl rfl rfl
        refine TL.nil ?_
        refine TE.next ?_
        refine TC.cond rfl (fun hs30 => ?_) (fun hs30 => ?_)
        · skip
          (try simp only [decide_eq_true_eq, decide_eq_false_iff_not, beq_iff_eq, beq_eq_false_iff_ne, bne_iff_ne, ne_eq, bne_eq_false_iff_eq, Bool.not_eq_true', Bool.not_eq_false', Int.not_lt, Int.not_le, gt_iff_lt, ge_iff_le] at hs30)
          refine TC.seq ?_
          refine TC.region ?_
          refine' TL.y rfl rfl rfl ?hy36 ?_
          case hy36 => exact Yl.assign rfl rfl
          refine TL.nil ?_
          refine TE.next ?_
          refine TC.ret ?_
          refine TE.thenRet ?_
          refine TE.ret1 rfl rfl ?_
          exact fun w h => ⟨by rw [held_no2 (by simpa using hs30)], h.below⟩
        · skip
          (try simp only [decide_eq_true_eq, decide_eq_false_iff_not, beq_iff_eq, beq_eq_false_iff_ne, bne_iff_ne, ne_eq, bne_eq_false_iff_eq, Bool.not_eq_true', Bool.not_eq_false', Int.not_lt, Int.not_le, gt_iff_lt, ge_iff_le] at hs30)
          have hbl : blV f t (m + 1) g = true := by simpa using hs30
          obtain ⟨b, o, rfl⟩ := Sl.some2 hS (by rw [Nw_length]; omega)
          obtain ⟨b2, o2, rfl⟩ := Sl.some2 hS2 (by rw [Vw_length]; omega)
          refine TC.skip ?_
          refine TE.next ?_
          refine TC.seq ?_
          refine TC.block ?_
          refine TC.loop (σ := Int × Nat) (fun s => [(0, .slice (some ⟨b, o, none⟩) m cp), (1, .slice (some ⟨b2, o2, none⟩) k cq), (2, .int .i64 t), (3, .int .i64 s.1)]) (fun s => Hp W (fun _ => False) []) (fun s => -1 ≤ s.1 ∧ s.1 < m ∧ s.1 + 2 ≤ s.2 ∧ blV f t s.2 s.1 = true ∧ hdV f ef t s.2 s.1 = hdV f ef t (m + 1) g) (fun s => s.2) (g, m + 1) ?hF37 ?hs37 ?hm37 ?round37
          case hF37 => exact ⟨by dsimp only; omega, by dsimp only; omega, by dsimp only; omega, hbl, rfl⟩
          case hs37 => exact ⟨rfl, rfl, rfl, rfl, trivial⟩
          case hm37 => exact fun _ h => h
          case round37 =>
            rintro ⟨x, k'⟩ ⟨h1, h2, h3, h5, h4⟩
            dsimp only at h1 h2 h3 h4 h5 ⊢
            obtain ⟨k', rfl⟩ : ∃ k2, k' = k2 + 1 := ⟨k' - 1, by omega⟩
            refine TC.seq ?_
            refine TC.seq ?_
            refine TC.region ?_
            refine' TL.y rfl rfl rfl ?hy38 ?_
            case hy38 => exact Yl.move rfl rfl
            refine' TL.y rfl rfl rfl ?hy39 ?_
            case hy39 => exact Yl.move rfl rfl
            refine' TL.y rfl rfl rfl ?hy40 ?_
            case hy40 => exact Yl.bin rfl rfl rfl (Bin.neq _ _ _ _)
            refine TL.nil ?_
            refine TE.next ?_
            refine TC.cond rfl (fun hs33 => ?_) (fun hs33 => ?_)
            · skip
              (try simp only [decide_eq_true_eq, decide_eq_false_iff_not, beq_iff_eq, beq_eq_false_iff_ne, bne_iff_ne, ne_eq, bne_eq_false_iff_eq, Bool.not_eq_true', Bool.not_eq_false', Int.not_lt, Int.not_le, gt_iff_lt, ge_iff_le] at hs33)
              rw [blV, if_neg (by omega)] at h5
              have hx0 : 0 ≤ x := by
                by_cases e : x < 0
                · rw [if_pos e] at h5; cases h5
                · omega
              rw [if_neg (by omega)] at h5
              have hb5 := h5
              have hp := hv.par (i := x.toNat) (by omega)
              refine TC.skip ?_
              refine TE.next ?_
              refine TC.block ?_
              refine TC.seq ?_
              refine TC.seq ?_
              refine TC.draw (k := 10) _ [] #[false, false, false, false, false, false, false, false, false, false] (by kernel_rfl) rfl rfl (fun _ h => h.drew) (fun _ h => h) ?_
              refine' TA.y (i := 0) #[true, false, false, false, false, false, false, false, false, false] rfl rfl rfl (by kernel_rfl) (fun _ _ _ h => h) (fun _ h => by exact Hp.sub h (by repeat (first | exact List.Sublist.refl _ | apply List.Sublist.cons))) rfl ?hy41 ?_
              case hy41 => exact Yl.move rfl rfl
              refine' TA.y (i := 1) #[true, true, false, false, false, false, false, false, false, false] rfl rfl rfl (by kernel_rfl) (fun _ _ _ h => h) (fun _ h => by exact Hp.sub h (by repeat (first | exact List.Sublist.refl _ | apply List.Sublist.cons))) rfl ?hy42 ?_
              case hy42 => exact Yl.move rfl rfl
              refine' TA.y (i := 2) #[true, true, true, false, false, false, false, false, false, false] rfl rfl rfl (by kernel_rfl) (fun _ _ _ h => h) (fun _ h => by exact Hp.sub h (by repeat (first | exact List.Sublist.refl _ | apply List.Sublist.cons))) rfl ?hy43 ?_
              case hy43 => first | exact Yl.ixkn (k := 3) rfl rfl rfl Try.underlying28 (by kernel_rfl) (by omega) | exact Yl.ixkz (k := 3) rfl rfl rfl Try.underlying28 (by kernel_rfl) (by omega) (by omega)
              refine' TA.y (i := 3) #[true, true, true, true, false, false, false, false, false, false] rfl rfl rfl (by kernel_rfl) (fun _ _ _ h => h) (fun _ h => by exact Hp.sub h (by repeat (first | exact List.Sublist.refl _ | apply List.Sublist.cons))) rfl ?hy44 ?_
              case hy44 => first | exact Yl.field0 (k := 0) 1 rfl rfl Try.underlying45 rfl (by kernel_rfl) rfl | exact Yl.field (k := 0) 1 rfl rfl Try.underlying45 rfl (by kernel_rfl) rfl
              refine' TA.y (i := 4) #[true, true, true, true, true, false, false, false, false, false] rfl rfl rfl (by kernel_rfl) (fun _ _ _ h => h) (fun _ h => by exact Hp.sub h (by repeat (first | exact List.Sublist.refl _ | apply List.Sublist.cons))) rfl ?hy45 ?_
              case hy45 => first | exact Yl.load rfl rfl (by kernel_rfl) (Sl.nw hS (i := 0) rfl (by omega) (by decide)) | exact Yl.load rfl rfl (by kernel_rfl) (Sl.nw hS (i := 1) rfl (by omega) (by decide)) | exact Yl.load rfl rfl (by kernel_rfl) (Sl.nw hS (i := 2) rfl (by omega) (by decide)) | exact Yl.load rfl rfl (by kernel_rfl) (Sl.vw hS2 rfl (by omega) (fun _ h => h)) | exact Yl.load rfl rfl (by kernel_rfl) (Hp.cell mem0 rfl) | exact Yl.load rfl rfl (by kernel_rfl) (Hp.cell mem1 rfl) | exact Yl.load rfl rfl (by kernel_rfl) (Hp.cell mem2 rfl) | exact Yl.load rfl rfl (by kernel_rfl) (Hp.cell mem3 rfl) | exact Yl.load rfl rfl (by kernel_rfl) (Hp.cell mem4 rfl) | exact Yl.load rfl rfl (by kernel_rfl) (Hp.rowAt mem0 (by omega) rfl) | exact Yl.load rfl rfl (by kernel_rfl) (Hp.rowAt mem1 (by omega) rfl) | exact Yl.load rfl rfl (by kernel_rfl) (Hp.rowAt mem2 (by omega) rfl) | exact Yl.load rfl rfl (by kernel_rfl) (Hp.rowAt mem3 (by omega) rfl) | exact Yl.load rfl rfl (by kernel_rfl) (Hp.rowAt mem4 (by omega) rfl)
              refine TA.re (i := 38) (v' := .int .i64 (f x.toNat).2.1) rfl rfl ?_
              refine' TA.y (i := 5) #[true, true, true, true, true, true, false, false, false, false] rfl rfl rfl (by kernel_rfl) (fun _ _ _ h => h) (fun _ h => by exact Hp.sub h (by repeat (first | exact List.Sublist.refl _ | apply List.Sublist.cons))) rfl ?hy46 ?_
              case hy46 => exact Yl.move rfl rfl
              refine' TA.y (i := 6) #[true, true, true, true, true, true, true, false, false, false] rfl rfl rfl (by kernel_rfl) (fun _ _ _ h => h) (fun _ h => by exact Hp.sub h (by repeat (first | exact List.Sublist.refl _ | apply List.Sublist.cons))) rfl ?hy47 ?_
              case hy47 => exact Yl.move rfl rfl
              refine' TA.y (i := 7) #[true, true, true, true, true, true, true, true, false, false] rfl rfl rfl (by kernel_rfl) (fun _ _ _ h => h) (fun _ h => by exact Hp.sub h (by repeat (first | exact List.Sublist.refl _ | apply List.Sublist.cons))) rfl ?hy48 ?_
              case hy48 => exact Yl.ixcz rfl rfl rfl Try.underlying25 (by kernel_rfl) (by omega) (by omega)
              refine' TA.y (i := 8) #[true, true, true, true, true, true, true, true, true, false] rfl rfl rfl (by kernel_rfl) (fun _ _ _ h => h) (fun _ h => by exact Hp.sub h (by repeat (first | exact List.Sublist.refl _ | apply List.Sublist.cons))) rfl ?hy49 ?_
              case hy49 => first | exact Yl.load rfl rfl (by kernel_rfl) (Sl.nw hS (i := 0) rfl (by omega) (by decide)) | exact Yl.load rfl rfl (by kernel_rfl) (Sl.nw hS (i := 1) rfl (by omega) (by decide)) | exact Yl.load rfl rfl (by kernel_rfl) (Sl.nw hS (i := 2) rfl (by omega) (by decide)) | exact Yl.load rfl rfl (by kernel_rfl) (Sl.vw hS2 rfl (by omega) (fun _ h => h)) | exact Yl.load rfl rfl (by kernel_rfl) (Hp.cell mem0 rfl) | exact Yl.load rfl rfl (by kernel_rfl) (Hp.cell mem1 rfl) | exact Yl.load rfl rfl (by kernel_rfl) (Hp.cell mem2 rfl) | exact Yl.load rfl rfl (by kernel_rfl) (Hp.cell mem3 rfl) | exact Yl.load rfl rfl (by kernel_rfl) (Hp.cell mem4 rfl) | exact Yl.load rfl rfl (by kernel_rfl) (Hp.rowAt mem0 (by omega) rfl) | exact Yl.load rfl rfl (by kernel_rfl) (Hp.rowAt mem1 (by omega) rfl) | exact Yl.load rfl rfl (by kernel_rfl) (Hp.rowAt mem2 (by omega) rfl) | exact Yl.load rfl rfl (by kernel_rfl) (Hp.rowAt mem3 (by omega) rfl) | exact Yl.load rfl rfl (by kernel_rfl) (Hp.rowAt mem4 (by omega) rfl)
              refine' TA.y (i := 9) #[true, true, true, true, true, true, true, true, true, true] rfl rfl rfl (by kernel_rfl) (fun _ _ _ h => h) (fun _ h => by exact Hp.sub h (by repeat (first | exact List.Sublist.refl _ | apply List.Sublist.cons))) rfl ?hy50 ?_
              case hy50 => exact Yl.bin rfl rfl rfl (Bin.leq _ _ _ _)
              refine TA.done (by kernel_rfl) ?_
              refine TE.next ?_
              refine TC.cond rfl (fun hs43 => ?_) (fun hs43 => ?_)
              · skip
                (try simp only [decide_eq_true_eq, decide_eq_false_iff_not, beq_iff_eq, beq_eq_false_iff_ne, bne_iff_ne, ne_eq, bne_eq_false_iff_eq, Bool.not_eq_true', Bool.not_eq_false', Int.not_lt, Int.not_le, gt_iff_lt, ge_iff_le] at hs43)
                refine TC.seq ?_
                refine TC.region ?_
                refine' TL.y rfl rfl rfl ?hy51 ?_
                case hy51 => exact Yl.assign rfl rfl
                refine TL.nil ?_
                refine TE.next ?_
                refine TC.ret ?_
                refine TE.thenRet ?_
                refine TE.inRet ?_
                refine TE.thenRet ?_
                refine TE.inRet ?_
                refine TE.thenRet ?_
                refine TE.ret1 rfl rfl ?_
                exact fun w h => ⟨by rw [held_is hr (by omega) (by omega) hbl, ← h4, hdV, if_neg (by omega), if_neg (by omega), if_pos hs43], h.below⟩
              · skip
                (try simp only [decide_eq_true_eq, decide_eq_false_iff_not, beq_iff_eq, beq_eq_false_iff_ne, bne_iff_ne, ne_eq, bne_eq_false_iff_eq, Bool.not_eq_true', Bool.not_eq_false', Int.not_lt, Int.not_le, gt_iff_lt, ge_iff_le] at hs43)
                refine TC.skip ?_
                refine TE.next ?_
                refine TC.region ?_
                refine' TL.y rfl rfl rfl ?hy52 ?_
                case hy52 => exact Yl.move rfl rfl
                refine' TL.y rfl rfl rfl ?hy53 ?_
                case hy53 => exact Yl.move rfl rfl
                refine' TL.y rfl rfl rfl ?hy54 ?_
                case hy54 => first | exact Yl.ixkn (k := 3) rfl rfl rfl Try.underlying28 (by kernel_rfl) (by omega) | exact Yl.ixkz (k := 3) rfl rfl rfl Try.underlying28 (by kernel_rfl) (by omega) (by omega)
                refine' TL.y rfl rfl rfl ?hy55 ?_
                case hy55 => first | exact Yl.field0 (k := 0) 0 rfl rfl Try.underlying45 rfl (by kernel_rfl) rfl | exact Yl.field (k := 0) 0 rfl rfl Try.underlying45 rfl (by kernel_rfl) rfl
                refine' TL.y rfl rfl rfl ?hy56 ?_
                case hy56 => first | exact Yl.load rfl rfl (by kernel_rfl) (Sl.nw hS (i := 0) rfl (by omega) (by decide)) | exact Yl.load rfl rfl (by kernel_rfl) (Sl.nw hS (i := 1) rfl (by omega) (by decide)) | exact Yl.load rfl rfl (by kernel_rfl) (Sl.nw hS (i := 2) rfl (by omega) (by decide)) | exact Yl.load rfl rfl (by kernel_rfl) (Sl.vw hS2 rfl (by omega) (fun _ h => h)) | exact Yl.load rfl rfl (by kernel_rfl) (Hp.cell mem0 rfl) | exact Yl.load rfl rfl (by kernel_rfl) (Hp.cell mem1 rfl) | exact Yl.load rfl rfl (by kernel_rfl) (Hp.cell mem2 rfl) | exact Yl.load rfl rfl (by kernel_rfl) (Hp.cell mem3 rfl) | exact Yl.load rfl rfl (by kernel_rfl) (Hp.cell mem4 rfl) | exact Yl.load rfl rfl (by kernel_rfl) (Hp.rowAt mem0 (by omega) rfl) | exact Yl.load rfl rfl (by kernel_rfl) (Hp.rowAt mem1 (by omega) rfl) | exact Yl.load rfl rfl (by kernel_rfl) (Hp.rowAt mem2 (by omega) rfl) | exact Yl.load rfl rfl (by kernel_rfl) (Hp.rowAt mem3 (by omega) rfl) | exact Yl.load rfl rfl (by kernel_rfl) (Hp.rowAt mem4 (by omega) rfl)
                refine' TL.y rfl rfl rfl ?hy57 ?_
                case hy57 => exact Yl.assign rfl rfl
                refine TL.nil ?_
                refine TE.inNormal ?_
                refine TE.round ((f x.toNat).1, k') ?hF58 ?hlt58 ?hs58 ?hm58
                case hF58 => exact ⟨hp.1, by dsimp only; omega, by dsimp only; omega, hb5, by dsimp only; rw [← h4, hdV, if_neg (by omega), if_neg (by omega), if_neg (by omega)]⟩
                case hlt58 => dsimp only; omega
                case hs58 => exact ⟨rfl, rfl, rfl, rfl, trivial⟩
                case hm58 => exact fun _ h => h
            · skip
              (try simp only [decide_eq_true_eq, decide_eq_false_iff_not, beq_iff_eq, beq_eq_false_iff_ne, bne_iff_ne, ne_eq, bne_eq_false_iff_eq, Bool.not_eq_true', Bool.not_eq_false', Int.not_lt, Int.not_le, gt_iff_lt, ge_iff_le] at hs33)
              refine TC.exit ?_
              refine TE.thenExit ?_
              refine TE.thenExit ?_
              refine TE.inHere ?_
              refine TE.next ?_
              refine TC.seq ?_
              refine TC.region ?_
              refine' TL.y rfl rfl rfl ?hy59 ?_
              case hy59 => exact Yl.assign rfl rfl
              refine TL.nil ?_
              refine TE.next ?_
              refine TC.ret ?_
              refine TE.ret1 rfl rfl ?_
              exact fun w h => ⟨by rw [held_is hr (by omega) (by omega) hbl, ← h4, hdV, if_pos (by omega)], h.below⟩
set_option maxRecDepth 100000 in
set_option maxHeartbeats 2000000 in
theorem k_held (W : World) {m : Nat} {f : Nat → Nd} {A : Option Addr} {cp : Nat} (hS : Sl W A (Nw m f)) (hm : m ≤ 9223372036854775807) {k : Nat} {ef : Nat → Int} {B : Option Addr} {cq : Nat} (hS2 : Sl W B (Vw k ef)) (hk : k ≤ 9223372036854775807) (t g : Int) : Calls Try.prog 17 #[.slice A m cp, .slice B k cq, .int .i64 t, .int .i64 g] W fun e w' => e = .returned (.bool (heldV m f k ef t g)) ∧ Below W.heap.size W w' := by
  have hM : Hp W (fun _ => False) [] W := Hp.start
  refine RC.enter (n := 47) Try.func17 rfl rfl rfl hM ?_
  refine RC.seq ?_
  refine RC.region ?_
  refine' RL.mx rfl rfl rfl ?hy1 ?_
  case hy1 => exact Ym.box rfl rfl
  intro b4
  refine' RL.mx rfl rfl rfl ?hy2 ?_
  case hy2 => exact Ym.box rfl rfl
  intro b5
  refine' RL.mx rfl rfl rfl ?hy3 ?_
  case hy3 => exact Ym.alloc (z := .bool false) rfl (by kernel_rfl)
  intro b8
  refine RL.nil ?_
  refine RE.next ?_
  refine RC.seq ?_
  refine RC.seq ?_
  refine RC.region ?_
  refine' RL.y rfl rfl rfl ?hy4 ?_
  case hy4 => first | exact Yl.load rfl rfl (by kernel_rfl) (Sl.nw hS (i := 0) rfl (by omega) (by decide)) | exact Yl.load rfl rfl (by kernel_rfl) (Sl.nw hS (i := 1) rfl (by omega) (by decide)) | exact Yl.load rfl rfl (by kernel_rfl) (Sl.nw hS (i := 2) rfl (by omega) (by decide)) | exact Yl.load rfl rfl (by kernel_rfl) (Sl.vw hS2 rfl (by omega) (fun _ h => h)) | exact Yl.load rfl rfl (by kernel_rfl) (Hp.cell mem0 rfl) | exact Yl.load rfl rfl (by kernel_rfl) (Hp.cell mem1 rfl) | exact Yl.load rfl rfl (by kernel_rfl) (Hp.cell mem2 rfl) | exact Yl.load rfl rfl (by kernel_rfl) (Hp.cell mem3 rfl) | exact Yl.load rfl rfl (by kernel_rfl) (Hp.cell mem4 rfl) | exact Yl.load rfl rfl (by kernel_rfl) (Hp.cell mem5 rfl) | exact Yl.load rfl rfl (by kernel_rfl) (Hp.cell mem6 rfl) | exact Yl.load rfl rfl (by kernel_rfl) (Hp.rowAt mem0 (by omega) rfl) | exact Yl.load rfl rfl (by kernel_rfl) (Hp.rowAt mem1 (by omega) rfl) | exact Yl.load rfl rfl (by kernel_rfl) (Hp.rowAt mem2 (by omega) rfl) | exact Yl.load rfl rfl (by kernel_rfl) (Hp.rowAt mem3 (by omega) rfl) | exact Yl.load rfl rfl (by kernel_rfl) (Hp.rowAt mem4 (by omega) rfl) | exact Yl.load rfl rfl (by kernel_rfl) (Hp.rowAt mem5 (by omega) rfl) | exact Yl.load rfl rfl (by kernel_rfl) (Hp.rowAt mem6 (by omega) rfl)
  refine' RL.y rfl rfl rfl ?hy5 ?_
  case hy5 => first | exact Yl.load rfl rfl (by kernel_rfl) (Sl.nw hS (i := 0) rfl (by omega) (by decide)) | exact Yl.load rfl rfl (by kernel_rfl) (Sl.nw hS (i := 1) rfl (by omega) (by decide)) | exact Yl.load rfl rfl (by kernel_rfl) (Sl.nw hS (i := 2) rfl (by omega) (by decide)) | exact Yl.load rfl rfl (by kernel_rfl) (Sl.vw hS2 rfl (by omega) (fun _ h => h)) | exact Yl.load rfl rfl (by kernel_rfl) (Hp.cell mem0 rfl) | exact Yl.load rfl rfl (by kernel_rfl) (Hp.cell mem1 rfl) | exact Yl.load rfl rfl (by kernel_rfl) (Hp.cell mem2 rfl) | exact Yl.load rfl rfl (by kernel_rfl) (Hp.cell mem3 rfl) | exact Yl.load rfl rfl (by kernel_rfl) (Hp.cell mem4 rfl) | exact Yl.load rfl rfl (by kernel_rfl) (Hp.cell mem5 rfl) | exact Yl.load rfl rfl (by kernel_rfl) (Hp.cell mem6 rfl) | exact Yl.load rfl rfl (by kernel_rfl) (Hp.rowAt mem0 (by omega) rfl) | exact Yl.load rfl rfl (by kernel_rfl) (Hp.rowAt mem1 (by omega) rfl) | exact Yl.load rfl rfl (by kernel_rfl) (Hp.rowAt mem2 (by omega) rfl) | exact Yl.load rfl rfl (by kernel_rfl) (Hp.rowAt mem3 (by omega) rfl) | exact Yl.load rfl rfl (by kernel_rfl) (Hp.rowAt mem4 (by omega) rfl) | exact Yl.load rfl rfl (by kernel_rfl) (Hp.rowAt mem5 (by omega) rfl) | exact Yl.load rfl rfl (by kernel_rfl) (Hp.rowAt mem6 (by omega) rfl)
  refine' RL.y rfl rfl rfl ?hy6 ?_
  case hy6 => exact Yl.move rfl rfl
  refine' RL.c rfl rfl rfl ?hy7 ?_
  case hy7 => exact Yc.call rfl Try.func29 (by kernel_rfl) rfl rfl (Hp.calls (fun w h => k_right w (hS.below h.below) hm (hS2.below h.below) hk t))
  intro _
  refine' RL.y rfl rfl rfl ?hy8 ?_
  case hy8 => exact Yl.not rfl rfl
  refine' RL.y rfl rfl rfl ?hy9 ?_
  case hy9 => exact Yl.move rfl rfl
  refine RL.split (i := 15) rfl (fun hs15 => ?_) (fun hs15 => ?_)
  · skip
    (try simp only [decide_eq_true_eq, decide_eq_false_iff_not, beq_iff_eq, beq_eq_false_iff_ne, bne_iff_ne, ne_eq, bne_eq_false_iff_eq, Bool.not_eq_true', Bool.not_eq_false', Int.not_lt, Int.not_le, gt_iff_lt, ge_iff_le] at hs15)
    have hr : ¬ Rgt m f k t := by simpa using hs15
    refine RL.skip rfl rfl rfl ?_
    refine RL.skip rfl rfl rfl ?_
    refine' RL.y rfl rfl rfl ?hy10 ?_
    case hy10 => exact Yl.pickT rfl rfl rfl
    refine' RL.y rfl rfl rfl ?hy11 ?_
    case hy11 => exact Yl.move rfl rfl
    refine RL.skip rfl rfl rfl ?_
    refine RL.skip rfl rfl rfl ?_
    refine RL.skip rfl rfl rfl ?_
    refine RL.skip rfl rfl rfl ?_
    refine' RL.y rfl rfl rfl ?hy12 ?_
    case hy12 => exact Yl.pickT rfl rfl rfl
    refine' RL.y rfl rfl rfl ?hy13 ?_
    case hy13 => exact Yl.move rfl rfl
    refine RL.skip rfl rfl rfl ?_
    refine RL.skip rfl rfl rfl ?_
    refine RL.skip rfl rfl rfl ?_
    refine RL.skip rfl rfl rfl ?_
    refine RL.skip rfl rfl rfl ?_
    refine' RL.y rfl rfl rfl ?hy14 ?_
    case hy14 => exact Yl.pickT rfl rfl rfl
    refine RL.nil ?_
    refine RE.next ?_
    refine RC.yes rfl rfl ?_
    refine RC.seq ?_
    refine RC.region ?_
    refine' RL.s rfl rfl ?hy15 ?_
    case hy15 => first | exact Ys.store (seg := [.bool false]) (c' := #[.bool false]) rfl rfl rfl (by simp [Value.cells]) (by kernel_rfl) (by simp [Value.oneCell']) foc0 (by simp [Value.cells]) rfl | exact Ys.store (seg := [.bool false]) (c' := #[.bool false]) rfl rfl rfl (by simp [Value.cells]) (by kernel_rfl) (by simp [Value.oneCell']) foc1 (by simp [Value.cells]) rfl | exact Ys.store (seg := [.bool false]) (c' := #[.bool false]) rfl rfl rfl (by simp [Value.cells]) (by kernel_rfl) (by simp [Value.oneCell']) foc2 (by simp [Value.cells]) rfl | exact Ys.store (seg := [.bool false]) (c' := #[.bool false]) rfl rfl rfl (by simp [Value.cells]) (by kernel_rfl) (by simp [Value.oneCell']) foc3 (by simp [Value.cells]) rfl | exact Ys.store (seg := [.bool false]) (c' := #[.bool false]) rfl rfl rfl (by simp [Value.cells]) (by kernel_rfl) (by simp [Value.oneCell']) foc4 (by simp [Value.cells]) rfl
    refine RL.nil ?_
    refine RE.next ?_
    refine RC.ret ?_
    refine RE.thenRet ?_
    first | refine RE.retC rfl rfl (by kernel_rfl) (Hp.cell mem0 rfl) ?_ | refine RE.retC rfl rfl (by kernel_rfl) (Hp.cell mem1 rfl) ?_ | refine RE.retC rfl rfl (by kernel_rfl) (Hp.cell mem2 rfl) ?_ | refine RE.retC rfl rfl (by kernel_rfl) (Hp.cell mem3 rfl) ?_ | refine RE.retC rfl rfl (by kernel_rfl) (Hp.cell mem4 rfl) ?_ | refine RE.retC rfl rfl (by kernel_rfl) (Hp.cell mem5 rfl) ?_ | refine RE.retC rfl rfl (by kernel_rfl) (Hp.cell mem6 rfl) ?_
    exact fun w h => ⟨by rw [held_no1 (fun h => hr h.1)]; rfl, (h.sub (List.nil_sublist _)).below⟩
  · skip
    (try simp only [decide_eq_true_eq, decide_eq_false_iff_not, beq_iff_eq, beq_eq_false_iff_ne, bne_iff_ne, ne_eq, bne_eq_false_iff_eq, Bool.not_eq_true', Bool.not_eq_false', Int.not_lt, Int.not_le, gt_iff_lt, ge_iff_le] at hs15)
    have hr : Rgt m f k t := by by_cases e : Rgt m f k t; exact e; simp [e] at hs15
    have hv := hr.v
    have hm64 := hv.m1
    have hkm := hr.k
    have ht0 := hr.t0
    have ht1 := hr.t1
    refine' RL.y rfl rfl rfl ?hy16 ?_
    case hy16 => exact Yl.move rfl rfl
    refine' RL.y rfl rfl rfl ?hy17 ?_
    case hy17 => exact Yl.bin rfl rfl rfl (Bin.lss _ _ _ _)
    refine' RL.y rfl rfl rfl ?hy18 ?_
    case hy18 => exact Yl.pickF rfl rfl rfl
    refine' RL.y rfl rfl rfl ?hy19 ?_
    case hy19 => exact Yl.move rfl rfl
    refine RL.split (i := 19) rfl (fun hs19 => ?_) (fun hs19 => ?_)
    · skip
      (try simp only [decide_eq_true_eq, decide_eq_false_iff_not, beq_iff_eq, beq_eq_false_iff_ne, bne_iff_ne, ne_eq, bne_eq_false_iff_eq, Bool.not_eq_true', Bool.not_eq_false', Int.not_lt, Int.not_le, gt_iff_lt, ge_iff_le] at hs19)
      refine RL.skip rfl rfl rfl ?_
      refine RL.skip rfl rfl rfl ?_
      refine RL.skip rfl rfl rfl ?_
      refine RL.skip rfl rfl rfl ?_
      refine' RL.y rfl rfl rfl ?hy20 ?_
      case hy20 => exact Yl.pickT rfl rfl rfl
      refine' RL.y rfl rfl rfl ?hy21 ?_
      case hy21 => exact Yl.move rfl rfl
      refine RL.skip rfl rfl rfl ?_
      refine RL.skip rfl rfl rfl ?_
      refine RL.skip rfl rfl rfl ?_
      refine RL.skip rfl rfl rfl ?_
      refine RL.skip rfl rfl rfl ?_
      refine' RL.y rfl rfl rfl ?hy22 ?_
      case hy22 => exact Yl.pickT rfl rfl rfl
      refine RL.nil ?_
      refine RE.next ?_
      refine RC.yes rfl rfl ?_
      refine RC.seq ?_
      refine RC.region ?_
      refine' RL.s rfl rfl ?hy23 ?_
      case hy23 => first | exact Ys.store (seg := [.bool false]) (c' := #[.bool false]) rfl rfl rfl (by simp [Value.cells]) (by kernel_rfl) (by simp [Value.oneCell']) foc0 (by simp [Value.cells]) rfl | exact Ys.store (seg := [.bool false]) (c' := #[.bool false]) rfl rfl rfl (by simp [Value.cells]) (by kernel_rfl) (by simp [Value.oneCell']) foc1 (by simp [Value.cells]) rfl | exact Ys.store (seg := [.bool false]) (c' := #[.bool false]) rfl rfl rfl (by simp [Value.cells]) (by kernel_rfl) (by simp [Value.oneCell']) foc2 (by simp [Value.cells]) rfl | exact Ys.store (seg := [.bool false]) (c' := #[.bool false]) rfl rfl rfl (by simp [Value.cells]) (by kernel_rfl) (by simp [Value.oneCell']) foc3 (by simp [Value.cells]) rfl | exact Ys.store (seg := [.bool false]) (c' := #[.bool false]) rfl rfl rfl (by simp [Value.cells]) (by kernel_rfl) (by simp [Value.oneCell']) foc4 (by simp [Value.cells]) rfl
      refine RL.nil ?_
      refine RE.next ?_
      refine RC.ret ?_
      refine RE.thenRet ?_
      first | refine RE.retC rfl rfl (by kernel_rfl) (Hp.cell mem0 rfl) ?_ | refine RE.retC rfl rfl (by kernel_rfl) (Hp.cell mem1 rfl) ?_ | refine RE.retC rfl rfl (by kernel_rfl) (Hp.cell mem2 rfl) ?_ | refine RE.retC rfl rfl (by kernel_rfl) (Hp.cell mem3 rfl) ?_ | refine RE.retC rfl rfl (by kernel_rfl) (Hp.cell mem4 rfl) ?_ | refine RE.retC rfl rfl (by kernel_rfl) (Hp.cell mem5 rfl) ?_ | refine RE.retC rfl rfl (by kernel_rfl) (Hp.cell mem6 rfl) ?_
      exact fun w h => ⟨by rw [held_no1 (fun h => by omega)]; rfl, (h.sub (List.nil_sublist _)).below⟩
    · skip
      (try simp only [decide_eq_true_eq, decide_eq_false_iff_not, beq_iff_eq, beq_eq_false_iff_ne, bne_iff_ne, ne_eq, bne_eq_false_iff_eq, Bool.not_eq_true', Bool.not_eq_false', Int.not_lt, Int.not_le, gt_iff_lt, ge_iff_le] at hs19)
      refine' RL.y rfl rfl rfl ?hy24 ?_
      case hy24 => exact Yl.move rfl rfl
      refine' RL.y rfl rfl rfl ?hy25 ?_
      case hy25 => first | exact Yl.load rfl rfl (by kernel_rfl) (Sl.nw hS (i := 0) rfl (by omega) (by decide)) | exact Yl.load rfl rfl (by kernel_rfl) (Sl.nw hS (i := 1) rfl (by omega) (by decide)) | exact Yl.load rfl rfl (by kernel_rfl) (Sl.nw hS (i := 2) rfl (by omega) (by decide)) | exact Yl.load rfl rfl (by kernel_rfl) (Sl.vw hS2 rfl (by omega) (fun _ h => h)) | exact Yl.load rfl rfl (by kernel_rfl) (Hp.cell mem0 rfl) | exact Yl.load rfl rfl (by kernel_rfl) (Hp.cell mem1 rfl) | exact Yl.load rfl rfl (by kernel_rfl) (Hp.cell mem2 rfl) | exact Yl.load rfl rfl (by kernel_rfl) (Hp.cell mem3 rfl) | exact Yl.load rfl rfl (by kernel_rfl) (Hp.cell mem4 rfl) | exact Yl.load rfl rfl (by kernel_rfl) (Hp.cell mem5 rfl) | exact Yl.load rfl rfl (by kernel_rfl) (Hp.cell mem6 rfl) | exact Yl.load rfl rfl (by kernel_rfl) (Hp.rowAt mem0 (by omega) rfl) | exact Yl.load rfl rfl (by kernel_rfl) (Hp.rowAt mem1 (by omega) rfl) | exact Yl.load rfl rfl (by kernel_rfl) (Hp.rowAt mem2 (by omega) rfl) | exact Yl.load rfl rfl (by kernel_rfl) (Hp.rowAt mem3 (by omega) rfl) | exact Yl.load rfl rfl (by kernel_rfl) (Hp.rowAt mem4 (by omega) rfl) | exact Yl.load rfl rfl (by kernel_rfl) (Hp.rowAt mem5 (by omega) rfl) | exact Yl.load rfl rfl (by kernel_rfl) (Hp.rowAt mem6 (by omega) rfl)
      refine' RL.y rfl rfl rfl ?hy26 ?_
      case hy26 => exact Yl.len rfl rfl Try.underlying22
      refine' RL.y rfl rfl rfl ?hy27 ?_
      case hy27 => exact Yl.bin rfl rfl rfl (Bin.geq _ _ _ _)
      refine' RL.y rfl rfl rfl ?hy28 ?_
      case hy28 => exact Yl.pickF rfl rfl rfl
      refine' RL.y rfl rfl rfl ?hy29 ?_
      case hy29 => exact Yl.move rfl rfl
      refine RL.split (i := 25) rfl (fun hs25 => ?_) (fun hs25 => ?_)
      · skip
        (try simp only [decide_eq_true_eq, decide_eq_false_iff_not, beq_iff_eq, beq_eq_false_iff_ne, bne_iff_ne, ne_eq, bne_eq_false_iff_eq, Bool.not_eq_true', Bool.not_eq_false', Int.not_lt, Int.not_le, gt_iff_lt, ge_iff_le] at hs25)
        refine RL.skip rfl rfl rfl ?_
        refine RL.skip rfl rfl rfl ?_
        refine RL.skip rfl rfl rfl ?_
        refine RL.skip rfl rfl rfl ?_
        refine RL.skip rfl rfl rfl ?_
        refine' RL.y rfl rfl rfl ?hy30 ?_
        case hy30 => exact Yl.pickT rfl rfl rfl
        refine RL.nil ?_
        refine RE.next ?_
        refine RC.yes rfl rfl ?_
        refine RC.seq ?_
        refine RC.region ?_
        refine' RL.s rfl rfl ?hy31 ?_
        case hy31 => first | exact Ys.store (seg := [.bool false]) (c' := #[.bool false]) rfl rfl rfl (by simp [Value.cells]) (by kernel_rfl) (by simp [Value.oneCell']) foc0 (by simp [Value.cells]) rfl | exact Ys.store (seg := [.bool false]) (c' := #[.bool false]) rfl rfl rfl (by simp [Value.cells]) (by kernel_rfl) (by simp [Value.oneCell']) foc1 (by simp [Value.cells]) rfl | exact Ys.store (seg := [.bool false]) (c' := #[.bool false]) rfl rfl rfl (by simp [Value.cells]) (by kernel_rfl) (by simp [Value.oneCell']) foc2 (by simp [Value.cells]) rfl | exact Ys.store (seg := [.bool false]) (c' := #[.bool false]) rfl rfl rfl (by simp [Value.cells]) (by kernel_rfl) (by simp [Value.oneCell']) foc3 (by simp [Value.cells]) rfl | exact Ys.store (seg := [.bool false]) (c' := #[.bool false]) rfl rfl rfl (by simp [Value.cells]) (by kernel_rfl) (by simp [Value.oneCell']) foc4 (by simp [Value.cells]) rfl
        refine RL.nil ?_
        refine RE.next ?_
        refine RC.ret ?_
        refine RE.thenRet ?_
        first | refine RE.retC rfl rfl (by kernel_rfl) (Hp.cell mem0 rfl) ?_ | refine RE.retC rfl rfl (by kernel_rfl) (Hp.cell mem1 rfl) ?_ | refine RE.retC rfl rfl (by kernel_rfl) (Hp.cell mem2 rfl) ?_ | refine RE.retC rfl rfl (by kernel_rfl) (Hp.cell mem3 rfl) ?_ | refine RE.retC rfl rfl (by kernel_rfl) (Hp.cell mem4 rfl) ?_ | refine RE.retC rfl rfl (by kernel_rfl) (Hp.cell mem5 rfl) ?_ | refine RE.retC rfl rfl (by kernel_rfl) (Hp.cell mem6 rfl) ?_
        exact fun w h => ⟨by rw [held_no1 (fun h => by omega)]; rfl, (h.sub (List.nil_sublist _)).below⟩
      · skip
        (try simp only [decide_eq_true_eq, decide_eq_false_iff_not, beq_iff_eq, beq_eq_false_iff_ne, bne_iff_ne, ne_eq, bne_eq_false_iff_eq, Bool.not_eq_true', Bool.not_eq_false', Int.not_lt, Int.not_le, gt_iff_lt, ge_iff_le] at hs25)
        refine' RL.y rfl rfl rfl ?hy32 ?_
        case hy32 => first | exact Yl.load rfl rfl (by kernel_rfl) (Sl.nw hS (i := 0) rfl (by omega) (by decide)) | exact Yl.load rfl rfl (by kernel_rfl) (Sl.nw hS (i := 1) rfl (by omega) (by decide)) | exact Yl.load rfl rfl (by kernel_rfl) (Sl.nw hS (i := 2) rfl (by omega) (by decide)) | exact Yl.load rfl rfl (by kernel_rfl) (Sl.vw hS2 rfl (by omega) (fun _ h => h)) | exact Yl.load rfl rfl (by kernel_rfl) (Hp.cell mem0 rfl) | exact Yl.load rfl rfl (by kernel_rfl) (Hp.cell mem1 rfl) | exact Yl.load rfl rfl (by kernel_rfl) (Hp.cell mem2 rfl) | exact Yl.load rfl rfl (by kernel_rfl) (Hp.cell mem3 rfl) | exact Yl.load rfl rfl (by kernel_rfl) (Hp.cell mem4 rfl) | exact Yl.load rfl rfl (by kernel_rfl) (Hp.cell mem5 rfl) | exact Yl.load rfl rfl (by kernel_rfl) (Hp.cell mem6 rfl) | exact Yl.load rfl rfl (by kernel_rfl) (Hp.rowAt mem0 (by omega) rfl) | exact Yl.load rfl rfl (by kernel_rfl) (Hp.rowAt mem1 (by omega) rfl) | exact Yl.load rfl rfl (by kernel_rfl) (Hp.rowAt mem2 (by omega) rfl) | exact Yl.load rfl rfl (by kernel_rfl) (Hp.rowAt mem3 (by omega) rfl) | exact Yl.load rfl rfl (by kernel_rfl) (Hp.rowAt mem4 (by omega) rfl) | exact Yl.load rfl rfl (by kernel_rfl) (Hp.rowAt mem5 (by omega) rfl) | exact Yl.load rfl rfl (by kernel_rfl) (Hp.rowAt mem6 (by omega) rfl)
        refine' RL.y rfl rfl rfl ?hy33 ?_
        case hy33 => exact Yl.move rfl rfl
        refine' RL.y rfl rfl rfl ?hy34 ?_
        case hy34 => exact Yl.move rfl rfl
        refine' RL.c rfl rfl rfl ?hy35 ?_
        case hy35 => exact Yc.call rfl Try.func23 (by kernel_rfl) rfl rfl (Hp.calls (fun w h => k_below w (hS.below h.below) hv (by omega) (by omega) ht0))
        intro _
        refine' RL.y rfl rfl rfl ?hy36 ?_
        case hy36 => exact Yl.not rfl rfl
        refine' RL.y rfl rfl rfl ?hy37 ?_
        case hy37 => exact Yl.pickF rfl rfl rfl
        refine RL.nil ?_
        refine RE.next ?_
        refine RC.cond rfl (fun hs31 => ?_) (fun hs31 => ?_)
        · skip
          (try simp only [decide_eq_true_eq, decide_eq_false_iff_not, beq_iff_eq, beq_eq_false_iff_ne, bne_iff_ne, ne_eq, bne_eq_false_iff_eq, Bool.not_eq_true', Bool.not_eq_false', Int.not_lt, Int.not_le, gt_iff_lt, ge_iff_le] at hs31)
          refine RC.seq ?_
          refine RC.region ?_
          refine' RL.s rfl rfl ?hy38 ?_
          case hy38 => first | exact Ys.store (seg := [.bool false]) (c' := #[.bool false]) rfl rfl rfl (by simp [Value.cells]) (by kernel_rfl) (by simp [Value.oneCell']) foc0 (by simp [Value.cells]) rfl | exact Ys.store (seg := [.bool false]) (c' := #[.bool false]) rfl rfl rfl (by simp [Value.cells]) (by kernel_rfl) (by simp [Value.oneCell']) foc1 (by simp [Value.cells]) rfl | exact Ys.store (seg := [.bool false]) (c' := #[.bool false]) rfl rfl rfl (by simp [Value.cells]) (by kernel_rfl) (by simp [Value.oneCell']) foc2 (by simp [Value.cells]) rfl | exact Ys.store (seg := [.bool false]) (c' := #[.bool false]) rfl rfl rfl (by simp [Value.cells]) (by kernel_rfl) (by simp [Value.oneCell']) foc3 (by simp [Value.cells]) rfl | exact Ys.store (seg := [.bool false]) (c' := #[.bool false]) rfl rfl rfl (by simp [Value.cells]) (by kernel_rfl) (by simp [Value.oneCell']) foc4 (by simp [Value.cells]) rfl
          refine RL.nil ?_
          refine RE.next ?_
          refine RC.ret ?_
          refine RE.thenRet ?_
          first | refine RE.retC rfl rfl (by kernel_rfl) (Hp.cell mem0 rfl) ?_ | refine RE.retC rfl rfl (by kernel_rfl) (Hp.cell mem1 rfl) ?_ | refine RE.retC rfl rfl (by kernel_rfl) (Hp.cell mem2 rfl) ?_ | refine RE.retC rfl rfl (by kernel_rfl) (Hp.cell mem3 rfl) ?_ | refine RE.retC rfl rfl (by kernel_rfl) (Hp.cell mem4 rfl) ?_ | refine RE.retC rfl rfl (by kernel_rfl) (Hp.cell mem5 rfl) ?_ | refine RE.retC rfl rfl (by kernel_rfl) (Hp.cell mem6 rfl) ?_
          exact fun w h => ⟨by rw [held_no2 (by simpa using hs31)]; rfl, (h.sub (List.nil_sublist _)).below⟩
        · skip
          (try simp only [decide_eq_true_eq, decide_eq_false_iff_not, beq_iff_eq, beq_eq_false_iff_ne, bne_iff_ne, ne_eq, bne_eq_false_iff_eq, Bool.not_eq_true', Bool.not_eq_false', Int.not_lt, Int.not_le, gt_iff_lt, ge_iff_le] at hs31)
          have hbl : blV f t (m + 1) g = true := by simpa using hs31
          have hg0 : 0 ≤ g := by omega
          have hg1 : g < m := by omega
          have hall := (bl_iff hv ht0 (m + 1) g (by omega) hg1 (by omega)).1 hbl
          have hhd := hd_iff (e := ef) hv ht0 (m + 1) g (by omega) hg1 (by omega) hall
          obtain ⟨b, o, rfl⟩ := Sl.some2 hS (by rw [Nw_length]; omega)
          obtain ⟨b2, o2, rfl⟩ := Sl.some2 hS2 (by rw [Vw_length]; omega)
          refine RC.skip ?_
          refine RE.next ?_
          refine RC.seq ?_
          refine RC.seq ?_
          refine RC.region ?_
          refine' RL.y rfl rfl rfl ?hy39 ?_
          case hy39 => first | exact Yl.load rfl rfl (by kernel_rfl) (Sl.nw hS (i := 0) rfl (by omega) (by decide)) | exact Yl.load rfl rfl (by kernel_rfl) (Sl.nw hS (i := 1) rfl (by omega) (by decide)) | exact Yl.load rfl rfl (by kernel_rfl) (Sl.nw hS (i := 2) rfl (by omega) (by decide)) | exact Yl.load rfl rfl (by kernel_rfl) (Sl.vw hS2 rfl (by omega) (fun _ h => h)) | exact Yl.load rfl rfl (by kernel_rfl) (Hp.cell mem0 rfl) | exact Yl.load rfl rfl (by kernel_rfl) (Hp.cell mem1 rfl) | exact Yl.load rfl rfl (by kernel_rfl) (Hp.cell mem2 rfl) | exact Yl.load rfl rfl (by kernel_rfl) (Hp.cell mem3 rfl) | exact Yl.load rfl rfl (by kernel_rfl) (Hp.cell mem4 rfl) | exact Yl.load rfl rfl (by kernel_rfl) (Hp.cell mem5 rfl) | exact Yl.load rfl rfl (by kernel_rfl) (Hp.cell mem6 rfl) | exact Yl.load rfl rfl (by kernel_rfl) (Hp.rowAt mem0 (by omega) rfl) | exact Yl.load rfl rfl (by kernel_rfl) (Hp.rowAt mem1 (by omega) rfl) | exact Yl.load rfl rfl (by kernel_rfl) (Hp.rowAt mem2 (by omega) rfl) | exact Yl.load rfl rfl (by kernel_rfl) (Hp.rowAt mem3 (by omega) rfl) | exact Yl.load rfl rfl (by kernel_rfl) (Hp.rowAt mem4 (by omega) rfl) | exact Yl.load rfl rfl (by kernel_rfl) (Hp.rowAt mem5 (by omega) rfl) | exact Yl.load rfl rfl (by kernel_rfl) (Hp.rowAt mem6 (by omega) rfl)
          refine' RL.y rfl rfl rfl ?hy40 ?_
          case hy40 => exact Yl.move rfl rfl
          refine' RL.y rfl rfl rfl ?hy41 ?_
          case hy41 => exact Yl.move rfl rfl
          refine' RL.c rfl rfl rfl ?hy42 ?_
          case hy42 => exact Yc.call rfl Try.func30 (by kernel_rfl) rfl rfl (Hp.news (fun w h => k_up w (some ⟨b, o, none⟩) m cp g t))
          intro ⟨pg, pt, pl⟩
          dsimp only
          refine RL.nil ?_
          refine RE.next ?_
          refine RC.block ?_
          refine RC.range (H := fun i => [pureR (∀ j, j < i → ¬ (f (sq f g j).toNat).2.1 ≤ ef (sq f g j).toNat) (blk b8 (.cells #[.bool false] 4 (0, 0))), blk b5 (.cells #[.slice (some ⟨b2, o2, none⟩) k cq] 25 (0, 0)), blk b4 (.cells #[.slice (some ⟨b, o, none⟩) m cp] 22 (0, 0))]) (σ := Unit) (fun s => ∃ j, j < nU f t (m + 1) g ∧ (f (sq f g j).toNat).2.1 ≤ ef (sq f g j).toNat) (fun s => [blk b8 (.cells #[.bool true] 4 (0, 0)), blk b5 (.cells #[.slice (some ⟨b2, o2, none⟩) k cq] 25 (0, 0)), blk b4 (.cells #[.slice (some ⟨b, o, none⟩) m cp] 22 (0, 0))]) (N := nU f t (m + 1) g) (xs := fun i => [.int .i64 (sq f g i)]) (It := fun i => upR pg pt pl (sq f g i) t (some ⟨b, o, none⟩) m cp) rfl Try.func33 rfl rfl (it_up hS hv hg0 hg1 ht0) (fun _ => rfl) rfl (fun w h => (Hp.swap (Hp.topure (φ := ∀ j, j < 0 → ¬ (f (sq f g j).toNat).2.1 ≤ ef (sq f g j).toNat) (fun j hj => by omega) (Hp.swap h)))) ?hx43 ?hy43 ?hz43
          case hx43 =>
            intro i hi l d rc
            have hi0 : 0 ≤ sq f g i := hall i hi
            have hi1 : sq f g i < m := (sq_in hv hg0 hg1 i).2
            refine RC.region ?_
            refine' RL.y rfl rfl rfl ?hy44 ?_
            case hy44 => exact Yl.assign rfl rfl
            refine RL.nil ?_
            refine RE.begin_ ?_
            refine RC.block ?_
            refine RC.seq ?_
            refine RC.draw (k := 10) _ [] #[false, false, false, false, false, false, false, false, false, false] (by kernel_rfl) rfl rfl (fun _ h => h.drew) (fun _ h => h) (by kernel_rfl) (by rintro ⟨_, _, h⟩; first | exact h | cases h.1) ?_
            refine' TA.y (i := 0) #[true, false, false, false, false, false, false, false, false, false] rfl rfl rfl (by kernel_rfl) (fun _ _ _ h => h) (fun _ h => by exact Hp.sub h (by repeat (first | exact List.Sublist.refl _ | apply List.Sublist.cons))) rfl ?hy45 ?_
            case hy45 => first | exact Yl.load rfl rfl (by kernel_rfl) (Sl.nw hS (i := 0) rfl (by omega) (by decide)) | exact Yl.load rfl rfl (by kernel_rfl) (Sl.nw hS (i := 1) rfl (by omega) (by decide)) | exact Yl.load rfl rfl (by kernel_rfl) (Sl.nw hS (i := 2) rfl (by omega) (by decide)) | exact Yl.load rfl rfl (by kernel_rfl) (Sl.vw hS2 rfl (by omega) (fun _ h => h)) | exact Yl.load rfl rfl (by kernel_rfl) (Hp.cell mem0 rfl) | exact Yl.load rfl rfl (by kernel_rfl) (Hp.cell mem1 rfl) | exact Yl.load rfl rfl (by kernel_rfl) (Hp.cell mem2 rfl) | exact Yl.load rfl rfl (by kernel_rfl) (Hp.cell mem3 rfl) | exact Yl.load rfl rfl (by kernel_rfl) (Hp.cell mem4 rfl) | exact Yl.load rfl rfl (by kernel_rfl) (Hp.cell mem5 rfl) | exact Yl.load rfl rfl (by kernel_rfl) (Hp.cell mem6 rfl) | exact Yl.load rfl rfl (by kernel_rfl) (Hp.rowAt mem0 (by omega) rfl) | exact Yl.load rfl rfl (by kernel_rfl) (Hp.rowAt mem1 (by omega) rfl) | exact Yl.load rfl rfl (by kernel_rfl) (Hp.rowAt mem2 (by omega) rfl) | exact Yl.load rfl rfl (by kernel_rfl) (Hp.rowAt mem3 (by omega) rfl) | exact Yl.load rfl rfl (by kernel_rfl) (Hp.rowAt mem4 (by omega) rfl) | exact Yl.load rfl rfl (by kernel_rfl) (Hp.rowAt mem5 (by omega) rfl) | exact Yl.load rfl rfl (by kernel_rfl) (Hp.rowAt mem6 (by omega) rfl)
            refine' TA.y (i := 1) #[true, true, false, false, false, false, false, false, false, false] rfl rfl rfl (by kernel_rfl) (fun _ _ _ h => h) (fun _ h => by exact Hp.sub h (by repeat (first | exact List.Sublist.refl _ | apply List.Sublist.cons))) rfl ?hy46 ?_
            case hy46 => exact Yl.move rfl rfl
            refine' TA.y (i := 2) #[true, true, true, false, false, false, false, false, false, false] rfl rfl rfl (by kernel_rfl) (fun _ _ _ h => h) (fun _ h => by exact Hp.sub h (by repeat (first | exact List.Sublist.refl _ | apply List.Sublist.cons))) rfl ?hy47 ?_
            case hy47 => first | exact Yl.ixkn (k := 3) rfl rfl rfl Try.underlying22 (by kernel_rfl) (by omega) | exact Yl.ixkz (k := 3) rfl rfl rfl Try.underlying22 (by kernel_rfl) (by omega) (by omega)
            refine' TA.y (i := 3) #[true, true, true, true, false, false, false, false, false, false] rfl rfl rfl (by kernel_rfl) (fun _ _ _ h => h) (fun _ h => by exact Hp.sub h (by repeat (first | exact List.Sublist.refl _ | apply List.Sublist.cons))) rfl ?hy48 ?_
            case hy48 => first | exact Yl.field0 (k := 0) 1 rfl rfl Try.underlying38 rfl (by kernel_rfl) rfl | exact Yl.field (k := 0) 1 rfl rfl Try.underlying38 rfl (by kernel_rfl) rfl
            refine' TA.y (i := 4) #[true, true, true, true, true, false, false, false, false, false] rfl rfl rfl (by kernel_rfl) (fun _ _ _ h => h) (fun _ h => by exact Hp.sub h (by repeat (first | exact List.Sublist.refl _ | apply List.Sublist.cons))) rfl ?hy49 ?_
            case hy49 => first | exact Yl.load rfl rfl (by kernel_rfl) (Sl.nw hS (i := 0) rfl (by omega) (by decide)) | exact Yl.load rfl rfl (by kernel_rfl) (Sl.nw hS (i := 1) rfl (by omega) (by decide)) | exact Yl.load rfl rfl (by kernel_rfl) (Sl.nw hS (i := 2) rfl (by omega) (by decide)) | exact Yl.load rfl rfl (by kernel_rfl) (Sl.vw hS2 rfl (by omega) (fun _ h => h)) | exact Yl.load rfl rfl (by kernel_rfl) (Hp.cell mem0 rfl) | exact Yl.load rfl rfl (by kernel_rfl) (Hp.cell mem1 rfl) | exact Yl.load rfl rfl (by kernel_rfl) (Hp.cell mem2 rfl) | exact Yl.load rfl rfl (by kernel_rfl) (Hp.cell mem3 rfl) | exact Yl.load rfl rfl (by kernel_rfl) (Hp.cell mem4 rfl) | exact Yl.load rfl rfl (by kernel_rfl) (Hp.cell mem5 rfl) | exact Yl.load rfl rfl (by kernel_rfl) (Hp.cell mem6 rfl) | exact Yl.load rfl rfl (by kernel_rfl) (Hp.rowAt mem0 (by omega) rfl) | exact Yl.load rfl rfl (by kernel_rfl) (Hp.rowAt mem1 (by omega) rfl) | exact Yl.load rfl rfl (by kernel_rfl) (Hp.rowAt mem2 (by omega) rfl) | exact Yl.load rfl rfl (by kernel_rfl) (Hp.rowAt mem3 (by omega) rfl) | exact Yl.load rfl rfl (by kernel_rfl) (Hp.rowAt mem4 (by omega) rfl) | exact Yl.load rfl rfl (by kernel_rfl) (Hp.rowAt mem5 (by omega) rfl) | exact Yl.load rfl rfl (by kernel_rfl) (Hp.rowAt mem6 (by omega) rfl)
            refine TA.re (i := 41) (v' := .int .i64 (f (sq f g i).toNat).2.1) rfl rfl ?_
            refine' TA.y (i := 5) #[true, true, true, true, true, true, false, false, false, false] rfl rfl rfl (by kernel_rfl) (fun _ _ _ h => h) (fun _ h => by exact Hp.sub h (by repeat (first | exact List.Sublist.refl _ | apply List.Sublist.cons))) rfl ?hy50 ?_
            case hy50 => first | exact Yl.load rfl rfl (by kernel_rfl) (Sl.nw hS (i := 0) rfl (by omega) (by decide)) | exact Yl.load rfl rfl (by kernel_rfl) (Sl.nw hS (i := 1) rfl (by omega) (by decide)) | exact Yl.load rfl rfl (by kernel_rfl) (Sl.nw hS (i := 2) rfl (by omega) (by decide)) | exact Yl.load rfl rfl (by kernel_rfl) (Sl.vw hS2 rfl (by omega) (fun _ h => h)) | exact Yl.load rfl rfl (by kernel_rfl) (Hp.cell mem0 rfl) | exact Yl.load rfl rfl (by kernel_rfl) (Hp.cell mem1 rfl) | exact Yl.load rfl rfl (by kernel_rfl) (Hp.cell mem2 rfl) | exact Yl.load rfl rfl (by kernel_rfl) (Hp.cell mem3 rfl) | exact Yl.load rfl rfl (by kernel_rfl) (Hp.cell mem4 rfl) | exact Yl.load rfl rfl (by kernel_rfl) (Hp.cell mem5 rfl) | exact Yl.load rfl rfl (by kernel_rfl) (Hp.cell mem6 rfl) | exact Yl.load rfl rfl (by kernel_rfl) (Hp.rowAt mem0 (by omega) rfl) | exact Yl.load rfl rfl (by kernel_rfl) (Hp.rowAt mem1 (by omega) rfl) | exact Yl.load rfl rfl (by kernel_rfl) (Hp.rowAt mem2 (by omega) rfl) | exact Yl.load rfl rfl (by kernel_rfl) (Hp.rowAt mem3 (by omega) rfl) | exact Yl.load rfl rfl (by kernel_rfl) (Hp.rowAt mem4 (by omega) rfl) | exact Yl.load rfl rfl (by kernel_rfl) (Hp.rowAt mem5 (by omega) rfl) | exact Yl.load rfl rfl (by kernel_rfl) (Hp.rowAt mem6 (by omega) rfl)
            refine' TA.y (i := 6) #[true, true, true, true, true, true, true, false, false, false] rfl rfl rfl (by kernel_rfl) (fun _ _ _ h => h) (fun _ h => by exact Hp.sub h (by repeat (first | exact List.Sublist.refl _ | apply List.Sublist.cons))) rfl ?hy51 ?_
            case hy51 => exact Yl.move rfl rfl
            refine' TA.y (i := 7) #[true, true, true, true, true, true, true, true, false, false] rfl rfl rfl (by kernel_rfl) (fun _ _ _ h => h) (fun _ h => by exact Hp.sub h (by repeat (first | exact List.Sublist.refl _ | apply List.Sublist.cons))) rfl ?hy52 ?_
            case hy52 => exact Yl.ixcz rfl rfl rfl Try.underlying25 (by kernel_rfl) (by omega) (by omega)
            refine' TA.y (i := 8) #[true, true, true, true, true, true, true, true, true, false] rfl rfl rfl (by kernel_rfl) (fun _ _ _ h => h) (fun _ h => by exact Hp.sub h (by repeat (first | exact List.Sublist.refl _ | apply List.Sublist.cons))) rfl ?hy53 ?_
            case hy53 => first | exact Yl.load rfl rfl (by kernel_rfl) (Sl.nw hS (i := 0) rfl (by omega) (by decide)) | exact Yl.load rfl rfl (by kernel_rfl) (Sl.nw hS (i := 1) rfl (by omega) (by decide)) | exact Yl.load rfl rfl (by kernel_rfl) (Sl.nw hS (i := 2) rfl (by omega) (by decide)) | exact Yl.load rfl rfl (by kernel_rfl) (Sl.vw hS2 rfl (by omega) (fun _ h => h)) | exact Yl.load rfl rfl (by kernel_rfl) (Hp.cell mem0 rfl) | exact Yl.load rfl rfl (by kernel_rfl) (Hp.cell mem1 rfl) | exact Yl.load rfl rfl (by kernel_rfl) (Hp.cell mem2 rfl) | exact Yl.load rfl rfl (by kernel_rfl) (Hp.cell mem3 rfl) | exact Yl.load rfl rfl (by kernel_rfl) (Hp.cell mem4 rfl) | exact Yl.load rfl rfl (by kernel_rfl) (Hp.cell mem5 rfl) | exact Yl.load rfl rfl (by kernel_rfl) (Hp.cell mem6 rfl) | exact Yl.load rfl rfl (by kernel_rfl) (Hp.rowAt mem0 (by omega) rfl) | exact Yl.load rfl rfl (by kernel_rfl) (Hp.rowAt mem1 (by omega) rfl) | exact Yl.load rfl rfl (by kernel_rfl) (Hp.rowAt mem2 (by omega) rfl) | exact Yl.load rfl rfl (by kernel_rfl) (Hp.rowAt mem3 (by omega) rfl) | exact Yl.load rfl rfl (by kernel_rfl) (Hp.rowAt mem4 (by omega) rfl) | exact Yl.load rfl rfl (by kernel_rfl) (Hp.rowAt mem5 (by omega) rfl) | exact Yl.load rfl rfl (by kernel_rfl) (Hp.rowAt mem6 (by omega) rfl)
            refine' TA.y (i := 9) #[true, true, true, true, true, true, true, true, true, true] rfl rfl rfl (by kernel_rfl) (fun _ _ _ h => h) (fun _ h => by exact Hp.sub h (by repeat (first | exact List.Sublist.refl _ | apply List.Sublist.cons))) rfl ?hy54 ?_
            case hy54 => exact Yl.bin rfl rfl rfl (Bin.leq _ _ _ _)
            refine TA.done (by kernel_rfl) (RE.toTE ?_)
            refine RE.next ?_
            refine RC.cond rfl (fun hs46 => ?_) (fun hs46 => ?_)
            · skip
              (try simp only [decide_eq_true_eq, decide_eq_false_iff_not, beq_iff_eq, beq_eq_false_iff_ne, bne_iff_ne, ne_eq, bne_eq_false_iff_eq, Bool.not_eq_true', Bool.not_eq_false', Int.not_lt, Int.not_le, gt_iff_lt, ge_iff_le] at hs46)
              refine RC.wk (fun w h => (pure3 h).2) ?_
              refine RC.seq ?_
              refine RC.region ?_
              refine' RL.s rfl rfl ?hy55 ?_
              case hy55 => first | exact Ys.store (seg := [.bool true]) (c' := #[.bool true]) rfl rfl rfl (by simp [Value.cells]) (by kernel_rfl) (by simp [Value.oneCell']) foc0 (by simp [Value.cells]) rfl | exact Ys.store (seg := [.bool true]) (c' := #[.bool true]) rfl rfl rfl (by simp [Value.cells]) (by kernel_rfl) (by simp [Value.oneCell']) foc1 (by simp [Value.cells]) rfl | exact Ys.store (seg := [.bool true]) (c' := #[.bool true]) rfl rfl rfl (by simp [Value.cells]) (by kernel_rfl) (by simp [Value.oneCell']) foc2 (by simp [Value.cells]) rfl | exact Ys.store (seg := [.bool true]) (c' := #[.bool true]) rfl rfl rfl (by simp [Value.cells]) (by kernel_rfl) (by simp [Value.oneCell']) foc3 (by simp [Value.cells]) rfl | exact Ys.store (seg := [.bool true]) (c' := #[.bool true]) rfl rfl rfl (by simp [Value.cells]) (by kernel_rfl) (by simp [Value.oneCell']) foc4 (by simp [Value.cells]) rfl
              refine RL.nil ?_
              refine RE.next ?_
              refine RC.ret ?_
              refine RE.inRet ?_
              exact RE.quits (()) (⟨i, hi, by omega⟩) (fun w h => h.sub (.cons_cons _ (.cons_cons _ (.cons _ (List.Sublist.refl _)))))
            · skip
              (try simp only [decide_eq_true_eq, decide_eq_false_iff_not, beq_iff_eq, beq_eq_false_iff_ne, bne_iff_ne, ne_eq, bne_eq_false_iff_eq, Bool.not_eq_true', Bool.not_eq_false', Int.not_lt, Int.not_le, gt_iff_lt, ge_iff_le] at hs46)
              refine RC.skip ?_
              refine RE.inNormal ?_
              exact RE.goes (fun w h => by
                obtain ⟨hp, h⟩ := pure3 h
                exact mkpure3 (fun j hj => by
                  by_cases e : j = i
                  · rw [e]; omega
                  · exact hp j (by omega)) h)
          case hy43 =>
            intro d
            refine RE.fact (fun w h => (pure2 h).1) ?_
            intro hno
            refine RE.wk (fun w h => (pure2 h).2) ?_
            refine RE.inNormal ?_
            refine RE.next ?_
            refine RC.seq ?_
            refine RC.region ?_
            refine' RL.s rfl rfl ?hy56 ?_
            case hy56 => first | exact Ys.store (seg := [.bool false]) (c' := #[.bool false]) rfl rfl rfl (by simp [Value.cells]) (by kernel_rfl) (by simp [Value.oneCell']) foc0 (by simp [Value.cells]) rfl | exact Ys.store (seg := [.bool false]) (c' := #[.bool false]) rfl rfl rfl (by simp [Value.cells]) (by kernel_rfl) (by simp [Value.oneCell']) foc1 (by simp [Value.cells]) rfl | exact Ys.store (seg := [.bool false]) (c' := #[.bool false]) rfl rfl rfl (by simp [Value.cells]) (by kernel_rfl) (by simp [Value.oneCell']) foc2 (by simp [Value.cells]) rfl | exact Ys.store (seg := [.bool false]) (c' := #[.bool false]) rfl rfl rfl (by simp [Value.cells]) (by kernel_rfl) (by simp [Value.oneCell']) foc3 (by simp [Value.cells]) rfl | exact Ys.store (seg := [.bool false]) (c' := #[.bool false]) rfl rfl rfl (by simp [Value.cells]) (by kernel_rfl) (by simp [Value.oneCell']) foc4 (by simp [Value.cells]) rfl
            refine RL.nil ?_
            refine RE.next ?_
            refine RC.ret ?_
            refine RE.mark ?_
            first | refine RE.retC rfl rfl (by kernel_rfl) (Hp.cell mem0 rfl) ?_ | refine RE.retC rfl rfl (by kernel_rfl) (Hp.cell mem1 rfl) ?_ | refine RE.retC rfl rfl (by kernel_rfl) (Hp.cell mem2 rfl) ?_ | refine RE.retC rfl rfl (by kernel_rfl) (Hp.cell mem3 rfl) ?_ | refine RE.retC rfl rfl (by kernel_rfl) (Hp.cell mem4 rfl) ?_ | refine RE.retC rfl rfl (by kernel_rfl) (Hp.cell mem5 rfl) ?_ | refine RE.retC rfl rfl (by kernel_rfl) (Hp.cell mem6 rfl) ?_
            have hfl : hdV f ef t (m + 1) g = false := by
              cases e2 : hdV f ef t (m + 1) g
              · rfl
              · obtain ⟨j, hj1, hj2⟩ := hhd.1 e2; exact absurd hj2 (hno j hj1)
            exact fun w h => ⟨by rw [held_is hr hg0 hg1 hbl, hfl]; rfl, (h.sub (List.nil_sublist _)).below⟩
          case hz43 =>
            intro d s hs
            refine RC.ret ?_
            refine RE.inRet ?_
            refine RE.thenRet ?_
            refine RE.mark ?_
            first | refine RE.retC rfl rfl (by kernel_rfl) (Hp.cell mem0 rfl) ?_ | refine RE.retC rfl rfl (by kernel_rfl) (Hp.cell mem1 rfl) ?_ | refine RE.retC rfl rfl (by kernel_rfl) (Hp.cell mem2 rfl) ?_ | refine RE.retC rfl rfl (by kernel_rfl) (Hp.cell mem3 rfl) ?_ | refine RE.retC rfl rfl (by kernel_rfl) (Hp.cell mem4 rfl) ?_ | refine RE.retC rfl rfl (by kernel_rfl) (Hp.cell mem5 rfl) ?_ | refine RE.retC rfl rfl (by kernel_rfl) (Hp.cell mem6 rfl) ?_
            exact fun w h => ⟨by rw [held_is hr hg0 hg1 hbl, hhd.2 hs]; rfl, (h.sub (List.nil_sublist _)).below⟩
end Go.Proofs.Ytipdpmmjmlimhaa.Pk
