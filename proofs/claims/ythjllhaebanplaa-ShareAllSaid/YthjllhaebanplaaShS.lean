/- The stable sort. -/
import Derived.Test.YthjllhaebanplaaHM
import Derived.Test.YthjllhaebanplaaShA
import Derived.Test.YthjllhaebanplaaShQ
import Derived.Test.YthjllhaebanplaaProg
import Derived.RowKit3
namespace Go.Proofs.Ythjllhaebanplaa.Pk
open Go Go.RowKit Go.Proofs.Ythjllhaebanplaa.HL Go.Proofs.Ythjllhaebanplaa.Ev Go.Proofs.YthjllhaebanplaaW.PrintWords Go.Proofs.ShP
set_option linter.unusedVariables false
set_option linter.unusedSimpArgs false
theorem wadd {a i : Nat} (h : a + i ≤ 9223372036854775807) : IntKind.i64.wrap ((a : Int) + (i : Int)) = ((a + i : Nat) : Int) := by rw [i64in (by omega) (by omega)]; omega
theorem wadd1 {a : Nat} (h : a + 1 ≤ 9223372036854775807) : IntKind.i64.wrap ((a : Int) + 1) = ((a + 1 : Nat) : Int) := by rw [i64in (by omega) (by omega)]; omega
theorem wsub {a i : Nat} (h : i ≤ a) (h2 : a ≤ 9223372036854775807) : IntKind.i64.wrap ((a : Int) - (i : Int)) = ((a - i : Nat) : Int) := by rw [i64in (by omega) (by omega)]; omega
theorem wsub1 {a : Nat} (h : 1 ≤ a) (h2 : a ≤ 9223372036854775807) : IntKind.i64.wrap ((a : Int) - 1) = ((a - 1 : Nat) : Int) := by rw [i64in (by omega) (by omega)]; omega
theorem wu {a : Nat} (h : a ≤ 9223372036854775807) : IntKind.u64.wrap ((a : Nat) : Int) = ((a : Nat) : Int) := by rw [u64in (by omega) (by omega)]
theorem whalf {a : Nat} : ((a : Int)) / 2 ^ min (1 : Int).toNat IntKind.u64.bits = ((a / 2 : Nat) : Int) := by rw [show min (1 : Int).toNat IntKind.u64.bits = 1 from by decide]; omega
theorem wi {a : Nat} (h : a ≤ 9223372036854775807) : IntKind.i64.wrap ((a : Nat) : Int) = ((a : Nat) : Int) := by rw [i64in (by omega) (by omega)]
def stV (f : Nat → E) (q : Nat) : Value := .agg #[.int .i64 (f q).1, .int .u64 (f q).2]
theorem Hp.pureT {P : Program} {W0 : World} {T : Nat → Prop} {H : List Res} {f : FuncId} {args : Array Value} {v : Value} {σ : Type} {φ : σ → Prop} {r : Res} {r' : σ → Res} (h : Turns P f args r (fun _ => v) (fun s => pureR (φ s) (r' s))) : ∀ w, Hp W0 T (r :: H) w → Calls P f args w fun e w' => ∃ s : { s // φ s }, e = .returned v ∧ Hp W0 T (r' s.1 :: H) w' := fun w hw =>
  (h w (hw.all _ mem0)).mono fun e w' ⟨s, h1, h2, h3, h4⟩ => ⟨⟨s, h2.2⟩, h1, hw.turn foc0 h3 h2.1 h4⟩
set_option maxRecDepth 100000 in
set_option maxHeartbeats 2000000 in
theorem k_nan (W : World) (x : Int) : Calls Try.prog 29 #[.int .u64 x] W fun e w' => e = .returned (.bool false) ∧ Below W.heap.size W w' := by
  have hM : Hp W (fun _ => False) [] W := Hp.start
  refine TC.enter (n := 6) Try.func29 rfl rfl rfl hM ?_
  refine TC.seq ?_
  refine TC.region ?_
  refine' TL.y rfl rfl rfl ?hy1 ?_
  case hy1 => exact Yl.assign rfl rfl
  refine TL.nil ?_
  refine TE.next ?_
  refine TC.seq ?_
  refine TC.region ?_
  refine' TL.y rfl rfl rfl ?hy2 ?_
  case hy2 => exact Yl.move rfl rfl
  refine' TL.y rfl rfl rfl ?hy3 ?_
  case hy3 => exact Yl.move rfl rfl
  refine' TL.y rfl rfl rfl ?hy4 ?_
  case hy4 => exact Yl.bin rfl rfl rfl (Bin.neq _ _ _ _)
  refine' TL.y rfl rfl rfl ?hy5 ?_
  case hy5 => exact Yl.assign rfl rfl
  refine TL.nil ?_
  refine TE.next ?_
  refine TC.ret ?_
  refine TE.ret1 rfl rfl ?_
  exact fun w h => ⟨by simp, h.below⟩
set_option maxRecDepth 100000 in
set_option maxHeartbeats 2000000 in
theorem k_compare (W : World) (x y : Int) : Calls Try.prog 23 #[.int .u64 x, .int .u64 y] W fun e w' => e = .returned (.int .i64 (cmpI y x)) ∧ Below W.heap.size W w' := by
  have hM : Hp W (fun _ => False) [] W := Hp.start
  refine TC.enter (n := 20) Try.func23 rfl rfl rfl hM ?_
  refine TC.seq ?_
  refine TC.region ?_
  refine' TL.y rfl rfl rfl ?hy1 ?_
  case hy1 => exact Yl.assign rfl rfl
  refine TL.nil ?_
  refine TE.next ?_
  refine TC.seq ?_
  refine TC.region ?_
  refine' TL.y rfl rfl rfl ?hy2 ?_
  case hy2 => exact Yl.move rfl rfl
  refine' TL.c rfl rfl rfl ?hy3 ?_
  case hy3 => exact Yc.call rfl Try.func29 (by kernel_rfl) rfl rfl (Hp.calls (fun w h => k_nan w _))
  intro _
  refine' TL.y rfl rfl rfl ?hy4 ?_
  case hy4 => exact Yl.assign rfl rfl
  refine TL.nil ?_
  refine TE.next ?_
  refine TC.seq ?_
  refine TC.region ?_
  refine' TL.y rfl rfl rfl ?hy5 ?_
  case hy5 => exact Yl.move rfl rfl
  refine' TL.c rfl rfl rfl ?hy6 ?_
  case hy6 => exact Yc.call rfl Try.func29 (by kernel_rfl) rfl rfl (Hp.calls (fun w h => k_nan w _))
  intro _
  refine' TL.y rfl rfl rfl ?hy7 ?_
  case hy7 => exact Yl.assign rfl rfl
  refine TL.nil ?_
  refine TE.next ?_
  refine TC.seq ?_
  refine TC.seq ?_
  refine TC.region ?_
  refine' TL.y rfl rfl rfl ?hy8 ?_
  case hy8 => exact Yl.move rfl rfl
  refine TL.nil ?_
  refine TE.next ?_
  refine TC.no rfl rfl ?_
  refine TC.skip ?_
  refine TE.next ?_
  refine TC.seq ?_
  refine TC.seq ?_
  refine TC.region ?_
  refine' TL.y rfl rfl rfl ?hy9 ?_
  case hy9 => exact Yl.move rfl rfl
  refine TL.nil ?_
  refine TE.next ?_
  refine TC.no rfl rfl ?_
  refine TC.skip ?_
  refine TE.next ?_
  refine TC.seq ?_
  refine TC.seq ?_
  refine TC.region ?_
  refine' TL.y rfl rfl rfl ?hy10 ?_
  case hy10 => exact Yl.move rfl rfl
  refine' TL.y rfl rfl rfl ?hy11 ?_
  case hy11 => exact Yl.move rfl rfl
  refine' TL.y rfl rfl rfl ?hy12 ?_
  case hy12 => exact Yl.bin rfl rfl rfl (Bin.lss _ _ _ _)
  refine TL.nil ?_
  refine TE.next ?_
  refine TC.cond rfl (fun hs16 => ?_) (fun hs16 => ?_)
  · skip
    (try simp only [decide_eq_true_eq, decide_eq_false_iff_not, beq_iff_eq, beq_eq_false_iff_ne, bne_iff_ne, ne_eq, bne_eq_false_iff_eq, Bool.not_eq_true', Bool.not_eq_false', Int.not_lt, Int.not_le, gt_iff_lt, ge_iff_le] at hs16)
    refine TC.seq ?_
    refine TC.region ?_
    refine' TL.y rfl rfl rfl ?hy13 ?_
    case hy13 => exact Yl.assign rfl rfl
    refine TL.nil ?_
    refine TE.next ?_
    refine TC.ret ?_
    refine TE.thenRet ?_
    refine TE.ret1 rfl rfl ?_
    exact fun w h => ⟨by unfold cmpI; rw [if_pos hs16], h.below⟩
  · skip
    (try simp only [decide_eq_true_eq, decide_eq_false_iff_not, beq_iff_eq, beq_eq_false_iff_ne, bne_iff_ne, ne_eq, bne_eq_false_iff_eq, Bool.not_eq_true', Bool.not_eq_false', Int.not_lt, Int.not_le, gt_iff_lt, ge_iff_le] at hs16)
    refine TC.skip ?_
    refine TE.next ?_
    refine TC.seq ?_
    refine TC.seq ?_
    refine TC.region ?_
    refine' TL.y rfl rfl rfl ?hy14 ?_
    case hy14 => exact Yl.move rfl rfl
    refine' TL.y rfl rfl rfl ?hy15 ?_
    case hy15 => exact Yl.move rfl rfl
    refine' TL.y rfl rfl rfl ?hy16 ?_
    case hy16 => exact Yl.bin rfl rfl rfl (Bin.gtr _ _ _ _)
    refine TL.nil ?_
    refine TE.next ?_
    refine TC.cond rfl (fun hs19 => ?_) (fun hs19 => ?_)
    · skip
      (try simp only [decide_eq_true_eq, decide_eq_false_iff_not, beq_iff_eq, beq_eq_false_iff_ne, bne_iff_ne, ne_eq, bne_eq_false_iff_eq, Bool.not_eq_true', Bool.not_eq_false', Int.not_lt, Int.not_le, gt_iff_lt, ge_iff_le] at hs19)
      refine TC.seq ?_
      refine TC.region ?_
      refine' TL.y rfl rfl rfl ?hy17 ?_
      case hy17 => exact Yl.assign rfl rfl
      refine TL.nil ?_
      refine TE.next ?_
      refine TC.ret ?_
      refine TE.thenRet ?_
      refine TE.ret1 rfl rfl ?_
      exact fun w h => ⟨by unfold cmpI; rw [if_neg (by omega), if_pos hs19], h.below⟩
    · skip
      (try simp only [decide_eq_true_eq, decide_eq_false_iff_not, beq_iff_eq, beq_eq_false_iff_ne, bne_iff_ne, ne_eq, bne_eq_false_iff_eq, Bool.not_eq_true', Bool.not_eq_false', Int.not_lt, Int.not_le, gt_iff_lt, ge_iff_le] at hs19)
      refine TC.skip ?_
      refine TE.next ?_
      refine TC.seq ?_
      refine TC.region ?_
      refine' TL.y rfl rfl rfl ?hy18 ?_
      case hy18 => exact Yl.assign rfl rfl
      refine TL.nil ?_
      refine TE.next ?_
      refine TC.ret ?_
      refine TE.ret1 rfl rfl ?_
      exact fun w h => ⟨by unfold cmpI; rw [if_neg (by omega), if_neg (by omega)], h.below⟩
set_option maxRecDepth 100000 in
set_option maxHeartbeats 2000000 in
theorem k_cmp (W : World) (a0 a1 b0 b1 : Int) : Calls Try.prog 22 #[.agg #[.int .i64 a0, .int .u64 a1], .agg #[.int .i64 b0, .int .u64 b1]] W fun e w' => e = .returned (.int .i64 (cmpI a1 b1)) ∧ Below W.heap.size W w' := by
  have hM : Hp W (fun _ => False) [] W := Hp.start
  refine TC.enter (n := 10) Try.func22 rfl rfl rfl hM ?_
  refine TC.seq ?_
  refine TC.region ?_
  refine' TL.mx rfl rfl rfl ?hy1 ?_
  case hy1 => exact Ym.box rfl rfl
  intro b2
  refine' TL.mx rfl rfl rfl ?hy2 ?_
  case hy2 => exact Ym.box rfl rfl
  intro b3
  refine' TL.y rfl rfl rfl ?hy3 ?_
  case hy3 => exact Yl.assign rfl rfl
  refine TL.nil ?_
  refine TE.next ?_
  refine TC.seq ?_
  refine TC.region ?_
  refine' TL.y rfl rfl rfl ?hy4 ?_
  case hy4 => first | exact Yl.field0 (k := 0) 1 rfl rfl Try.underlying35 rfl (by kernel_rfl) rfl | exact Yl.field (k := 0) 1 rfl rfl Try.underlying35 rfl (by kernel_rfl) rfl
  refine' TL.y rfl rfl rfl ?hy5 ?_
  case hy5 => first | exact Yl.load rfl rfl (by kernel_rfl) (Hp.cell mem0 rfl) | exact Yl.load rfl rfl (by kernel_rfl) (Hp.cell mem1 rfl) | exact Yl.load rfl rfl (by kernel_rfl) (Hp.cell mem2 rfl) | exact Yl.load rfl rfl (by kernel_rfl) (Hp.cell mem3 rfl) | exact Yl.load rfl rfl (by kernel_rfl) (Hp.cell mem4 rfl) | exact Yl.load rfl rfl (by kernel_rfl) (Hp.rowAt mem0 (by omega) rfl) | exact Yl.load rfl rfl (by kernel_rfl) (Hp.rowAt mem1 (by omega) rfl) | exact Yl.load rfl rfl (by kernel_rfl) (Hp.rowAt mem2 (by omega) rfl) | exact Yl.load rfl rfl (by kernel_rfl) (Hp.rowAt mem3 (by omega) rfl) | exact Yl.load rfl rfl (by kernel_rfl) (Hp.rowAt mem4 (by omega) rfl)
  refine' TL.y rfl rfl rfl ?hy6 ?_
  case hy6 => first | exact Yl.field0 (k := 0) 1 rfl rfl Try.underlying35 rfl (by kernel_rfl) rfl | exact Yl.field (k := 0) 1 rfl rfl Try.underlying35 rfl (by kernel_rfl) rfl
  refine' TL.y rfl rfl rfl ?hy7 ?_
  case hy7 => first | exact Yl.load rfl rfl (by kernel_rfl) (Hp.cell mem0 rfl) | exact Yl.load rfl rfl (by kernel_rfl) (Hp.cell mem1 rfl) | exact Yl.load rfl rfl (by kernel_rfl) (Hp.cell mem2 rfl) | exact Yl.load rfl rfl (by kernel_rfl) (Hp.cell mem3 rfl) | exact Yl.load rfl rfl (by kernel_rfl) (Hp.cell mem4 rfl) | exact Yl.load rfl rfl (by kernel_rfl) (Hp.rowAt mem0 (by omega) rfl) | exact Yl.load rfl rfl (by kernel_rfl) (Hp.rowAt mem1 (by omega) rfl) | exact Yl.load rfl rfl (by kernel_rfl) (Hp.rowAt mem2 (by omega) rfl) | exact Yl.load rfl rfl (by kernel_rfl) (Hp.rowAt mem3 (by omega) rfl) | exact Yl.load rfl rfl (by kernel_rfl) (Hp.rowAt mem4 (by omega) rfl)
  refine' TL.c rfl rfl rfl ?hy8 ?_
  case hy8 => exact Yc.call rfl Try.func23 (by kernel_rfl) rfl rfl (Hp.calls (fun w h => k_compare w _ _))
  intro _
  refine' TL.y rfl rfl rfl ?hy9 ?_
  case hy9 => exact Yl.assign rfl rfl
  refine TL.nil ?_
  refine TE.next ?_
  refine TC.ret ?_
  refine TE.ret1 rfl rfl ?_
  exact fun w h => ⟨rfl, (h.sub (List.nil_sublist _)).below⟩
set_option maxRecDepth 100000 in
set_option maxHeartbeats 2000000 in
theorem k_swap {g k cp : Nat} (hk : k ≤ 1000) {f : Nat → E} {a b n : Nat} (h1 : a + n ≤ b) (h2 : b + n ≤ k) : Turn Try.prog 35 #[.slice (some ⟨g, 0, none⟩) k cp, .int .i64 (a : Int), .int .i64 (b : Int), .int .i64 (n : Int), .func (.func 22) #[] #[]] (ownR 35 2 (.slice (some ⟨g, 0, none⟩) k cp) k (Fw k (f))) (.tuple #[]) (ownR 35 2 (.slice (some ⟨g, 0, none⟩) k cp) k (Fw k (swapF f a b n))) := by
  intro W hR
  have hM := Hp.enter hR
  refine TC.enter (n := 38) Try.func35 rfl rfl rfl hM ?_
  refine TC.seq ?_
  refine TC.region ?_
  refine' TL.y rfl rfl rfl ?hy1 ?_
  case hy1 => exact Yl.assign rfl rfl
  refine TL.nil ?_
  refine TE.next ?_
  refine TC.block ?_
  refine TC.loop (σ := Nat) (fun i => [(0, .slice (some ⟨g, 0, none⟩) k cp), (1, .int .i64 (a : Int)), (2, .int .i64 (b : Int)), (3, .int .i64 (n : Int)), (10, .int .i64 (i : Int))]) (fun i => Hp W (ownR 35 2 (.slice (some ⟨g, 0, none⟩) k cp) k (Fw k (f))).foot [ownR 35 2 (.slice (some ⟨g, 0, none⟩) k cp) k (Fw k (swapF f a b i))]) (fun i => i ≤ n) (fun i => n - i) 0 ?hF2 ?hs2 ?hm2 ?round2
  case hF2 => exact Nat.zero_le _
  case hs2 => exact ⟨rfl, rfl, rfl, rfl, rfl, trivial⟩
  case hm2 => exact fun w h => by rw [swapF_zero]; exact h
  case round2 =>
    intro i hi
    refine TC.seq ?_
    refine TC.seq ?_
    refine TC.region ?_
    refine' TL.y rfl rfl rfl ?hy3 ?_
    case hy3 => exact Yl.move rfl rfl
    refine' TL.y rfl rfl rfl ?hy4 ?_
    case hy4 => exact Yl.move rfl rfl
    refine' TL.y rfl rfl rfl ?hy5 ?_
    case hy5 => exact Yl.bin rfl rfl rfl (Bin.lss _ _ _ _)
    refine TL.nil ?_
    refine TE.next ?_
    refine TC.cond rfl (fun hs13 => ?_) (fun hs13 => ?_)
    · skip
      (try simp only [decide_eq_true_eq, decide_eq_false_iff_not, beq_iff_eq, beq_eq_false_iff_ne, bne_iff_ne, ne_eq, bne_eq_false_iff_eq, Bool.not_eq_true', Bool.not_eq_false', Int.not_lt, Int.not_le, gt_iff_lt, ge_iff_le] at hs13)
      refine TC.skip ?_
      refine TE.next ?_
      refine TC.seq ?_
      refine TC.block ?_
      refine TC.draw (k := 24) _ [21, 23] #[false, false, false, false, false, false, false, false, false, false, false, false, false, false, false, false, false, false, false, false, false, false, false, false] (by kernel_rfl) rfl rfl (fun _ h => h.drew) (fun _ h => h) ?_
      refine' TA.p (i := 0) #[true, false, false, false, false, false, false, false, false, false, false, false, false, false, false, false, false, false, false, false, false, false, false, false] rfl rfl rfl (by kernel_rfl) (fun _ _ _ h => h) rfl ?hy6 ?_
      case hy6 => exact Yl.move rfl rfl
      refine' TA.p (i := 1) #[true, true, false, false, false, false, false, false, false, false, false, false, false, false, false, false, false, false, false, false, false, false, false, false] rfl rfl rfl (by kernel_rfl) (fun _ _ _ h => h) rfl ?hy7 ?_
      case hy7 => exact Yl.move rfl rfl
      refine' TA.p (i := 2) #[true, true, true, false, false, false, false, false, false, false, false, false, false, false, false, false, false, false, false, false, false, false, false, false] rfl rfl rfl (by kernel_rfl) (fun _ _ _ h => h) rfl ?hy8 ?_
      case hy8 => exact Yl.move rfl rfl
      refine' TA.p (i := 3) #[true, true, true, true, false, false, false, false, false, false, false, false, false, false, false, false, false, false, false, false, false, false, false, false] rfl rfl rfl (by kernel_rfl) (fun _ _ _ h => h) rfl ?hy9 ?_
      case hy9 => exact Yl.val (Yl.bin rfl rfl rfl (Bin.add _ _ _ _)) (congrArg (Value.int .i64) (wadd (a := a) (i := i) (by omega)))
      refine' TA.p (i := 4) #[true, true, true, true, true, false, false, false, false, false, false, false, false, false, false, false, false, false, false, false, false, false, false, false] rfl rfl rfl (by kernel_rfl) (fun _ _ _ h => h) rfl ?hy10 ?_
      case hy10 => exact Yl.move rfl rfl
      refine' TA.p (i := 5) #[true, true, true, true, true, true, false, false, false, false, false, false, false, false, false, false, false, false, false, false, false, false, false, false] rfl rfl rfl (by kernel_rfl) (fun _ _ _ h => h) rfl ?hy11 ?_
      case hy11 => exact Yl.move rfl rfl
      refine' TA.p (i := 6) #[true, true, true, true, true, true, true, false, false, false, false, false, false, false, false, false, false, false, false, false, false, false, false, false] rfl rfl rfl (by kernel_rfl) (fun _ _ _ h => h) rfl ?hy12 ?_
      case hy12 => exact Yl.move rfl rfl
      refine' TA.p (i := 7) #[true, true, true, true, true, true, true, true, false, false, false, false, false, false, false, false, false, false, false, false, false, false, false, false] rfl rfl rfl (by kernel_rfl) (fun _ _ _ h => h) rfl ?hy13 ?_
      case hy13 => exact Yl.val (Yl.bin rfl rfl rfl (Bin.add _ _ _ _)) (congrArg (Value.int .i64) (wadd (a := b) (i := i) (by omega)))
      refine' TA.p (i := 8) #[true, true, true, true, true, true, true, true, true, false, false, false, false, false, false, false, false, false, false, false, false, false, false, false] rfl rfl rfl (by kernel_rfl) (fun _ _ _ h => h) rfl ?hy14 ?_
      case hy14 => exact Yl.move rfl rfl
      refine' TA.p (i := 9) #[true, true, true, true, true, true, true, true, true, true, false, false, false, false, false, false, false, false, false, false, false, false, false, false] rfl rfl rfl (by kernel_rfl) (fun _ _ _ h => h) rfl ?hy15 ?_
      case hy15 => exact Yl.move rfl rfl
      refine' TA.p (i := 10) #[true, true, true, true, true, true, true, true, true, true, true, false, false, false, false, false, false, false, false, false, false, false, false, false] rfl rfl rfl (by kernel_rfl) (fun _ _ _ h => h) rfl ?hy16 ?_
      case hy16 => exact Yl.move rfl rfl
      refine' TA.p (i := 11) #[true, true, true, true, true, true, true, true, true, true, true, true, false, false, false, false, false, false, false, false, false, false, false, false] rfl rfl rfl (by kernel_rfl) (fun _ _ _ h => h) rfl ?hy17 ?_
      case hy17 => exact Yl.val (Yl.bin rfl rfl rfl (Bin.add _ _ _ _)) (congrArg (Value.int .i64) (wadd (a := b) (i := i) (by omega)))
      refine' TA.p (i := 12) #[true, true, true, true, true, true, true, true, true, true, true, true, true, false, false, false, false, false, false, false, false, false, false, false] rfl rfl rfl (by kernel_rfl) (fun _ _ _ h => h) rfl ?hy18 ?_
      case hy18 => exact Yl.ix2 rfl rfl rfl Try.underlying29 (by kernel_rfl) (by omega)
      refine' TA.y (i := 13) #[true, true, true, true, true, true, true, true, true, true, true, true, true, true, false, false, false, false, false, false, false, false, false, false] rfl rfl rfl (by kernel_rfl) (fun _ _ _ h => h) (fun _ h => by exact Hp.sub h (by repeat (first | exact List.Sublist.refl _ | apply List.Sublist.cons))) rfl ?hy19 ?_
      case hy19 => first | exact Yl.loads rfl rfl (by kernel_rfl) (by kernel_rfl) (Hp.fw mem0 (by omega))
      refine' TA.p (i := 14) #[true, true, true, true, true, true, true, true, true, true, true, true, true, true, true, false, false, false, false, false, false, false, false, false] rfl rfl rfl (by kernel_rfl) (fun _ _ _ h => h) rfl ?hy20 ?_
      case hy20 => exact Yl.move rfl rfl
      refine' TA.p (i := 15) #[true, true, true, true, true, true, true, true, true, true, true, true, true, true, true, true, false, false, false, false, false, false, false, false] rfl rfl rfl (by kernel_rfl) (fun _ _ _ h => h) rfl ?hy21 ?_
      case hy21 => exact Yl.move rfl rfl
      refine' TA.p (i := 16) #[true, true, true, true, true, true, true, true, true, true, true, true, true, true, true, true, true, false, false, false, false, false, false, false] rfl rfl rfl (by kernel_rfl) (fun _ _ _ h => h) rfl ?hy22 ?_
      case hy22 => exact Yl.move rfl rfl
      refine' TA.p (i := 17) #[true, true, true, true, true, true, true, true, true, true, true, true, true, true, true, true, true, true, false, false, false, false, false, false] rfl rfl rfl (by kernel_rfl) (fun _ _ _ h => h) rfl ?hy23 ?_
      case hy23 => exact Yl.val (Yl.bin rfl rfl rfl (Bin.add _ _ _ _)) (congrArg (Value.int .i64) (wadd (a := a) (i := i) (by omega)))
      refine' TA.p (i := 18) #[true, true, true, true, true, true, true, true, true, true, true, true, true, true, true, true, true, true, true, false, false, false, false, false] rfl rfl rfl (by kernel_rfl) (fun _ _ _ h => h) rfl ?hy24 ?_
      case hy24 => exact Yl.ix2 rfl rfl rfl Try.underlying29 (by kernel_rfl) (by omega)
      refine' TA.y (i := 19) #[true, true, true, true, true, true, true, true, true, true, true, true, true, true, true, true, true, true, true, true, false, false, false, false] rfl rfl rfl (by kernel_rfl) (fun _ _ _ h => h) (fun _ h => by exact Hp.sub h (by repeat (first | exact List.Sublist.refl _ | apply List.Sublist.cons))) rfl ?hy25 ?_
      case hy25 => first | exact Yl.loads rfl rfl (by kernel_rfl) (by kernel_rfl) (Hp.fw mem0 (by omega))
      refine' TA.p (i := 20) #[true, true, true, true, true, true, true, true, true, true, true, true, true, true, true, true, true, true, true, true, true, false, false, false] rfl rfl rfl (by kernel_rfl) (fun _ _ _ h => h) rfl ?hy26 ?_
      case hy26 => exact Yl.ix2 rfl rfl rfl Try.underlying29 (by kernel_rfl) (by omega)
      refine' TA.sl (i := 21) #[true, true, true, true, true, true, true, true, true, true, true, true, true, true, true, true, true, true, true, true, true, true, false, false] rfl rfl (by kernel_rfl) (by decide) rfl ?hy27 ?_
      case hy27 => exact Ys.fw rfl rfl rfl (by kernel_rfl) foc0 (by omega)
      refine' TA.p (i := 22) #[true, true, true, true, true, true, true, true, true, true, true, true, true, true, true, true, true, true, true, true, true, true, true, false] rfl rfl rfl (by kernel_rfl) (fun _ _ _ h => h) rfl ?hy28 ?_
      case hy28 => exact Yl.ix2 rfl rfl rfl Try.underlying29 (by kernel_rfl) (by omega)
      refine' TA.sl (i := 23) #[true, true, true, true, true, true, true, true, true, true, true, true, true, true, true, true, true, true, true, true, true, true, true, true] rfl rfl (by kernel_rfl) (by decide) rfl ?hy29 ?_
      case hy29 => exact Ys.fw rfl rfl rfl (by kernel_rfl) foc0 (by omega)
      refine TA.done (by kernel_rfl) ?_
      refine TE.inNormal ?_
      refine TE.next ?_
      refine TC.region ?_
      refine' TL.y rfl rfl rfl ?hy30 ?_
      case hy30 => exact Yl.move rfl rfl
      refine' TL.y rfl rfl rfl ?hy31 ?_
      case hy31 => first | (refine Yl.val (Yl.bin rfl rfl rfl (Bin.add _ _ _ _)) (congrArg (Value.int .i64) (i64in ?_ ?_)) <;> omega) | exact Yl.bin rfl rfl rfl (Bin.add _ _ _ _)
      refine' TL.y rfl rfl rfl ?hy32 ?_
      case hy32 => exact Yl.assign rfl rfl
      refine TL.nil ?_
      refine TE.round (i + 1) ?hF33 ?hlt33 ?hs33 ?hm33
      case hF33 => omega
      case hlt33 => omega
      case hs33 => exact ⟨rfl, rfl, rfl, rfl, rfl, trivial⟩
      case hm33 => exact fun w h => by rw [← swapF_succ (f := f) h1 (show i < n by omega)]; exact h
    · skip
      (try simp only [decide_eq_true_eq, decide_eq_false_iff_not, beq_iff_eq, beq_eq_false_iff_ne, bne_iff_ne, ne_eq, bne_eq_false_iff_eq, Bool.not_eq_true', Bool.not_eq_false', Int.not_lt, Int.not_le, gt_iff_lt, ge_iff_le] at hs13)
      refine TC.exit ?_
      refine TE.thenExit ?_
      refine TE.thenExit ?_
      refine TE.inHere ?_
      refine TE.end0 rfl ?_
      obtain rfl : i = n := by omega
      exact fun w h => ⟨(), rfl, h.leave⟩
set_option maxRecDepth 100000 in
set_option maxHeartbeats 2000000 in
theorem k_rot {g k cp : Nat} (hk : k ≤ 1000) {f : Nat → E} {a p b : Nat} (h1 : a < p) (h2 : p < b) (h3 : b ≤ k) : Turn Try.prog 34 #[.slice (some ⟨g, 0, none⟩) k cp, .int .i64 (a : Int), .int .i64 (p : Int), .int .i64 (b : Int), .func (.func 22) #[] #[]] (ownR 35 2 (.slice (some ⟨g, 0, none⟩) k cp) k (Fw k (f))) (.tuple #[]) (ownR 35 2 (.slice (some ⟨g, 0, none⟩) k cp) k (Fw k (rotF f a p b))) := by
  intro W hR
  have hM := Hp.enter hR
  refine TC.enter (n := 58) Try.func34 rfl rfl rfl hM ?_
  refine TC.seq ?_
  refine TC.region ?_
  refine' TL.y rfl rfl rfl ?hy1 ?_
  case hy1 => exact Yl.move rfl rfl
  refine' TL.y rfl rfl rfl ?hy2 ?_
  case hy2 => exact Yl.move rfl rfl
  refine' TL.y rfl rfl rfl ?hy3 ?_
  case hy3 => exact Yl.val (Yl.bin rfl rfl rfl (Bin.sub _ _ _ _)) (congrArg (Value.int .i64) (wsub (by omega) (by omega)))
  refine' TL.y rfl rfl rfl ?hy4 ?_
  case hy4 => exact Yl.assign rfl rfl
  refine TL.nil ?_
  refine TE.next ?_
  refine TC.seq ?_
  refine TC.region ?_
  refine' TL.y rfl rfl rfl ?hy5 ?_
  case hy5 => exact Yl.move rfl rfl
  refine' TL.y rfl rfl rfl ?hy6 ?_
  case hy6 => exact Yl.move rfl rfl
  refine' TL.y rfl rfl rfl ?hy7 ?_
  case hy7 => exact Yl.val (Yl.bin rfl rfl rfl (Bin.sub _ _ _ _)) (congrArg (Value.int .i64) (wsub (by omega) (by omega)))
  refine' TL.y rfl rfl rfl ?hy8 ?_
  case hy8 => exact Yl.assign rfl rfl
  refine TL.nil ?_
  refine TE.next ?_
  refine TC.seq ?_
  refine TC.block ?_
  refine TC.loop (σ := Nat × Nat × (Nat → E)) (fun s => [(0, .slice (some ⟨g, 0, none⟩) k cp), (2, .int .i64 (p : Int)), (4, .func (.func 22) #[] #[]), (10, .int .i64 (s.1 : Int)), (11, .int .i64 (s.2.1 : Int))]) (fun s => Hp W (ownR 35 2 (.slice (some ⟨g, 0, none⟩) k cp) k (Fw k (f))).foot [ownR 35 2 (.slice (some ⟨g, 0, none⟩) k cp) k (Fw k (s.2.2))]) (fun s => 0 < s.1 ∧ s.1 ≤ p ∧ 0 < s.2.1 ∧ p + s.2.1 ≤ k ∧ rotF s.2.2 (p - s.1) p (p + s.2.1) = rotF f a p b) (fun s => s.1 + s.2.1) (p - a, b - p, f) ?hF9 ?hs9 ?hm9 ?round9
  case hF9 => exact ⟨by dsimp only; omega, by dsimp only; omega, by dsimp only; omega, by dsimp only; omega, by dsimp only; rw [show p - (p - a) = a by omega, show p + (b - p) = b by omega]⟩
  case hs9 => exact ⟨rfl, rfl, rfl, rfl, rfl, trivial⟩
  case hm9 => exact fun _ h => h
  case round9 =>
    rintro ⟨i, j, f1⟩ ⟨h1, h2, h3, h4, h5⟩
    dsimp only at h1 h2 h3 h4 h5 ⊢
    refine TC.seq ?_
    refine TC.seq ?_
    refine TC.region ?_
    refine' TL.y rfl rfl rfl ?hy10 ?_
    case hy10 => exact Yl.move rfl rfl
    refine' TL.y rfl rfl rfl ?hy11 ?_
    case hy11 => exact Yl.move rfl rfl
    refine' TL.y rfl rfl rfl ?hy12 ?_
    case hy12 => exact Yl.bin rfl rfl rfl (Bin.neq _ _ _ _)
    refine TL.nil ?_
    refine TE.next ?_
    refine TC.cond rfl (fun hs20 => ?_) (fun hs20 => ?_)
    · skip
      (try simp only [decide_eq_true_eq, decide_eq_false_iff_not, beq_iff_eq, beq_eq_false_iff_ne, bne_iff_ne, ne_eq, bne_eq_false_iff_eq, Bool.not_eq_true', Bool.not_eq_false', Int.not_lt, Int.not_le, gt_iff_lt, ge_iff_le] at hs20)
      refine TC.skip ?_
      refine TE.next ?_
      refine TC.block ?_
      refine TC.seq ?_
      refine TC.region ?_
      refine' TL.y rfl rfl rfl ?hy13 ?_
      case hy13 => exact Yl.move rfl rfl
      refine' TL.y rfl rfl rfl ?hy14 ?_
      case hy14 => exact Yl.move rfl rfl
      refine' TL.y rfl rfl rfl ?hy15 ?_
      case hy15 => exact Yl.bin rfl rfl rfl (Bin.gtr _ _ _ _)
      refine TL.nil ?_
      refine TE.next ?_
      refine TC.cond rfl (fun hs23 => ?_) (fun hs23 => ?_)
      · skip
        (try simp only [decide_eq_true_eq, decide_eq_false_iff_not, beq_iff_eq, beq_eq_false_iff_ne, bne_iff_ne, ne_eq, bne_eq_false_iff_eq, Bool.not_eq_true', Bool.not_eq_false', Int.not_lt, Int.not_le, gt_iff_lt, ge_iff_le] at hs23)
        refine TC.seq ?_
        refine TC.region ?_
        refine' TL.y rfl rfl rfl ?hy16 ?_
        case hy16 => exact Yl.move rfl rfl
        refine' TL.y rfl rfl rfl ?hy17 ?_
        case hy17 => exact Yl.move rfl rfl
        refine' TL.y rfl rfl rfl ?hy18 ?_
        case hy18 => exact Yl.move rfl rfl
        refine' TL.y rfl rfl rfl ?hy19 ?_
        case hy19 => exact Yl.val (Yl.bin rfl rfl rfl (Bin.sub _ _ _ _)) (congrArg (Value.int .i64) (wsub h2 (by omega)))
        refine' TL.y rfl rfl rfl ?hy20 ?_
        case hy20 => exact Yl.move rfl rfl
        refine' TL.y rfl rfl rfl ?hy21 ?_
        case hy21 => exact Yl.move rfl rfl
        refine' TL.y rfl rfl rfl ?hy22 ?_
        case hy22 => exact Yl.move rfl rfl
        refine' TL.c rfl rfl rfl ?hy23 ?_
        case hy23 => exact Yc.call rfl Try.func35 (by kernel_rfl) rfl rfl (Hp.turn1 mem0 foc0 (k_swap (f := f1) hk (show p - i + j ≤ p by omega) (by omega)))
        intro _
        refine TL.nil ?_
        refine TE.next ?_
        refine TC.region ?_
        refine' TL.y rfl rfl rfl ?hy24 ?_
        case hy24 => exact Yl.move rfl rfl
        refine' TL.y rfl rfl rfl ?hy25 ?_
        case hy25 => exact Yl.move rfl rfl
        refine' TL.y rfl rfl rfl ?hy26 ?_
        case hy26 => exact Yl.val (Yl.bin rfl rfl rfl (Bin.sub _ _ _ _)) (congrArg (Value.int .i64) (wsub (a := i) (i := j) (by omega) (by omega)))
        refine' TL.y rfl rfl rfl ?hy27 ?_
        case hy27 => exact Yl.assign rfl rfl
        refine TL.nil ?_
        refine TE.inNormal ?_
        refine TE.round (i - j, j, swapF f1 (p - i) p j) ?hF28 ?hlt28 ?hs28 ?hm28
        case hF28 => exact ⟨by dsimp only; omega, by dsimp only; omega, h3, h4, by dsimp only; rw [rot_one h2 (by omega) h3]; exact h5⟩
        case hlt28 => dsimp only; omega
        case hs28 => exact ⟨rfl, rfl, rfl, rfl, rfl, trivial⟩
        case hm28 => exact fun _ h => h
      · skip
        (try simp only [decide_eq_true_eq, decide_eq_false_iff_not, beq_iff_eq, beq_eq_false_iff_ne, bne_iff_ne, ne_eq, bne_eq_false_iff_eq, Bool.not_eq_true', Bool.not_eq_false', Int.not_lt, Int.not_le, gt_iff_lt, ge_iff_le] at hs23)
        refine TC.seq ?_
        refine TC.region ?_
        refine' TL.y rfl rfl rfl ?hy29 ?_
        case hy29 => exact Yl.move rfl rfl
        refine' TL.y rfl rfl rfl ?hy30 ?_
        case hy30 => exact Yl.move rfl rfl
        refine' TL.y rfl rfl rfl ?hy31 ?_
        case hy31 => exact Yl.move rfl rfl
        refine' TL.y rfl rfl rfl ?hy32 ?_
        case hy32 => exact Yl.val (Yl.bin rfl rfl rfl (Bin.sub _ _ _ _)) (congrArg (Value.int .i64) (wsub h2 (by omega)))
        refine' TL.y rfl rfl rfl ?hy33 ?_
        case hy33 => exact Yl.move rfl rfl
        refine' TL.y rfl rfl rfl ?hy34 ?_
        case hy34 => exact Yl.move rfl rfl
        refine' TL.y rfl rfl rfl ?hy35 ?_
        case hy35 => exact Yl.val (Yl.bin rfl rfl rfl (Bin.add _ _ _ _)) (congrArg (Value.int .i64) (wadd (a := p) (i := j) (by omega)))
        refine' TL.y rfl rfl rfl ?hy36 ?_
        case hy36 => exact Yl.move rfl rfl
        refine' TL.y rfl rfl rfl ?hy37 ?_
        case hy37 => exact Yl.val (Yl.bin rfl rfl rfl (Bin.sub _ _ _ _)) (congrArg (Value.int .i64) (wsub (a := p + j) (i := i) (by omega) (by omega)))
        refine' TL.y rfl rfl rfl ?hy38 ?_
        case hy38 => exact Yl.move rfl rfl
        refine' TL.y rfl rfl rfl ?hy39 ?_
        case hy39 => exact Yl.move rfl rfl
        refine' TL.c rfl rfl rfl ?hy40 ?_
        case hy40 => exact Yc.call rfl Try.func35 (by kernel_rfl) rfl rfl (Hp.turn1 mem0 foc0 (k_swap (f := f1) hk (show p - i + i ≤ p + j - i by omega) (by omega)))
        intro _
        refine TL.nil ?_
        refine TE.next ?_
        refine TC.region ?_
        refine' TL.y rfl rfl rfl ?hy41 ?_
        case hy41 => exact Yl.move rfl rfl
        refine' TL.y rfl rfl rfl ?hy42 ?_
        case hy42 => exact Yl.move rfl rfl
        refine' TL.y rfl rfl rfl ?hy43 ?_
        case hy43 => exact Yl.val (Yl.bin rfl rfl rfl (Bin.sub _ _ _ _)) (congrArg (Value.int .i64) (wsub (a := j) (i := i) (by omega) (by omega)))
        refine' TL.y rfl rfl rfl ?hy44 ?_
        case hy44 => exact Yl.assign rfl rfl
        refine TL.nil ?_
        refine TE.inNormal ?_
        refine TE.round (i, j - i, swapF f1 (p - i) (p + j - i) i) ?hF45 ?hlt45 ?hs45 ?hm45
        case hF45 => exact ⟨h1, h2, by dsimp only; omega, by dsimp only; omega, by dsimp only; rw [rot_two h2 (by omega) h1]; exact h5⟩
        case hlt45 => dsimp only; omega
        case hs45 => exact ⟨rfl, rfl, rfl, rfl, rfl, trivial⟩
        case hm45 => exact fun _ h => h
    · skip
      (try simp only [decide_eq_true_eq, decide_eq_false_iff_not, beq_iff_eq, beq_eq_false_iff_ne, bne_iff_ne, ne_eq, bne_eq_false_iff_eq, Bool.not_eq_true', Bool.not_eq_false', Int.not_lt, Int.not_le, gt_iff_lt, ge_iff_le] at hs20)
      refine TC.exit ?_
      refine TE.thenExit ?_
      refine TE.thenExit ?_
      refine TE.inHere ?_
      refine TE.next ?_
      refine TC.region ?_
      refine' TL.y rfl rfl rfl ?hy46 ?_
      case hy46 => exact Yl.move rfl rfl
      refine' TL.y rfl rfl rfl ?hy47 ?_
      case hy47 => exact Yl.move rfl rfl
      refine' TL.y rfl rfl rfl ?hy48 ?_
      case hy48 => exact Yl.move rfl rfl
      refine' TL.y rfl rfl rfl ?hy49 ?_
      case hy49 => exact Yl.val (Yl.bin rfl rfl rfl (Bin.sub _ _ _ _)) (congrArg (Value.int .i64) (wsub h2 (by omega)))
      refine' TL.y rfl rfl rfl ?hy50 ?_
      case hy50 => exact Yl.move rfl rfl
      refine' TL.y rfl rfl rfl ?hy51 ?_
      case hy51 => exact Yl.move rfl rfl
      refine' TL.y rfl rfl rfl ?hy52 ?_
      case hy52 => exact Yl.move rfl rfl
      refine' TL.c rfl rfl rfl ?hy53 ?_
      case hy53 => exact Yc.call rfl Try.func35 (by kernel_rfl) rfl rfl (Hp.turn1 mem0 foc0 (k_swap (f := f1) hk (show p - i + i ≤ p by omega) (by omega)))
      intro _
      refine TL.nil ?_
      refine TE.end0 rfl ?_
      have e0 : i = j := by omega
      have e9 : swapF f1 (p - i) p i = rotF f a p b := by rw [rot_end h2, ← h5, e0]
      exact fun w h => ⟨(), rfl, by rw [← e9]; exact h.leave⟩
set_option maxRecDepth 100000 in
set_option maxHeartbeats 2000000 in
theorem k_ins {g k cp : Nat} (hk : k ≤ 1000) {f : Nat → E} {a b : Nat} (hb : b ≤ k) (hab : a ≤ b) (hat : ∀ i j, a ≤ i → i < j → j < b → (f i).1 < (f j).1) : Turns Try.prog 32 #[.slice (some ⟨g, 0, none⟩) k cp, .int .i64 (a : Int), .int .i64 (b : Int), .func (.func 22) #[] #[]] (ownR 35 2 (.slice (some ⟨g, 0, none⟩) k cp) k (Fw k (f))) (fun _ : Nat → E => .tuple #[]) (fun f' => pureR (From a b f f' ∧ SrtF f' a b) (ownR 35 2 (.slice (some ⟨g, 0, none⟩) k cp) k (Fw k (f')))) := by
  intro W hR
  have hM := Hp.enter hR
  refine TC.enter (n := 53) Try.func32 rfl rfl rfl hM ?_
  refine TC.seq ?_
  refine TC.region ?_
  refine' TL.y rfl rfl rfl ?hy1 ?_
  case hy1 => exact Yl.move rfl rfl
  refine' TL.y rfl rfl rfl ?hy2 ?_
  case hy2 => exact Yl.val (Yl.bin rfl rfl rfl (Bin.add _ _ _ _)) (congrArg (Value.int .i64) (wadd1 (by omega)))
  refine' TL.y rfl rfl rfl ?hy3 ?_
  case hy3 => exact Yl.assign rfl rfl
  refine TL.nil ?_
  refine TE.next ?_
  refine TC.block ?_
  refine TC.loop (σ := Nat × (Nat → E)) (fun s => [(0, .slice (some ⟨g, 0, none⟩) k cp), (1, .int .i64 (a : Int)), (2, .int .i64 (b : Int)), (3, .func (.func 22) #[] #[]), (8, .int .i64 (s.1 : Int))]) (fun s => Hp W (ownR 35 2 (.slice (some ⟨g, 0, none⟩) k cp) k (Fw k (f))).foot [ownR 35 2 (.slice (some ⟨g, 0, none⟩) k cp) k (Fw k (s.2))]) (fun s => From a b f s.2 ∧ a < s.1 ∧ s.1 ≤ max b (a + 1) ∧ SrtF s.2 a s.1 ∧ (∀ q, s.1 ≤ q → s.2 q = f q) ∧ From a s.1 f s.2) (fun s => b - s.1) (a + 1, f) ?hF4 ?hs4 ?hm4 ?round4
  case hF4 => exact ⟨From.refl _ _ _, Nat.lt_succ_self _, by dsimp only; omega, fun p q h1 h2 h3 => by dsimp only at h3; omega, fun _ _ => rfl, From.refl _ _ _⟩
  case hs4 => exact ⟨rfl, rfl, rfl, rfl, (by show some (Value.int IntKind.i64 ((a : Int) + 1)) = _; rfl), trivial⟩
  case hm4 => exact fun _ h => h
  case round4 =>
    rintro ⟨i, f1⟩ ⟨h1, h2, h3, h4, h5, h6⟩
    dsimp only at h1 h2 h3 h4 h5 h6 ⊢
    refine TC.seq ?_
    refine TC.seq ?_
    refine TC.region ?_
    refine' TL.y rfl rfl rfl ?hy5 ?_
    case hy5 => exact Yl.move rfl rfl
    refine' TL.y rfl rfl rfl ?hy6 ?_
    case hy6 => exact Yl.move rfl rfl
    refine' TL.y rfl rfl rfl ?hy7 ?_
    case hy7 => exact Yl.bin rfl rfl rfl (Bin.lss _ _ _ _)
    refine TL.nil ?_
    refine TE.next ?_
    refine TC.cond rfl (fun hs14 => ?_) (fun hs14 => ?_)
    · skip
      (try simp only [decide_eq_true_eq, decide_eq_false_iff_not, beq_iff_eq, beq_eq_false_iff_ne, bne_iff_ne, ne_eq, bne_eq_false_iff_eq, Bool.not_eq_true', Bool.not_eq_false', Int.not_lt, Int.not_le, gt_iff_lt, ge_iff_le] at hs14)
      refine TC.skip ?_
      refine TE.next ?_
      refine TC.seq ?_
      refine TC.block ?_
      refine TC.seq ?_
      refine TC.region ?_
      refine' TL.y rfl rfl rfl ?hy8 ?_
      case hy8 => exact Yl.move rfl rfl
      refine' TL.y rfl rfl rfl ?hy9 ?_
      case hy9 => exact Yl.assign rfl rfl
      refine TL.nil ?_
      refine TE.next ?_
      refine TC.block ?_
      refine TC.loop (σ := Nat × (Nat → E)) (fun s => [(0, .slice (some ⟨g, 0, none⟩) k cp), (1, .int .i64 (a : Int)), (2, .int .i64 (b : Int)), (3, .func (.func 22) #[] #[]), (8, .int .i64 (i : Int)), (9, .int .i64 (s.1 : Int))]) (fun s => Hp W (ownR 35 2 (.slice (some ⟨g, 0, none⟩) k cp) k (Fw k (f))).foot [ownR 35 2 (.slice (some ⟨g, 0, none⟩) k cp) k (Fw k (s.2))]) (fun s => a ≤ s.1 ∧ s.1 ≤ i ∧ Ins1 a i s.1 s.2 ∧ From a (i + 1) f1 s.2) (fun s => s.1) (i, f1) ?hF10 ?hs10 ?hm10 ?round10
      case hF10 => exact ⟨by dsimp only; omega, Nat.le_refl _, Ins1.start h4 (fun p hp1 hp2 => by
        obtain ⟨q, c1, c2, c3⟩ := h6.inn p hp1 hp2
        dsimp only
        rw [c3, h5 i (Nat.le_refl _)]; exact hat q i c1 c2 (by omega)), From.refl _ _ _⟩
      case hs10 => exact ⟨rfl, rfl, rfl, rfl, rfl, rfl, trivial⟩
      case hm10 => exact fun _ h => h
      case round10 =>
        rintro ⟨j, f2⟩ ⟨c1, c2, c3, c4⟩
        dsimp only at c1 c2 c3 c4 ⊢
        refine TC.seq ?_
        refine TC.seq ?_
        refine TC.draw (k := 17) _ [] #[false, false, false, false, false, false, false, false, false, false, false, false, false, false, false, false, false] (by kernel_rfl) rfl rfl (fun _ h => h.drew) (fun _ h => h) ?_
        refine' TA.y (i := 0) #[true, false, false, false, false, false, false, false, false, false, false, false, false, false, false, false, false] rfl rfl rfl (by kernel_rfl) (fun _ _ _ h => h) (fun _ h => by exact Hp.sub h (by repeat (first | exact List.Sublist.refl _ | apply List.Sublist.cons))) rfl ?hy11 ?_
        case hy11 => exact Yl.move rfl rfl
        refine' TA.y (i := 1) #[true, true, false, false, false, false, false, false, false, false, false, false, false, false, false, false, false] rfl rfl rfl (by kernel_rfl) (fun _ _ _ h => h) (fun _ h => by exact Hp.sub h (by repeat (first | exact List.Sublist.refl _ | apply List.Sublist.cons))) rfl ?hy12 ?_
        case hy12 => exact Yl.move rfl rfl
        refine' TA.y (i := 2) #[true, true, true, false, false, false, false, false, false, false, false, false, false, false, false, false, false] rfl rfl rfl (by kernel_rfl) (fun _ _ _ h => h) (fun _ h => by exact Hp.sub h (by repeat (first | exact List.Sublist.refl _ | apply List.Sublist.cons))) rfl ?hy13 ?_
        case hy13 => exact Yl.bin rfl rfl rfl (Bin.gtr _ _ _ _)
        refine' TA.y (i := 3) #[true, true, true, true, false, false, false, false, false, false, false, false, false, false, false, false, false] rfl rfl rfl (by kernel_rfl) (fun _ _ _ h => h) (fun _ h => by exact Hp.sub h (by repeat (first | exact List.Sublist.refl _ | apply List.Sublist.cons))) rfl ?hy14 ?_
        case hy14 => exact Yl.move rfl rfl
        refine TA.split (i := 21) rfl (fun hs21 => ?_) (fun hs21 => ?_)
        · skip
          (try simp only [decide_eq_true_eq, decide_eq_false_iff_not, beq_iff_eq, beq_eq_false_iff_ne, bne_iff_ne, ne_eq, bne_eq_false_iff_eq, Bool.not_eq_true', Bool.not_eq_false', Int.not_lt, Int.not_le, gt_iff_lt, ge_iff_le] at hs21)
          refine' TA.y (i := 4) #[true, true, true, true, true, false, false, false, false, false, false, false, false, false, false, false, false] rfl rfl rfl (by kernel_rfl) (fun _ _ _ h => h) (fun _ h => by exact Hp.sub h (by repeat (first | exact List.Sublist.refl _ | apply List.Sublist.cons))) rfl ?hy15 ?_
          case hy15 => exact Yl.move rfl rfl
          refine' TA.y (i := 5) #[true, true, true, true, true, true, false, false, false, false, false, false, false, false, false, false, false] rfl rfl rfl (by kernel_rfl) (fun _ _ _ h => h) (fun _ h => by exact Hp.sub h (by repeat (first | exact List.Sublist.refl _ | apply List.Sublist.cons))) rfl ?hy16 ?_
          case hy16 => exact Yl.move rfl rfl
          refine' TA.y (i := 6) #[true, true, true, true, true, true, true, false, false, false, false, false, false, false, false, false, false] rfl rfl rfl (by kernel_rfl) (fun _ _ _ h => h) (fun _ h => by exact Hp.sub h (by repeat (first | exact List.Sublist.refl _ | apply List.Sublist.cons))) rfl ?hy17 ?_
          case hy17 => exact Yl.move rfl rfl
          refine' TA.y (i := 7) #[true, true, true, true, true, true, true, true, false, false, false, false, false, false, false, false, false] rfl rfl rfl (by kernel_rfl) (fun _ _ _ h => h) (fun _ h => by exact Hp.sub h (by repeat (first | exact List.Sublist.refl _ | apply List.Sublist.cons))) rfl ?hy18 ?_
          case hy18 => exact Yl.ix2 rfl rfl rfl Try.underlying29 (by kernel_rfl) (by omega)
          refine' TA.y (i := 8) #[true, true, true, true, true, true, true, true, true, false, false, false, false, false, false, false, false] rfl rfl rfl (by kernel_rfl) (fun _ _ _ h => h) (fun _ h => by exact Hp.sub h (by repeat (first | exact List.Sublist.refl _ | apply List.Sublist.cons))) rfl ?hy19 ?_
          case hy19 => first | exact Yl.loads rfl rfl (by kernel_rfl) (by kernel_rfl) (Hp.fw mem0 (by omega))
          refine' TA.y (i := 9) #[true, true, true, true, true, true, true, true, true, true, false, false, false, false, false, false, false] rfl rfl rfl (by kernel_rfl) (fun _ _ _ h => h) (fun _ h => by exact Hp.sub h (by repeat (first | exact List.Sublist.refl _ | apply List.Sublist.cons))) rfl ?hy20 ?_
          case hy20 => exact Yl.move rfl rfl
          refine' TA.y (i := 10) #[true, true, true, true, true, true, true, true, true, true, true, false, false, false, false, false, false] rfl rfl rfl (by kernel_rfl) (fun _ _ _ h => h) (fun _ h => by exact Hp.sub h (by repeat (first | exact List.Sublist.refl _ | apply List.Sublist.cons))) rfl ?hy21 ?_
          case hy21 => exact Yl.move rfl rfl
          refine' TA.y (i := 11) #[true, true, true, true, true, true, true, true, true, true, true, true, false, false, false, false, false] rfl rfl rfl (by kernel_rfl) (fun _ _ _ h => h) (fun _ h => by exact Hp.sub h (by repeat (first | exact List.Sublist.refl _ | apply List.Sublist.cons))) rfl ?hy22 ?_
          case hy22 => exact Yl.val (Yl.bin rfl rfl rfl (Bin.sub _ _ _ _)) (congrArg (Value.int .i64) (wsub1 (by omega) (by omega)))
          refine' TA.y (i := 12) #[true, true, true, true, true, true, true, true, true, true, true, true, true, false, false, false, false] rfl rfl rfl (by kernel_rfl) (fun _ _ _ h => h) (fun _ h => by exact Hp.sub h (by repeat (first | exact List.Sublist.refl _ | apply List.Sublist.cons))) rfl ?hy23 ?_
          case hy23 => exact Yl.ix2 rfl rfl rfl Try.underlying29 (by kernel_rfl) (by omega)
          refine' TA.y (i := 13) #[true, true, true, true, true, true, true, true, true, true, true, true, true, true, false, false, false] rfl rfl rfl (by kernel_rfl) (fun _ _ _ h => h) (fun _ h => by exact Hp.sub h (by repeat (first | exact List.Sublist.refl _ | apply List.Sublist.cons))) rfl ?hy24 ?_
          case hy24 => first | exact Yl.loads rfl rfl (by kernel_rfl) (by kernel_rfl) (Hp.fw mem0 (by omega))
          refine' TA.c (i := 14) #[true, true, true, true, true, true, true, true, true, true, true, true, true, true, true, false, false] rfl rfl rfl (by kernel_rfl) (by decide) rfl ?hy25 ?hz25 ?_
          case hy25 => exact Yc.callv rfl rfl Try.func22 (by kernel_rfl) rfl rfl (Hp.calls (fun w h => k_cmp w _ _ _ _))
          case hz25 => exact (fun _ _ h => by exact Hp.sub h (by repeat (first | exact List.Sublist.refl _ | apply List.Sublist.cons)))
          intro _
          refine' TA.y (i := 15) #[true, true, true, true, true, true, true, true, true, true, true, true, true, true, true, true, false] rfl rfl rfl (by kernel_rfl) (fun _ _ _ h => h) (fun _ h => by exact Hp.sub h (by repeat (first | exact List.Sublist.refl _ | apply List.Sublist.cons))) rfl ?hy26 ?_
          case hy26 => exact Yl.bin rfl rfl rfl (Bin.lss _ _ _ _)
          refine' TA.y (i := 16) #[true, true, true, true, true, true, true, true, true, true, true, true, true, true, true, true, true] rfl rfl rfl (by kernel_rfl) (fun _ _ _ h => h) (fun _ h => by exact Hp.sub h (by repeat (first | exact List.Sublist.refl _ | apply List.Sublist.cons))) rfl ?hy27 ?_
          case hy27 => exact Yl.pickT rfl rfl rfl
          refine TA.done (by kernel_rfl) ?_
          refine TE.next ?_
          refine TC.cond rfl (fun hs34 => ?_) (fun hs34 => ?_)
          · skip
            (try simp only [decide_eq_true_eq, decide_eq_false_iff_not, beq_iff_eq, beq_eq_false_iff_ne, bne_iff_ne, ne_eq, bne_eq_false_iff_eq, Bool.not_eq_true', Bool.not_eq_false', Int.not_lt, Int.not_le, gt_iff_lt, ge_iff_le] at hs34)
            refine TC.skip ?_
            refine TE.next ?_
            refine TC.seq ?_
            refine TC.block ?_
            refine TC.draw (k := 18) _ [15, 17] #[false, false, false, false, false, false, false, false, false, false, false, false, false, false, false, false, false, false] (by kernel_rfl) rfl rfl (fun _ h => h.drew) (fun _ h => h) ?_
            refine' TA.p (i := 0) #[true, false, false, false, false, false, false, false, false, false, false, false, false, false, false, false, false, false] rfl rfl rfl (by kernel_rfl) (fun _ _ _ h => h) rfl ?hy28 ?_
            case hy28 => exact Yl.move rfl rfl
            refine' TA.p (i := 1) #[true, true, false, false, false, false, false, false, false, false, false, false, false, false, false, false, false, false] rfl rfl rfl (by kernel_rfl) (fun _ _ _ h => h) rfl ?hy29 ?_
            case hy29 => exact Yl.move rfl rfl
            refine' TA.p (i := 2) #[true, true, true, false, false, false, false, false, false, false, false, false, false, false, false, false, false, false] rfl rfl rfl (by kernel_rfl) (fun _ _ _ h => h) rfl ?hy30 ?_
            case hy30 => exact Yl.move rfl rfl
            refine' TA.p (i := 3) #[true, true, true, true, false, false, false, false, false, false, false, false, false, false, false, false, false, false] rfl rfl rfl (by kernel_rfl) (fun _ _ _ h => h) rfl ?hy31 ?_
            case hy31 => exact Yl.move rfl rfl
            refine' TA.p (i := 4) #[true, true, true, true, true, false, false, false, false, false, false, false, false, false, false, false, false, false] rfl rfl rfl (by kernel_rfl) (fun _ _ _ h => h) rfl ?hy32 ?_
            case hy32 => exact Yl.val (Yl.bin rfl rfl rfl (Bin.sub _ _ _ _)) (congrArg (Value.int .i64) (wsub1 (by omega) (by omega)))
            refine' TA.p (i := 5) #[true, true, true, true, true, true, false, false, false, false, false, false, false, false, false, false, false, false] rfl rfl rfl (by kernel_rfl) (fun _ _ _ h => h) rfl ?hy33 ?_
            case hy33 => exact Yl.move rfl rfl
            refine' TA.p (i := 6) #[true, true, true, true, true, true, true, false, false, false, false, false, false, false, false, false, false, false] rfl rfl rfl (by kernel_rfl) (fun _ _ _ h => h) rfl ?hy34 ?_
            case hy34 => exact Yl.move rfl rfl
            refine' TA.p (i := 7) #[true, true, true, true, true, true, true, true, false, false, false, false, false, false, false, false, false, false] rfl rfl rfl (by kernel_rfl) (fun _ _ _ h => h) rfl ?hy35 ?_
            case hy35 => exact Yl.val (Yl.bin rfl rfl rfl (Bin.sub _ _ _ _)) (congrArg (Value.int .i64) (wsub1 (by omega) (by omega)))
            refine' TA.p (i := 8) #[true, true, true, true, true, true, true, true, true, false, false, false, false, false, false, false, false, false] rfl rfl rfl (by kernel_rfl) (fun _ _ _ h => h) rfl ?hy36 ?_
            case hy36 => exact Yl.ix2 rfl rfl rfl Try.underlying29 (by kernel_rfl) (by omega)
            refine' TA.y (i := 9) #[true, true, true, true, true, true, true, true, true, true, false, false, false, false, false, false, false, false] rfl rfl rfl (by kernel_rfl) (fun _ _ _ h => h) (fun _ h => by exact Hp.sub h (by repeat (first | exact List.Sublist.refl _ | apply List.Sublist.cons))) rfl ?hy37 ?_
            case hy37 => first | exact Yl.loads rfl rfl (by kernel_rfl) (by kernel_rfl) (Hp.fw mem0 (by omega))
            refine' TA.p (i := 10) #[true, true, true, true, true, true, true, true, true, true, true, false, false, false, false, false, false, false] rfl rfl rfl (by kernel_rfl) (fun _ _ _ h => h) rfl ?hy38 ?_
            case hy38 => exact Yl.move rfl rfl
            refine' TA.p (i := 11) #[true, true, true, true, true, true, true, true, true, true, true, true, false, false, false, false, false, false] rfl rfl rfl (by kernel_rfl) (fun _ _ _ h => h) rfl ?hy39 ?_
            case hy39 => exact Yl.move rfl rfl
            refine' TA.p (i := 12) #[true, true, true, true, true, true, true, true, true, true, true, true, true, false, false, false, false, false] rfl rfl rfl (by kernel_rfl) (fun _ _ _ h => h) rfl ?hy40 ?_
            case hy40 => exact Yl.ix2 rfl rfl rfl Try.underlying29 (by kernel_rfl) (by omega)
            refine' TA.y (i := 13) #[true, true, true, true, true, true, true, true, true, true, true, true, true, true, false, false, false, false] rfl rfl rfl (by kernel_rfl) (fun _ _ _ h => h) (fun _ h => by exact Hp.sub h (by repeat (first | exact List.Sublist.refl _ | apply List.Sublist.cons))) rfl ?hy41 ?_
            case hy41 => first | exact Yl.loads rfl rfl (by kernel_rfl) (by kernel_rfl) (Hp.fw mem0 (by omega))
            refine' TA.p (i := 14) #[true, true, true, true, true, true, true, true, true, true, true, true, true, true, true, false, false, false] rfl rfl rfl (by kernel_rfl) (fun _ _ _ h => h) rfl ?hy42 ?_
            case hy42 => exact Yl.ix2 rfl rfl rfl Try.underlying29 (by kernel_rfl) (by omega)
            refine' TA.sl (i := 15) #[true, true, true, true, true, true, true, true, true, true, true, true, true, true, true, true, false, false] rfl rfl (by kernel_rfl) (by decide) rfl ?hy43 ?_
            case hy43 => exact Ys.fw rfl rfl rfl (by kernel_rfl) foc0 (by omega)
            refine' TA.p (i := 16) #[true, true, true, true, true, true, true, true, true, true, true, true, true, true, true, true, true, false] rfl rfl rfl (by kernel_rfl) (fun _ _ _ h => h) rfl ?hy44 ?_
            case hy44 => exact Yl.ix2 rfl rfl rfl Try.underlying29 (by kernel_rfl) (by omega)
            refine' TA.sl (i := 17) #[true, true, true, true, true, true, true, true, true, true, true, true, true, true, true, true, true, true] rfl rfl (by kernel_rfl) (by decide) rfl ?hy45 ?_
            case hy45 => exact Ys.fw rfl rfl rfl (by kernel_rfl) foc0 (by omega)
            refine TA.done (by kernel_rfl) ?_
            refine TE.inNormal ?_
            refine TE.next ?_
            refine TC.region ?_
            refine' TL.y rfl rfl rfl ?hy46 ?_
            case hy46 => exact Yl.move rfl rfl
            refine' TL.y rfl rfl rfl ?hy47 ?_
            case hy47 => exact Yl.val (Yl.bin rfl rfl rfl (Bin.sub _ _ _ _)) (congrArg (Value.int .i64) (wsub1 (by omega) (by omega)))
            refine' TL.y rfl rfl rfl ?hy48 ?_
            case hy48 => exact Yl.assign rfl rfl
            refine TL.nil ?_
            refine TE.round (j - 1, twoF f2 j (j - 1)) ?hF49 ?hlt49 ?hs49 ?hm49
            case hF49 => exact ⟨by dsimp only; omega, by dsimp only; omega, c3.step (by omega) c2 (cmpI_neg.1 hs34), c4.trans (from_two f2 (by omega) (by omega))⟩
            case hlt49 => dsimp only; omega
            case hs49 => exact ⟨rfl, rfl, rfl, rfl, rfl, rfl, trivial⟩
            case hm49 => exact fun _ h => h
          · skip
            (try simp only [decide_eq_true_eq, decide_eq_false_iff_not, beq_iff_eq, beq_eq_false_iff_ne, bne_iff_ne, ne_eq, bne_eq_false_iff_eq, Bool.not_eq_true', Bool.not_eq_false', Int.not_lt, Int.not_le, gt_iff_lt, ge_iff_le] at hs34)
            have g3 := c3.done c1 c2 (fun h => absurd (cmpI_neg.2 h.2) (by omega))
            have g2 := c4
            refine TC.exit ?_
            refine TE.thenExit ?_
            refine TE.thenExit ?_
            refine TE.inHere ?_
            refine TE.inNormal ?_
            refine TE.next ?_
            refine TC.region ?_
            refine' TL.y rfl rfl rfl ?hy50 ?_
            case hy50 => exact Yl.move rfl rfl
            refine' TL.y rfl rfl rfl ?hy51 ?_
            case hy51 => exact Yl.val (Yl.bin rfl rfl rfl (Bin.add _ _ _ _)) (congrArg (Value.int .i64) (wadd1 (by omega)))
            refine' TL.y rfl rfl rfl ?hy52 ?_
            case hy52 => exact Yl.assign rfl rfl
            refine TL.nil ?_
            refine TE.round (i + 1, f2) ?hF53 ?hlt53 ?hs53 ?hm53
            case hF53 => exact ⟨h1.trans (g2.wide (by omega) (by omega)), by dsimp only; omega, by dsimp only; omega, g3, fun q hq => by
              dsimp only at hq ⊢
              rw [g2.out q (by omega)]; exact h5 q (by omega), (h6.wide (by omega) (by dsimp only; omega)).trans g2⟩
            case hlt53 => dsimp only; omega
            case hs53 => exact ⟨rfl, rfl, rfl, rfl, rfl, trivial⟩
            case hm53 => exact fun _ h => h
        · skip
          (try simp only [decide_eq_true_eq, decide_eq_false_iff_not, beq_iff_eq, beq_eq_false_iff_ne, bne_iff_ne, ne_eq, bne_eq_false_iff_eq, Bool.not_eq_true', Bool.not_eq_false', Int.not_lt, Int.not_le, gt_iff_lt, ge_iff_le] at hs21)
          have g3 := c3.done c1 c2 (fun h => by omega)
          have g2 := c4
          refine TA.skip (i := 4) #[true, true, true, true, true, false, false, false, false, false, false, false, false, false, false, false, false] rfl rfl rfl (by kernel_rfl) (fun _ _ _ h => h) rfl ?_
          refine TA.skip (i := 5) #[true, true, true, true, true, true, false, false, false, false, false, false, false, false, false, false, false] rfl rfl rfl (by kernel_rfl) (fun _ _ _ h => h) rfl ?_
          refine TA.skip (i := 6) #[true, true, true, true, true, true, true, false, false, false, false, false, false, false, false, false, false] rfl rfl rfl (by kernel_rfl) (fun _ _ _ h => h) rfl ?_
          refine TA.skip (i := 7) #[true, true, true, true, true, true, true, true, false, false, false, false, false, false, false, false, false] rfl rfl rfl (by kernel_rfl) (fun _ _ _ h => h) rfl ?_
          refine TA.skip (i := 8) #[true, true, true, true, true, true, true, true, true, false, false, false, false, false, false, false, false] rfl rfl rfl (by kernel_rfl) (fun _ _ _ h => h) rfl ?_
          refine TA.skip (i := 9) #[true, true, true, true, true, true, true, true, true, true, false, false, false, false, false, false, false] rfl rfl rfl (by kernel_rfl) (fun _ _ _ h => h) rfl ?_
          refine TA.skip (i := 10) #[true, true, true, true, true, true, true, true, true, true, true, false, false, false, false, false, false] rfl rfl rfl (by kernel_rfl) (fun _ _ _ h => h) rfl ?_
          refine TA.skip (i := 11) #[true, true, true, true, true, true, true, true, true, true, true, true, false, false, false, false, false] rfl rfl rfl (by kernel_rfl) (fun _ _ _ h => h) rfl ?_
          refine TA.skip (i := 12) #[true, true, true, true, true, true, true, true, true, true, true, true, true, false, false, false, false] rfl rfl rfl (by kernel_rfl) (fun _ _ _ h => h) rfl ?_
          refine TA.skip (i := 13) #[true, true, true, true, true, true, true, true, true, true, true, true, true, true, false, false, false] rfl rfl rfl (by kernel_rfl) (fun _ _ _ h => h) rfl ?_
          refine TA.skip (i := 14) #[true, true, true, true, true, true, true, true, true, true, true, true, true, true, true, false, false] rfl rfl rfl (by kernel_rfl) (fun _ _ _ h => h) rfl ?_
          refine TA.skip (i := 15) #[true, true, true, true, true, true, true, true, true, true, true, true, true, true, true, true, false] rfl rfl rfl (by kernel_rfl) (fun _ _ _ h => h) rfl ?_
          refine' TA.y (i := 16) #[true, true, true, true, true, true, true, true, true, true, true, true, true, true, true, true, true] rfl rfl rfl (by kernel_rfl) (fun _ _ _ h => h) (fun _ h => by exact Hp.sub h (by repeat (first | exact List.Sublist.refl _ | apply List.Sublist.cons))) rfl ?hy54 ?_
          case hy54 => exact Yl.pickF rfl rfl rfl
          refine TA.done (by kernel_rfl) ?_
          refine TE.next ?_
          refine TC.no rfl rfl ?_
          refine TC.exit ?_
          refine TE.thenExit ?_
          refine TE.thenExit ?_
          refine TE.inHere ?_
          refine TE.inNormal ?_
          refine TE.next ?_
          refine TC.region ?_
          refine' TL.y rfl rfl rfl ?hy55 ?_
          case hy55 => exact Yl.move rfl rfl
          refine' TL.y rfl rfl rfl ?hy56 ?_
          case hy56 => exact Yl.val (Yl.bin rfl rfl rfl (Bin.add _ _ _ _)) (congrArg (Value.int .i64) (wadd1 (by omega)))
          refine' TL.y rfl rfl rfl ?hy57 ?_
          case hy57 => exact Yl.assign rfl rfl
          refine TL.nil ?_
          refine TE.round (i + 1, f2) ?hF58 ?hlt58 ?hs58 ?hm58
          case hF58 => exact ⟨h1.trans (g2.wide (by omega) (by omega)), by dsimp only; omega, by dsimp only; omega, g3, fun q hq => by
            dsimp only at hq ⊢
            rw [g2.out q (by omega)]; exact h5 q (by omega), (h6.wide (by omega) (by dsimp only; omega)).trans g2⟩
          case hlt58 => dsimp only; omega
          case hs58 => exact ⟨rfl, rfl, rfl, rfl, rfl, trivial⟩
          case hm58 => exact fun _ h => h
    · skip
      (try simp only [decide_eq_true_eq, decide_eq_false_iff_not, beq_iff_eq, beq_eq_false_iff_ne, bne_iff_ne, ne_eq, bne_eq_false_iff_eq, Bool.not_eq_true', Bool.not_eq_false', Int.not_lt, Int.not_le, gt_iff_lt, ge_iff_le] at hs14)
      refine TC.exit ?_
      refine TE.thenExit ?_
      refine TE.thenExit ?_
      refine TE.inHere ?_
      refine TE.end0 rfl ?_
      exact fun w h => ⟨f1, rfl, (h.topure (φ := From a b f f1 ∧ SrtF f1 a b) ⟨h1, fun p q hp1 hp2 hp3 => h4 p q hp1 hp2 (by omega)⟩).leave⟩
end Go.Proofs.Ythjllhaebanplaa.Pk
