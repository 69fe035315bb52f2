/- The groups as the document has them; the sample; above. -/
import Derived.Test.YtipdpmmjmlimhaaPrF
import Derived.Test.YtipdpmmjmlimhaaProg
import Derived.RowKit3
namespace Go.Proofs.Ytipdpmmjmlimhaa.Pk
open Go Go.RowKit Go.Proofs.Ytipdpmmjmlimhaa.HL Go.Proofs.Ytipdpmmjmlimhaa.Ev Go.Proofs.YtipdpmmjmlimhaaW.PrintWords Go.Proofs.PrP Go.Proofs.DvP
set_option linter.unusedVariables false
set_option linter.unusedSimpArgs false
attribute [local irreducible] upR nU Vw sumC Nw
theorem nilNw {W0 w : World} {T : Nat → Prop} {f : Nat → Nd} {H : List Res} (hw : Hp W0 T H w) : Hp W0 T (ownR 45 3 (.slice none 0 0) 0 (Nw 0 f) :: H) w := by
  unfold Nw; exact hw.nil
set_option maxRecDepth 100000 in
set_option maxHeartbeats 2000000 in
theorem k_of (W : World) {m : Nat} {f : Nat → Nd} {A : Option Addr} {cp : Nat} (hS : Sl W A (Nw m f)) (hm : m ≤ 1000) : Calls Try.prog 13 #[.slice A m cp] W fun e w' => ∃ v : Value, e = .returned v ∧ (ownR 45 3 v (m) (Nw (m) f)).holds w' ∧ Below W.heap.size W w' ∧ ∀ j, (ownR 45 3 v (m) (Nw (m) f)).foot j → W.heap.size ≤ j := by
  have hM : Hp W (fun _ => False) [] W := Hp.start
  refine TC.enter (n := 31) Try.func13 rfl rfl rfl hM ?_
  refine TC.seq ?_
  refine TC.region ?_
  refine' TL.y rfl rfl rfl ?hy1 ?_
  case hy1 => exact Yl.assign rfl rfl
  refine TL.nil ?_
  refine TE.next ?_
  refine TC.seq ?_
  refine TC.region ?_
  refine' TL.y rfl rfl rfl ?hy2 ?_
  case hy2 => exact Yl.assign rfl rfl
  refine TL.nil ?_
  refine TE.next ?_
  refine TC.seq ?_
  refine TC.seq ?_
  refine TC.region ?_
  refine' TL.y rfl rfl rfl ?hy3 ?_
  case hy3 => exact Yl.assign rfl rfl
  refine TL.nil ?_
  refine TE.next ?_
  refine TC.block ?_
  refine TC.loop (σ := Nat × Value) (fun s => [(0, .slice A m cp), (3, s.2), (4, .int .i64 (s.1 : Int))]) (fun s => Hp W (fun _ => False) [ownR 45 3 s.2 s.1 (Nw s.1 f)]) (fun s => s.1 ≤ m) (fun s => m - s.1) (0, .slice none 0 0) ?hF4 ?hs4 ?hm4 ?round4
  case hF4 => exact Nat.zero_le _
  case hs4 => exact ⟨rfl, rfl, rfl, trivial⟩
  case hm4 => exact fun w h => nilNw h
  case round4 =>
    rintro ⟨i, v⟩ hi
    dsimp only at hi ⊢
    refine TC.seq ?_
    refine TC.seq ?_
    refine TC.region ?_
    refine' TL.y rfl rfl rfl ?hy5 ?_
    case hy5 => exact Yl.move rfl rfl
    refine' TL.y rfl rfl rfl ?hy6 ?_
    case hy6 => exact Yl.move rfl rfl
    refine' TL.y rfl rfl rfl ?hy7 ?_
    case hy7 => exact Yl.len rfl rfl Try.underlying22
    refine' TL.y rfl rfl rfl ?hy8 ?_
    case hy8 => exact Yl.bin rfl rfl rfl (Bin.lss _ _ _ _)
    refine TL.nil ?_
    refine TE.next ?_
    refine TC.cond rfl (fun hs8 => ?_) (fun hs8 => ?_)
    · skip
      (try simp only [decide_eq_true_eq, decide_eq_false_iff_not, beq_iff_eq, beq_eq_false_iff_ne, bne_iff_ne, ne_eq, bne_eq_false_iff_eq, Bool.not_eq_true', Bool.not_eq_false', Int.not_lt, Int.not_le, gt_iff_lt, ge_iff_le] at hs8)
      obtain ⟨b, o, rfl⟩ := Sl.some2 hS (by rw [Nw_length]; omega)
      refine TC.skip ?_
      refine TE.next ?_
      refine TC.seq ?_
      refine TC.block ?_
      refine TC.draw (k := 20) (Hp W (fun _ => False) []) [] #[false, false, false, false, false, false, false, false, false, false, false, false, false, false, false, false, false, false, false, false] (by kernel_rfl) rfl rfl (fun _ h => h.drew) (fun _ h => h.sub (List.nil_sublist _)) ?_
      refine' TA.y (i := 0) #[true, false, false, false, false, false, false, false, false, false, false, false, false, false, false, false, false, false, false, false] rfl rfl rfl (by kernel_rfl) (fun _ _ _ h => h) (fun _ h => by exact Hp.sub h (by repeat (first | exact List.Sublist.refl _ | apply List.Sublist.cons))) rfl ?hy9 ?_
      case hy9 => exact Yl.move rfl rfl
      refine' TA.y (i := 1) #[true, true, false, false, false, false, false, false, false, false, false, false, false, false, false, false, false, false, false, false] rfl rfl rfl (by kernel_rfl) (fun _ _ _ h => h) (fun _ h => by exact Hp.sub h (by repeat (first | exact List.Sublist.refl _ | apply List.Sublist.cons))) rfl ?hy10 ?_
      case hy10 => exact Yl.move rfl rfl
      refine' TA.y (i := 2) #[true, true, true, false, false, false, false, false, false, false, false, false, false, false, false, false, false, false, false, false] rfl rfl rfl (by kernel_rfl) (fun _ _ _ h => h) (fun _ h => by exact Hp.sub h (by repeat (first | exact List.Sublist.refl _ | apply List.Sublist.cons))) rfl ?hy11 ?_
      case hy11 => exact Yl.move rfl rfl
      refine' TA.y (i := 3) #[true, true, true, true, false, false, false, false, false, false, false, false, false, false, false, false, false, false, false, false] rfl rfl rfl (by kernel_rfl) (fun _ _ _ h => h) (fun _ h => by exact Hp.sub h (by repeat (first | exact List.Sublist.refl _ | apply List.Sublist.cons))) rfl ?hy12 ?_
      case hy12 => exact Yl.ixkn (k := 3) rfl rfl rfl Try.underlying22 (by kernel_rfl) (by omega)
      refine' TA.y (i := 4) #[true, true, true, true, true, false, false, false, false, false, false, false, false, false, false, false, false, false, false, false] rfl rfl rfl (by kernel_rfl) (fun _ _ _ h => h) (fun _ h => by exact Hp.sub h (by repeat (first | exact List.Sublist.refl _ | apply List.Sublist.cons))) rfl ?hy13 ?_
      case hy13 => first | exact Yl.field0 (k := 0) 0 rfl rfl Try.underlying38 rfl (by kernel_rfl) rfl | exact Yl.field (k := 0) 0 rfl rfl Try.underlying38 rfl (by kernel_rfl) rfl
      refine' TA.y (i := 5) #[true, true, true, true, true, true, false, false, false, false, false, false, false, false, false, false, false, false, false, false] rfl rfl rfl (by kernel_rfl) (fun _ _ _ h => h) (fun _ h => by exact Hp.sub h (by repeat (first | exact List.Sublist.refl _ | apply List.Sublist.cons))) rfl ?hy14 ?_
      case hy14 => first | exact Yl.load rfl rfl (by kernel_rfl) (Sl.nw hS (i := 0) rfl (by omega) (by decide)) | exact Yl.load rfl rfl (by kernel_rfl) (Sl.nw hS (i := 1) rfl (by omega) (by decide)) | exact Yl.load rfl rfl (by kernel_rfl) (Sl.nw hS (i := 2) rfl (by omega) (by decide)) | exact Yl.load rfl rfl (by kernel_rfl) (Hp.cell mem0 rfl) | exact Yl.load rfl rfl (by kernel_rfl) (Hp.cell mem1 rfl) | exact Yl.load rfl rfl (by kernel_rfl) (Hp.cell mem2 rfl) | exact Yl.load rfl rfl (by kernel_rfl) (Hp.cell mem3 rfl) | exact Yl.load rfl rfl (by kernel_rfl) (Hp.cell mem4 rfl) | exact Yl.load rfl rfl (by kernel_rfl) (Hp.rowAt mem0 (by omega) rfl) | exact Yl.load rfl rfl (by kernel_rfl) (Hp.rowAt mem1 (by omega) rfl) | exact Yl.load rfl rfl (by kernel_rfl) (Hp.rowAt mem2 (by omega) rfl) | exact Yl.load rfl rfl (by kernel_rfl) (Hp.rowAt mem3 (by omega) rfl) | exact Yl.load rfl rfl (by kernel_rfl) (Hp.rowAt mem4 (by omega) rfl)
      refine TA.re (i := 16) (v' := .int .i64 (f i).1) rfl rfl ?_
      refine' TA.y (i := 6) #[true, true, true, true, true, true, true, false, false, false, false, false, false, false, false, false, false, false, false, false] rfl rfl rfl (by kernel_rfl) (fun _ _ _ h => h) (fun _ h => by exact Hp.sub h (by repeat (first | exact List.Sublist.refl _ | apply List.Sublist.cons))) rfl ?hy15 ?_
      case hy15 => exact Yl.move rfl rfl
      refine' TA.y (i := 7) #[true, true, true, true, true, true, true, true, false, false, false, false, false, false, false, false, false, false, false, false] rfl rfl rfl (by kernel_rfl) (fun _ _ _ h => h) (fun _ h => by exact Hp.sub h (by repeat (first | exact List.Sublist.refl _ | apply List.Sublist.cons))) rfl ?hy16 ?_
      case hy16 => exact Yl.move rfl rfl
      refine' TA.y (i := 8) #[true, true, true, true, true, true, true, true, true, false, false, false, false, false, false, false, false, false, false, false] rfl rfl rfl (by kernel_rfl) (fun _ _ _ h => h) (fun _ h => by exact Hp.sub h (by repeat (first | exact List.Sublist.refl _ | apply List.Sublist.cons))) rfl ?hy17 ?_
      case hy17 => exact Yl.ixkn (k := 3) rfl rfl rfl Try.underlying22 (by kernel_rfl) (by omega)
      refine' TA.y (i := 9) #[true, true, true, true, true, true, true, true, true, true, false, false, false, false, false, false, false, false, false, false] rfl rfl rfl (by kernel_rfl) (fun _ _ _ h => h) (fun _ h => by exact Hp.sub h (by repeat (first | exact List.Sublist.refl _ | apply List.Sublist.cons))) rfl ?hy18 ?_
      case hy18 => first | exact Yl.field0 (k := 0) 1 rfl rfl Try.underlying38 rfl (by kernel_rfl) rfl | exact Yl.field (k := 0) 1 rfl rfl Try.underlying38 rfl (by kernel_rfl) rfl
      refine' TA.y (i := 10) #[true, true, true, true, true, true, true, true, true, true, true, false, false, false, false, false, false, false, false, false] rfl rfl rfl (by kernel_rfl) (fun _ _ _ h => h) (fun _ h => by exact Hp.sub h (by repeat (first | exact List.Sublist.refl _ | apply List.Sublist.cons))) rfl ?hy19 ?_
      case hy19 => first | exact Yl.load rfl rfl (by kernel_rfl) (Sl.nw hS (i := 0) rfl (by omega) (by decide)) | exact Yl.load rfl rfl (by kernel_rfl) (Sl.nw hS (i := 1) rfl (by omega) (by decide)) | exact Yl.load rfl rfl (by kernel_rfl) (Sl.nw hS (i := 2) rfl (by omega) (by decide)) | exact Yl.load rfl rfl (by kernel_rfl) (Hp.cell mem0 rfl) | exact Yl.load rfl rfl (by kernel_rfl) (Hp.cell mem1 rfl) | exact Yl.load rfl rfl (by kernel_rfl) (Hp.cell mem2 rfl) | exact Yl.load rfl rfl (by kernel_rfl) (Hp.cell mem3 rfl) | exact Yl.load rfl rfl (by kernel_rfl) (Hp.cell mem4 rfl) | exact Yl.load rfl rfl (by kernel_rfl) (Hp.rowAt mem0 (by omega) rfl) | exact Yl.load rfl rfl (by kernel_rfl) (Hp.rowAt mem1 (by omega) rfl) | exact Yl.load rfl rfl (by kernel_rfl) (Hp.rowAt mem2 (by omega) rfl) | exact Yl.load rfl rfl (by kernel_rfl) (Hp.rowAt mem3 (by omega) rfl) | exact Yl.load rfl rfl (by kernel_rfl) (Hp.rowAt mem4 (by omega) rfl)
      refine TA.re (i := 21) (v' := .int .i64 (f i).2.1) rfl rfl ?_
      refine' TA.y (i := 11) #[true, true, true, true, true, true, true, true, true, true, true, true, false, false, false, false, false, false, false, false] rfl rfl rfl (by kernel_rfl) (fun _ _ _ h => h) (fun _ h => by exact Hp.sub h (by repeat (first | exact List.Sublist.refl _ | apply List.Sublist.cons))) rfl ?hy20 ?_
      case hy20 => exact Yl.move rfl rfl
      refine' TA.y (i := 12) #[true, true, true, true, true, true, true, true, true, true, true, true, true, false, false, false, false, false, false, false] rfl rfl rfl (by kernel_rfl) (fun _ _ _ h => h) (fun _ h => by exact Hp.sub h (by repeat (first | exact List.Sublist.refl _ | apply List.Sublist.cons))) rfl ?hy21 ?_
      case hy21 => exact Yl.move rfl rfl
      refine' TA.y (i := 13) #[true, true, true, true, true, true, true, true, true, true, true, true, true, true, false, false, false, false, false, false] rfl rfl rfl (by kernel_rfl) (fun _ _ _ h => h) (fun _ h => by exact Hp.sub h (by repeat (first | exact List.Sublist.refl _ | apply List.Sublist.cons))) rfl ?hy22 ?_
      case hy22 => exact Yl.ixkn (k := 3) rfl rfl rfl Try.underlying22 (by kernel_rfl) (by omega)
      refine' TA.y (i := 14) #[true, true, true, true, true, true, true, true, true, true, true, true, true, true, true, false, false, false, false, false] rfl rfl rfl (by kernel_rfl) (fun _ _ _ h => h) (fun _ h => by exact Hp.sub h (by repeat (first | exact List.Sublist.refl _ | apply List.Sublist.cons))) rfl ?hy23 ?_
      case hy23 => first | exact Yl.field0 (k := 0) 2 rfl rfl Try.underlying38 rfl (by kernel_rfl) rfl | exact Yl.field (k := 0) 2 rfl rfl Try.underlying38 rfl (by kernel_rfl) rfl
      refine' TA.y (i := 15) #[true, true, true, true, true, true, true, true, true, true, true, true, true, true, true, true, false, false, false, false] rfl rfl rfl (by kernel_rfl) (fun _ _ _ h => h) (fun _ h => by exact Hp.sub h (by repeat (first | exact List.Sublist.refl _ | apply List.Sublist.cons))) rfl ?hy24 ?_
      case hy24 => first | exact Yl.load rfl rfl (by kernel_rfl) (Sl.nw hS (i := 0) rfl (by omega) (by decide)) | exact Yl.load rfl rfl (by kernel_rfl) (Sl.nw hS (i := 1) rfl (by omega) (by decide)) | exact Yl.load rfl rfl (by kernel_rfl) (Sl.nw hS (i := 2) rfl (by omega) (by decide)) | exact Yl.load rfl rfl (by kernel_rfl) (Hp.cell mem0 rfl) | exact Yl.load rfl rfl (by kernel_rfl) (Hp.cell mem1 rfl) | exact Yl.load rfl rfl (by kernel_rfl) (Hp.cell mem2 rfl) | exact Yl.load rfl rfl (by kernel_rfl) (Hp.cell mem3 rfl) | exact Yl.load rfl rfl (by kernel_rfl) (Hp.cell mem4 rfl) | exact Yl.load rfl rfl (by kernel_rfl) (Hp.rowAt mem0 (by omega) rfl) | exact Yl.load rfl rfl (by kernel_rfl) (Hp.rowAt mem1 (by omega) rfl) | exact Yl.load rfl rfl (by kernel_rfl) (Hp.rowAt mem2 (by omega) rfl) | exact Yl.load rfl rfl (by kernel_rfl) (Hp.rowAt mem3 (by omega) rfl) | exact Yl.load rfl rfl (by kernel_rfl) (Hp.rowAt mem4 (by omega) rfl)
      refine TA.re (i := 26) (v' := .int .i64 (f i).2.2) rfl rfl ?_
      refine' TA.y (i := 16) #[true, true, true, true, true, true, true, true, true, true, true, true, true, true, true, true, true, false, false, false] rfl rfl rfl (by kernel_rfl) (fun _ _ _ h => h) (fun _ h => by exact Hp.sub h (by repeat (first | exact List.Sublist.refl _ | apply List.Sublist.cons))) rfl ?hy25 ?_
      case hy25 => exact Yl.build (z := .agg #[.int .i64 0, .int .i64 0, .int .i64 0]) [(0, 1), (1, 1), (2, 1)] rfl (by kernel_rfl) Try.underlying45 (by kernel_rfl) rfl rfl
      refine TA.re (i := 27) (v' := .agg #[.int .i64 (f i).1, .int .i64 (f i).2.1, .int .i64 (f i).2.2]) rfl rfl ?_
      refine' TA.mx (i := 17) #[true, true, true, true, true, true, true, true, true, true, true, true, true, true, true, true, true, true, false, false] rfl rfl rfl (by kernel_rfl) (by decide) rfl ?hy26 ?hz26 ?_
      case hy26 => exact Ym.buildSlice (cells := #[.int .i64 (f i).1, .int .i64 (f i).2.1, .int .i64 (f i).2.2]) (z := .agg #[.int .i64 0, .int .i64 0, .int .i64 0]) (size := 3) #[.int .i64 0, .int .i64 0, .int .i64 0] rfl Try.underlying28 (by kernel_rfl) (by decide) (by decide) (by kernel_rfl) rfl rfl
      case hz26 => exact (fun _ _ h => by exact Hp.sub h (by repeat (first | exact List.Sublist.refl _ | apply List.Sublist.cons)))
      intro b28
      refine' TA.mx (i := 18) #[true, true, true, true, true, true, true, true, true, true, true, true, true, true, true, true, true, true, true, false] rfl rfl rfl (by kernel_rfl) (by decide) rfl ?hy27 ?hz27 ?_
      case hy27 => exact Ym.append (news := [.int .i64 (f i).1, .int .i64 (f i).2.1, .int .i64 (f i).2.2]) rfl Try.underlying28 (by kernel_rfl) (z := .agg #[.int .i64 0, .int .i64 0, .int .i64 0]) (size := 3) (bytes := 24) rfl (by decide) (by decide) rfl rfl rfl (Hp.cells mem0 (fun j v hj => by simpa using hj)) (by simp [Value.oneCell']) (by omega) (fun v' => foc1)
      case hz27 => exact (fun _ _ h => by exact Hp.sub h (by repeat (first | exact List.Sublist.refl _ | apply List.Sublist.cons)))
      intro v29
      refine' TA.y (i := 19) #[true, true, true, true, true, true, true, true, true, true, true, true, true, true, true, true, true, true, true, true] rfl rfl rfl (by kernel_rfl) (fun _ _ _ h => h) (fun _ h => by exact Hp.sub h (by repeat (first | exact List.Sublist.refl _ | apply List.Sublist.cons))) rfl ?hy28 ?_
      case hy28 => exact Yl.assign rfl rfl
      refine TA.done (by kernel_rfl) ?_
      refine TE.inNormal ?_
      refine TE.next ?_
      refine TC.region ?_
      refine' TL.y rfl rfl rfl ?hy29 ?_
      case hy29 => exact Yl.move rfl rfl
      refine' TL.y rfl rfl rfl ?hy30 ?_
      case hy30 => first | (refine Yl.val (Yl.bin rfl rfl rfl (Bin.add _ _ _ _)) (congrArg (Value.int .i64) (i64in ?_ ?_)) <;> omega) | exact Yl.bin rfl rfl rfl (Bin.add _ _ _ _)
      refine' TL.y rfl rfl rfl ?hy31 ?_
      case hy31 => exact Yl.assign rfl rfl
      refine TL.nil ?_
      refine TE.round (i + 1, v29) ?hF32 ?hlt32 ?hs32 ?hm32
      case hF32 => omega
      case hlt32 => dsimp only; omega
      case hs32 => exact ⟨rfl, rfl, rfl, trivial⟩
      case hm32 => exact (fun w h => by
        dsimp only
        rw [Nw_succ]
        exact h.sub (List.sublist_cons_self _ _))
    · skip
      (try simp only [decide_eq_true_eq, decide_eq_false_iff_not, beq_iff_eq, beq_eq_false_iff_ne, bne_iff_ne, ne_eq, bne_eq_false_iff_eq, Bool.not_eq_true', Bool.not_eq_false', Int.not_lt, Int.not_le, gt_iff_lt, ge_iff_le] at hs8)
      refine TC.exit ?_
      refine TE.thenExit ?_
      refine TE.thenExit ?_
      refine TE.inHere ?_
      refine TE.next ?_
      refine TC.seq ?_
      refine TC.region ?_
      refine' TL.y rfl rfl rfl ?hy33 ?_
      case hy33 => exact Yl.move rfl rfl
      refine' TL.y rfl rfl rfl ?hy34 ?_
      case hy34 => exact Yl.assign rfl rfl
      refine TL.nil ?_
      refine TE.next ?_
      refine TC.ret ?_
      refine TE.ret1 rfl rfl ?_
      obtain rfl : i = m := by omega
      exact fun w h => ⟨v, rfl, h.leaveNew⟩
set_option maxRecDepth 100000 in
set_option maxHeartbeats 2000000 in
theorem k_above (W : World) {m : Nat} {f : Nat → Nd} {A : Option Addr} {cp : Nat} (hS : Sl W A (Nw m f)) (hv : Vld m f) {g t : Int} (hg0 : 0 ≤ g) (hg1 : g < m) (ht : 0 ≤ t) : Calls Try.prog 20 #[.slice A m cp, .int .i64 t, .int .i64 g] W fun e w' => e = .returned (.bool (blV f t (m + 1) g)) ∧ Below W.heap.size W w' := by
  obtain ⟨b, o, rfl⟩ := Sl.some2 hS (by rw [Nw_length]; omega)
  have hm64 := hv.m1
  have hM : Hp W (fun _ => False) [] W := Hp.start
  refine TC.enter (n := 17) Try.func20 rfl rfl rfl hM ?_
  refine TC.seq ?_
  refine TC.region ?_
  refine' TL.y rfl rfl rfl ?hy1 ?_
  case hy1 => exact Yl.assign rfl rfl
  refine TL.nil ?_
  refine TE.next ?_
  refine TC.seq ?_
  refine TC.block ?_
  refine TC.loop (σ := Int × Nat) (fun s => [(0, .slice (some ⟨b, o, none⟩) m cp), (1, .int .i64 t), (2, .int .i64 s.1)]) (fun s => Hp W (fun _ => False) []) (fun s => -1 ≤ s.1 ∧ s.1 < m ∧ s.1 + 2 ≤ s.2 ∧ blV f t s.2 s.1 = blV f t (m + 1) g) (fun s => s.2) (g, m + 1) ?hF2 ?hs2 ?hm2 ?round2
  case hF2 => exact ⟨by dsimp only; omega, hg1, by dsimp only; omega, rfl⟩
  case hs2 => exact ⟨rfl, rfl, rfl, trivial⟩
  case hm2 => exact fun _ h => h
  case round2 =>
    rintro ⟨x, k⟩ ⟨h1, h2, h3, h4⟩
    dsimp only at h1 h2 h3 h4 ⊢
    obtain ⟨k, rfl⟩ : ∃ k', k = k' + 1 := ⟨k - 1, by omega⟩
    rw [blV] at h4
    refine TC.seq ?_
    refine TC.seq ?_
    refine TC.region ?_
    refine' TL.y rfl rfl rfl ?hy3 ?_
    case hy3 => exact Yl.move rfl rfl
    refine' TL.y rfl rfl rfl ?hy4 ?_
    case hy4 => exact Yl.bin rfl rfl rfl (Bin.geq _ _ _ _)
    refine TL.nil ?_
    refine TE.next ?_
    refine TC.cond rfl (fun hs8 => ?_) (fun hs8 => ?_)
    · skip
      (try simp only [decide_eq_true_eq, decide_eq_false_iff_not, beq_iff_eq, beq_eq_false_iff_ne, bne_iff_ne, ne_eq, bne_eq_false_iff_eq, Bool.not_eq_true', Bool.not_eq_false', Int.not_lt, Int.not_le, gt_iff_lt, ge_iff_le] at hs8)
      have hp := hv.par (i := x.toNat) (by omega)
      refine TC.skip ?_
      refine TE.next ?_
      refine TC.block ?_
      refine TC.seq ?_
      refine TC.seq ?_
      refine TC.region ?_
      refine' TL.y rfl rfl rfl ?hy5 ?_
      case hy5 => exact Yl.move rfl rfl
      refine' TL.y rfl rfl rfl ?hy6 ?_
      case hy6 => exact Yl.move rfl rfl
      refine' TL.y rfl rfl rfl ?hy7 ?_
      case hy7 => exact Yl.bin rfl rfl rfl (Bin.eql _ _ _ _)
      refine TL.nil ?_
      refine TE.next ?_
      refine TC.cond rfl (fun hs11 => ?_) (fun hs11 => ?_)
      · skip
        (try simp only [decide_eq_true_eq, decide_eq_false_iff_not, beq_iff_eq, beq_eq_false_iff_ne, bne_iff_ne, ne_eq, bne_eq_false_iff_eq, Bool.not_eq_true', Bool.not_eq_false', Int.not_lt, Int.not_le, gt_iff_lt, ge_iff_le] at hs11)
        refine TC.seq ?_
        refine TC.region ?_
        refine' TL.y rfl rfl rfl ?hy8 ?_
        case hy8 => exact Yl.assign rfl rfl
        refine TL.nil ?_
        refine TE.next ?_
        refine TC.ret ?_
        refine TE.thenRet ?_
        refine TE.inRet ?_
        refine TE.thenRet ?_
        refine TE.inRet ?_
        refine TE.thenRet ?_
        refine TE.ret1 rfl rfl ?_
        exact fun w h => ⟨by rw [← h4, if_pos (by omega)], h.below⟩
      · skip
        (try simp only [decide_eq_true_eq, decide_eq_false_iff_not, beq_iff_eq, beq_eq_false_iff_ne, bne_iff_ne, ne_eq, bne_eq_false_iff_eq, Bool.not_eq_true', Bool.not_eq_false', Int.not_lt, Int.not_le, gt_iff_lt, ge_iff_le] at hs11)
        refine TC.skip ?_
        refine TE.next ?_
        refine TC.region ?_
        refine' TL.y rfl rfl rfl ?hy9 ?_
        case hy9 => exact Yl.move rfl rfl
        refine' TL.y rfl rfl rfl ?hy10 ?_
        case hy10 => exact Yl.move rfl rfl
        refine' TL.y rfl rfl rfl ?hy11 ?_
        case hy11 => exact Yl.ixkz (k := 3) rfl rfl rfl Try.underlying22 (by kernel_rfl) (by omega) (by omega)
        refine' TL.y rfl rfl rfl ?hy12 ?_
        case hy12 => first | exact Yl.field0 (k := 0) 0 rfl rfl Try.underlying38 rfl (by kernel_rfl) rfl | exact Yl.field (k := 0) 0 rfl rfl Try.underlying38 rfl (by kernel_rfl) rfl
        refine' TL.y rfl rfl rfl ?hy13 ?_
        case hy13 => first | exact Yl.load rfl rfl (by kernel_rfl) (Sl.nw hS (i := 0) rfl (by omega) (by decide)) | exact Yl.load rfl rfl (by kernel_rfl) (Sl.nw hS (i := 1) rfl (by omega) (by decide)) | exact Yl.load rfl rfl (by kernel_rfl) (Sl.nw hS (i := 2) rfl (by omega) (by decide)) | exact Yl.load rfl rfl (by kernel_rfl) (Hp.cell mem0 rfl) | exact Yl.load rfl rfl (by kernel_rfl) (Hp.cell mem1 rfl) | exact Yl.load rfl rfl (by kernel_rfl) (Hp.cell mem2 rfl) | exact Yl.load rfl rfl (by kernel_rfl) (Hp.cell mem3 rfl) | exact Yl.load rfl rfl (by kernel_rfl) (Hp.cell mem4 rfl) | exact Yl.load rfl rfl (by kernel_rfl) (Hp.rowAt mem0 (by omega) rfl) | exact Yl.load rfl rfl (by kernel_rfl) (Hp.rowAt mem1 (by omega) rfl) | exact Yl.load rfl rfl (by kernel_rfl) (Hp.rowAt mem2 (by omega) rfl) | exact Yl.load rfl rfl (by kernel_rfl) (Hp.rowAt mem3 (by omega) rfl) | exact Yl.load rfl rfl (by kernel_rfl) (Hp.rowAt mem4 (by omega) rfl)
        refine' TL.y rfl rfl rfl ?hy14 ?_
        case hy14 => exact Yl.assign rfl rfl
        refine TL.nil ?_
        refine TE.inNormal ?_
        refine TE.round ((f x.toNat).1, k) ?hF15 ?hlt15 ?hs15 ?hm15
        case hF15 => exact ⟨hp.1, by dsimp only; omega, by dsimp only; omega, by dsimp only; rw [← h4, if_neg (by omega), if_neg (by omega)]⟩
        case hlt15 => dsimp only; omega
        case hs15 => exact ⟨rfl, rfl, rfl, trivial⟩
        case hm15 => exact fun _ h => h
    · skip
      (try simp only [decide_eq_true_eq, decide_eq_false_iff_not, beq_iff_eq, beq_eq_false_iff_ne, bne_iff_ne, ne_eq, bne_eq_false_iff_eq, Bool.not_eq_true', Bool.not_eq_false', Int.not_lt, Int.not_le, gt_iff_lt, ge_iff_le] at hs8)
      refine TC.exit ?_
      refine TE.thenExit ?_
      refine TE.thenExit ?_
      refine TE.inHere ?_
      refine TE.next ?_
      refine TC.seq ?_
      refine TC.region ?_
      refine' TL.y rfl rfl rfl ?hy16 ?_
      case hy16 => exact Yl.assign rfl rfl
      refine TL.nil ?_
      refine TE.next ?_
      refine TC.ret ?_
      refine TE.ret1 rfl rfl ?_
      exact fun w h => ⟨by rw [← h4, if_neg (by omega), if_pos (by omega)], h.below⟩
end Go.Proofs.Ytipdpmmjmlimhaa.Pk
