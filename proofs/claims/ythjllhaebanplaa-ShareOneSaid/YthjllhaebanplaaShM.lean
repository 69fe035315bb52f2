/- The stable sort: its merge, and all of it. -/
import Derived.Test.YthjllhaebanplaaShS
import Derived.Test.YthjllhaebanplaaProg
import Derived.RowKit3
namespace Go.Proofs.Ythjllhaebanplaa.Pk
open Go Go.RowKit Go.Proofs.Ythjllhaebanplaa.HL Go.Proofs.Ythjllhaebanplaa.Ev Go.Proofs.YthjllhaebanplaaW.PrintWords Go.Proofs.ShP
set_option linter.unusedVariables false
set_option linter.unusedSimpArgs false
set_option maxRecDepth 100000 in
set_option maxHeartbeats 2000000 in
theorem k_sym {g k cp : Nat} (hk : k ≤ 1000) (N : Nat) : ∀ {f : Nat → E} {a p b : Nat} (hN : b - a ≤ N) (hap : a < p) (hpb : p < b) (hbk : b ≤ k) (s1 : SrtF f a p) (s2 : SrtF f p b) (hat : ∀ i j, a ≤ i → i < p → p ≤ j → j < b → (f i).1 < (f j).1), Turns Try.prog 33 #[.slice (some ⟨g, 0, none⟩) k cp, .int .i64 (a : Int), .int .i64 (p : Int), .int .i64 (b : Int), .func (.func 22) #[] #[]] (ownR 35 2 (.slice (some ⟨g, 0, none⟩) k cp) k (Fw k (f))) (fun _ : Nat → E => .tuple #[]) (fun f' => pureR (From a b f f' ∧ SrtF f' a b) (ownR 35 2 (.slice (some ⟨g, 0, none⟩) k cp) k (Fw k (f')))) := by
  induction N with
  | zero => intro f a p b hN hap hpb; omega
  | succ N ih =>
    intro f a p b hN hap hpb hbk s1 s2 hat W hR
    have hM := Hp.enter hR
    refine TC.enter (n := 220) Try.func33 rfl rfl rfl hM ?_
    refine TC.seq ?_
    refine TC.seq ?_
    refine TC.region ?_
    refine' TL.y rfl rfl rfl ?hy1 ?_
    case hy1 => exact Yl.move rfl rfl
    refine' TL.y rfl rfl rfl ?hy2 ?_
    case hy2 => exact Yl.move rfl rfl
    refine' TL.y rfl rfl rfl ?hy3 ?_
    case hy3 => exact Yl.val (Yl.bin rfl rfl rfl (Bin.sub _ _ _ _)) (congrArg (Value.int .i64) (wsub (a := p) (i := a) (by omega) (by omega)))
    refine' TL.y rfl rfl rfl ?hy4 ?_
    case hy4 => exact Yl.bin rfl rfl rfl (Bin.eql _ _ _ _)
    refine TL.nil ?_
    refine TE.next ?_
    refine TC.cond rfl (fun hs28 => ?_) (fun hs28 => ?_)
    · skip
      (try simp only [decide_eq_true_eq, decide_eq_false_iff_not, beq_iff_eq, beq_eq_false_iff_ne, bne_iff_ne, ne_eq, bne_eq_false_iff_eq, Bool.not_eq_true', Bool.not_eq_false', Int.not_lt, Int.not_le, gt_iff_lt, ge_iff_le] at hs28)
      refine TC.seq ?_
      refine TC.region ?_
      refine' TL.y rfl rfl rfl ?hy5 ?_
      case hy5 => exact Yl.move rfl rfl
      refine' TL.y rfl rfl rfl ?hy6 ?_
      case hy6 => exact Yl.assign rfl rfl
      refine TL.nil ?_
      refine TE.next ?_
      refine TC.seq ?_
      refine TC.region ?_
      refine' TL.y rfl rfl rfl ?hy7 ?_
      case hy7 => exact Yl.move rfl rfl
      refine' TL.y rfl rfl rfl ?hy8 ?_
      case hy8 => exact Yl.assign rfl rfl
      refine TL.nil ?_
      refine TE.next ?_
      refine TC.seq ?_
      refine TC.block ?_
      refine TC.loop (σ := Nat × Nat) (fun x => [(0, .slice (some ⟨g, 0, none⟩) k cp), (1, .int .i64 (a : Int)), (2, .int .i64 (p : Int)), (3, .int .i64 (b : Int)), (4, .func (.func 22) #[] #[]), (10, .int .i64 (x.1 : Int)), (11, .int .i64 (x.2 : Int))]) (fun x => Hp W (ownR 35 2 (.slice (some ⟨g, 0, none⟩) k cp) k (Fw k (f))).foot [ownR 35 2 (.slice (some ⟨g, 0, none⟩) k cp) k (Fw k (f))]) (fun x => a + 1 ≤ x.1 ∧ x.1 ≤ x.2 ∧ x.2 ≤ b ∧ (∀ q, a + 1 ≤ q → q < x.1 → (f a).2 < (f q).2) ∧ ∀ q, x.2 ≤ q → q < b → ¬ (f a).2 < (f q).2) (fun x => x.2 - x.1) (p, b) ?hF9 ?hs9 ?hm9 ?round9
      case hF9 => exact ⟨by dsimp only; omega, by dsimp only; omega, Nat.le_refl _, fun q h1 h2 => by dsimp only at h2; omega, fun q h1 h2 => by dsimp only at h1; omega⟩
      case hs9 => exact ⟨rfl, rfl, rfl, rfl, rfl, rfl, rfl, trivial⟩
      case hm9 => exact fun _ h => h
      case round9 =>
        rintro ⟨i, j⟩ ⟨c1, c2, c3, c4, c5⟩
        dsimp only at c1 c2 c3 c4 c5 ⊢
        refine TC.seq ?_
        refine TC.seq ?_
        refine TC.region ?_
        refine' TL.y rfl rfl rfl ?hy10 ?_
        case hy10 => exact Yl.move rfl rfl
        refine' TL.y rfl rfl rfl ?hy11 ?_
        case hy11 => exact Yl.move rfl rfl
        refine' TL.y rfl rfl rfl ?hy12 ?_
        case hy12 => exact Yl.bin rfl rfl rfl (Bin.lss _ _ _ _)
        refine TL.nil ?_
        refine TE.next ?_
        refine TC.cond rfl (fun hs33 => ?_) (fun hs33 => ?_)
        · skip
          (try simp only [decide_eq_true_eq, decide_eq_false_iff_not, beq_iff_eq, beq_eq_false_iff_ne, bne_iff_ne, ne_eq, bne_eq_false_iff_eq, Bool.not_eq_true', Bool.not_eq_false', Int.not_lt, Int.not_le, gt_iff_lt, ge_iff_le] at hs33)
          refine TC.skip ?_
          refine TE.next ?_
          refine TC.block ?_
          refine TC.seq ?_
          refine TC.region ?_
          refine' TL.y rfl rfl rfl ?hy13 ?_
          case hy13 => exact Yl.move rfl rfl
          refine' TL.y rfl rfl rfl ?hy14 ?_
          case hy14 => exact Yl.move rfl rfl
          refine' TL.y rfl rfl rfl ?hy15 ?_
          case hy15 => exact Yl.val (Yl.bin rfl rfl rfl (Bin.add _ _ _ _)) (congrArg (Value.int .i64) (wadd (a := i) (i := j) (by omega)))
          refine' TL.y rfl rfl rfl ?hy16 ?_
          case hy16 => exact Yl.val (Yl.conv rfl rfl (by kernel_rfl) Try.underlying42) (congrArg (Value.int .u64) (wu (a := i + j) (by omega)))
          refine' TL.y rfl rfl rfl ?hy17 ?_
          case hy17 => exact Yl.val (Yl.bin rfl rfl rfl (Bin.shr _ _ _ _ _ (by omega))) (congrArg (Value.int .u64) (whalf (a := i + j)))
          refine' TL.y rfl rfl rfl ?hy18 ?_
          case hy18 => exact Yl.val (Yl.conv rfl rfl (by kernel_rfl) Try.underlying3) (congrArg (Value.int .i64) (wi (a := (i + j) / 2) (by omega)))
          refine' TL.y rfl rfl rfl ?hy19 ?_
          case hy19 => exact Yl.assign rfl rfl
          refine TL.nil ?_
          refine TE.next ?_
          refine TC.seq ?_
          refine TC.draw (k := 11) _ [] #[false, false, false, false, false, false, false, false, false, false, false] (by kernel_rfl) rfl rfl (fun _ h => h.drew) (fun _ h => h) ?_
          refine' TA.y (i := 0) #[true, false, false, false, false, false, false, false, false, false, false] rfl rfl rfl (by kernel_rfl) (fun _ _ _ h => h) (fun _ h => by exact Hp.sub h (by repeat (first | exact List.Sublist.refl _ | apply List.Sublist.cons))) rfl ?hy20 ?_
          case hy20 => exact Yl.move rfl rfl
          refine' TA.y (i := 1) #[true, true, false, false, false, false, false, false, false, false, false] rfl rfl rfl (by kernel_rfl) (fun _ _ _ h => h) (fun _ h => by exact Hp.sub h (by repeat (first | exact List.Sublist.refl _ | apply List.Sublist.cons))) rfl ?hy21 ?_
          case hy21 => exact Yl.move rfl rfl
          refine' TA.y (i := 2) #[true, true, true, false, false, false, false, false, false, false, false] rfl rfl rfl (by kernel_rfl) (fun _ _ _ h => h) (fun _ h => by exact Hp.sub h (by repeat (first | exact List.Sublist.refl _ | apply List.Sublist.cons))) rfl ?hy22 ?_
          case hy22 => exact Yl.move rfl rfl
          refine' TA.y (i := 3) #[true, true, true, true, false, false, false, false, false, false, false] rfl rfl rfl (by kernel_rfl) (fun _ _ _ h => h) (fun _ h => by exact Hp.sub h (by repeat (first | exact List.Sublist.refl _ | apply List.Sublist.cons))) rfl ?hy23 ?_
          case hy23 => exact Yl.ix2 rfl rfl rfl Try.underlying29 (by kernel_rfl) (by omega)
          refine' TA.y (i := 4) #[true, true, true, true, true, false, false, false, false, false, false] rfl rfl rfl (by kernel_rfl) (fun _ _ _ h => h) (fun _ h => by exact Hp.sub h (by repeat (first | exact List.Sublist.refl _ | apply List.Sublist.cons))) rfl ?hy24 ?_
          case hy24 => first | exact Yl.loads rfl rfl (by kernel_rfl) (by kernel_rfl) (Hp.fw mem0 (by omega))
          refine' TA.y (i := 5) #[true, true, true, true, true, true, false, false, false, false, false] rfl rfl rfl (by kernel_rfl) (fun _ _ _ h => h) (fun _ h => by exact Hp.sub h (by repeat (first | exact List.Sublist.refl _ | apply List.Sublist.cons))) rfl ?hy25 ?_
          case hy25 => exact Yl.move rfl rfl
          refine' TA.y (i := 6) #[true, true, true, true, true, true, true, false, false, false, false] rfl rfl rfl (by kernel_rfl) (fun _ _ _ h => h) (fun _ h => by exact Hp.sub h (by repeat (first | exact List.Sublist.refl _ | apply List.Sublist.cons))) rfl ?hy26 ?_
          case hy26 => exact Yl.move rfl rfl
          refine' TA.y (i := 7) #[true, true, true, true, true, true, true, true, false, false, false] rfl rfl rfl (by kernel_rfl) (fun _ _ _ h => h) (fun _ h => by exact Hp.sub h (by repeat (first | exact List.Sublist.refl _ | apply List.Sublist.cons))) rfl ?hy27 ?_
          case hy27 => exact Yl.ix2 rfl rfl rfl Try.underlying29 (by kernel_rfl) (by omega)
          refine' TA.y (i := 8) #[true, true, true, true, true, true, true, true, true, false, false] rfl rfl rfl (by kernel_rfl) (fun _ _ _ h => h) (fun _ h => by exact Hp.sub h (by repeat (first | exact List.Sublist.refl _ | apply List.Sublist.cons))) rfl ?hy28 ?_
          case hy28 => first | exact Yl.loads rfl rfl (by kernel_rfl) (by kernel_rfl) (Hp.fw mem0 (by omega))
          refine' TA.c (i := 9) #[true, true, true, true, true, true, true, true, true, true, false] rfl rfl rfl (by kernel_rfl) (by decide) rfl ?hy29 ?hz29 ?_
          case hy29 => exact Yc.callv rfl rfl Try.func22 (by kernel_rfl) rfl rfl (Hp.calls (fun w h => k_cmp w _ _ _ _))
          case hz29 => exact (fun _ _ h => by exact Hp.sub h (by repeat (first | exact List.Sublist.refl _ | apply List.Sublist.cons)))
          intro _
          refine' TA.y (i := 10) #[true, true, true, true, true, true, true, true, true, true, true] rfl rfl rfl (by kernel_rfl) (fun _ _ _ h => h) (fun _ h => by exact Hp.sub h (by repeat (first | exact List.Sublist.refl _ | apply List.Sublist.cons))) rfl ?hy30 ?_
          case hy30 => exact Yl.bin rfl rfl rfl (Bin.lss _ _ _ _)
          refine TA.done (by kernel_rfl) ?_
          refine TE.next ?_
          refine TC.cond rfl (fun hs50 => ?_) (fun hs50 => ?_)
          · skip
            (try simp only [decide_eq_true_eq, decide_eq_false_iff_not, beq_iff_eq, beq_eq_false_iff_ne, bne_iff_ne, ne_eq, bne_eq_false_iff_eq, Bool.not_eq_true', Bool.not_eq_false', Int.not_lt, Int.not_le, gt_iff_lt, ge_iff_le] at hs50)
            refine TC.region ?_
            refine' TL.y rfl rfl rfl ?hy31 ?_
            case hy31 => exact Yl.move rfl rfl
            refine' TL.y rfl rfl rfl ?hy32 ?_
            case hy32 => exact Yl.val (Yl.bin rfl rfl rfl (Bin.add _ _ _ _)) (congrArg (Value.int .i64) (wadd1 (by omega)))
            refine' TL.y rfl rfl rfl ?hy33 ?_
            case hy33 => exact Yl.assign rfl rfl
            refine TL.nil ?_
            refine TE.inNormal ?_
            refine TE.round ((i + j) / 2 + 1, j) ?hF34 ?hlt34 ?hs34 ?hm34
            case hF34 => exact ⟨by dsimp only; omega, by dsimp only; omega, c3, fun q h1 h2 => by
              dsimp only at h2
              have h3 := cmpI_neg.1 hs50
              by_cases e : q = (i + j) / 2
              · rw [e]; exact h3
              · have := (s2 q ((i + j) / 2) (by omega) (by omega) (by omega)).le; omega, c5⟩
            case hlt34 => dsimp only; omega
            case hs34 => exact ⟨rfl, rfl, rfl, rfl, rfl, rfl, rfl, trivial⟩
            case hm34 => exact fun _ h => h
          · skip
            (try simp only [decide_eq_true_eq, decide_eq_false_iff_not, beq_iff_eq, beq_eq_false_iff_ne, bne_iff_ne, ne_eq, bne_eq_false_iff_eq, Bool.not_eq_true', Bool.not_eq_false', Int.not_lt, Int.not_le, gt_iff_lt, ge_iff_le] at hs50)
            refine TC.region ?_
            refine' TL.y rfl rfl rfl ?hy35 ?_
            case hy35 => exact Yl.move rfl rfl
            refine' TL.y rfl rfl rfl ?hy36 ?_
            case hy36 => exact Yl.assign rfl rfl
            refine TL.nil ?_
            refine TE.inNormal ?_
            refine TE.round (i, (i + j) / 2) ?hF37 ?hlt37 ?hs37 ?hm37
            case hF37 => exact ⟨c1, by dsimp only; omega, by dsimp only; omega, c4, fun q h1 h2 => by
              dsimp only at h1
              have h3 : ¬ (f a).2 < (f ((i + j) / 2)).2 := fun e => absurd (cmpI_neg.2 e) (by omega)
              by_cases e : q = (i + j) / 2
              · rw [e]; exact h3
              · have := (s2 ((i + j) / 2) q (by omega) (by omega) (by omega)).le; omega⟩
            case hlt37 => dsimp only; omega
            case hs37 => exact ⟨rfl, rfl, rfl, rfl, rfl, rfl, rfl, trivial⟩
            case hm37 => exact fun _ h => h
        · skip
          (try simp only [decide_eq_true_eq, decide_eq_false_iff_not, beq_iff_eq, beq_eq_false_iff_ne, bne_iff_ne, ne_eq, bne_eq_false_iff_eq, Bool.not_eq_true', Bool.not_eq_false', Int.not_lt, Int.not_le, gt_iff_lt, ge_iff_le] at hs33)
          refine TC.exit ?_
          refine TE.thenExit ?_
          refine TE.thenExit ?_
          refine TE.inHere ?_
          refine TE.next ?_
          refine TC.seq ?_
          refine TC.seq ?_
          refine TC.region ?_
          refine' TL.y rfl rfl rfl ?hy38 ?_
          case hy38 => exact Yl.move rfl rfl
          refine' TL.y rfl rfl rfl ?hy39 ?_
          case hy39 => exact Yl.assign rfl rfl
          refine TL.nil ?_
          refine TE.next ?_
          refine TC.block ?_
          refine TC.loop (σ := Nat) (fun q => [(0, .slice (some ⟨g, 0, none⟩) k cp), (1, .int .i64 (a : Int)), (10, .int .i64 (i : Int)), (13, .int .i64 (q : Int))]) (fun q => Hp W (ownR 35 2 (.slice (some ⟨g, 0, none⟩) k cp) k (Fw k (f))).foot [ownR 35 2 (.slice (some ⟨g, 0, none⟩) k cp) k (Fw k (upM f a q))]) (fun q => a ≤ q ∧ q ≤ i - 1) (fun q => i - q) a ?hF40 ?hs40 ?hm40 ?round40
          case hF40 => exact ⟨Nat.le_refl _, by omega⟩
          case hs40 => exact ⟨rfl, rfl, rfl, rfl, trivial⟩
          case hm40 => exact fun w h => by rw [upM_zero]; exact h
          case round40 =>
            rintro q ⟨c6, c7⟩
            refine TC.seq ?_
            refine TC.seq ?_
            refine TC.region ?_
            refine' TL.y rfl rfl rfl ?hy41 ?_
            case hy41 => exact Yl.move rfl rfl
            refine' TL.y rfl rfl rfl ?hy42 ?_
            case hy42 => exact Yl.move rfl rfl
            refine' TL.y rfl rfl rfl ?hy43 ?_
            case hy43 => exact Yl.val (Yl.bin rfl rfl rfl (Bin.sub _ _ _ _)) (congrArg (Value.int .i64) (wsub1 (by omega) (by omega)))
            refine' TL.y rfl rfl rfl ?hy44 ?_
            case hy44 => exact Yl.bin rfl rfl rfl (Bin.lss _ _ _ _)
            refine TL.nil ?_
            refine TE.next ?_
            refine TC.cond rfl (fun hs58 => ?_) (fun hs58 => ?_)
            · skip
              (try simp only [decide_eq_true_eq, decide_eq_false_iff_not, beq_iff_eq, beq_eq_false_iff_ne, bne_iff_ne, ne_eq, bne_eq_false_iff_eq, Bool.not_eq_true', Bool.not_eq_false', Int.not_lt, Int.not_le, gt_iff_lt, ge_iff_le] at hs58)
              refine TC.skip ?_
              refine TE.next ?_
              refine TC.seq ?_
              refine TC.block ?_
              refine TC.draw (k := 18) _ [15, 17] #[false, false, false, false, false, false, false, false, false, false, false, false, false, false, false, false, false, false] (by kernel_rfl) rfl rfl (fun _ h => h.drew) (fun _ h => h) ?_
              refine' TA.p (i := 0) #[true, false, false, false, false, false, false, false, false, false, false, false, false, false, false, false, false, false] rfl rfl rfl (by kernel_rfl) (fun _ _ _ h => h) rfl ?hy45 ?_
              case hy45 => exact Yl.move rfl rfl
              refine' TA.p (i := 1) #[true, true, false, false, false, false, false, false, false, false, false, false, false, false, false, false, false, false] rfl rfl rfl (by kernel_rfl) (fun _ _ _ h => h) rfl ?hy46 ?_
              case hy46 => exact Yl.move rfl rfl
              refine' TA.p (i := 2) #[true, true, true, false, false, false, false, false, false, false, false, false, false, false, false, false, false, false] rfl rfl rfl (by kernel_rfl) (fun _ _ _ h => h) rfl ?hy47 ?_
              case hy47 => exact Yl.move rfl rfl
              refine' TA.p (i := 3) #[true, true, true, true, false, false, false, false, false, false, false, false, false, false, false, false, false, false] rfl rfl rfl (by kernel_rfl) (fun _ _ _ h => h) rfl ?hy48 ?_
              case hy48 => exact Yl.move rfl rfl
              refine' TA.p (i := 4) #[true, true, true, true, true, false, false, false, false, false, false, false, false, false, false, false, false, false] rfl rfl rfl (by kernel_rfl) (fun _ _ _ h => h) rfl ?hy49 ?_
              case hy49 => exact Yl.val (Yl.bin rfl rfl rfl (Bin.add _ _ _ _)) (congrArg (Value.int .i64) (wadd1 (by omega)))
              refine' TA.p (i := 5) #[true, true, true, true, true, true, false, false, false, false, false, false, false, false, false, false, false, false] rfl rfl rfl (by kernel_rfl) (fun _ _ _ h => h) rfl ?hy50 ?_
              case hy50 => exact Yl.move rfl rfl
              refine' TA.p (i := 6) #[true, true, true, true, true, true, true, false, false, false, false, false, false, false, false, false, false, false] rfl rfl rfl (by kernel_rfl) (fun _ _ _ h => h) rfl ?hy51 ?_
              case hy51 => exact Yl.move rfl rfl
              refine' TA.p (i := 7) #[true, true, true, true, true, true, true, true, false, false, false, false, false, false, false, false, false, false] rfl rfl rfl (by kernel_rfl) (fun _ _ _ h => h) rfl ?hy52 ?_
              case hy52 => exact Yl.val (Yl.bin rfl rfl rfl (Bin.add _ _ _ _)) (congrArg (Value.int .i64) (wadd1 (by omega)))
              refine' TA.p (i := 8) #[true, true, true, true, true, true, true, true, true, false, false, false, false, false, false, false, false, false] rfl rfl rfl (by kernel_rfl) (fun _ _ _ h => h) rfl ?hy53 ?_
              case hy53 => exact Yl.ix2 rfl rfl rfl Try.underlying29 (by kernel_rfl) (by omega)
              refine' TA.y (i := 9) #[true, true, true, true, true, true, true, true, true, true, false, false, false, false, false, false, false, false] rfl rfl rfl (by kernel_rfl) (fun _ _ _ h => h) (fun _ h => by exact Hp.sub h (by repeat (first | exact List.Sublist.refl _ | apply List.Sublist.cons))) rfl ?hy54 ?_
              case hy54 => first | exact Yl.loads rfl rfl (by kernel_rfl) (by kernel_rfl) (Hp.fw mem0 (by omega))
              refine' TA.p (i := 10) #[true, true, true, true, true, true, true, true, true, true, true, false, false, false, false, false, false, false] rfl rfl rfl (by kernel_rfl) (fun _ _ _ h => h) rfl ?hy55 ?_
              case hy55 => exact Yl.move rfl rfl
              refine' TA.p (i := 11) #[true, true, true, true, true, true, true, true, true, true, true, true, false, false, false, false, false, false] rfl rfl rfl (by kernel_rfl) (fun _ _ _ h => h) rfl ?hy56 ?_
              case hy56 => exact Yl.move rfl rfl
              refine' TA.p (i := 12) #[true, true, true, true, true, true, true, true, true, true, true, true, true, false, false, false, false, false] rfl rfl rfl (by kernel_rfl) (fun _ _ _ h => h) rfl ?hy57 ?_
              case hy57 => exact Yl.ix2 rfl rfl rfl Try.underlying29 (by kernel_rfl) (by omega)
              refine' TA.y (i := 13) #[true, true, true, true, true, true, true, true, true, true, true, true, true, true, false, false, false, false] rfl rfl rfl (by kernel_rfl) (fun _ _ _ h => h) (fun _ h => by exact Hp.sub h (by repeat (first | exact List.Sublist.refl _ | apply List.Sublist.cons))) rfl ?hy58 ?_
              case hy58 => first | exact Yl.loads rfl rfl (by kernel_rfl) (by kernel_rfl) (Hp.fw mem0 (by omega))
              refine' TA.p (i := 14) #[true, true, true, true, true, true, true, true, true, true, true, true, true, true, true, false, false, false] rfl rfl rfl (by kernel_rfl) (fun _ _ _ h => h) rfl ?hy59 ?_
              case hy59 => exact Yl.ix2 rfl rfl rfl Try.underlying29 (by kernel_rfl) (by omega)
              refine' TA.sl (i := 15) #[true, true, true, true, true, true, true, true, true, true, true, true, true, true, true, true, false, false] rfl rfl (by kernel_rfl) (by decide) rfl ?hy60 ?_
              case hy60 => exact Ys.fw rfl rfl rfl (by kernel_rfl) foc0 (by omega)
              refine' TA.p (i := 16) #[true, true, true, true, true, true, true, true, true, true, true, true, true, true, true, true, true, false] rfl rfl rfl (by kernel_rfl) (fun _ _ _ h => h) rfl ?hy61 ?_
              case hy61 => exact Yl.ix2 rfl rfl rfl Try.underlying29 (by kernel_rfl) (by omega)
              refine' TA.sl (i := 17) #[true, true, true, true, true, true, true, true, true, true, true, true, true, true, true, true, true, true] rfl rfl (by kernel_rfl) (by decide) rfl ?hy62 ?_
              case hy62 => exact Ys.fw rfl rfl rfl (by kernel_rfl) foc0 (by omega)
              refine TA.done (by kernel_rfl) ?_
              refine TE.inNormal ?_
              refine TE.next ?_
              refine TC.region ?_
              refine' TL.y rfl rfl rfl ?hy63 ?_
              case hy63 => exact Yl.move rfl rfl
              refine' TL.y rfl rfl rfl ?hy64 ?_
              case hy64 => exact Yl.val (Yl.bin rfl rfl rfl (Bin.add _ _ _ _)) (congrArg (Value.int .i64) (wadd1 (by omega)))
              refine' TL.y rfl rfl rfl ?hy65 ?_
              case hy65 => exact Yl.assign rfl rfl
              refine TL.nil ?_
              refine TE.round (q + 1) ?hF66 ?hlt66 ?hs66 ?hm66
              case hF66 => exact ⟨by omega, by omega⟩
              case hlt66 => omega
              case hs66 => exact ⟨rfl, rfl, rfl, rfl, trivial⟩
              case hm66 => exact fun w h => by rw [← upM_succ (f := f) c6]; exact h
            · skip
              (try simp only [decide_eq_true_eq, decide_eq_false_iff_not, beq_iff_eq, beq_eq_false_iff_ne, bne_iff_ne, ne_eq, bne_eq_false_iff_eq, Bool.not_eq_true', Bool.not_eq_false', Int.not_lt, Int.not_le, gt_iff_lt, ge_iff_le] at hs58)
              refine TC.exit ?_
              refine TE.thenExit ?_
              refine TE.thenExit ?_
              refine TE.inHere ?_
              refine TE.next ?_
              refine TC.ret ?_
              refine TE.thenRet ?_
              refine TE.ret0 rfl ?_
              have hq : q = i - 1 := by omega
              have hij : i = j := by omega
              have hd := upM_done (f := f) (a := a) (b := b) (i := i) (by omega) (by omega) (by rw [show a + 1 = p by omega]; exact s2) (fun q h1 h2 => lt_of (c4 q h1 h2)) (fun q h1 h2 => lt_of_not (c5 q (by omega) h2) (hat a q (by omega) (by omega) (by omega) h2))
              exact fun w h => ⟨upM f a (i - 1), rfl, (h.topure (φ := From a b f (upM f a (i - 1)) ∧ SrtF (upM f a (i - 1)) a b) hd |> fun h => by rw [← hq] at h ⊢; exact h.leave)⟩
    · skip
      (try simp only [decide_eq_true_eq, decide_eq_false_iff_not, beq_iff_eq, beq_eq_false_iff_ne, bne_iff_ne, ne_eq, bne_eq_false_iff_eq, Bool.not_eq_true', Bool.not_eq_false', Int.not_lt, Int.not_le, gt_iff_lt, ge_iff_le] at hs28)
      refine TC.skip ?_
      refine TE.next ?_
      refine TC.seq ?_
      refine TC.seq ?_
      refine TC.region ?_
      refine' TL.y rfl rfl rfl ?hy67 ?_
      case hy67 => exact Yl.move rfl rfl
      refine' TL.y rfl rfl rfl ?hy68 ?_
      case hy68 => exact Yl.move rfl rfl
      refine' TL.y rfl rfl rfl ?hy69 ?_
      case hy69 => exact Yl.val (Yl.bin rfl rfl rfl (Bin.sub _ _ _ _)) (congrArg (Value.int .i64) (wsub (a := b) (i := p) (by omega) (by omega)))
      refine' TL.y rfl rfl rfl ?hy70 ?_
      case hy70 => exact Yl.bin rfl rfl rfl (Bin.eql _ _ _ _)
      refine TL.nil ?_
      refine TE.next ?_
      refine TC.cond rfl (fun hs80 => ?_) (fun hs80 => ?_)
      · skip
        (try simp only [decide_eq_true_eq, decide_eq_false_iff_not, beq_iff_eq, beq_eq_false_iff_ne, bne_iff_ne, ne_eq, bne_eq_false_iff_eq, Bool.not_eq_true', Bool.not_eq_false', Int.not_lt, Int.not_le, gt_iff_lt, ge_iff_le] at hs80)
        refine TC.seq ?_
        refine TC.region ?_
        refine' TL.y rfl rfl rfl ?hy71 ?_
        case hy71 => exact Yl.move rfl rfl
        refine' TL.y rfl rfl rfl ?hy72 ?_
        case hy72 => exact Yl.assign rfl rfl
        refine TL.nil ?_
        refine TE.next ?_
        refine TC.seq ?_
        refine TC.region ?_
        refine' TL.y rfl rfl rfl ?hy73 ?_
        case hy73 => exact Yl.move rfl rfl
        refine' TL.y rfl rfl rfl ?hy74 ?_
        case hy74 => exact Yl.assign rfl rfl
        refine TL.nil ?_
        refine TE.next ?_
        refine TC.seq ?_
        refine TC.block ?_
        refine TC.loop (σ := Nat × Nat) (fun x => [(0, .slice (some ⟨g, 0, none⟩) k cp), (1, .int .i64 (a : Int)), (2, .int .i64 (p : Int)), (3, .int .i64 (b : Int)), (4, .func (.func 22) #[] #[]), (14, .int .i64 (x.1 : Int)), (15, .int .i64 (x.2 : Int))]) (fun x => Hp W (ownR 35 2 (.slice (some ⟨g, 0, none⟩) k cp) k (Fw k (f))).foot [ownR 35 2 (.slice (some ⟨g, 0, none⟩) k cp) k (Fw k (f))]) (fun x => a ≤ x.1 ∧ x.1 ≤ x.2 ∧ x.2 ≤ p ∧ (∀ q, a ≤ q → q < x.1 → ¬ (f q).2 < (f p).2) ∧ ∀ q, x.2 ≤ q → q < p → (f q).2 < (f p).2) (fun x => x.2 - x.1) (a, p) ?hF75 ?hs75 ?hm75 ?round75
        case hF75 => exact ⟨by dsimp only; omega, by dsimp only; omega, Nat.le_refl _, fun q h1 h2 => by dsimp only at h2; omega, fun q h1 h2 => by dsimp only at h1; omega⟩
        case hs75 => exact ⟨rfl, rfl, rfl, rfl, rfl, rfl, rfl, trivial⟩
        case hm75 => exact fun _ h => h
        case round75 =>
          rintro ⟨i, j⟩ ⟨c1, c2, c3, c4, c5⟩
          dsimp only at c1 c2 c3 c4 c5 ⊢
          refine TC.seq ?_
          refine TC.seq ?_
          refine TC.region ?_
          refine' TL.y rfl rfl rfl ?hy76 ?_
          case hy76 => exact Yl.move rfl rfl
          refine' TL.y rfl rfl rfl ?hy77 ?_
          case hy77 => exact Yl.move rfl rfl
          refine' TL.y rfl rfl rfl ?hy78 ?_
          case hy78 => exact Yl.bin rfl rfl rfl (Bin.lss _ _ _ _)
          refine TL.nil ?_
          refine TE.next ?_
          refine TC.cond rfl (fun hs85 => ?_) (fun hs85 => ?_)
          · skip
            (try simp only [decide_eq_true_eq, decide_eq_false_iff_not, beq_iff_eq, beq_eq_false_iff_ne, bne_iff_ne, ne_eq, bne_eq_false_iff_eq, Bool.not_eq_true', Bool.not_eq_false', Int.not_lt, Int.not_le, gt_iff_lt, ge_iff_le] at hs85)
            refine TC.skip ?_
            refine TE.next ?_
            refine TC.block ?_
            refine TC.seq ?_
            refine TC.region ?_
            refine' TL.y rfl rfl rfl ?hy79 ?_
            case hy79 => exact Yl.move rfl rfl
            refine' TL.y rfl rfl rfl ?hy80 ?_
            case hy80 => exact Yl.move rfl rfl
            refine' TL.y rfl rfl rfl ?hy81 ?_
            case hy81 => exact Yl.val (Yl.bin rfl rfl rfl (Bin.add _ _ _ _)) (congrArg (Value.int .i64) (wadd (a := i) (i := j) (by omega)))
            refine' TL.y rfl rfl rfl ?hy82 ?_
            case hy82 => exact Yl.val (Yl.conv rfl rfl (by kernel_rfl) Try.underlying42) (congrArg (Value.int .u64) (wu (a := i + j) (by omega)))
            refine' TL.y rfl rfl rfl ?hy83 ?_
            case hy83 => exact Yl.val (Yl.bin rfl rfl rfl (Bin.shr _ _ _ _ _ (by omega))) (congrArg (Value.int .u64) (whalf (a := i + j)))
            refine' TL.y rfl rfl rfl ?hy84 ?_
            case hy84 => exact Yl.val (Yl.conv rfl rfl (by kernel_rfl) Try.underlying3) (congrArg (Value.int .i64) (wi (a := (i + j) / 2) (by omega)))
            refine' TL.y rfl rfl rfl ?hy85 ?_
            case hy85 => exact Yl.assign rfl rfl
            refine TL.nil ?_
            refine TE.next ?_
            refine TC.seq ?_
            refine TC.draw (k := 12) _ [] #[false, false, false, false, false, false, false, false, false, false, false, false] (by kernel_rfl) rfl rfl (fun _ h => h.drew) (fun _ h => h) ?_
            refine' TA.y (i := 0) #[true, false, false, false, false, false, false, false, false, false, false, false] rfl rfl rfl (by kernel_rfl) (fun _ _ _ h => h) (fun _ h => by exact Hp.sub h (by repeat (first | exact List.Sublist.refl _ | apply List.Sublist.cons))) rfl ?hy86 ?_
            case hy86 => exact Yl.move rfl rfl
            refine' TA.y (i := 1) #[true, true, false, false, false, false, false, false, false, false, false, false] rfl rfl rfl (by kernel_rfl) (fun _ _ _ h => h) (fun _ h => by exact Hp.sub h (by repeat (first | exact List.Sublist.refl _ | apply List.Sublist.cons))) rfl ?hy87 ?_
            case hy87 => exact Yl.move rfl rfl
            refine' TA.y (i := 2) #[true, true, true, false, false, false, false, false, false, false, false, false] rfl rfl rfl (by kernel_rfl) (fun _ _ _ h => h) (fun _ h => by exact Hp.sub h (by repeat (first | exact List.Sublist.refl _ | apply List.Sublist.cons))) rfl ?hy88 ?_
            case hy88 => exact Yl.move rfl rfl
            refine' TA.y (i := 3) #[true, true, true, true, false, false, false, false, false, false, false, false] rfl rfl rfl (by kernel_rfl) (fun _ _ _ h => h) (fun _ h => by exact Hp.sub h (by repeat (first | exact List.Sublist.refl _ | apply List.Sublist.cons))) rfl ?hy89 ?_
            case hy89 => exact Yl.ix2 rfl rfl rfl Try.underlying29 (by kernel_rfl) (by omega)
            refine' TA.y (i := 4) #[true, true, true, true, true, false, false, false, false, false, false, false] rfl rfl rfl (by kernel_rfl) (fun _ _ _ h => h) (fun _ h => by exact Hp.sub h (by repeat (first | exact List.Sublist.refl _ | apply List.Sublist.cons))) rfl ?hy90 ?_
            case hy90 => first | exact Yl.loads rfl rfl (by kernel_rfl) (by kernel_rfl) (Hp.fw mem0 (by omega))
            refine' TA.y (i := 5) #[true, true, true, true, true, true, false, false, false, false, false, false] rfl rfl rfl (by kernel_rfl) (fun _ _ _ h => h) (fun _ h => by exact Hp.sub h (by repeat (first | exact List.Sublist.refl _ | apply List.Sublist.cons))) rfl ?hy91 ?_
            case hy91 => exact Yl.move rfl rfl
            refine' TA.y (i := 6) #[true, true, true, true, true, true, true, false, false, false, false, false] rfl rfl rfl (by kernel_rfl) (fun _ _ _ h => h) (fun _ h => by exact Hp.sub h (by repeat (first | exact List.Sublist.refl _ | apply List.Sublist.cons))) rfl ?hy92 ?_
            case hy92 => exact Yl.move rfl rfl
            refine' TA.y (i := 7) #[true, true, true, true, true, true, true, true, false, false, false, false] rfl rfl rfl (by kernel_rfl) (fun _ _ _ h => h) (fun _ h => by exact Hp.sub h (by repeat (first | exact List.Sublist.refl _ | apply List.Sublist.cons))) rfl ?hy93 ?_
            case hy93 => exact Yl.ix2 rfl rfl rfl Try.underlying29 (by kernel_rfl) (by omega)
            refine' TA.y (i := 8) #[true, true, true, true, true, true, true, true, true, false, false, false] rfl rfl rfl (by kernel_rfl) (fun _ _ _ h => h) (fun _ h => by exact Hp.sub h (by repeat (first | exact List.Sublist.refl _ | apply List.Sublist.cons))) rfl ?hy94 ?_
            case hy94 => first | exact Yl.loads rfl rfl (by kernel_rfl) (by kernel_rfl) (Hp.fw mem0 (by omega))
            refine' TA.c (i := 9) #[true, true, true, true, true, true, true, true, true, true, false, false] rfl rfl rfl (by kernel_rfl) (by decide) rfl ?hy95 ?hz95 ?_
            case hy95 => exact Yc.callv rfl rfl Try.func22 (by kernel_rfl) rfl rfl (Hp.calls (fun w h => k_cmp w _ _ _ _))
            case hz95 => exact (fun _ _ h => by exact Hp.sub h (by repeat (first | exact List.Sublist.refl _ | apply List.Sublist.cons)))
            intro _
            refine' TA.y (i := 10) #[true, true, true, true, true, true, true, true, true, true, true, false] rfl rfl rfl (by kernel_rfl) (fun _ _ _ h => h) (fun _ h => by exact Hp.sub h (by repeat (first | exact List.Sublist.refl _ | apply List.Sublist.cons))) rfl ?hy96 ?_
            case hy96 => exact Yl.bin rfl rfl rfl (Bin.lss _ _ _ _)
            refine' TA.y (i := 11) #[true, true, true, true, true, true, true, true, true, true, true, true] rfl rfl rfl (by kernel_rfl) (fun _ _ _ h => h) (fun _ h => by exact Hp.sub h (by repeat (first | exact List.Sublist.refl _ | apply List.Sublist.cons))) rfl ?hy97 ?_
            case hy97 => exact Yl.not rfl rfl
            refine TA.done (by kernel_rfl) ?_
            refine TE.next ?_
            refine TC.cond rfl (fun hs103 => ?_) (fun hs103 => ?_)
            · skip
              (try simp only [decide_eq_true_eq, decide_eq_false_iff_not, beq_iff_eq, beq_eq_false_iff_ne, bne_iff_ne, ne_eq, bne_eq_false_iff_eq, Bool.not_eq_true', Bool.not_eq_false', Int.not_lt, Int.not_le, gt_iff_lt, ge_iff_le] at hs103)
              refine TC.region ?_
              refine' TL.y rfl rfl rfl ?hy98 ?_
              case hy98 => exact Yl.move rfl rfl
              refine' TL.y rfl rfl rfl ?hy99 ?_
              case hy99 => exact Yl.val (Yl.bin rfl rfl rfl (Bin.add _ _ _ _)) (congrArg (Value.int .i64) (wadd1 (by omega)))
              refine' TL.y rfl rfl rfl ?hy100 ?_
              case hy100 => exact Yl.assign rfl rfl
              refine TL.nil ?_
              refine TE.inNormal ?_
              refine TE.round ((i + j) / 2 + 1, j) ?hF101 ?hlt101 ?hs101 ?hm101
              case hF101 => exact ⟨by dsimp only; omega, by dsimp only; omega, c3, fun q h1 h2 => by
                dsimp only at h2
                have h3 : ¬ (f ((i + j) / 2)).2 < (f p).2 := fun e => absurd (cmpI_neg.2 e) (by omega)
                by_cases e : q = (i + j) / 2
                · rw [e]; exact h3
                · have := (s1 q ((i + j) / 2) (by omega) (by omega) (by omega)).le; omega, c5⟩
              case hlt101 => dsimp only; omega
              case hs101 => exact ⟨rfl, rfl, rfl, rfl, rfl, rfl, rfl, trivial⟩
              case hm101 => exact fun _ h => h
            · skip
              (try simp only [decide_eq_true_eq, decide_eq_false_iff_not, beq_iff_eq, beq_eq_false_iff_ne, bne_iff_ne, ne_eq, bne_eq_false_iff_eq, Bool.not_eq_true', Bool.not_eq_false', Int.not_lt, Int.not_le, gt_iff_lt, ge_iff_le] at hs103)
              refine TC.region ?_
              refine' TL.y rfl rfl rfl ?hy102 ?_
              case hy102 => exact Yl.move rfl rfl
              refine' TL.y rfl rfl rfl ?hy103 ?_
              case hy103 => exact Yl.assign rfl rfl
              refine TL.nil ?_
              refine TE.inNormal ?_
              refine TE.round (i, (i + j) / 2) ?hF104 ?hlt104 ?hs104 ?hm104
              case hF104 => exact ⟨c1, by dsimp only; omega, by dsimp only; omega, c4, fun q h1 h2 => by
                dsimp only at h1
                have h3 := cmpI_neg.1 hs103
                by_cases e : q = (i + j) / 2
                · rw [e]; exact h3
                · have := (s1 ((i + j) / 2) q (by omega) (by omega) (by omega)).le; omega⟩
              case hlt104 => dsimp only; omega
              case hs104 => exact ⟨rfl, rfl, rfl, rfl, rfl, rfl, rfl, trivial⟩
              case hm104 => exact fun _ h => h
          · skip
            (try simp only [decide_eq_true_eq, decide_eq_false_iff_not, beq_iff_eq, beq_eq_false_iff_ne, bne_iff_ne, ne_eq, bne_eq_false_iff_eq, Bool.not_eq_true', Bool.not_eq_false', Int.not_lt, Int.not_le, gt_iff_lt, ge_iff_le] at hs85)
            refine TC.exit ?_
            refine TE.thenExit ?_
            refine TE.thenExit ?_
            refine TE.inHere ?_
            refine TE.next ?_
            refine TC.seq ?_
            refine TC.seq ?_
            refine TC.region ?_
            refine' TL.y rfl rfl rfl ?hy105 ?_
            case hy105 => exact Yl.move rfl rfl
            refine' TL.y rfl rfl rfl ?hy106 ?_
            case hy106 => exact Yl.assign rfl rfl
            refine TL.nil ?_
            refine TE.next ?_
            refine TC.block ?_
            refine TC.loop (σ := Nat) (fun q => [(0, .slice (some ⟨g, 0, none⟩) k cp), (2, .int .i64 (p : Int)), (14, .int .i64 (i : Int)), (17, .int .i64 (q : Int))]) (fun q => Hp W (ownR 35 2 (.slice (some ⟨g, 0, none⟩) k cp) k (Fw k (f))).foot [ownR 35 2 (.slice (some ⟨g, 0, none⟩) k cp) k (Fw k (dnM f p q))]) (fun q => i ≤ q ∧ q ≤ p) (fun q => q - i) p ?hF107 ?hs107 ?hm107 ?round107
            case hF107 => exact ⟨by omega, Nat.le_refl _⟩
            case hs107 => exact ⟨rfl, rfl, rfl, rfl, trivial⟩
            case hm107 => exact fun w h => by rw [dnM_zero]; exact h
            case round107 =>
              rintro q ⟨c6, c7⟩
              refine TC.seq ?_
              refine TC.seq ?_
              refine TC.region ?_
              refine' TL.y rfl rfl rfl ?hy108 ?_
              case hy108 => exact Yl.move rfl rfl
              refine' TL.y rfl rfl rfl ?hy109 ?_
              case hy109 => exact Yl.move rfl rfl
              refine' TL.y rfl rfl rfl ?hy110 ?_
              case hy110 => exact Yl.bin rfl rfl rfl (Bin.gtr _ _ _ _)
              refine TL.nil ?_
              refine TE.next ?_
              refine TC.cond rfl (fun hs110 => ?_) (fun hs110 => ?_)
              · skip
                (try simp only [decide_eq_true_eq, decide_eq_false_iff_not, beq_iff_eq, beq_eq_false_iff_ne, bne_iff_ne, ne_eq, bne_eq_false_iff_eq, Bool.not_eq_true', Bool.not_eq_false', Int.not_lt, Int.not_le, gt_iff_lt, ge_iff_le] at hs110)
                refine TC.skip ?_
                refine TE.next ?_
                refine TC.seq ?_
                refine TC.block ?_
                refine TC.draw (k := 18) _ [15, 17] #[false, false, false, false, false, false, false, false, false, false, false, false, false, false, false, false, false, false] (by kernel_rfl) rfl rfl (fun _ h => h.drew) (fun _ h => h) ?_
                refine' TA.p (i := 0) #[true, false, false, false, false, false, false, false, false, false, false, false, false, false, false, false, false, false] rfl rfl rfl (by kernel_rfl) (fun _ _ _ h => h) rfl ?hy111 ?_
                case hy111 => exact Yl.move rfl rfl
                refine' TA.p (i := 1) #[true, true, false, false, false, false, false, false, false, false, false, false, false, false, false, false, false, false] rfl rfl rfl (by kernel_rfl) (fun _ _ _ h => h) rfl ?hy112 ?_
                case hy112 => exact Yl.move rfl rfl
                refine' TA.p (i := 2) #[true, true, true, false, false, false, false, false, false, false, false, false, false, false, false, false, false, false] rfl rfl rfl (by kernel_rfl) (fun _ _ _ h => h) rfl ?hy113 ?_
                case hy113 => exact Yl.move rfl rfl
                refine' TA.p (i := 3) #[true, true, true, true, false, false, false, false, false, false, false, false, false, false, false, false, false, false] rfl rfl rfl (by kernel_rfl) (fun _ _ _ h => h) rfl ?hy114 ?_
                case hy114 => exact Yl.move rfl rfl
                refine' TA.p (i := 4) #[true, true, true, true, true, false, false, false, false, false, false, false, false, false, false, false, false, false] rfl rfl rfl (by kernel_rfl) (fun _ _ _ h => h) rfl ?hy115 ?_
                case hy115 => exact Yl.val (Yl.bin rfl rfl rfl (Bin.sub _ _ _ _)) (congrArg (Value.int .i64) (wsub1 (by omega) (by omega)))
                refine' TA.p (i := 5) #[true, true, true, true, true, true, false, false, false, false, false, false, false, false, false, false, false, false] rfl rfl rfl (by kernel_rfl) (fun _ _ _ h => h) rfl ?hy116 ?_
                case hy116 => exact Yl.move rfl rfl
                refine' TA.p (i := 6) #[true, true, true, true, true, true, true, false, false, false, false, false, false, false, false, false, false, false] rfl rfl rfl (by kernel_rfl) (fun _ _ _ h => h) rfl ?hy117 ?_
                case hy117 => exact Yl.move rfl rfl
                refine' TA.p (i := 7) #[true, true, true, true, true, true, true, true, false, false, false, false, false, false, false, false, false, false] rfl rfl rfl (by kernel_rfl) (fun _ _ _ h => h) rfl ?hy118 ?_
                case hy118 => exact Yl.val (Yl.bin rfl rfl rfl (Bin.sub _ _ _ _)) (congrArg (Value.int .i64) (wsub1 (by omega) (by omega)))
                refine' TA.p (i := 8) #[true, true, true, true, true, true, true, true, true, false, false, false, false, false, false, false, false, false] rfl rfl rfl (by kernel_rfl) (fun _ _ _ h => h) rfl ?hy119 ?_
                case hy119 => exact Yl.ix2 rfl rfl rfl Try.underlying29 (by kernel_rfl) (by omega)
                refine' TA.y (i := 9) #[true, true, true, true, true, true, true, true, true, true, false, false, false, false, false, false, false, false] rfl rfl rfl (by kernel_rfl) (fun _ _ _ h => h) (fun _ h => by exact Hp.sub h (by repeat (first | exact List.Sublist.refl _ | apply List.Sublist.cons))) rfl ?hy120 ?_
                case hy120 => first | exact Yl.loads rfl rfl (by kernel_rfl) (by kernel_rfl) (Hp.fw mem0 (by omega))
                refine' TA.p (i := 10) #[true, true, true, true, true, true, true, true, true, true, true, false, false, false, false, false, false, false] rfl rfl rfl (by kernel_rfl) (fun _ _ _ h => h) rfl ?hy121 ?_
                case hy121 => exact Yl.move rfl rfl
                refine' TA.p (i := 11) #[true, true, true, true, true, true, true, true, true, true, true, true, false, false, false, false, false, false] rfl rfl rfl (by kernel_rfl) (fun _ _ _ h => h) rfl ?hy122 ?_
                case hy122 => exact Yl.move rfl rfl
                refine' TA.p (i := 12) #[true, true, true, true, true, true, true, true, true, true, true, true, true, false, false, false, false, false] rfl rfl rfl (by kernel_rfl) (fun _ _ _ h => h) rfl ?hy123 ?_
                case hy123 => exact Yl.ix2 rfl rfl rfl Try.underlying29 (by kernel_rfl) (by omega)
                refine' TA.y (i := 13) #[true, true, true, true, true, true, true, true, true, true, true, true, true, true, false, false, false, false] rfl rfl rfl (by kernel_rfl) (fun _ _ _ h => h) (fun _ h => by exact Hp.sub h (by repeat (first | exact List.Sublist.refl _ | apply List.Sublist.cons))) rfl ?hy124 ?_
                case hy124 => first | exact Yl.loads rfl rfl (by kernel_rfl) (by kernel_rfl) (Hp.fw mem0 (by omega))
                refine' TA.p (i := 14) #[true, true, true, true, true, true, true, true, true, true, true, true, true, true, true, false, false, false] rfl rfl rfl (by kernel_rfl) (fun _ _ _ h => h) rfl ?hy125 ?_
                case hy125 => exact Yl.ix2 rfl rfl rfl Try.underlying29 (by kernel_rfl) (by omega)
                refine' TA.sl (i := 15) #[true, true, true, true, true, true, true, true, true, true, true, true, true, true, true, true, false, false] rfl rfl (by kernel_rfl) (by decide) rfl ?hy126 ?_
                case hy126 => exact Ys.fw rfl rfl rfl (by kernel_rfl) foc0 (by omega)
                refine' TA.p (i := 16) #[true, true, true, true, true, true, true, true, true, true, true, true, true, true, true, true, true, false] rfl rfl rfl (by kernel_rfl) (fun _ _ _ h => h) rfl ?hy127 ?_
                case hy127 => exact Yl.ix2 rfl rfl rfl Try.underlying29 (by kernel_rfl) (by omega)
                refine' TA.sl (i := 17) #[true, true, true, true, true, true, true, true, true, true, true, true, true, true, true, true, true, true] rfl rfl (by kernel_rfl) (by decide) rfl ?hy128 ?_
                case hy128 => exact Ys.fw rfl rfl rfl (by kernel_rfl) foc0 (by omega)
                refine TA.done (by kernel_rfl) ?_
                refine TE.inNormal ?_
                refine TE.next ?_
                refine TC.region ?_
                refine' TL.y rfl rfl rfl ?hy129 ?_
                case hy129 => exact Yl.move rfl rfl
                refine' TL.y rfl rfl rfl ?hy130 ?_
                case hy130 => exact Yl.val (Yl.bin rfl rfl rfl (Bin.sub _ _ _ _)) (congrArg (Value.int .i64) (wsub1 (by omega) (by omega)))
                refine' TL.y rfl rfl rfl ?hy131 ?_
                case hy131 => exact Yl.assign rfl rfl
                refine TL.nil ?_
                refine TE.round (q - 1) ?hF132 ?hlt132 ?hs132 ?hm132
                case hF132 => exact ⟨by omega, by omega⟩
                case hlt132 => omega
                case hs132 => exact ⟨rfl, rfl, rfl, rfl, trivial⟩
                case hm132 => exact fun w h => by rw [← dnM_pred (f := f) c7 (by omega)]; exact h
              · skip
                (try simp only [decide_eq_true_eq, decide_eq_false_iff_not, beq_iff_eq, beq_eq_false_iff_ne, bne_iff_ne, ne_eq, bne_eq_false_iff_eq, Bool.not_eq_true', Bool.not_eq_false', Int.not_lt, Int.not_le, gt_iff_lt, ge_iff_le] at hs110)
                refine TC.exit ?_
                refine TE.thenExit ?_
                refine TE.thenExit ?_
                refine TE.inHere ?_
                refine TE.next ?_
                refine TC.ret ?_
                refine TE.thenRet ?_
                refine TE.ret0 rfl ?_
                have hq : q = i := by omega
                have hij : i = j := by omega
                have hd := dnM_done (f := f) (a := a) (b := p) (i := i) (by omega) (by omega) s1 (fun q h1 h2 => lt_of_not (c4 q h1 h2) (hat q p h1 (by omega) (by omega) (by omega))) (fun q h1 h2 => lt_of (c5 q (by omega) h2))
                rw [show p + 1 = b by omega] at hd
                exact fun w h => ⟨dnM f p i, rfl, (h.topure (φ := From a b f (dnM f p q) ∧ SrtF (dnM f p q) a b) (by rw [hq]; exact hd) |> fun h => by rw [← hq]; exact h.leave)⟩
      · skip
        (try simp only [decide_eq_true_eq, decide_eq_false_iff_not, beq_iff_eq, beq_eq_false_iff_ne, bne_iff_ne, ne_eq, bne_eq_false_iff_eq, Bool.not_eq_true', Bool.not_eq_false', Int.not_lt, Int.not_le, gt_iff_lt, ge_iff_le] at hs80)
        refine TC.skip ?_
        refine TE.next ?_
        refine TC.seq ?_
        refine TC.region ?_
        refine' TL.y rfl rfl rfl ?hy133 ?_
        case hy133 => exact Yl.move rfl rfl
        refine' TL.y rfl rfl rfl ?hy134 ?_
        case hy134 => exact Yl.move rfl rfl
        refine' TL.y rfl rfl rfl ?hy135 ?_
        case hy135 => exact Yl.val (Yl.bin rfl rfl rfl (Bin.add _ _ _ _)) (congrArg (Value.int .i64) (wadd (a := a) (i := b) (by omega)))
        refine' TL.y rfl rfl rfl ?hy136 ?_
        case hy136 => exact Yl.val (Yl.conv rfl rfl (by kernel_rfl) Try.underlying42) (congrArg (Value.int .u64) (wu (a := a + b) (by omega)))
        refine' TL.y rfl rfl rfl ?hy137 ?_
        case hy137 => exact Yl.val (Yl.bin rfl rfl rfl (Bin.shr _ _ _ _ _ (by omega))) (congrArg (Value.int .u64) (whalf (a := a + b)))
        refine' TL.y rfl rfl rfl ?hy138 ?_
        case hy138 => exact Yl.val (Yl.conv rfl rfl (by kernel_rfl) Try.underlying3) (congrArg (Value.int .i64) (wi (a := (a + b) / 2) (by omega)))
        refine' TL.y rfl rfl rfl ?hy139 ?_
        case hy139 => exact Yl.assign rfl rfl
        refine TL.nil ?_
        refine TE.next ?_
        refine TC.seq ?_
        refine TC.region ?_
        refine' TL.y rfl rfl rfl ?hy140 ?_
        case hy140 => exact Yl.move rfl rfl
        refine' TL.y rfl rfl rfl ?hy141 ?_
        case hy141 => exact Yl.move rfl rfl
        refine' TL.y rfl rfl rfl ?hy142 ?_
        case hy142 => exact Yl.val (Yl.bin rfl rfl rfl (Bin.add _ _ _ _)) (congrArg (Value.int .i64) (wadd (a := (a + b) / 2) (i := p) (by omega)))
        refine' TL.y rfl rfl rfl ?hy143 ?_
        case hy143 => exact Yl.assign rfl rfl
        refine TL.nil ?_
        refine TE.next ?_
        refine TC.seq ?_
        refine TC.region ?_
        refine' TL.y rfl rfl rfl ?hy144 ?_
        case hy144 => exact Yl.assign rfl rfl
        refine' TL.y rfl rfl rfl ?hy145 ?_
        case hy145 => exact Yl.assign rfl rfl
        refine TL.nil ?_
        refine TE.next ?_
        refine TC.meet (σ := Nat × Nat) (fun x => [(0, .slice (some ⟨g, 0, none⟩) k cp), (1, .int .i64 (a : Int)), (2, .int .i64 (p : Int)), (3, .int .i64 (b : Int)), (4, .func (.func 22) #[] #[]), (18, .int .i64 (((a + b) / 2 : Nat) : Int)), (19, .int .i64 (((a + b) / 2 + p : Nat) : Int)), (20, .int .i64 (x.1 : Int)), (21, .int .i64 (x.2 : Int))]) (fun x => Hp W (ownR 35 2 (.slice (some ⟨g, 0, none⟩) k cp) k (Fw k (f))).foot [ownR 35 2 (.slice (some ⟨g, 0, none⟩) k cp) k (Fw k (f))]) (fun x => ((a + b) / 2 < p ∧ x.1 = (a + b) / 2 + p - b ∧ x.2 = (a + b) / 2) ∨ (p ≤ (a + b) / 2 ∧ x.1 = a ∧ x.2 = p)) ?hx146 ?hy146
        case hx146 =>
          refine TC.seq ?_
          refine TC.region ?_
          refine' TL.y rfl rfl rfl ?hy147 ?_
          case hy147 => exact Yl.move rfl rfl
          refine' TL.y rfl rfl rfl ?hy148 ?_
          case hy148 => exact Yl.move rfl rfl
          refine' TL.y rfl rfl rfl ?hy149 ?_
          case hy149 => exact Yl.bin rfl rfl rfl (Bin.gtr _ _ _ _)
          refine TL.nil ?_
          refine TE.next ?_
          refine TC.cond rfl (fun hs140 => ?_) (fun hs140 => ?_)
          · skip
            (try simp only [decide_eq_true_eq, decide_eq_false_iff_not, beq_iff_eq, beq_eq_false_iff_ne, bne_iff_ne, ne_eq, bne_eq_false_iff_eq, Bool.not_eq_true', Bool.not_eq_false', Int.not_lt, Int.not_le, gt_iff_lt, ge_iff_le] at hs140)
            refine TC.seq ?_
            refine TC.region ?_
            refine' TL.y rfl rfl rfl ?hy150 ?_
            case hy150 => exact Yl.move rfl rfl
            refine' TL.y rfl rfl rfl ?hy151 ?_
            case hy151 => exact Yl.move rfl rfl
            refine' TL.y rfl rfl rfl ?hy152 ?_
            case hy152 => exact Yl.val (Yl.bin rfl rfl rfl (Bin.sub _ _ _ _)) (congrArg (Value.int .i64) (wsub (a := (a + b) / 2 + p) (i := b) (by omega) (by omega)))
            refine' TL.y rfl rfl rfl ?hy153 ?_
            case hy153 => exact Yl.assign rfl rfl
            refine TL.nil ?_
            refine TE.next ?_
            refine TC.region ?_
            refine' TL.y rfl rfl rfl ?hy154 ?_
            case hy154 => exact Yl.move rfl rfl
            refine' TL.y rfl rfl rfl ?hy155 ?_
            case hy155 => exact Yl.assign rfl rfl
            refine TL.nil ?_
            refine TE.met ((a + b) / 2 + p - b, (a + b) / 2) ?hF156 ?hs156 ?hm156
            case hF156 => exact .inl ⟨by omega, rfl, rfl⟩
            case hs156 => exact ⟨rfl, rfl, rfl, rfl, rfl, rfl, rfl, rfl, rfl, trivial⟩
            case hm156 => exact fun _ h => h
          · skip
            (try simp only [decide_eq_true_eq, decide_eq_false_iff_not, beq_iff_eq, beq_eq_false_iff_ne, bne_iff_ne, ne_eq, bne_eq_false_iff_eq, Bool.not_eq_true', Bool.not_eq_false', Int.not_lt, Int.not_le, gt_iff_lt, ge_iff_le] at hs140)
            refine TC.seq ?_
            refine TC.region ?_
            refine' TL.y rfl rfl rfl ?hy157 ?_
            case hy157 => exact Yl.move rfl rfl
            refine' TL.y rfl rfl rfl ?hy158 ?_
            case hy158 => exact Yl.assign rfl rfl
            refine TL.nil ?_
            refine TE.next ?_
            refine TC.region ?_
            refine' TL.y rfl rfl rfl ?hy159 ?_
            case hy159 => exact Yl.move rfl rfl
            refine' TL.y rfl rfl rfl ?hy160 ?_
            case hy160 => exact Yl.assign rfl rfl
            refine TL.nil ?_
            refine TE.met (a, p) ?hF161 ?hs161 ?hm161
            case hF161 => exact .inr ⟨by omega, rfl, rfl⟩
            case hs161 => exact ⟨rfl, rfl, rfl, rfl, rfl, rfl, rfl, rfl, rfl, trivial⟩
            case hm161 => exact fun _ h => h
        case hy146 =>
          rintro ⟨lo, hi⟩ hlh
          dsimp only at hlh ⊢
          have hg : Mg f a p b lo hi ((a + b) / 2) := ⟨s1, s2, hat, hap, hpb, rfl, hlh⟩
          refine TC.seq ?_
          refine TC.region ?_
          refine' TL.y rfl rfl rfl ?hy162 ?_
          case hy162 => exact Yl.move rfl rfl
          refine' TL.y rfl rfl rfl ?hy163 ?_
          case hy163 => exact Yl.val (Yl.bin rfl rfl rfl (Bin.sub _ _ _ _)) (congrArg (Value.int .i64) (wsub1 (a := (a + b) / 2 + p) (by omega) (by omega)))
          refine' TL.y rfl rfl rfl ?hy164 ?_
          case hy164 => exact Yl.assign rfl rfl
          refine TL.nil ?_
          refine TE.next ?_
          refine TC.seq ?_
          refine TC.block ?_
          refine TC.loop (σ := Nat × Nat) (fun x => [(0, .slice (some ⟨g, 0, none⟩) k cp), (1, .int .i64 (a : Int)), (2, .int .i64 (p : Int)), (3, .int .i64 (b : Int)), (4, .func (.func 22) #[] #[]), (18, .int .i64 (((a + b) / 2 : Nat) : Int)), (19, .int .i64 (((a + b) / 2 + p : Nat) : Int)), (20, .int .i64 (x.1 : Int)), (21, .int .i64 (x.2 : Int)), (22, .int .i64 (((a + b) / 2 + p - 1 : Nat) : Int))]) (fun x => Hp W (ownR 35 2 (.slice (some ⟨g, 0, none⟩) k cp) k (Fw k (f))).foot [ownR 35 2 (.slice (some ⟨g, 0, none⟩) k cp) k (Fw k (f))]) (fun x => Srch f ((a + b) / 2 + p) lo hi x.1 x.2) (fun x => x.2 - x.1) (lo, hi) ?hF165 ?hs165 ?hm165 ?round165
          case hF165 => exact hg.start
          case hs165 => exact ⟨rfl, rfl, rfl, rfl, rfl, rfl, rfl, rfl, rfl, rfl, trivial⟩
          case hm165 => exact fun _ h => h
          case round165 =>
            rintro ⟨s, r⟩ hS
            dsimp only at hS ⊢
            have hle := hS.le
            refine TC.seq ?_
            refine TC.seq ?_
            refine TC.region ?_
            refine' TL.y rfl rfl rfl ?hy166 ?_
            case hy166 => exact Yl.move rfl rfl
            refine' TL.y rfl rfl rfl ?hy167 ?_
            case hy167 => exact Yl.move rfl rfl
            refine' TL.y rfl rfl rfl ?hy168 ?_
            case hy168 => exact Yl.bin rfl rfl rfl (Bin.lss _ _ _ _)
            refine TL.nil ?_
            refine TE.next ?_
            refine TC.cond rfl (fun hs151 => ?_) (fun hs151 => ?_)
            · skip
              (try simp only [decide_eq_true_eq, decide_eq_false_iff_not, beq_iff_eq, beq_eq_false_iff_ne, bne_iff_ne, ne_eq, bne_eq_false_iff_eq, Bool.not_eq_true', Bool.not_eq_false', Int.not_lt, Int.not_le, gt_iff_lt, ge_iff_le] at hs151)
              refine TC.skip ?_
              refine TE.next ?_
              refine TC.block ?_
              refine TC.seq ?_
              refine TC.region ?_
              refine' TL.y rfl rfl rfl ?hy169 ?_
              case hy169 => exact Yl.move rfl rfl
              refine' TL.y rfl rfl rfl ?hy170 ?_
              case hy170 => exact Yl.move rfl rfl
              refine' TL.y rfl rfl rfl ?hy171 ?_
              case hy171 => exact Yl.val (Yl.bin rfl rfl rfl (Bin.add _ _ _ _)) (congrArg (Value.int .i64) (wadd (a := s) (i := r) (by omega)))
              refine' TL.y rfl rfl rfl ?hy172 ?_
              case hy172 => exact Yl.val (Yl.conv rfl rfl (by kernel_rfl) Try.underlying42) (congrArg (Value.int .u64) (wu (a := s + r) (by omega)))
              refine' TL.y rfl rfl rfl ?hy173 ?_
              case hy173 => exact Yl.val (Yl.bin rfl rfl rfl (Bin.shr _ _ _ _ _ (by omega))) (congrArg (Value.int .u64) (whalf (a := s + r)))
              refine' TL.y rfl rfl rfl ?hy174 ?_
              case hy174 => exact Yl.val (Yl.conv rfl rfl (by kernel_rfl) Try.underlying3) (congrArg (Value.int .i64) (wi (a := (s + r) / 2) (by omega)))
              refine' TL.y rfl rfl rfl ?hy175 ?_
              case hy175 => exact Yl.assign rfl rfl
              refine TL.nil ?_
              refine TE.next ?_
              refine TC.seq ?_
              refine TC.draw (k := 14) _ [] #[false, false, false, false, false, false, false, false, false, false, false, false, false, false] (by kernel_rfl) rfl rfl (fun _ h => h.drew) (fun _ h => h) ?_
              refine' TA.y (i := 0) #[true, false, false, false, false, false, false, false, false, false, false, false, false, false] rfl rfl rfl (by kernel_rfl) (fun _ _ _ h => h) (fun _ h => by exact Hp.sub h (by repeat (first | exact List.Sublist.refl _ | apply List.Sublist.cons))) rfl ?hy176 ?_
              case hy176 => exact Yl.move rfl rfl
              refine' TA.y (i := 1) #[true, true, false, false, false, false, false, false, false, false, false, false, false, false] rfl rfl rfl (by kernel_rfl) (fun _ _ _ h => h) (fun _ h => by exact Hp.sub h (by repeat (first | exact List.Sublist.refl _ | apply List.Sublist.cons))) rfl ?hy177 ?_
              case hy177 => exact Yl.move rfl rfl
              refine' TA.y (i := 2) #[true, true, true, false, false, false, false, false, false, false, false, false, false, false] rfl rfl rfl (by kernel_rfl) (fun _ _ _ h => h) (fun _ h => by exact Hp.sub h (by repeat (first | exact List.Sublist.refl _ | apply List.Sublist.cons))) rfl ?hy178 ?_
              case hy178 => exact Yl.move rfl rfl
              refine' TA.y (i := 3) #[true, true, true, true, false, false, false, false, false, false, false, false, false, false] rfl rfl rfl (by kernel_rfl) (fun _ _ _ h => h) (fun _ h => by exact Hp.sub h (by repeat (first | exact List.Sublist.refl _ | apply List.Sublist.cons))) rfl ?hy179 ?_
              case hy179 => exact Yl.move rfl rfl
              refine' TA.y (i := 4) #[true, true, true, true, true, false, false, false, false, false, false, false, false, false] rfl rfl rfl (by kernel_rfl) (fun _ _ _ h => h) (fun _ h => by exact Hp.sub h (by repeat (first | exact List.Sublist.refl _ | apply List.Sublist.cons))) rfl ?hy180 ?_
              case hy180 => exact Yl.val (Yl.bin rfl rfl rfl (Bin.sub _ _ _ _)) (congrArg (Value.int .i64) (wsub (a := (a + b) / 2 + p - 1) (i := (s + r) / 2) (by omega) (by omega)))
              refine' TA.y (i := 5) #[true, true, true, true, true, true, false, false, false, false, false, false, false, false] rfl rfl rfl (by kernel_rfl) (fun _ _ _ h => h) (fun _ h => by exact Hp.sub h (by repeat (first | exact List.Sublist.refl _ | apply List.Sublist.cons))) rfl ?hy181 ?_
              case hy181 => exact Yl.ix2 rfl rfl rfl Try.underlying29 (by kernel_rfl) (by omega)
              refine' TA.y (i := 6) #[true, true, true, true, true, true, true, false, false, false, false, false, false, false] rfl rfl rfl (by kernel_rfl) (fun _ _ _ h => h) (fun _ h => by exact Hp.sub h (by repeat (first | exact List.Sublist.refl _ | apply List.Sublist.cons))) rfl ?hy182 ?_
              case hy182 => first | exact Yl.loads rfl rfl (by kernel_rfl) (by kernel_rfl) (Hp.fw mem0 (by omega))
              refine' TA.y (i := 7) #[true, true, true, true, true, true, true, true, false, false, false, false, false, false] rfl rfl rfl (by kernel_rfl) (fun _ _ _ h => h) (fun _ h => by exact Hp.sub h (by repeat (first | exact List.Sublist.refl _ | apply List.Sublist.cons))) rfl ?hy183 ?_
              case hy183 => exact Yl.move rfl rfl
              refine' TA.y (i := 8) #[true, true, true, true, true, true, true, true, true, false, false, false, false, false] rfl rfl rfl (by kernel_rfl) (fun _ _ _ h => h) (fun _ h => by exact Hp.sub h (by repeat (first | exact List.Sublist.refl _ | apply List.Sublist.cons))) rfl ?hy184 ?_
              case hy184 => exact Yl.move rfl rfl
              refine' TA.y (i := 9) #[true, true, true, true, true, true, true, true, true, true, false, false, false, false] rfl rfl rfl (by kernel_rfl) (fun _ _ _ h => h) (fun _ h => by exact Hp.sub h (by repeat (first | exact List.Sublist.refl _ | apply List.Sublist.cons))) rfl ?hy185 ?_
              case hy185 => exact Yl.ix2 rfl rfl rfl Try.underlying29 (by kernel_rfl) (by omega)
              refine' TA.y (i := 10) #[true, true, true, true, true, true, true, true, true, true, true, false, false, false] rfl rfl rfl (by kernel_rfl) (fun _ _ _ h => h) (fun _ h => by exact Hp.sub h (by repeat (first | exact List.Sublist.refl _ | apply List.Sublist.cons))) rfl ?hy186 ?_
              case hy186 => first | exact Yl.loads rfl rfl (by kernel_rfl) (by kernel_rfl) (Hp.fw mem0 (by omega))
              refine' TA.c (i := 11) #[true, true, true, true, true, true, true, true, true, true, true, true, false, false] rfl rfl rfl (by kernel_rfl) (by decide) rfl ?hy187 ?hz187 ?_
              case hy187 => exact Yc.callv rfl rfl Try.func22 (by kernel_rfl) rfl rfl (Hp.calls (fun w h => k_cmp w _ _ _ _))
              case hz187 => exact (fun _ _ h => by exact Hp.sub h (by repeat (first | exact List.Sublist.refl _ | apply List.Sublist.cons)))
              intro _
              refine' TA.y (i := 12) #[true, true, true, true, true, true, true, true, true, true, true, true, true, false] rfl rfl rfl (by kernel_rfl) (fun _ _ _ h => h) (fun _ h => by exact Hp.sub h (by repeat (first | exact List.Sublist.refl _ | apply List.Sublist.cons))) rfl ?hy188 ?_
              case hy188 => exact Yl.bin rfl rfl rfl (Bin.lss _ _ _ _)
              refine' TA.y (i := 13) #[true, true, true, true, true, true, true, true, true, true, true, true, true, true] rfl rfl rfl (by kernel_rfl) (fun _ _ _ h => h) (fun _ h => by exact Hp.sub h (by repeat (first | exact List.Sublist.refl _ | apply List.Sublist.cons))) rfl ?hy189 ?_
              case hy189 => exact Yl.not rfl rfl
              refine TA.done (by kernel_rfl) ?_
              refine TE.next ?_
              refine TC.cond rfl (fun hs171 => ?_) (fun hs171 => ?_)
              · skip
                (try simp only [decide_eq_true_eq, decide_eq_false_iff_not, beq_iff_eq, beq_eq_false_iff_ne, bne_iff_ne, ne_eq, bne_eq_false_iff_eq, Bool.not_eq_true', Bool.not_eq_false', Int.not_lt, Int.not_le, gt_iff_lt, ge_iff_le] at hs171)
                refine TC.region ?_
                refine' TL.y rfl rfl rfl ?hy190 ?_
                case hy190 => exact Yl.move rfl rfl
                refine' TL.y rfl rfl rfl ?hy191 ?_
                case hy191 => exact Yl.val (Yl.bin rfl rfl rfl (Bin.add _ _ _ _)) (congrArg (Value.int .i64) (wadd1 (by omega)))
                refine' TL.y rfl rfl rfl ?hy192 ?_
                case hy192 => exact Yl.assign rfl rfl
                refine TL.nil ?_
                refine TE.inNormal ?_
                refine TE.round ((s + r) / 2 + 1, r) ?hF193 ?hlt193 ?hs193 ?hm193
                case hF193 => exact hg.low hS (by omega) (fun e => absurd (cmpI_neg.2 e) (by omega))
                case hlt193 => dsimp only; omega
                case hs193 => exact ⟨rfl, rfl, rfl, rfl, rfl, rfl, rfl, rfl, rfl, rfl, trivial⟩
                case hm193 => exact fun _ h => h
              · skip
                (try simp only [decide_eq_true_eq, decide_eq_false_iff_not, beq_iff_eq, beq_eq_false_iff_ne, bne_iff_ne, ne_eq, bne_eq_false_iff_eq, Bool.not_eq_true', Bool.not_eq_false', Int.not_lt, Int.not_le, gt_iff_lt, ge_iff_le] at hs171)
                refine TC.region ?_
                refine' TL.y rfl rfl rfl ?hy194 ?_
                case hy194 => exact Yl.move rfl rfl
                refine' TL.y rfl rfl rfl ?hy195 ?_
                case hy195 => exact Yl.assign rfl rfl
                refine TL.nil ?_
                refine TE.inNormal ?_
                refine TE.round (s, (s + r) / 2) ?hF196 ?hlt196 ?hs196 ?hm196
                case hF196 => exact hg.high hS (by omega) (cmpI_neg.1 hs171)
                case hlt196 => dsimp only; omega
                case hs196 => exact ⟨rfl, rfl, rfl, rfl, rfl, rfl, rfl, rfl, rfl, rfl, trivial⟩
                case hm196 => exact fun _ h => h
            · skip
              (try simp only [decide_eq_true_eq, decide_eq_false_iff_not, beq_iff_eq, beq_eq_false_iff_ne, bne_iff_ne, ne_eq, bne_eq_false_iff_eq, Bool.not_eq_true', Bool.not_eq_false', Int.not_lt, Int.not_le, gt_iff_lt, ge_iff_le] at hs151)
              obtain rfl : s = r := by omega
              have hfst := hg.first hS
              obtain ⟨t1, t2, t3, t4, t5, hfr, e1, e2, e3, e4⟩ := hg.turned hS
              refine TC.exit ?_
              refine TE.thenExit ?_
              refine TE.thenExit ?_
              refine TE.inHere ?_
              refine TE.next ?_
              refine TC.seq ?_
              refine TC.region ?_
              refine' TL.y rfl rfl rfl ?hy197 ?_
              case hy197 => exact Yl.move rfl rfl
              refine' TL.y rfl rfl rfl ?hy198 ?_
              case hy198 => exact Yl.move rfl rfl
              refine' TL.y rfl rfl rfl ?hy199 ?_
              case hy199 => exact Yl.val (Yl.bin rfl rfl rfl (Bin.sub _ _ _ _)) (congrArg (Value.int .i64) (wsub (a := (a + b) / 2 + p) (i := s) (by omega) (by omega)))
              refine' TL.y rfl rfl rfl ?hy200 ?_
              case hy200 => exact Yl.assign rfl rfl
              refine TL.nil ?_
              refine TE.next ?_
              refine TC.meet (σ := Unit) (fun _ => [(0, .slice (some ⟨g, 0, none⟩) k cp), (1, .int .i64 (a : Int)), (2, .int .i64 (p : Int)), (3, .int .i64 (b : Int)), (4, .func (.func 22) #[] #[]), (18, .int .i64 (((a + b) / 2 : Nat) : Int)), (20, .int .i64 (s : Int)), (24, .int .i64 (((a + b) / 2 + p - s : Nat) : Int))]) (fun _ => Hp W (ownR 35 2 (.slice (some ⟨g, 0, none⟩) k cp) k (Fw k (f))).foot [ownR 35 2 (.slice (some ⟨g, 0, none⟩) k cp) k (Fw k (rotF f s p ((a + b) / 2 + p - s)))]) (fun _ => True) ?hx201 ?hy201
              case hx201 =>
                refine TC.seq ?_
                refine TC.region ?_
                refine' TL.y rfl rfl rfl ?hy202 ?_
                case hy202 => exact Yl.move rfl rfl
                refine' TL.y rfl rfl rfl ?hy203 ?_
                case hy203 => exact Yl.move rfl rfl
                refine' TL.y rfl rfl rfl ?hy204 ?_
                case hy204 => exact Yl.bin rfl rfl rfl (Bin.lss _ _ _ _)
                refine' TL.y rfl rfl rfl ?hy205 ?_
                case hy205 => exact Yl.move rfl rfl
                refine TL.split (i := 181) rfl (fun hs181 => ?_) (fun hs181 => ?_)
                · skip
                  (try simp only [decide_eq_true_eq, decide_eq_false_iff_not, beq_iff_eq, beq_eq_false_iff_ne, bne_iff_ne, ne_eq, bne_eq_false_iff_eq, Bool.not_eq_true', Bool.not_eq_false', Int.not_lt, Int.not_le, gt_iff_lt, ge_iff_le] at hs181)
                  refine' TL.y rfl rfl rfl ?hy206 ?_
                  case hy206 => exact Yl.move rfl rfl
                  refine' TL.y rfl rfl rfl ?hy207 ?_
                  case hy207 => exact Yl.move rfl rfl
                  refine' TL.y rfl rfl rfl ?hy208 ?_
                  case hy208 => exact Yl.bin rfl rfl rfl (Bin.lss _ _ _ _)
                  refine' TL.y rfl rfl rfl ?hy209 ?_
                  case hy209 => exact Yl.pickT rfl rfl rfl
                  refine TL.nil ?_
                  refine TE.next ?_
                  refine TC.cond rfl (fun hs185 => ?_) (fun hs185 => ?_)
                  · skip
                    (try simp only [decide_eq_true_eq, decide_eq_false_iff_not, beq_iff_eq, beq_eq_false_iff_ne, bne_iff_ne, ne_eq, bne_eq_false_iff_eq, Bool.not_eq_true', Bool.not_eq_false', Int.not_lt, Int.not_le, gt_iff_lt, ge_iff_le] at hs185)
                    refine TC.region ?_
                    refine' TL.y rfl rfl rfl ?hy210 ?_
                    case hy210 => exact Yl.move rfl rfl
                    refine' TL.y rfl rfl rfl ?hy211 ?_
                    case hy211 => exact Yl.move rfl rfl
                    refine' TL.y rfl rfl rfl ?hy212 ?_
                    case hy212 => exact Yl.move rfl rfl
                    refine' TL.y rfl rfl rfl ?hy213 ?_
                    case hy213 => exact Yl.move rfl rfl
                    refine' TL.y rfl rfl rfl ?hy214 ?_
                    case hy214 => exact Yl.move rfl rfl
                    refine' TL.c rfl rfl rfl ?hy215 ?_
                    case hy215 => exact Yc.call rfl Try.func34 (by kernel_rfl) rfl rfl (Hp.turn1 mem0 foc0 (k_rot hk (by omega) (by omega) (by omega)))
                    intro _
                    refine TL.nil ?_
                    refine TE.met () ?hF216 ?hs216 ?hm216
                    case hF216 => trivial
                    case hs216 => exact ⟨rfl, rfl, rfl, rfl, rfl, rfl, rfl, rfl, trivial⟩
                    case hm216 => exact fun _ h => h
                  · skip
                    (try simp only [decide_eq_true_eq, decide_eq_false_iff_not, beq_iff_eq, beq_eq_false_iff_ne, bne_iff_ne, ne_eq, bne_eq_false_iff_eq, Bool.not_eq_true', Bool.not_eq_false', Int.not_lt, Int.not_le, gt_iff_lt, ge_iff_le] at hs185)
                    refine TC.skip ?_
                    refine TE.met () ?hF217 ?hs217 ?hm217
                    case hF217 => trivial
                    case hs217 => exact ⟨rfl, rfl, rfl, rfl, rfl, rfl, rfl, rfl, trivial⟩
                    case hm217 => exact fun w h => by rw [rot_none (show ¬ (s < p ∧ p < (a + b) / 2 + p - s) by omega) t2 t4]; exact h
                · skip
                  (try simp only [decide_eq_true_eq, decide_eq_false_iff_not, beq_iff_eq, beq_eq_false_iff_ne, bne_iff_ne, ne_eq, bne_eq_false_iff_eq, Bool.not_eq_true', Bool.not_eq_false', Int.not_lt, Int.not_le, gt_iff_lt, ge_iff_le] at hs181)
                  refine TL.skip rfl rfl rfl ?_
                  refine TL.skip rfl rfl rfl ?_
                  refine TL.skip rfl rfl rfl ?_
                  refine' TL.y rfl rfl rfl ?hy218 ?_
                  case hy218 => exact Yl.pickF rfl rfl rfl
                  refine TL.nil ?_
                  refine TE.next ?_
                  refine TC.no rfl rfl ?_
                  refine TC.skip ?_
                  refine TE.met () ?hF219 ?hs219 ?hm219
                  case hF219 => trivial
                  case hs219 => exact ⟨rfl, rfl, rfl, rfl, rfl, rfl, rfl, rfl, trivial⟩
                  case hm219 => exact fun w h => by rw [rot_none (show ¬ (s < p ∧ p < (a + b) / 2 + p - s) by omega) t2 t4]; exact h
              case hy201 =>
                intro _ _
                refine TC.meet (σ := Nat → E) (fun f2 => [(0, .slice (some ⟨g, 0, none⟩) k cp), (1, .int .i64 (a : Int)), (2, .int .i64 (p : Int)), (3, .int .i64 (b : Int)), (4, .func (.func 22) #[] #[]), (18, .int .i64 (((a + b) / 2 : Nat) : Int)), (24, .int .i64 (((a + b) / 2 + p - s : Nat) : Int))]) (fun f2 => Hp W (ownR 35 2 (.slice (some ⟨g, 0, none⟩) k cp) k (Fw k (f))).foot [ownR 35 2 (.slice (some ⟨g, 0, none⟩) k cp) k (Fw k (f2))]) (fun f2 => From a ((a + b) / 2) (rotF f s p ((a + b) / 2 + p - s)) f2 ∧ SrtF f2 a ((a + b) / 2)) ?hx220 ?hy220
                case hx220 =>
                  refine TC.seq ?_
                  refine TC.region ?_
                  refine' TL.y rfl rfl rfl ?hy221 ?_
                  case hy221 => exact Yl.move rfl rfl
                  refine' TL.y rfl rfl rfl ?hy222 ?_
                  case hy222 => exact Yl.move rfl rfl
                  refine' TL.y rfl rfl rfl ?hy223 ?_
                  case hy223 => exact Yl.bin rfl rfl rfl (Bin.lss _ _ _ _)
                  refine' TL.y rfl rfl rfl ?hy224 ?_
                  case hy224 => exact Yl.move rfl rfl
                  refine TL.split (i := 195) rfl (fun hs195 => ?_) (fun hs195 => ?_)
                  · skip
                    (try simp only [decide_eq_true_eq, decide_eq_false_iff_not, beq_iff_eq, beq_eq_false_iff_ne, bne_iff_ne, ne_eq, bne_eq_false_iff_eq, Bool.not_eq_true', Bool.not_eq_false', Int.not_lt, Int.not_le, gt_iff_lt, ge_iff_le] at hs195)
                    refine' TL.y rfl rfl rfl ?hy225 ?_
                    case hy225 => exact Yl.move rfl rfl
                    refine' TL.y rfl rfl rfl ?hy226 ?_
                    case hy226 => exact Yl.move rfl rfl
                    refine' TL.y rfl rfl rfl ?hy227 ?_
                    case hy227 => exact Yl.bin rfl rfl rfl (Bin.lss _ _ _ _)
                    refine' TL.y rfl rfl rfl ?hy228 ?_
                    case hy228 => exact Yl.pickT rfl rfl rfl
                    refine TL.nil ?_
                    refine TE.next ?_
                    refine TC.cond rfl (fun hs199 => ?_) (fun hs199 => ?_)
                    · skip
                      (try simp only [decide_eq_true_eq, decide_eq_false_iff_not, beq_iff_eq, beq_eq_false_iff_ne, bne_iff_ne, ne_eq, bne_eq_false_iff_eq, Bool.not_eq_true', Bool.not_eq_false', Int.not_lt, Int.not_le, gt_iff_lt, ge_iff_le] at hs199)
                      refine TC.region ?_
                      refine' TL.y rfl rfl rfl ?hy229 ?_
                      case hy229 => exact Yl.move rfl rfl
                      refine' TL.y rfl rfl rfl ?hy230 ?_
                      case hy230 => exact Yl.move rfl rfl
                      refine' TL.y rfl rfl rfl ?hy231 ?_
                      case hy231 => exact Yl.move rfl rfl
                      refine' TL.y rfl rfl rfl ?hy232 ?_
                      case hy232 => exact Yl.move rfl rfl
                      refine' TL.y rfl rfl rfl ?hy233 ?_
                      case hy233 => exact Yl.move rfl rfl
                      refine' TL.c rfl rfl rfl ?hy234 ?_
                      case hy234 => exact Yc.call rfl Try.func33 (by kernel_rfl) rfl rfl (Hp.pureT (ih (f := rotF f s p ((a + b) / 2 + p - s)) (a := a) (p := s) (b := (a + b) / 2) (by omega) (by omega) (by omega) (by omega) hfst.1 hfst.2.1 hfst.2.2))
                      intro ⟨f2, hf2⟩
                      dsimp only
                      refine TL.nil ?_
                      refine TE.met f2 ?hF235 ?hs235 ?hm235
                      case hF235 => exact hf2
                      case hs235 => exact ⟨rfl, rfl, rfl, rfl, rfl, rfl, rfl, trivial⟩
                      case hm235 => exact fun _ h => h
                    · skip
                      (try simp only [decide_eq_true_eq, decide_eq_false_iff_not, beq_iff_eq, beq_eq_false_iff_ne, bne_iff_ne, ne_eq, bne_eq_false_iff_eq, Bool.not_eq_true', Bool.not_eq_false', Int.not_lt, Int.not_le, gt_iff_lt, ge_iff_le] at hs199)
                      refine TC.skip ?_
                      refine TE.met (rotF f s p ((a + b) / 2 + p - s)) ?hF236 ?hs236 ?hm236
                      case hF236 => exact ⟨From.refl _ _ _, fun i j h1 h2 h3 => hfst.1 i j h1 h2 (by omega)⟩
                      case hs236 => exact ⟨rfl, rfl, rfl, rfl, rfl, rfl, rfl, trivial⟩
                      case hm236 => exact fun _ h => h
                  · skip
                    (try simp only [decide_eq_true_eq, decide_eq_false_iff_not, beq_iff_eq, beq_eq_false_iff_ne, bne_iff_ne, ne_eq, bne_eq_false_iff_eq, Bool.not_eq_true', Bool.not_eq_false', Int.not_lt, Int.not_le, gt_iff_lt, ge_iff_le] at hs195)
                    refine TL.skip rfl rfl rfl ?_
                    refine TL.skip rfl rfl rfl ?_
                    refine TL.skip rfl rfl rfl ?_
                    refine' TL.y rfl rfl rfl ?hy237 ?_
                    case hy237 => exact Yl.pickF rfl rfl rfl
                    refine TL.nil ?_
                    refine TE.next ?_
                    refine TC.no rfl rfl ?_
                    refine TC.skip ?_
                    refine TE.met (rotF f s p ((a + b) / 2 + p - s)) ?hF238 ?hs238 ?hm238
                    case hF238 => exact ⟨From.refl _ _ _, fun i j h1 h2 h3 => hfst.2.1 i j (by omega) h2 h3⟩
                    case hs238 => exact ⟨rfl, rfl, rfl, rfl, rfl, rfl, rfl, trivial⟩
                    case hm238 => exact fun _ h => h
                case hy220 =>
                  rintro f2 ⟨hf2, hs2⟩
                  have hsec := hg.second hS
                  have hsm : SrtF f2 ((a + b) / 2) ((a + b) / 2 + p - s) := fun i j h1 h2 h3 => by rw [hf2.out i (by omega), hf2.out j (by omega)]; exact hsec.1 i j h1 h2 h3
                  have hsn : SrtF f2 ((a + b) / 2 + p - s) b := fun i j h1 h2 h3 => by rw [hf2.out i (by omega), hf2.out j (by omega)]; exact hsec.2.1 i j h1 h2 h3
                  refine TC.seq ?_
                  refine TC.region ?_
                  refine' TL.y rfl rfl rfl ?hy239 ?_
                  case hy239 => exact Yl.move rfl rfl
                  refine' TL.y rfl rfl rfl ?hy240 ?_
                  case hy240 => exact Yl.move rfl rfl
                  refine' TL.y rfl rfl rfl ?hy241 ?_
                  case hy241 => exact Yl.bin rfl rfl rfl (Bin.lss _ _ _ _)
                  refine' TL.y rfl rfl rfl ?hy242 ?_
                  case hy242 => exact Yl.move rfl rfl
                  refine TL.split (i := 209) rfl (fun hs209 => ?_) (fun hs209 => ?_)
                  · skip
                    (try simp only [decide_eq_true_eq, decide_eq_false_iff_not, beq_iff_eq, beq_eq_false_iff_ne, bne_iff_ne, ne_eq, bne_eq_false_iff_eq, Bool.not_eq_true', Bool.not_eq_false', Int.not_lt, Int.not_le, gt_iff_lt, ge_iff_le] at hs209)
                    refine' TL.y rfl rfl rfl ?hy243 ?_
                    case hy243 => exact Yl.move rfl rfl
                    refine' TL.y rfl rfl rfl ?hy244 ?_
                    case hy244 => exact Yl.move rfl rfl
                    refine' TL.y rfl rfl rfl ?hy245 ?_
                    case hy245 => exact Yl.bin rfl rfl rfl (Bin.lss _ _ _ _)
                    refine' TL.y rfl rfl rfl ?hy246 ?_
                    case hy246 => exact Yl.pickT rfl rfl rfl
                    refine TL.nil ?_
                    refine TE.next ?_
                    refine TC.cond rfl (fun hs213 => ?_) (fun hs213 => ?_)
                    · skip
                      (try simp only [decide_eq_true_eq, decide_eq_false_iff_not, beq_iff_eq, beq_eq_false_iff_ne, bne_iff_ne, ne_eq, bne_eq_false_iff_eq, Bool.not_eq_true', Bool.not_eq_false', Int.not_lt, Int.not_le, gt_iff_lt, ge_iff_le] at hs213)
                      refine TC.region ?_
                      refine' TL.y rfl rfl rfl ?hy247 ?_
                      case hy247 => exact Yl.move rfl rfl
                      refine' TL.y rfl rfl rfl ?hy248 ?_
                      case hy248 => exact Yl.move rfl rfl
                      refine' TL.y rfl rfl rfl ?hy249 ?_
                      case hy249 => exact Yl.move rfl rfl
                      refine' TL.y rfl rfl rfl ?hy250 ?_
                      case hy250 => exact Yl.move rfl rfl
                      refine' TL.y rfl rfl rfl ?hy251 ?_
                      case hy251 => exact Yl.move rfl rfl
                      refine' TL.c rfl rfl rfl ?hy252 ?_
                      case hy252 => exact Yc.call rfl Try.func33 (by kernel_rfl) rfl rfl (Hp.pureT (ih (f := f2) (a := (a + b) / 2) (p := (a + b) / 2 + p - s) (b := b) (by omega) (by omega) (by omega) (by omega) hsm hsn (fun i j h1 h2 h3 h4 => by rw [hf2.out i (by omega), hf2.out j (by omega)]; exact hsec.2.2 i j h1 h2 h3 h4)))
                      intro ⟨f3, hf3⟩
                      dsimp only
                      refine TL.nil ?_
                      refine TE.end0 rfl ?_
                      have hd := hg.fin hS hf2 hs2 hf3.1 hf3.2
                      exact fun w h => ⟨f3, rfl, (h.topure hd).leave⟩
                    · skip
                      (try simp only [decide_eq_true_eq, decide_eq_false_iff_not, beq_iff_eq, beq_eq_false_iff_ne, bne_iff_ne, ne_eq, bne_eq_false_iff_eq, Bool.not_eq_true', Bool.not_eq_false', Int.not_lt, Int.not_le, gt_iff_lt, ge_iff_le] at hs213)
                      refine TC.skip ?_
                      refine TE.end0 rfl ?_
                      have hd := hg.fin hS hf2 hs2 (From.refl _ _ _) (fun i j h1 h2 h3 => hsm i j h1 h2 (by omega))
                      exact fun w h => ⟨f2, rfl, (h.topure hd).leave⟩
                  · skip
                    (try simp only [decide_eq_true_eq, decide_eq_false_iff_not, beq_iff_eq, beq_eq_false_iff_ne, bne_iff_ne, ne_eq, bne_eq_false_iff_eq, Bool.not_eq_true', Bool.not_eq_false', Int.not_lt, Int.not_le, gt_iff_lt, ge_iff_le] at hs209)
                    refine TL.skip rfl rfl rfl ?_
                    refine TL.skip rfl rfl rfl ?_
                    refine TL.skip rfl rfl rfl ?_
                    refine' TL.y rfl rfl rfl ?hy253 ?_
                    case hy253 => exact Yl.pickF rfl rfl rfl
                    refine TL.nil ?_
                    refine TE.next ?_
                    refine TC.no rfl rfl ?_
                    refine TC.skip ?_
                    refine TE.end0 rfl ?_
                    have hd := hg.fin hS hf2 hs2 (From.refl _ _ _) (fun i j h1 h2 h3 => hsn i j (by omega) h2 h3)
                    exact fun w h => ⟨f2, rfl, (h.topure hd).leave⟩
set_option maxRecDepth 100000 in
set_option maxHeartbeats 2000000 in
theorem k_stable {g k cp : Nat} (hk : k ≤ 64) {f : Nat → E} (hat : ∀ i j, i < j → j < k → (f i).1 < (f j).1) : Turns Try.prog 28 #[.slice (some ⟨g, 0, none⟩) k cp, .int .i64 (k : Int), .func (.func 22) #[] #[]] (ownR 35 2 (.slice (some ⟨g, 0, none⟩) k cp) k (Fw k (f))) (fun _ : Nat → E => .tuple #[]) (fun f' => pureR (From 0 k f f' ∧ SrtF f' 0 k) (ownR 35 2 (.slice (some ⟨g, 0, none⟩) k cp) k (Fw k (f')))) := by
  have hk1 : k ≤ 1000 := by omega
  intro W hR
  have hM := Hp.enter hR
  refine TC.enter (n := 63) Try.func28 rfl rfl rfl hM ?_
  refine TC.seq ?_
  refine TC.region ?_
  refine' TL.y rfl rfl rfl ?hy1 ?_
  case hy1 => exact Yl.assign rfl rfl
  refine TL.nil ?_
  refine TE.next ?_
  refine TC.seq ?_
  refine TC.region ?_
  refine' TL.y rfl rfl rfl ?hy2 ?_
  case hy2 => exact Yl.move rfl rfl
  refine' TL.y rfl rfl rfl ?hy3 ?_
  case hy3 => exact Yl.assign rfl rfl
  refine' TL.y rfl rfl rfl ?hy4 ?_
  case hy4 => exact Yl.assign rfl rfl
  refine TL.nil ?_
  refine TE.next ?_
  refine TC.seq ?_
  refine TC.block ?_
  refine TC.loop (σ := Nat × (Nat → E)) (fun s => [(0, .slice (some ⟨g, 0, none⟩) k cp), (1, .int .i64 (k : Int)), (2, .func (.func 22) #[] #[]), (6, .int .i64 20), (7, .int .i64 (s.1 : Int)), (8, .int .i64 ((s.1 + 20 : Nat) : Int))]) (fun s => Hp W (ownR 35 2 (.slice (some ⟨g, 0, none⟩) k cp) k (Fw k (f))).foot [ownR 35 2 (.slice (some ⟨g, 0, none⟩) k cp) k (Fw k (s.2))]) (fun s => s.1 ≤ k ∧ s.1 % 20 = 0 ∧ StA f k s.1 s.2) (fun s => k - s.1) (0, f) ?hF5 ?hs5 ?hm5 ?round5
  case hF5 => exact ⟨Nat.zero_le _, rfl, StA.start _ _⟩
  case hs5 => exact ⟨rfl, rfl, rfl, rfl, rfl, rfl, trivial⟩
  case hm5 => exact fun _ h => h
  case round5 =>
    rintro ⟨a, f1⟩ ⟨h1, h2, h3⟩
    dsimp only at h1 h2 h3 ⊢
    refine TC.seq ?_
    refine TC.seq ?_
    refine TC.region ?_
    refine' TL.y rfl rfl rfl ?hy6 ?_
    case hy6 => exact Yl.move rfl rfl
    refine' TL.y rfl rfl rfl ?hy7 ?_
    case hy7 => exact Yl.move rfl rfl
    refine' TL.y rfl rfl rfl ?hy8 ?_
    case hy8 => exact Yl.bin rfl rfl rfl (Bin.leq _ _ _ _)
    refine TL.nil ?_
    refine TE.next ?_
    refine TC.cond rfl (fun hs13 => ?_) (fun hs13 => ?_)
    · skip
      (try simp only [decide_eq_true_eq, decide_eq_false_iff_not, beq_iff_eq, beq_eq_false_iff_ne, bne_iff_ne, ne_eq, bne_eq_false_iff_eq, Bool.not_eq_true', Bool.not_eq_false', Int.not_lt, Int.not_le, gt_iff_lt, ge_iff_le] at hs13)
      refine TC.skip ?_
      refine TE.next ?_
      refine TC.block ?_
      refine TC.seq ?_
      refine TC.region ?_
      refine' TL.y rfl rfl rfl ?hy9 ?_
      case hy9 => exact Yl.move rfl rfl
      refine' TL.y rfl rfl rfl ?hy10 ?_
      case hy10 => exact Yl.move rfl rfl
      refine' TL.y rfl rfl rfl ?hy11 ?_
      case hy11 => exact Yl.move rfl rfl
      refine' TL.y rfl rfl rfl ?hy12 ?_
      case hy12 => exact Yl.move rfl rfl
      refine' TL.c rfl rfl rfl ?hy13 ?_
      case hy13 => exact Yc.call rfl Try.func32 (by kernel_rfl) rfl rfl (Hp.pureT (k_ins hk1 (f := f1) (a := a) (b := a + 20) (by omega) (by omega) (fun i j c1 c2 c3 => by rw [h3.rest i c1, h3.rest j (by omega)]; exact hat i j c2 (by omega))))
      intro ⟨f2, hf2⟩
      dsimp only
      refine TL.nil ?_
      refine TE.next ?_
      refine TC.seq ?_
      refine TC.region ?_
      refine' TL.y rfl rfl rfl ?hy14 ?_
      case hy14 => exact Yl.move rfl rfl
      refine' TL.y rfl rfl rfl ?hy15 ?_
      case hy15 => exact Yl.assign rfl rfl
      refine TL.nil ?_
      refine TE.next ?_
      refine TC.region ?_
      refine' TL.y rfl rfl rfl ?hy16 ?_
      case hy16 => exact Yl.move rfl rfl
      refine' TL.y rfl rfl rfl ?hy17 ?_
      case hy17 => exact Yl.move rfl rfl
      refine' TL.y rfl rfl rfl ?hy18 ?_
      case hy18 => exact Yl.val (Yl.bin rfl rfl rfl (Bin.add _ _ _ _)) (congrArg (Value.int .i64) ((i64in (by omega) (by omega)).trans (show ((a + 20 : Nat) : Int) + 20 = ((a + 20 + 20 : Nat) : Int) by omega)))
      refine' TL.y rfl rfl rfl ?hy19 ?_
      case hy19 => exact Yl.assign rfl rfl
      refine TL.nil ?_
      refine TE.inNormal ?_
      refine TE.round (a + 20, f2) ?hF20 ?hlt20 ?hs20 ?hm20
      case hF20 => exact ⟨by dsimp only; omega, by dsimp only; omega, h3.step h2 (by omega) hf2.1 hf2.2⟩
      case hlt20 => dsimp only; omega
      case hs20 => exact ⟨rfl, rfl, rfl, rfl, rfl, rfl, trivial⟩
      case hm20 => exact fun _ h => h
    · skip
      (try simp only [decide_eq_true_eq, decide_eq_false_iff_not, beq_iff_eq, beq_eq_false_iff_ne, bne_iff_ne, ne_eq, bne_eq_false_iff_eq, Bool.not_eq_true', Bool.not_eq_false', Int.not_lt, Int.not_le, gt_iff_lt, ge_iff_le] at hs13)
      refine TC.exit ?_
      refine TE.thenExit ?_
      refine TE.thenExit ?_
      refine TE.inHere ?_
      refine TE.next ?_
      refine TC.seq ?_
      refine TC.region ?_
      refine' TL.y rfl rfl rfl ?hy21 ?_
      case hy21 => exact Yl.move rfl rfl
      refine' TL.y rfl rfl rfl ?hy22 ?_
      case hy22 => exact Yl.move rfl rfl
      refine' TL.y rfl rfl rfl ?hy23 ?_
      case hy23 => exact Yl.move rfl rfl
      refine' TL.y rfl rfl rfl ?hy24 ?_
      case hy24 => exact Yl.move rfl rfl
      refine' TL.c rfl rfl rfl ?hy25 ?_
      case hy25 => exact Yc.call rfl Try.func32 (by kernel_rfl) rfl rfl (Hp.pureT (k_ins hk1 (f := f1) (a := a) (b := k) (by omega) (by omega) (fun i j c1 c2 c3 => by rw [h3.rest i c1, h3.rest j (by omega)]; exact hat i j c2 (by omega))))
      intro ⟨f2, hf2⟩
      dsimp only
      refine TL.nil ?_
      refine TE.next ?_
      refine TC.block ?_
      refine TC.loop (σ := Nat × (Nat → E)) (fun s => [(0, .slice (some ⟨g, 0, none⟩) k cp), (1, .int .i64 (k : Int)), (2, .func (.func 22) #[] #[]), (6, .int .i64 (s.1 : Int))]) (fun s => Hp W (ownR 35 2 (.slice (some ⟨g, 0, none⟩) k cp) k (Fw k (f))).foot [ownR 35 2 (.slice (some ⟨g, 0, none⟩) k cp) k (Fw k (s.2))]) (fun s => (s.1 = 20 ∨ s.1 = 40 ∨ s.1 = 80) ∧ Full f k s.1 s.2) (fun s => 100 - s.1) (20, f2) ?hF26 ?hs26 ?hm26 ?round26
      case hF26 => exact ⟨.inl rfl, h3.last h2 h1 (by omega) hf2.1 hf2.2⟩
      case hs26 => exact ⟨rfl, rfl, rfl, rfl, trivial⟩
      case hm26 => exact fun _ h => h
      case round26 =>
        rintro ⟨bs, f3⟩ ⟨g1, g2⟩
        dsimp only at g1 g2 ⊢
        refine TC.seq ?_
        refine TC.seq ?_
        refine TC.region ?_
        refine' TL.y rfl rfl rfl ?hy27 ?_
        case hy27 => exact Yl.move rfl rfl
        refine' TL.y rfl rfl rfl ?hy28 ?_
        case hy28 => exact Yl.move rfl rfl
        refine' TL.y rfl rfl rfl ?hy29 ?_
        case hy29 => exact Yl.bin rfl rfl rfl (Bin.lss _ _ _ _)
        refine TL.nil ?_
        refine TE.next ?_
        refine TC.cond rfl (fun hs30 => ?_) (fun hs30 => ?_)
        · skip
          (try simp only [decide_eq_true_eq, decide_eq_false_iff_not, beq_iff_eq, beq_eq_false_iff_ne, bne_iff_ne, ne_eq, bne_eq_false_iff_eq, Bool.not_eq_true', Bool.not_eq_false', Int.not_lt, Int.not_le, gt_iff_lt, ge_iff_le] at hs30)
          have hbs : bs = 20 ∨ bs = 40 := by omega
          refine TC.skip ?_
          refine TE.next ?_
          refine TC.block ?_
          refine TC.seq ?_
          refine TC.region ?_
          refine' TL.y rfl rfl rfl ?hy30 ?_
          case hy30 => exact Yl.move rfl rfl
          refine' TL.y rfl rfl rfl ?hy31 ?_
          case hy31 => exact Yl.val (Yl.bin rfl rfl rfl (Bin.mul _ _ _ _)) (congrArg (Value.int .i64) (show IntKind.i64.wrap (2 * (bs : Int)) = ((2 * bs : Nat) : Int) from by rw [i64in (by omega) (by omega)]; omega))
          refine' TL.y rfl rfl rfl ?hy32 ?_
          case hy32 => exact Yl.assign rfl rfl
          refine' TL.y rfl rfl rfl ?hy33 ?_
          case hy33 => exact Yl.assign rfl rfl
          refine TL.nil ?_
          refine TE.next ?_
          refine TC.seq ?_
          refine TC.block ?_
          refine TC.loop (σ := Nat × (Nat → E)) (fun s => [(0, .slice (some ⟨g, 0, none⟩) k cp), (1, .int .i64 (k : Int)), (2, .func (.func 22) #[] #[]), (6, .int .i64 (bs : Int)), (7, .int .i64 (s.1 : Int)), (8, .int .i64 ((s.1 + 2 * bs : Nat) : Int))]) (fun s => Hp W (ownR 35 2 (.slice (some ⟨g, 0, none⟩) k cp) k (Fw k (f))).foot [ownR 35 2 (.slice (some ⟨g, 0, none⟩) k cp) k (Fw k (s.2))]) (fun s => s.1 ≤ k ∧ s.1 % (2 * bs) = 0 ∧ StB f k bs s.1 s.2) (fun s => k - s.1) (0, f3) ?hF34 ?hs34 ?hm34 ?round34
          case hF34 => exact ⟨Nat.zero_le _, Nat.zero_mod _, g2.b⟩
          case hs34 => exact ⟨rfl, rfl, rfl, rfl, rfl, (by show some (Value.int IntKind.i64 ((2 * bs : Nat) : Int)) = _; simp), trivial⟩
          case hm34 => exact fun _ h => h
          case round34 =>
            rintro ⟨a2, f4⟩ ⟨d1, d2, d3⟩
            dsimp only at d1 d2 d3 ⊢
            refine TC.seq ?_
            refine TC.seq ?_
            refine TC.region ?_
            refine' TL.y rfl rfl rfl ?hy35 ?_
            case hy35 => exact Yl.move rfl rfl
            refine' TL.y rfl rfl rfl ?hy36 ?_
            case hy36 => exact Yl.move rfl rfl
            refine' TL.y rfl rfl rfl ?hy37 ?_
            case hy37 => exact Yl.bin rfl rfl rfl (Bin.leq _ _ _ _)
            refine TL.nil ?_
            refine TE.next ?_
            refine TC.cond rfl (fun hs35 => ?_) (fun hs35 => ?_)
            · skip
              (try simp only [decide_eq_true_eq, decide_eq_false_iff_not, beq_iff_eq, beq_eq_false_iff_ne, bne_iff_ne, ne_eq, bne_eq_false_iff_eq, Bool.not_eq_true', Bool.not_eq_false', Int.not_lt, Int.not_le, gt_iff_lt, ge_iff_le] at hs35)
              have hfa := d3.facts hbs d2 hat (b := a2 + 2 * bs) (by omega) (Nat.le_refl _) (by omega)
              refine TC.skip ?_
              refine TE.next ?_
              refine TC.block ?_
              refine TC.seq ?_
              refine TC.region ?_
              refine' TL.y rfl rfl rfl ?hy38 ?_
              case hy38 => exact Yl.move rfl rfl
              refine' TL.y rfl rfl rfl ?hy39 ?_
              case hy39 => exact Yl.move rfl rfl
              refine' TL.y rfl rfl rfl ?hy40 ?_
              case hy40 => exact Yl.move rfl rfl
              refine' TL.y rfl rfl rfl ?hy41 ?_
              case hy41 => exact Yl.move rfl rfl
              refine' TL.y rfl rfl rfl ?hy42 ?_
              case hy42 => exact Yl.val (Yl.bin rfl rfl rfl (Bin.add _ _ _ _)) (congrArg (Value.int .i64) (wadd (a := a2) (i := bs) (by omega)))
              refine' TL.y rfl rfl rfl ?hy43 ?_
              case hy43 => exact Yl.move rfl rfl
              refine' TL.y rfl rfl rfl ?hy44 ?_
              case hy44 => exact Yl.move rfl rfl
              refine' TL.c rfl rfl rfl ?hy45 ?_
              case hy45 => exact Yc.call rfl Try.func33 (by kernel_rfl) rfl rfl (Hp.pureT (k_sym hk1 (a2 + 2 * bs - a2) (f := f4) (a := a2) (p := a2 + bs) (b := a2 + 2 * bs) (Nat.le_refl _) (by omega) (by omega) (by omega) hfa.1 hfa.2.1 hfa.2.2))
              intro ⟨f5, hf5⟩
              dsimp only
              refine TL.nil ?_
              refine TE.next ?_
              refine TC.seq ?_
              refine TC.region ?_
              refine' TL.y rfl rfl rfl ?hy46 ?_
              case hy46 => exact Yl.move rfl rfl
              refine' TL.y rfl rfl rfl ?hy47 ?_
              case hy47 => exact Yl.assign rfl rfl
              refine TL.nil ?_
              refine TE.next ?_
              refine TC.region ?_
              refine' TL.y rfl rfl rfl ?hy48 ?_
              case hy48 => exact Yl.move rfl rfl
              refine' TL.y rfl rfl rfl ?hy49 ?_
              case hy49 => exact Yl.move rfl rfl
              refine' TL.y rfl rfl rfl ?hy50 ?_
              case hy50 => exact Yl.val (Yl.bin rfl rfl rfl (Bin.mul _ _ _ _)) (congrArg (Value.int .i64) (show IntKind.i64.wrap (2 * (bs : Int)) = ((2 * bs : Nat) : Int) from by rw [i64in (by omega) (by omega)]; omega))
              refine' TL.y rfl rfl rfl ?hy51 ?_
              case hy51 => exact Yl.val (Yl.bin rfl rfl rfl (Bin.add _ _ _ _)) (congrArg (Value.int .i64) (wadd (a := a2 + 2 * bs) (i := 2 * bs) (by omega)))
              refine' TL.y rfl rfl rfl ?hy52 ?_
              case hy52 => exact Yl.assign rfl rfl
              refine TL.nil ?_
              refine TE.inNormal ?_
              refine TE.round (a2 + 2 * bs, f5) ?hF53 ?hlt53 ?hs53 ?hm53
              case hF53 => exact ⟨by dsimp only; omega, by dsimp only; rw [Nat.add_mod_right]; exact d2, d3.step hbs d2 (by omega) (.inl rfl) hf5.1 hf5.2⟩
              case hlt53 => dsimp only; omega
              case hs53 => exact ⟨rfl, rfl, rfl, rfl, rfl, (by show some (Value.int IntKind.i64 ((a2 + 2 * bs + 2 * bs : Nat) : Int)) = _; rfl), trivial⟩
              case hm53 => exact fun _ h => h
            · skip
              (try simp only [decide_eq_true_eq, decide_eq_false_iff_not, beq_iff_eq, beq_eq_false_iff_ne, bne_iff_ne, ne_eq, bne_eq_false_iff_eq, Bool.not_eq_true', Bool.not_eq_false', Int.not_lt, Int.not_le, gt_iff_lt, ge_iff_le] at hs35)
              refine TC.exit ?_
              refine TE.thenExit ?_
              refine TE.thenExit ?_
              refine TE.inHere ?_
              refine TE.next ?_
              refine TC.meet (σ := Nat → E) (fun f5 => [(0, .slice (some ⟨g, 0, none⟩) k cp), (1, .int .i64 (k : Int)), (2, .func (.func 22) #[] #[]), (6, .int .i64 (bs : Int))]) (fun f5 => Hp W (ownR 35 2 (.slice (some ⟨g, 0, none⟩) k cp) k (Fw k (f))).foot [ownR 35 2 (.slice (some ⟨g, 0, none⟩) k cp) k (Fw k (f5))]) (fun f5 => Full f k (bs * 2) f5) ?hx54 ?hy54
              case hx54 =>
                refine TC.seq ?_
                refine TC.region ?_
                refine' TL.y rfl rfl rfl ?hy55 ?_
                case hy55 => exact Yl.move rfl rfl
                refine' TL.y rfl rfl rfl ?hy56 ?_
                case hy56 => exact Yl.move rfl rfl
                refine' TL.y rfl rfl rfl ?hy57 ?_
                case hy57 => exact Yl.val (Yl.bin rfl rfl rfl (Bin.add _ _ _ _)) (congrArg (Value.int .i64) (wadd (a := a2) (i := bs) (by omega)))
                refine' TL.y rfl rfl rfl ?hy58 ?_
                case hy58 => exact Yl.assign rfl rfl
                refine TL.nil ?_
                refine TE.next ?_
                refine TC.seq ?_
                refine TC.region ?_
                refine' TL.y rfl rfl rfl ?hy59 ?_
                case hy59 => exact Yl.move rfl rfl
                refine' TL.y rfl rfl rfl ?hy60 ?_
                case hy60 => exact Yl.move rfl rfl
                refine' TL.y rfl rfl rfl ?hy61 ?_
                case hy61 => exact Yl.bin rfl rfl rfl (Bin.lss _ _ _ _)
                refine TL.nil ?_
                refine TE.next ?_
                refine TC.cond rfl (fun hs54 => ?_) (fun hs54 => ?_)
                · skip
                  (try simp only [decide_eq_true_eq, decide_eq_false_iff_not, beq_iff_eq, beq_eq_false_iff_ne, bne_iff_ne, ne_eq, bne_eq_false_iff_eq, Bool.not_eq_true', Bool.not_eq_false', Int.not_lt, Int.not_le, gt_iff_lt, ge_iff_le] at hs54)
                  have hfa := d3.facts hbs d2 hat (b := k) (Nat.le_refl _) (by omega) (by omega)
                  refine TC.region ?_
                  refine' TL.y rfl rfl rfl ?hy62 ?_
                  case hy62 => exact Yl.move rfl rfl
                  refine' TL.y rfl rfl rfl ?hy63 ?_
                  case hy63 => exact Yl.move rfl rfl
                  refine' TL.y rfl rfl rfl ?hy64 ?_
                  case hy64 => exact Yl.move rfl rfl
                  refine' TL.y rfl rfl rfl ?hy65 ?_
                  case hy65 => exact Yl.move rfl rfl
                  refine' TL.y rfl rfl rfl ?hy66 ?_
                  case hy66 => exact Yl.move rfl rfl
                  refine' TL.c rfl rfl rfl ?hy67 ?_
                  case hy67 => exact Yc.call rfl Try.func33 (by kernel_rfl) rfl rfl (Hp.pureT (k_sym hk1 (k - a2) (f := f4) (a := a2) (p := a2 + bs) (b := k) (Nat.le_refl _) (by omega) (by omega) (by omega) hfa.1 hfa.2.1 hfa.2.2))
                  intro ⟨f5, hf5⟩
                  dsimp only
                  refine TL.nil ?_
                  refine TE.met f5 ?hF68 ?hs68 ?hm68
                  case hF68 => exact (d3.step hbs d2 (Nat.le_refl k) (.inr ⟨rfl, d1, by omega⟩) hf5.1 hf5.2).full
                  case hs68 => exact ⟨rfl, rfl, rfl, rfl, trivial⟩
                  case hm68 => exact fun _ h => h
                · skip
                  (try simp only [decide_eq_true_eq, decide_eq_false_iff_not, beq_iff_eq, beq_eq_false_iff_ne, bne_iff_ne, ne_eq, bne_eq_false_iff_eq, Bool.not_eq_true', Bool.not_eq_false', Int.not_lt, Int.not_le, gt_iff_lt, ge_iff_le] at hs54)
                  refine TC.skip ?_
                  refine TE.met f4 ?hF69 ?hs69 ?hm69
                  case hF69 => exact (d3.short hbs d2 d1 (by omega)).full
                  case hs69 => exact ⟨rfl, rfl, rfl, rfl, trivial⟩
                  case hm69 => exact fun _ h => h
              case hy54 =>
                rintro f5 hfull
                refine TC.region ?_
                refine' TL.y rfl rfl rfl ?hy70 ?_
                case hy70 => exact Yl.move rfl rfl
                refine' TL.y rfl rfl rfl ?hy71 ?_
                case hy71 => exact Yl.val (Yl.bin rfl rfl rfl (Bin.mul _ _ _ _)) (congrArg (Value.int .i64) (show IntKind.i64.wrap ((bs : Int) * 2) = ((bs * 2 : Nat) : Int) from by rw [i64in (by omega) (by omega)]; omega))
                refine' TL.y rfl rfl rfl ?hy72 ?_
                case hy72 => exact Yl.assign rfl rfl
                refine TL.nil ?_
                refine TE.inNormal ?_
                refine TE.round (bs * 2, f5) ?hF73 ?hlt73 ?hs73 ?hm73
                case hF73 => exact ⟨by dsimp only; omega, hfull⟩
                case hlt73 => dsimp only; omega
                case hs73 => exact ⟨rfl, rfl, rfl, rfl, trivial⟩
                case hm73 => exact fun _ h => h
        · skip
          (try simp only [decide_eq_true_eq, decide_eq_false_iff_not, beq_iff_eq, beq_eq_false_iff_ne, bne_iff_ne, ne_eq, bne_eq_false_iff_eq, Bool.not_eq_true', Bool.not_eq_false', Int.not_lt, Int.not_le, gt_iff_lt, ge_iff_le] at hs30)
          refine TC.exit ?_
          refine TE.thenExit ?_
          refine TE.thenExit ?_
          refine TE.inHere ?_
          refine TE.end0 rfl ?_
          exact fun w h => ⟨f3, rfl, (h.topure (g2.done (by omega))).leave⟩
set_option maxRecDepth 100000 in
set_option maxHeartbeats 2000000 in
theorem k_sort {g k cp : Nat} (hk : k ≤ 64) {f : Nat → E} (hat : ∀ i j, i < j → j < k → (f i).1 < (f j).1) : Turns Try.prog 21 #[.slice (some ⟨g, 0, none⟩) k cp, .func (.func 22) #[] #[]] (ownR 35 2 (.slice (some ⟨g, 0, none⟩) k cp) k (Fw k (f))) (fun _ : Nat → E => .tuple #[]) (fun f' => pureR (From 0 k f f' ∧ SrtF f' 0 k) (ownR 35 2 (.slice (some ⟨g, 0, none⟩) k cp) k (Fw k (f')))) := by
  intro W hR
  have hM := Hp.enter hR
  refine TC.enter (n := 9) Try.func21 rfl rfl rfl hM ?_
  refine TC.region ?_
  refine' TL.y rfl rfl rfl ?hy1 ?_
  case hy1 => exact Yl.move rfl rfl
  refine' TL.y rfl rfl rfl ?hy2 ?_
  case hy2 => exact Yl.move rfl rfl
  refine' TL.y rfl rfl rfl ?hy3 ?_
  case hy3 => exact Yl.len rfl rfl Try.underlying29
  refine' TL.y rfl rfl rfl ?hy4 ?_
  case hy4 => exact Yl.move rfl rfl
  refine' TL.c rfl rfl rfl ?hy5 ?_
  case hy5 => exact Yc.call rfl Try.func28 (by kernel_rfl) rfl rfl (Hp.pureT (k_stable hk hat))
  intro ⟨f2, hf2⟩
  dsimp only
  refine TL.nil ?_
  refine TE.end0 rfl ?_
  exact fun w h => ⟨f2, rfl, (h.topure hf2).leave⟩
end Go.Proofs.Ythjllhaebanplaa.Pk
