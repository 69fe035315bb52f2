/- Capped; rows. -/
import Derived.Test.YthjllhaebanplaaShE
import Derived.Test.YthjllhaebanplaaProg
import Derived.RowKit3
namespace Go.Proofs.Ythjllhaebanplaa.Pk
open Go Go.RowKit Go.Proofs.Ythjllhaebanplaa.HL Go.Proofs.Ythjllhaebanplaa.Ev Go.Proofs.YthjllhaebanplaaW.PrintWords Go.Proofs.ShP
set_option linter.unusedVariables false
set_option linter.unusedSimpArgs false
attribute [local irreducible] sumF
theorem wk_of {m : Nat} {u l o : Nat → Int} {n : Int} (hok : Ok n m l) : Ok n m l := hok
structure CapI (n0 : Int) (m : Nat) (u : Nat → Int) (n : Int) (fuel : Nat) (l o : Nat → Int) : Prop where
  ok : Ok n m l
  le : n.toNat ≤ fuel
  eq : capM m fuel n l o = capF n0 m u
  o0 : ∀ j, j < m → 0 ≤ o j ∧ o j + l j ≤ 1099511627776
theorem CapI.start {n : Int} {m : Nat} {u : Nat → Int} (h : Ok n m u) : CapI n m u n n.toNat u (fun _ => 0) := ⟨h, Nat.le_refl _, rfl, fun j hj => by have := h.w1 j hj; omega⟩
theorem CapI.step {n0 n : Int} {m fuel : Nat} {u l o : Nat → Int} (h : CapI n0 m u n fuel l o) (hn : 0 < n) (hs : 0 < sumF l m) : 1 ≤ fuel ∧ CapI n0 m u (n - sumF (kkF n m l) m) (fuel - 1) (fun j => l j - kkF n m l j) (fun j => o j + kkF n m l j) := by
  have h1 := kk_pos h.ok hn hs
  have h2 := h.le
  obtain ⟨f, rfl⟩ : ∃ f, fuel = f + 1 := ⟨fuel - 1, by omega⟩
  refine ⟨by omega, h.ok.next hs, by omega, ?_, fun j hj => ?_⟩
  · rw [← h.eq]
    exact (if_pos ⟨hn, hs⟩ : capM m (f + 1) n l o = _).symm
  · have := kk_facts h.ok hj; have := h.o0 j hj; omega
theorem CapI.done {n0 n : Int} {m fuel : Nat} {u l o : Nat → Int} (h : CapI n0 m u n fuel l o) (hc : ¬ (0 < n ∧ 0 < sumF l m)) : o = capF n0 m u := by rw [← h.eq, capM_done hc]
set_option maxRecDepth 100000 in
set_option maxHeartbeats 2000000 in
theorem k_capped (W : World) {m : Nat} {u : Nat → Int} {A : Option Addr} {cp : Nat} (hS : Sl W A (Vw m u)) (hm : m ≤ 9223372036854775807) (n : Int) : Calls Try.prog 15 #[.int .i64 n, .slice A m cp] W fun e w' => ∃ v : Value, e = .returned v ∧ (ownR 3 1 v (lenR n m u) (Vw (lenR n m u) (capF n m u))).holds w' ∧ Below W.heap.size W w' ∧ ∀ j, (ownR 3 1 v (lenR n m u) (Vw (lenR n m u) (capF n m u))).foot j → W.heap.size ≤ j := by
  have hM : Hp W (fun _ => False) [] W := Hp.start
  refine TC.enter (n := 60) Try.func15 rfl rfl rfl hM ?_
  refine TC.seq ?_
  refine TC.region ?_
  refine' TL.y rfl rfl rfl ?hy1 ?_
  case hy1 => exact Yl.assign rfl rfl
  refine TL.nil ?_
  refine TE.next ?_
  refine TC.seq ?_
  refine TC.seq ?_
  refine TC.region ?_
  refine' TL.y rfl rfl rfl ?hy2 ?_
  case hy2 => exact Yl.move rfl rfl
  refine' TL.y rfl rfl rfl ?hy3 ?_
  case hy3 => exact Yl.move rfl rfl
  refine' TL.c rfl rfl rfl ?hy4 ?_
  case hy4 => exact Yc.call rfl Try.func18 (by kernel_rfl) rfl rfl (Hp.calls (fun w h => k_right w (hS.below h.below) (by omega) n))
  intro _
  refine' TL.y rfl rfl rfl ?hy5 ?_
  case hy5 => exact Yl.not rfl rfl
  refine TL.nil ?_
  refine TE.next ?_
  refine TC.cond rfl (fun hs13 => ?_) (fun hs13 => ?_)
  · skip
    (try simp only [decide_eq_true_eq, decide_eq_false_iff_not, beq_iff_eq, beq_eq_false_iff_ne, bne_iff_ne, ne_eq, bne_eq_false_iff_eq, Bool.not_eq_true', Bool.not_eq_false', Int.not_lt, Int.not_le, gt_iff_lt, ge_iff_le] at hs13)
    have hno : ¬ Ok n m u := by simpa using hs13
    refine TC.seq ?_
    refine TC.region ?_
    refine' TL.y rfl rfl rfl ?hy6 ?_
    case hy6 => exact Yl.assign rfl rfl
    refine TL.nil ?_
    refine TE.next ?_
    refine TC.ret ?_
    refine TE.thenRet ?_
    refine TE.ret1 rfl rfl ?_
    exact fun w h => ⟨_, rfl, (nilOwn hno h).leaveNew⟩
  · skip
    (try simp only [decide_eq_true_eq, decide_eq_false_iff_not, beq_iff_eq, beq_eq_false_iff_ne, bne_iff_ne, ne_eq, bne_eq_false_iff_eq, Bool.not_eq_true', Bool.not_eq_false', Int.not_lt, Int.not_le, gt_iff_lt, ge_iff_le] at hs13)
    have hok : Ok n m u := by by_cases e : Ok n m u; exact e; simp [e] at hs13
    have hm64 := hok.m1
    refine TC.skip ?_
    refine TE.next ?_
    refine TC.meet (σ := Nat × Option Addr × Nat) (fun y => [(0, .int .i64 n), (5, .slice (some ⟨y.1, 0, none⟩) m m), (6, .slice y.2.1 m y.2.2)]) (fun y => Hp W (fun _ => False) [ownR 3 1 (.slice (some ⟨y.1, 0, none⟩) m m) m (Vw m (fun _ => 0)), ownR 3 1 (.slice y.2.1 m y.2.2) m (Vw m (u))]) (fun y => True) ?hx7 ?hy7
    case hx7 =>
      refine TC.draw (k := 7) _ [] #[false, false, false, false, false, false, false] (by kernel_rfl) rfl rfl (fun _ h => h.drew) (fun _ h => h) ?_
      refine' TA.y (i := 0) #[true, false, false, false, false, false, false] rfl rfl rfl (by kernel_rfl) (fun _ _ _ h => h) (fun _ h => by exact Hp.sub h (by repeat (first | exact List.Sublist.refl _ | apply List.Sublist.cons))) rfl ?hy8 ?_
      case hy8 => exact Yl.move rfl rfl
      refine' TA.y (i := 1) #[true, true, false, false, false, false, false] rfl rfl rfl (by kernel_rfl) (fun _ _ _ h => h) (fun _ h => by exact Hp.sub h (by repeat (first | exact List.Sublist.refl _ | apply List.Sublist.cons))) rfl ?hy9 ?_
      case hy9 => exact Yl.len rfl rfl Try.underlying22
      refine' TA.y (i := 3) #[true, true, false, true, false, false, false] rfl rfl rfl (by kernel_rfl) (fun _ _ _ h => h) (fun _ h => by exact Hp.sub h (by repeat (first | exact List.Sublist.refl _ | apply List.Sublist.cons))) rfl ?hy10 ?_
      case hy10 => exact Yl.move rfl rfl
      refine' TA.twoMC (i := 2) (j := 4) #[true, true, true, true, false, false, false] #[true, true, false, true, true, false, false] rfl rfl rfl rfl rfl rfl (by kernel_rfl) (by decide) (by decide) rfl rfl ?hy11 ?hs11 ?hz11 ?hq11 ?hF11 ?hm11
      case hy11 => exact Ym.makeRow (z := .int .i64 0) (by_ := 8) rfl rfl rfl Try.underlying22 (by kernel_rfl) rfl (by omega) (by omega) (by omega)
      case hs11 => exact Yc.call rfl Try.func24 (by kernel_rfl) rfl rfl (Hp.news (fun w h => k_clone w (hS.below h.below) (by omega)))
      case hz11 => exact (fun _ _ h => by exact Hp.sub h (by repeat (first | exact List.Sublist.refl _ | apply List.Sublist.cons)))
      case hq11 => exact (fun _ _ h => by exact Hp.sub h (by repeat (first | exact List.Sublist.refl _ | apply List.Sublist.cons)))
      case hF11 =>
        intro b16
        simp only [Int.toNat_natCast]
        refine' TA.c (i := 4) #[true, true, true, true, true, false, false] rfl rfl rfl (by kernel_rfl) (by decide) rfl ?hy12 ?hz12 ?_
        case hy12 => exact Yc.call rfl Try.func24 (by kernel_rfl) rfl rfl (Hp.news (fun w h => k_clone w (hS.below h.below) (by omega)))
        case hz12 => exact (fun _ _ h => by exact Hp.sub h (by repeat (first | exact List.Sublist.refl _ | apply List.Sublist.cons)))
        intro v18
        refine TA.fact (fun w h => h.ownSl (by first | exact mem0 | exact mem1)) ?_
        rintro ⟨A3, c3, rfl⟩
        refine' TA.y (i := 5) #[true, true, true, true, true, true, false] rfl rfl rfl (by kernel_rfl) (fun _ _ _ h => h) (fun _ h => by exact Hp.sub h (by repeat (first | exact List.Sublist.refl _ | apply List.Sublist.cons))) rfl ?hy13 ?_
        case hy13 => exact Yl.assign rfl rfl
        refine' TA.y (i := 6) #[true, true, true, true, true, true, true] rfl rfl rfl (by kernel_rfl) (fun _ _ _ h => h) (fun _ h => by exact Hp.sub h (by repeat (first | exact List.Sublist.refl _ | apply List.Sublist.cons))) rfl ?hy14 ?_
        case hy14 => exact Yl.assign rfl rfl
        refine TA.done (by kernel_rfl) ?_
        refine TE.met (b16, A3, c3) ?hF15 ?hs15 ?hm15
        case hF15 => trivial
        case hs15 => exact ⟨rfl, rfl, rfl, trivial⟩
        case hm15 => first | exact fun w h => madeOwn (maxL hok.m1) h | exact fun w h => madeOwn (maxL hok.m1) h.swap
      case hm11 =>
        intro v18
        refine TA.fact (fun w h => h.ownSl (by first | exact mem0 | exact mem1)) ?_
        rintro ⟨A3, c3, rfl⟩
        refine' TA.mx (i := 2) #[true, true, true, true, true, false, false] rfl rfl rfl (by kernel_rfl) (by decide) rfl ?hy16 ?hz16 ?_
        case hy16 => exact Ym.makeRow (z := .int .i64 0) (by_ := 8) rfl rfl rfl Try.underlying22 (by kernel_rfl) rfl (by omega) (by omega) (by omega)
        case hz16 => exact (fun _ _ h => by exact Hp.sub h (by repeat (first | exact List.Sublist.refl _ | apply List.Sublist.cons)))
        intro b16
        simp only [Int.toNat_natCast]
        refine' TA.y (i := 5) #[true, true, true, true, true, true, false] rfl rfl rfl (by kernel_rfl) (fun _ _ _ h => h) (fun _ h => by exact Hp.sub h (by repeat (first | exact List.Sublist.refl _ | apply List.Sublist.cons))) rfl ?hy17 ?_
        case hy17 => exact Yl.assign rfl rfl
        refine' TA.y (i := 6) #[true, true, true, true, true, true, true] rfl rfl rfl (by kernel_rfl) (fun _ _ _ h => h) (fun _ h => by exact Hp.sub h (by repeat (first | exact List.Sublist.refl _ | apply List.Sublist.cons))) rfl ?hy18 ?_
        case hy18 => exact Yl.assign rfl rfl
        refine TA.done (by kernel_rfl) ?_
        refine TE.met (b16, A3, c3) ?hF19 ?hs19 ?hm19
        case hF19 => trivial
        case hs19 => exact ⟨rfl, rfl, rfl, trivial⟩
        case hm19 => first | exact fun w h => madeOwn (maxL hok.m1) h | exact fun w h => madeOwn (maxL hok.m1) h.swap
    case hy7 =>
      rintro ⟨b16, A3, c3⟩ _
      dsimp only
      refine TC.seq ?_
      refine TC.block ?_
      refine TC.loop (σ := Nat × Int × (Nat → Int) × (Nat → Int)) (fun x => [(0, .int .i64 (x.2.1)), (5, .slice (some ⟨b16, 0, none⟩) m m), (6, .slice A3 m c3)]) (fun x => Hp W (fun _ => False) [ownR 3 1 (.slice (some ⟨b16, 0, none⟩) m m) m (Vw m (x.2.2.2)), ownR 3 1 (.slice A3 m c3) m (Vw m (x.2.2.1))]) (fun x => CapI n m u x.2.1 x.1 x.2.2.1 x.2.2.2) (fun x => x.1) (n.toNat, n, u, fun _ => 0) ?hF20 ?hs20 ?hm20 ?round20
      case hF20 => exact CapI.start hok
      case hs20 => exact ⟨rfl, rfl, rfl, trivial⟩
      case hm20 => exact fun _ h => h
      case round20 =>
        rintro ⟨fuel, n1, l, o⟩ hI
        dsimp only at hI ⊢
        have hok1 := hI.ok
        refine TC.seq ?_
        refine TC.seq ?_
        refine TC.region ?_
        refine' TL.y rfl rfl rfl ?hy21 ?_
        case hy21 => exact Yl.move rfl rfl
        refine' TL.y rfl rfl rfl ?hy22 ?_
        case hy22 => exact Yl.bin rfl rfl rfl (Bin.gtr _ _ _ _)
        refine' TL.y rfl rfl rfl ?hy23 ?_
        case hy23 => exact Yl.move rfl rfl
        refine TL.split (i := 21) rfl (fun hs21 => ?_) (fun hs21 => ?_)
        · skip
          (try simp only [decide_eq_true_eq, decide_eq_false_iff_not, beq_iff_eq, beq_eq_false_iff_ne, bne_iff_ne, ne_eq, bne_eq_false_iff_eq, Bool.not_eq_true', Bool.not_eq_false', Int.not_lt, Int.not_le, gt_iff_lt, ge_iff_le] at hs21)
          refine' TL.y rfl rfl rfl ?hy24 ?_
          case hy24 => exact Yl.move rfl rfl
          refine' TL.c rfl rfl rfl ?hy25 ?_
          case hy25 => exact Yc.call rfl Try.func13 (by kernel_rfl) rfl rfl (Hp.calls (fun w h => k_sum w (h.ownVw mem1) (by omega)))
          intro _
          have hs1 := hok1.s1
          have hs0 := hok1.s0
          rw [i64in (x := sumF l m) (by omega) (by omega)]
          refine' TL.y rfl rfl rfl ?hy26 ?_
          case hy26 => exact Yl.bin rfl rfl rfl (Bin.gtr _ _ _ _)
          refine' TL.y rfl rfl rfl ?hy27 ?_
          case hy27 => exact Yl.pickT rfl rfl rfl
          refine TL.nil ?_
          refine TE.next ?_
          refine TC.cond rfl (fun hs25 => ?_) (fun hs25 => ?_)
          · skip
            (try simp only [decide_eq_true_eq, decide_eq_false_iff_not, beq_iff_eq, beq_eq_false_iff_ne, bne_iff_ne, ne_eq, bne_eq_false_iff_eq, Bool.not_eq_true', Bool.not_eq_false', Int.not_lt, Int.not_le, gt_iff_lt, ge_iff_le] at hs25)
            have hn : 0 < n1 := by omega
            have hsp : 0 < sumF l m := by omega
            have hm0 : 0 < m := by
              rcases Nat.eq_zero_or_pos m with e | e
              · subst e; unfold sumF at hsp; omega
              · exact e
            refine TC.skip ?_
            refine TE.next ?_
            refine TC.block ?_
            refine TC.seq ?_
            refine TC.region ?_
            refine' TL.y rfl rfl rfl ?hy28 ?_
            case hy28 => exact Yl.move rfl rfl
            refine' TL.y rfl rfl rfl ?hy29 ?_
            case hy29 => exact Yl.move rfl rfl
            refine' TL.c rfl rfl rfl ?hy30 ?_
            case hy30 => exact Yc.call rfl Try.func11 (by kernel_rfl) rfl rfl (Hp.news (fun w h => k_split w (h.ownVw mem1) (by omega) n1))
            intro v28
            rw [lenR_ok hok1]
            refine TL.fact (fun w h => h.ownSome mem0 hm0) ?_
            rintro ⟨g2, c2, rfl⟩
            refine TL.fact (fun w h => h.ownSome' mem2 hm0) ?_
            rintro ⟨g3, rfl⟩
            refine' TL.y rfl rfl rfl ?hy31 ?_
            case hy31 => exact Yl.len rfl rfl Try.underlying22
            refine' TL.y rfl rfl rfl ?hy32 ?_
            case hy32 => exact Yl.move rfl rfl
            refine TL.nil ?_
            refine TE.next ?_
            refine TC.block ?_
            refine TC.loop (σ := Nat) (fun i => [(28, .slice (some ⟨g2, 0, none⟩) m c2), (29, .int .i64 (m : Int)), (30, .int .i64 (i : Int)), (0, .int .i64 (n1 - sumF (kkF n1 m l) i)), (5, .slice (some ⟨b16, 0, none⟩) m m), (6, .slice (some ⟨g3, 0, none⟩) m c3)]) (fun i => Hp W (fun _ => False) [ownR 3 1 (.slice (some ⟨g2, 0, none⟩) m c2) m (Vw m (splitF n1 m l)), ownR 3 1 (.slice (some ⟨b16, 0, none⟩) m m) m (Vw m (fun j => if j < i then o j + kkF n1 m l j else o j)), ownR 3 1 (.slice (some ⟨g3, 0, none⟩) m c3) m (Vw m (fun j => if j < i then l j - kkF n1 m l j else l j))]) (fun i => i ≤ m) (fun i => m - i) 0 ?hF33 ?hs33 ?hm33 ?round33
            case hF33 => exact Nat.zero_le _
            case hs33 => exact ⟨rfl, rfl, rfl, (by show some (Value.int .i64 n1) = _; simp [sumF]), rfl, rfl, trivial⟩
            case hm33 => exact fun w h => (h.vwc1 (fun j hj => (if_neg (by omega)).symm)).vwc2 (fun j hj => (if_neg (by omega)).symm)
            case round33 =>
              intro i hi
              refine TC.seq ?_
              refine TC.region ?_
              refine' TL.y rfl rfl rfl ?hy34 ?_
              case hy34 => exact Yl.bin rfl rfl rfl (Bin.lss _ _ _ _)
              refine TL.nil ?_
              refine TE.next ?_
              refine TC.seq ?_
              refine TC.cond rfl (fun hs31 => ?_) (fun hs31 => ?_)
              · skip
                (try simp only [decide_eq_true_eq, decide_eq_false_iff_not, beq_iff_eq, beq_eq_false_iff_ne, bne_iff_ne, ne_eq, bne_eq_false_iff_eq, Bool.not_eq_true', Bool.not_eq_false', Int.not_lt, Int.not_le, gt_iff_lt, ge_iff_le] at hs31)
                have hi2 : i < m := by omega
                have hkf := kk_facts hok1 hi2
                have hkp := kk_part hok1 hsp (show i ≤ m by omega)
                have hkp1 := kk_part hok1 hsp (show i + 1 ≤ m by omega)
                rw [sumF] at hkp1
                have hsn := split_nonneg hok1 hi2
                have hl0 := hok1.w0 i hi2
                have hl1 := hok1.w1 i hi2
                have hn0 := hok1.n0
                have hn1 := hok1.n1
                have ho := hI.o0 i hi2
                refine TC.skip ?_
                refine TE.next ?_
                refine TC.seq ?_
                refine TC.block ?_
                refine TC.seq ?_
                refine TC.region ?_
                refine' TL.y rfl rfl rfl ?hy35 ?_
                case hy35 => exact Yl.move rfl rfl
                refine' TL.y rfl rfl rfl ?hy36 ?_
                case hy36 => first | exact Yl.ixn rfl rfl rfl Try.underlying22 (by kernel_rfl) (by omega) | exact Yl.ixz rfl rfl rfl Try.underlying22 (by kernel_rfl) (by omega) (by omega) | exact Yl.ixcn rfl rfl rfl Try.underlying22 (by kernel_rfl) (by omega) | exact Yl.ixcz rfl rfl rfl Try.underlying22 (by kernel_rfl) (by omega) (by omega)
                refine' TL.y rfl rfl rfl ?hy37 ?_
                case hy37 => first | exact Yl.load rfl rfl (by kernel_rfl) (Sl.vw hS rfl (by omega) (fun _ h => h)) | exact Yl.load rfl rfl (by kernel_rfl) (Hp.vw mem0 (by omega)) | exact Yl.load rfl rfl (by kernel_rfl) (Hp.vw mem1 (by omega)) | exact Yl.load rfl rfl (by kernel_rfl) (Hp.vw mem2 (by omega)) | exact Yl.load rfl rfl (by kernel_rfl) (Hp.cell mem0 rfl) | exact Yl.load rfl rfl (by kernel_rfl) (Hp.cell mem1 rfl) | exact Yl.load rfl rfl (by kernel_rfl) (Hp.cell mem2 rfl) | exact Yl.load rfl rfl (by kernel_rfl) (Hp.cell mem3 rfl) | exact Yl.load rfl rfl (by kernel_rfl) (Hp.cell mem4 rfl) | exact Yl.load rfl rfl (by kernel_rfl) (Hp.rowAt mem0 (by omega) rfl) | exact Yl.load rfl rfl (by kernel_rfl) (Hp.rowAt mem1 (by omega) rfl) | exact Yl.load rfl rfl (by kernel_rfl) (Hp.rowAt mem2 (by omega) rfl) | exact Yl.load rfl rfl (by kernel_rfl) (Hp.rowAt mem3 (by omega) rfl) | exact Yl.load rfl rfl (by kernel_rfl) (Hp.rowAt mem4 (by omega) rfl)
                refine' TL.y rfl rfl rfl ?hy38 ?_
                case hy38 => exact Yl.assign rfl rfl
                refine' TL.y rfl rfl rfl ?hy39 ?_
                case hy39 => exact Yl.assign rfl rfl
                refine TL.nil ?_
                refine TE.next ?_
                refine TC.seq ?_
                refine TC.region ?_
                refine' TL.y rfl rfl rfl ?hy40 ?_
                case hy40 => exact Yl.move rfl rfl
                refine' TL.y rfl rfl rfl ?hy41 ?_
                case hy41 => exact Yl.move rfl rfl
                refine' TL.y rfl rfl rfl ?hy42 ?_
                case hy42 => exact Yl.move rfl rfl
                refine' TL.y rfl rfl rfl ?hy43 ?_
                case hy43 => first | exact Yl.ixn rfl rfl rfl Try.underlying22 (by kernel_rfl) (by omega) | exact Yl.ixz rfl rfl rfl Try.underlying22 (by kernel_rfl) (by omega) (by omega) | exact Yl.ixcn rfl rfl rfl Try.underlying22 (by kernel_rfl) (by omega) | exact Yl.ixcz rfl rfl rfl Try.underlying22 (by kernel_rfl) (by omega) (by omega)
                refine' TL.y rfl rfl rfl ?hy44 ?_
                case hy44 => first | exact Yl.load rfl rfl (by kernel_rfl) (Sl.vw hS rfl (by omega) (fun _ h => h)) | exact Yl.load rfl rfl (by kernel_rfl) (Hp.vw mem0 (by omega)) | exact Yl.load rfl rfl (by kernel_rfl) (Hp.vw mem1 (by omega)) | exact Yl.load rfl rfl (by kernel_rfl) (Hp.vw mem2 (by omega)) | exact Yl.load rfl rfl (by kernel_rfl) (Hp.cell mem0 rfl) | exact Yl.load rfl rfl (by kernel_rfl) (Hp.cell mem1 rfl) | exact Yl.load rfl rfl (by kernel_rfl) (Hp.cell mem2 rfl) | exact Yl.load rfl rfl (by kernel_rfl) (Hp.cell mem3 rfl) | exact Yl.load rfl rfl (by kernel_rfl) (Hp.cell mem4 rfl) | exact Yl.load rfl rfl (by kernel_rfl) (Hp.rowAt mem0 (by omega) rfl) | exact Yl.load rfl rfl (by kernel_rfl) (Hp.rowAt mem1 (by omega) rfl) | exact Yl.load rfl rfl (by kernel_rfl) (Hp.rowAt mem2 (by omega) rfl) | exact Yl.load rfl rfl (by kernel_rfl) (Hp.rowAt mem3 (by omega) rfl) | exact Yl.load rfl rfl (by kernel_rfl) (Hp.rowAt mem4 (by omega) rfl)
                refine TL.re (i := 39) (v' := .int .i64 (l i)) rfl (congrArg (Value.int .i64) (if_neg (by omega))) ?_
                refine' TL.y rfl rfl rfl ?hy45 ?_
                case hy45 => exact Yl.min rfl rfl rfl
                refine TL.re (i := 40) (v' := .int .i64 (kkF n1 m l i)) rfl rfl ?_
                refine' TL.y rfl rfl rfl ?hy46 ?_
                case hy46 => exact Yl.assign rfl rfl
                refine TL.nil ?_
                refine TE.next ?_
                refine TC.seq ?_
                refine TC.region ?_
                refine' TL.y rfl rfl rfl ?hy47 ?_
                case hy47 => exact Yl.move rfl rfl
                refine' TL.y rfl rfl rfl ?hy48 ?_
                case hy48 => exact Yl.move rfl rfl
                refine' TL.y rfl rfl rfl ?hy49 ?_
                case hy49 => first | exact Yl.ixn rfl rfl rfl Try.underlying22 (by kernel_rfl) (by omega) | exact Yl.ixz rfl rfl rfl Try.underlying22 (by kernel_rfl) (by omega) (by omega) | exact Yl.ixcn rfl rfl rfl Try.underlying22 (by kernel_rfl) (by omega) | exact Yl.ixcz rfl rfl rfl Try.underlying22 (by kernel_rfl) (by omega) (by omega)
                refine' TL.y rfl rfl rfl ?hy50 ?_
                case hy50 => first | exact Yl.load rfl rfl (by kernel_rfl) (Sl.vw hS rfl (by omega) (fun _ h => h)) | exact Yl.load rfl rfl (by kernel_rfl) (Hp.vw mem0 (by omega)) | exact Yl.load rfl rfl (by kernel_rfl) (Hp.vw mem1 (by omega)) | exact Yl.load rfl rfl (by kernel_rfl) (Hp.vw mem2 (by omega)) | exact Yl.load rfl rfl (by kernel_rfl) (Hp.cell mem0 rfl) | exact Yl.load rfl rfl (by kernel_rfl) (Hp.cell mem1 rfl) | exact Yl.load rfl rfl (by kernel_rfl) (Hp.cell mem2 rfl) | exact Yl.load rfl rfl (by kernel_rfl) (Hp.cell mem3 rfl) | exact Yl.load rfl rfl (by kernel_rfl) (Hp.cell mem4 rfl) | exact Yl.load rfl rfl (by kernel_rfl) (Hp.rowAt mem0 (by omega) rfl) | exact Yl.load rfl rfl (by kernel_rfl) (Hp.rowAt mem1 (by omega) rfl) | exact Yl.load rfl rfl (by kernel_rfl) (Hp.rowAt mem2 (by omega) rfl) | exact Yl.load rfl rfl (by kernel_rfl) (Hp.rowAt mem3 (by omega) rfl) | exact Yl.load rfl rfl (by kernel_rfl) (Hp.rowAt mem4 (by omega) rfl)
                refine TL.re (i := 44) (v' := .int .i64 (o i)) rfl (congrArg (Value.int .i64) (if_neg (by omega))) ?_
                refine' TL.y rfl rfl rfl ?hy51 ?_
                case hy51 => exact Yl.move rfl rfl
                refine' TL.y rfl rfl rfl ?hy52 ?_
                case hy52 => first | (refine Yl.val (Yl.bin rfl rfl rfl (Bin.add _ _ _ _)) (congrArg (Value.int .i64) (i64in ?_ ?_)) <;> omega) | exact Yl.bin rfl rfl rfl (Bin.add _ _ _ _)
                refine' TL.y rfl rfl rfl ?hy53 ?_
                case hy53 => first | exact Yl.ixn rfl rfl rfl Try.underlying22 (by kernel_rfl) (by omega) | exact Yl.ixz rfl rfl rfl Try.underlying22 (by kernel_rfl) (by omega) (by omega) | exact Yl.ixcn rfl rfl rfl Try.underlying22 (by kernel_rfl) (by omega) | exact Yl.ixcz rfl rfl rfl Try.underlying22 (by kernel_rfl) (by omega) (by omega)
                refine' TL.s rfl rfl ?hy54 ?_
                case hy54 => first | exact Ys.vw rfl rfl rfl (by kernel_rfl) foc1 (by omega) | exact Ys.vw rfl rfl rfl (by kernel_rfl) foc2 (by omega) | exact Ys.vw rfl rfl rfl (by kernel_rfl) foc0 (by omega)
                refine TL.nil ?_
                refine TE.next ?_
                refine TC.seq ?_
                refine TC.region ?_
                refine' TL.y rfl rfl rfl ?hy55 ?_
                case hy55 => exact Yl.move rfl rfl
                refine' TL.y rfl rfl rfl ?hy56 ?_
                case hy56 => exact Yl.move rfl rfl
                refine' TL.y rfl rfl rfl ?hy57 ?_
                case hy57 => first | exact Yl.ixn rfl rfl rfl Try.underlying22 (by kernel_rfl) (by omega) | exact Yl.ixz rfl rfl rfl Try.underlying22 (by kernel_rfl) (by omega) (by omega) | exact Yl.ixcn rfl rfl rfl Try.underlying22 (by kernel_rfl) (by omega) | exact Yl.ixcz rfl rfl rfl Try.underlying22 (by kernel_rfl) (by omega) (by omega)
                refine' TL.y rfl rfl rfl ?hy58 ?_
                case hy58 => first | exact Yl.load rfl rfl (by kernel_rfl) (Sl.vw hS rfl (by omega) (fun _ h => h)) | exact Yl.load rfl rfl (by kernel_rfl) (Hp.vw mem0 (by omega)) | exact Yl.load rfl rfl (by kernel_rfl) (Hp.vw mem1 (by omega)) | exact Yl.load rfl rfl (by kernel_rfl) (Hp.vw mem2 (by omega)) | exact Yl.load rfl rfl (by kernel_rfl) (Hp.cell mem0 rfl) | exact Yl.load rfl rfl (by kernel_rfl) (Hp.cell mem1 rfl) | exact Yl.load rfl rfl (by kernel_rfl) (Hp.cell mem2 rfl) | exact Yl.load rfl rfl (by kernel_rfl) (Hp.cell mem3 rfl) | exact Yl.load rfl rfl (by kernel_rfl) (Hp.cell mem4 rfl) | exact Yl.load rfl rfl (by kernel_rfl) (Hp.rowAt mem0 (by omega) rfl) | exact Yl.load rfl rfl (by kernel_rfl) (Hp.rowAt mem1 (by omega) rfl) | exact Yl.load rfl rfl (by kernel_rfl) (Hp.rowAt mem2 (by omega) rfl) | exact Yl.load rfl rfl (by kernel_rfl) (Hp.rowAt mem3 (by omega) rfl) | exact Yl.load rfl rfl (by kernel_rfl) (Hp.rowAt mem4 (by omega) rfl)
                refine TL.re (i := 51) (v' := .int .i64 (l i)) rfl (congrArg (Value.int .i64) (if_neg (by omega))) ?_
                refine' TL.y rfl rfl rfl ?hy59 ?_
                case hy59 => exact Yl.move rfl rfl
                refine' TL.y rfl rfl rfl ?hy60 ?_
                case hy60 => first | (refine Yl.val (Yl.bin rfl rfl rfl (Bin.sub _ _ _ _)) (congrArg (Value.int .i64) (i64in ?_ ?_)) <;> omega) | exact Yl.bin rfl rfl rfl (Bin.sub _ _ _ _)
                refine' TL.y rfl rfl rfl ?hy61 ?_
                case hy61 => first | exact Yl.ixn rfl rfl rfl Try.underlying22 (by kernel_rfl) (by omega) | exact Yl.ixz rfl rfl rfl Try.underlying22 (by kernel_rfl) (by omega) (by omega) | exact Yl.ixcn rfl rfl rfl Try.underlying22 (by kernel_rfl) (by omega) | exact Yl.ixcz rfl rfl rfl Try.underlying22 (by kernel_rfl) (by omega) (by omega)
                refine' TL.s rfl rfl ?hy62 ?_
                case hy62 => first | exact Ys.vw rfl rfl rfl (by kernel_rfl) foc1 (by omega) | exact Ys.vw rfl rfl rfl (by kernel_rfl) foc2 (by omega) | exact Ys.vw rfl rfl rfl (by kernel_rfl) foc0 (by omega)
                refine TL.nil ?_
                refine TE.next ?_
                refine TC.region ?_
                refine' TL.y rfl rfl rfl ?hy63 ?_
                case hy63 => exact Yl.move rfl rfl
                refine' TL.y rfl rfl rfl ?hy64 ?_
                case hy64 => exact Yl.move rfl rfl
                refine' TL.y rfl rfl rfl ?hy65 ?_
                case hy65 => first | (refine Yl.val (Yl.bin rfl rfl rfl (Bin.sub _ _ _ _)) (congrArg (Value.int .i64) (i64in ?_ ?_)) <;> omega) | exact Yl.bin rfl rfl rfl (Bin.sub _ _ _ _)
                refine' TL.y rfl rfl rfl ?hy66 ?_
                case hy66 => exact Yl.assign rfl rfl
                refine TL.nil ?_
                refine TE.inNormal ?_
                refine TE.next ?_
                refine TC.region ?_
                refine' TL.y rfl rfl rfl ?hy67 ?_
                case hy67 => first | (refine Yl.val (Yl.bin rfl rfl rfl (Bin.add _ _ _ _)) (congrArg (Value.int .i64) (i64in ?_ ?_)) <;> omega) | exact Yl.bin rfl rfl rfl (Bin.add _ _ _ _)
                refine' TL.y rfl rfl rfl ?hy68 ?_
                case hy68 => exact Yl.move rfl rfl
                refine TL.nil ?_
                refine TE.round (i + 1) ?hF69 ?hlt69 ?hs69 ?hm69
                case hF69 => omega
                case hlt69 => omega
                case hs69 => exact ⟨rfl, rfl, rfl, (by show some (Value.int .i64 (n1 - sumF (kkF n1 m l) i - kkF n1 m l i)) = _; rw [sumF, Int.sub_sub]), rfl, rfl, trivial⟩
                case hm69 => exact (fun w h => (h.vwc1 (fun j hj => by
                    show upI _ _ _ j = _
                    unfold upI; dsimp only
                    by_cases e : j = i
                    · rw [if_pos e, if_pos (by omega), e]
                    · rw [if_neg e]
                      by_cases e2 : j < i
                      · rw [if_pos e2, if_pos (by omega)]
                      · rw [if_neg e2, if_neg (by omega)])).vwc2 (fun j hj => by
                    show upI _ _ _ j = _
                    unfold upI; dsimp only
                    by_cases e : j = i
                    · rw [if_pos e, if_pos (by omega), e]
                    · rw [if_neg e]
                      by_cases e2 : j < i
                      · rw [if_pos e2, if_pos (by omega)]
                      · rw [if_neg e2, if_neg (by omega)]))
              · skip
                (try simp only [decide_eq_true_eq, decide_eq_false_iff_not, beq_iff_eq, beq_eq_false_iff_ne, bne_iff_ne, ne_eq, bne_eq_false_iff_eq, Bool.not_eq_true', Bool.not_eq_false', Int.not_lt, Int.not_le, gt_iff_lt, ge_iff_le] at hs31)
                have him : i = m := by omega
                have hst := hI.step hn hsp
                refine TC.exit ?_
                refine TE.thenExit ?_
                refine TE.thenExit ?_
                refine TE.inHere ?_
                refine TE.inNormal ?_
                refine TE.round (fuel - 1, n1 - sumF (kkF n1 m l) m, fun j => l j - kkF n1 m l j, fun j => o j + kkF n1 m l j) ?hF70 ?hlt70 ?hs70 ?hm70
                case hF70 => exact hst.2
                case hlt70 => dsimp only; omega
                case hs70 => exact ⟨(by show some (Value.int .i64 (n1 - sumF (kkF n1 m l) i)) = _; rw [show i = m by omega]), rfl, rfl, trivial⟩
                case hm70 => exact fun w h => (((h.sub (List.sublist_cons_self _ _)).vwc (fun j hj => by dsimp only; rw [if_pos (by omega)])).vwc1 (fun j hj => by dsimp only; rw [if_pos (by omega)]))
          · skip
            (try simp only [decide_eq_true_eq, decide_eq_false_iff_not, beq_iff_eq, beq_eq_false_iff_ne, bne_iff_ne, ne_eq, bne_eq_false_iff_eq, Bool.not_eq_true', Bool.not_eq_false', Int.not_lt, Int.not_le, gt_iff_lt, ge_iff_le] at hs25)
            refine TC.exit ?_
            refine TE.thenExit ?_
            refine TE.thenExit ?_
            refine TE.inHere ?_
            refine TE.next ?_
            refine TC.seq ?_
            refine TC.region ?_
            refine' TL.y rfl rfl rfl ?hy71 ?_
            case hy71 => exact Yl.move rfl rfl
            refine' TL.y rfl rfl rfl ?hy72 ?_
            case hy72 => exact Yl.assign rfl rfl
            refine TL.nil ?_
            refine TE.next ?_
            refine TC.ret ?_
            refine TE.ret1 rfl rfl ?_
            have hdn := hI.done (by omega)
            exact fun w h => ⟨_, rfl, by rw [lenR_ok hok]; rw [hdn] at h; exact (h.sub (List.Sublist.cons_cons _ (List.nil_sublist _))).leaveNew⟩
        · skip
          (try simp only [decide_eq_true_eq, decide_eq_false_iff_not, beq_iff_eq, beq_eq_false_iff_ne, bne_iff_ne, ne_eq, bne_eq_false_iff_eq, Bool.not_eq_true', Bool.not_eq_false', Int.not_lt, Int.not_le, gt_iff_lt, ge_iff_le] at hs21)
          refine TL.skip rfl rfl rfl ?_
          refine TL.skip rfl rfl rfl ?_
          refine TL.skip rfl rfl rfl ?_
          refine' TL.y rfl rfl rfl ?hy73 ?_
          case hy73 => exact Yl.pickF rfl rfl rfl
          refine TL.nil ?_
          refine TE.next ?_
          refine TC.no rfl rfl ?_
          refine TC.exit ?_
          refine TE.thenExit ?_
          refine TE.thenExit ?_
          refine TE.inHere ?_
          refine TE.next ?_
          refine TC.seq ?_
          refine TC.region ?_
          refine' TL.y rfl rfl rfl ?hy74 ?_
          case hy74 => exact Yl.move rfl rfl
          refine' TL.y rfl rfl rfl ?hy75 ?_
          case hy75 => exact Yl.assign rfl rfl
          refine TL.nil ?_
          refine TE.next ?_
          refine TC.ret ?_
          refine TE.ret1 rfl rfl ?_
          have hdn := hI.done (by omega)
          exact fun w h => ⟨_, rfl, by rw [lenR_ok hok]; rw [hdn] at h; exact (h.sub (List.Sublist.cons_cons _ (List.nil_sublist _))).leaveNew⟩
set_option maxRecDepth 100000 in
set_option maxHeartbeats 2000000 in
theorem k_rcapped (W : World) {m : Nat} {u : Nat → Int} {A : Option Addr} {cp : Nat} (hS : Sl W A (Vw m u)) (hm : m ≤ 9223372036854775807) (n : Int) : Calls Try.prog 16 #[.int .i64 n, .slice A m cp] W fun e w' => ∃ v : Value, e = .returned v ∧ (ownR 3 1 v (lenR n m u) (Vw (lenR n m u) (capF n m u))).holds w' ∧ Below W.heap.size W w' ∧ ∀ j, (ownR 3 1 v (lenR n m u) (Vw (lenR n m u) (capF n m u))).foot j → W.heap.size ≤ j := by
  have hM : Hp W (fun _ => False) [] W := Hp.start
  refine TC.enter (n := 81) Try.func16 rfl rfl rfl hM ?_
  refine TC.seq ?_
  refine TC.region ?_
  refine' TL.y rfl rfl rfl ?hy1 ?_
  case hy1 => exact Yl.assign rfl rfl
  refine TL.nil ?_
  refine TE.next ?_
  refine TC.seq ?_
  refine TC.seq ?_
  refine TC.region ?_
  refine' TL.y rfl rfl rfl ?hy2 ?_
  case hy2 => exact Yl.move rfl rfl
  refine' TL.y rfl rfl rfl ?hy3 ?_
  case hy3 => exact Yl.move rfl rfl
  refine' TL.c rfl rfl rfl ?hy4 ?_
  case hy4 => exact Yc.call rfl Try.func17 (by kernel_rfl) rfl rfl (Hp.calls (fun w h => k_rright w (hS.below h.below) (by omega) n))
  intro _
  refine' TL.y rfl rfl rfl ?hy5 ?_
  case hy5 => exact Yl.not rfl rfl
  refine TL.nil ?_
  refine TE.next ?_
  refine TC.cond rfl (fun hs14 => ?_) (fun hs14 => ?_)
  · skip
    (try simp only [decide_eq_true_eq, decide_eq_false_iff_not, beq_iff_eq, beq_eq_false_iff_ne, bne_iff_ne, ne_eq, bne_eq_false_iff_eq, Bool.not_eq_true', Bool.not_eq_false', Int.not_lt, Int.not_le, gt_iff_lt, ge_iff_le] at hs14)
    have hno : ¬ Ok n m u := by simpa using hs14
    refine TC.seq ?_
    refine TC.region ?_
    refine' TL.y rfl rfl rfl ?hy6 ?_
    case hy6 => exact Yl.assign rfl rfl
    refine TL.nil ?_
    refine TE.next ?_
    refine TC.ret ?_
    refine TE.thenRet ?_
    refine TE.ret1 rfl rfl ?_
    exact fun w h => ⟨_, rfl, (nilOwn hno h).leaveNew⟩
  · skip
    (try simp only [decide_eq_true_eq, decide_eq_false_iff_not, beq_iff_eq, beq_eq_false_iff_ne, bne_iff_ne, ne_eq, bne_eq_false_iff_eq, Bool.not_eq_true', Bool.not_eq_false', Int.not_lt, Int.not_le, gt_iff_lt, ge_iff_le] at hs14)
    have hok : Ok n m u := by by_cases e : Ok n m u; exact e; simp [e] at hs14
    have hm64 := hok.m1
    refine TC.skip ?_
    refine TE.next ?_
    refine TC.seq ?_
    refine TC.region ?_
    refine' TL.y rfl rfl rfl ?hy7 ?_
    case hy7 => exact Yl.move rfl rfl
    refine' TL.y rfl rfl rfl ?hy8 ?_
    case hy8 => exact Yl.len rfl rfl Try.underlying22
    refine' TL.mx rfl rfl rfl ?hy9 ?_
    case hy9 => exact Ym.makeRow (z := .int .i64 0) (by_ := 8) rfl rfl rfl Try.underlying22 (by kernel_rfl) rfl (by omega) (by omega) (by omega)
    intro b17
    simp only [Int.toNat_natCast]
    refine TL.wk (fun w h => madeOwn (maxL hok.m1) h) ?_
    refine' TL.y rfl rfl rfl ?hy10 ?_
    case hy10 => exact Yl.assign rfl rfl
    refine TL.nil ?_
    refine TE.next ?_
    refine TC.seq ?_
    refine TC.region ?_
    refine' TL.y rfl rfl rfl ?hy11 ?_
    case hy11 => exact Yl.move rfl rfl
    refine' TL.y rfl rfl rfl ?hy12 ?_
    case hy12 => exact Yl.len rfl rfl Try.underlying22
    refine' TL.mx rfl rfl rfl ?hy13 ?_
    case hy13 => exact Ym.makeRow (z := .int .i64 0) (by_ := 8) rfl rfl rfl Try.underlying22 (by kernel_rfl) rfl (by omega) (by omega) (by omega)
    intro b20
    simp only [Int.toNat_natCast]
    refine TL.wk (fun w h => madeOwn (maxL hok.m1) h) ?_
    refine' TL.y rfl rfl rfl ?hy14 ?_
    case hy14 => exact Yl.assign rfl rfl
    refine TL.nil ?_
    refine TE.next ?_
    refine TC.meet (σ := Nat × Option Addr × Nat) (fun y => [(0, .int .i64 n), (1, .slice A m cp), (5, .slice (some ⟨y.1, 0, none⟩) m m), (6, .slice y.2.1 m y.2.2)]) (fun y => Hp W (fun _ => False) [ownR 3 1 (.slice (some ⟨y.1, 0, none⟩) m m) m (Vw m (fun _ => 0)), ownR 3 1 (.slice y.2.1 m y.2.2) m (Vw m (u))]) (fun y => True) ?hx15 ?hy15
    case hx15 =>
      refine TC.seq ?_
      refine TC.region ?_
      refine' TL.y rfl rfl rfl ?hy16 ?_
      case hy16 => exact Yl.assign rfl rfl
      refine TL.nil ?_
      refine TE.next ?_
      refine TC.block ?_
      refine TC.loop (σ := Nat) (fun i => [(0, .int .i64 n), (1, .slice A m cp), (5, .slice (some ⟨b17, 0, none⟩) m m), (6, .slice (some ⟨b20, 0, none⟩) m m), (7, .int .i64 (i : Int))]) (fun i => Hp W (fun _ => False) [ownR 3 1 (.slice (some ⟨b20, 0, none⟩) m m) m (Vw m (fun j => if j < i then u j else 0)), ownR 3 1 (.slice (some ⟨b17, 0, none⟩) m m) m (Vw m (fun _ => 0))]) (fun i => i ≤ m) (fun i => m - i) 0 ?hF17 ?hs17 ?hm17 ?round17
      case hF17 => exact Nat.zero_le _
      case hs17 => exact ⟨rfl, rfl, rfl, rfl, rfl, trivial⟩
      case hm17 => exact fun w h => h.vwc (fun j hj => (if_neg (by omega)).symm)
      case round17 =>
        intro i hi
        refine TC.seq ?_
        refine TC.seq ?_
        refine TC.region ?_
        refine' TL.y rfl rfl rfl ?hy18 ?_
        case hy18 => exact Yl.move rfl rfl
        refine' TL.y rfl rfl rfl ?hy19 ?_
        case hy19 => exact Yl.move rfl rfl
        refine' TL.y rfl rfl rfl ?hy20 ?_
        case hy20 => exact Yl.len rfl rfl Try.underlying22
        refine' TL.y rfl rfl rfl ?hy21 ?_
        case hy21 => exact Yl.bin rfl rfl rfl (Bin.lss _ _ _ _)
        refine TL.nil ?_
        refine TE.next ?_
        refine TC.cond rfl (fun hs24 => ?_) (fun hs24 => ?_)
        · skip
          (try simp only [decide_eq_true_eq, decide_eq_false_iff_not, beq_iff_eq, beq_eq_false_iff_ne, bne_iff_ne, ne_eq, bne_eq_false_iff_eq, Bool.not_eq_true', Bool.not_eq_false', Int.not_lt, Int.not_le, gt_iff_lt, ge_iff_le] at hs24)
          have hi2 : i < m := by omega
          obtain ⟨b, o, rfl⟩ := Sl.some2 hS (by rw [Vw_length]; omega)
          refine TC.skip ?_
          refine TE.next ?_
          refine TC.seq ?_
          refine TC.block ?_
          refine TC.region ?_
          refine' TL.y rfl rfl rfl ?hy22 ?_
          case hy22 => exact Yl.move rfl rfl
          refine' TL.y rfl rfl rfl ?hy23 ?_
          case hy23 => exact Yl.move rfl rfl
          refine' TL.y rfl rfl rfl ?hy24 ?_
          case hy24 => exact Yl.move rfl rfl
          refine' TL.y rfl rfl rfl ?hy25 ?_
          case hy25 => exact Yl.move rfl rfl
          refine' TL.y rfl rfl rfl ?hy26 ?_
          case hy26 => first | exact Yl.ixn rfl rfl rfl Try.underlying22 (by kernel_rfl) (by omega) | exact Yl.ixz rfl rfl rfl Try.underlying22 (by kernel_rfl) (by omega) (by omega) | exact Yl.ixcn rfl rfl rfl Try.underlying22 (by kernel_rfl) (by omega) | exact Yl.ixcz rfl rfl rfl Try.underlying22 (by kernel_rfl) (by omega) (by omega)
          refine' TL.y rfl rfl rfl ?hy27 ?_
          case hy27 => first | exact Yl.load rfl rfl (by kernel_rfl) (Sl.vw hS rfl (by omega) (fun _ h => h)) | exact Yl.load rfl rfl (by kernel_rfl) (Hp.vw mem0 (by omega)) | exact Yl.load rfl rfl (by kernel_rfl) (Hp.vw mem1 (by omega)) | exact Yl.load rfl rfl (by kernel_rfl) (Hp.vw mem2 (by omega)) | exact Yl.load rfl rfl (by kernel_rfl) (Hp.cell mem0 rfl) | exact Yl.load rfl rfl (by kernel_rfl) (Hp.cell mem1 rfl) | exact Yl.load rfl rfl (by kernel_rfl) (Hp.cell mem2 rfl) | exact Yl.load rfl rfl (by kernel_rfl) (Hp.cell mem3 rfl) | exact Yl.load rfl rfl (by kernel_rfl) (Hp.cell mem4 rfl) | exact Yl.load rfl rfl (by kernel_rfl) (Hp.rowAt mem0 (by omega) rfl) | exact Yl.load rfl rfl (by kernel_rfl) (Hp.rowAt mem1 (by omega) rfl) | exact Yl.load rfl rfl (by kernel_rfl) (Hp.rowAt mem2 (by omega) rfl) | exact Yl.load rfl rfl (by kernel_rfl) (Hp.rowAt mem3 (by omega) rfl) | exact Yl.load rfl rfl (by kernel_rfl) (Hp.rowAt mem4 (by omega) rfl)
          refine' TL.y rfl rfl rfl ?hy28 ?_
          case hy28 => first | exact Yl.ixn rfl rfl rfl Try.underlying22 (by kernel_rfl) (by omega) | exact Yl.ixz rfl rfl rfl Try.underlying22 (by kernel_rfl) (by omega) (by omega) | exact Yl.ixcn rfl rfl rfl Try.underlying22 (by kernel_rfl) (by omega) | exact Yl.ixcz rfl rfl rfl Try.underlying22 (by kernel_rfl) (by omega) (by omega)
          refine' TL.s rfl rfl ?hy29 ?_
          case hy29 => first | exact Ys.vw rfl rfl rfl (by kernel_rfl) foc1 (by omega) | exact Ys.vw rfl rfl rfl (by kernel_rfl) foc2 (by omega) | exact Ys.vw rfl rfl rfl (by kernel_rfl) foc0 (by omega)
          refine TL.nil ?_
          refine TE.inNormal ?_
          refine TE.next ?_
          refine TC.region ?_
          refine' TL.y rfl rfl rfl ?hy30 ?_
          case hy30 => exact Yl.move rfl rfl
          refine' TL.y rfl rfl rfl ?hy31 ?_
          case hy31 => first | (refine Yl.val (Yl.bin rfl rfl rfl (Bin.add _ _ _ _)) (congrArg (Value.int .i64) (i64in ?_ ?_)) <;> omega) | exact Yl.bin rfl rfl rfl (Bin.add _ _ _ _)
          refine' TL.y rfl rfl rfl ?hy32 ?_
          case hy32 => exact Yl.assign rfl rfl
          refine TL.nil ?_
          refine TE.round (i + 1) ?hF33 ?hlt33 ?hs33 ?hm33
          case hF33 => omega
          case hlt33 => omega
          case hs33 => exact ⟨rfl, rfl, rfl, rfl, rfl, trivial⟩
          case hm33 => exact (fun w h => h.vwc (fun j hj => by
              show upI _ _ _ j = _
              unfold upI; dsimp only
              by_cases e : j = i
              · rw [if_pos e, if_pos (by omega), e]
              · rw [if_neg e]
                by_cases e2 : j < i
                · rw [if_pos e2, if_pos (by omega)]
                · rw [if_neg e2, if_neg (by omega)]))
        · skip
          (try simp only [decide_eq_true_eq, decide_eq_false_iff_not, beq_iff_eq, beq_eq_false_iff_ne, bne_iff_ne, ne_eq, bne_eq_false_iff_eq, Bool.not_eq_true', Bool.not_eq_false', Int.not_lt, Int.not_le, gt_iff_lt, ge_iff_le] at hs24)
          refine TC.exit ?_
          refine TE.thenExit ?_
          refine TE.thenExit ?_
          refine TE.inHere ?_
          refine TE.met (b17, some ⟨b20, 0, none⟩, m) ?hF34 ?hs34 ?hm34
          case hF34 => trivial
          case hs34 => exact ⟨rfl, rfl, rfl, rfl, trivial⟩
          case hm34 => exact fun w h => (h.vwc (fun j hj => if_pos (by omega))).swap
    case hy15 =>
      rintro ⟨b17, A3, c3⟩ _
      dsimp only
      refine TC.seq ?_
      refine TC.block ?_
      refine TC.loop (σ := Nat × Int × (Nat → Int) × (Nat → Int)) (fun x => [(0, .int .i64 (x.2.1)), (1, .slice A m cp), (5, .slice (some ⟨b17, 0, none⟩) m m), (6, .slice A3 m c3)]) (fun x => Hp W (fun _ => False) [ownR 3 1 (.slice (some ⟨b17, 0, none⟩) m m) m (Vw m (x.2.2.2)), ownR 3 1 (.slice A3 m c3) m (Vw m (x.2.2.1))]) (fun x => CapI n m u x.2.1 x.1 x.2.2.1 x.2.2.2) (fun x => x.1) (n.toNat, n, u, fun _ => 0) ?hF35 ?hs35 ?hm35 ?round35
      case hF35 => exact CapI.start hok
      case hs35 => exact ⟨rfl, rfl, rfl, rfl, trivial⟩
      case hm35 => exact fun _ h => h
      case round35 =>
        rintro ⟨fuel, n1, l, o⟩ hI
        dsimp only at hI ⊢
        have hok1 := hI.ok
        refine TC.seq ?_
        refine TC.seq ?_
        refine TC.region ?_
        refine' TL.y rfl rfl rfl ?hy36 ?_
        case hy36 => exact Yl.move rfl rfl
        refine' TL.y rfl rfl rfl ?hy37 ?_
        case hy37 => exact Yl.bin rfl rfl rfl (Bin.gtr _ _ _ _)
        refine' TL.y rfl rfl rfl ?hy38 ?_
        case hy38 => exact Yl.move rfl rfl
        refine TL.split (i := 36) rfl (fun hs36 => ?_) (fun hs36 => ?_)
        · skip
          (try simp only [decide_eq_true_eq, decide_eq_false_iff_not, beq_iff_eq, beq_eq_false_iff_ne, bne_iff_ne, ne_eq, bne_eq_false_iff_eq, Bool.not_eq_true', Bool.not_eq_false', Int.not_lt, Int.not_le, gt_iff_lt, ge_iff_le] at hs36)
          refine' TL.y rfl rfl rfl ?hy39 ?_
          case hy39 => exact Yl.move rfl rfl
          refine' TL.c rfl rfl rfl ?hy40 ?_
          case hy40 => exact Yc.call rfl Try.func14 (by kernel_rfl) rfl rfl (Hp.calls (fun w h => k_rsum w (h.ownVw mem1) (by omega)))
          intro _
          have hs1 := hok1.s1
          have hs0 := hok1.s0
          rw [i64in (x := sumF l m) (by omega) (by omega)]
          refine' TL.y rfl rfl rfl ?hy41 ?_
          case hy41 => exact Yl.bin rfl rfl rfl (Bin.gtr _ _ _ _)
          refine' TL.y rfl rfl rfl ?hy42 ?_
          case hy42 => exact Yl.pickT rfl rfl rfl
          refine TL.nil ?_
          refine TE.next ?_
          refine TC.cond rfl (fun hs40 => ?_) (fun hs40 => ?_)
          · skip
            (try simp only [decide_eq_true_eq, decide_eq_false_iff_not, beq_iff_eq, beq_eq_false_iff_ne, bne_iff_ne, ne_eq, bne_eq_false_iff_eq, Bool.not_eq_true', Bool.not_eq_false', Int.not_lt, Int.not_le, gt_iff_lt, ge_iff_le] at hs40)
            have hn : 0 < n1 := by omega
            have hsp : 0 < sumF l m := by omega
            have hm0 : 0 < m := by
              rcases Nat.eq_zero_or_pos m with e | e
              · subst e; unfold sumF at hsp; omega
              · exact e
            refine TC.skip ?_
            refine TE.next ?_
            refine TC.block ?_
            refine TC.seq ?_
            refine TC.region ?_
            refine' TL.y rfl rfl rfl ?hy43 ?_
            case hy43 => exact Yl.move rfl rfl
            refine' TL.y rfl rfl rfl ?hy44 ?_
            case hy44 => exact Yl.move rfl rfl
            refine' TL.c rfl rfl rfl ?hy45 ?_
            case hy45 => exact Yc.call rfl Try.func12 (by kernel_rfl) rfl rfl (Hp.news (fun w h => k_rsplit w (h.ownVw mem1) (by omega) n1))
            intro v43
            rw [lenR_ok hok1]
            refine TL.fact (fun w h => h.ownSome mem0 hm0) ?_
            rintro ⟨g2, c2, rfl⟩
            refine TL.fact (fun w h => h.ownSome' mem2 hm0) ?_
            rintro ⟨g3, rfl⟩
            refine' TL.y rfl rfl rfl ?hy46 ?_
            case hy46 => exact Yl.assign rfl rfl
            refine TL.nil ?_
            refine TE.next ?_
            refine TC.seq ?_
            refine TC.region ?_
            refine' TL.y rfl rfl rfl ?hy47 ?_
            case hy47 => exact Yl.assign rfl rfl
            refine TL.nil ?_
            refine TE.next ?_
            refine TC.block ?_
            refine TC.loop (σ := Nat) (fun i => [(1, .slice A m cp), (8, .slice (some ⟨g2, 0, none⟩) m c2), (9, .int .i64 (i : Int)), (0, .int .i64 (n1 - sumF (kkF n1 m l) i)), (5, .slice (some ⟨b17, 0, none⟩) m m), (6, .slice (some ⟨g3, 0, none⟩) m c3)]) (fun i => Hp W (fun _ => False) [ownR 3 1 (.slice (some ⟨g2, 0, none⟩) m c2) m (Vw m (splitF n1 m l)), ownR 3 1 (.slice (some ⟨b17, 0, none⟩) m m) m (Vw m (fun j => if j < i then o j + kkF n1 m l j else o j)), ownR 3 1 (.slice (some ⟨g3, 0, none⟩) m c3) m (Vw m (fun j => if j < i then l j - kkF n1 m l j else l j))]) (fun i => i ≤ m) (fun i => m - i) 0 ?hF48 ?hs48 ?hm48 ?round48
            case hF48 => exact Nat.zero_le _
            case hs48 => exact ⟨rfl, rfl, rfl, (by show some (Value.int .i64 n1) = _; simp [sumF]), rfl, rfl, trivial⟩
            case hm48 => exact fun w h => (h.vwc1 (fun j hj => (if_neg (by omega)).symm)).vwc2 (fun j hj => (if_neg (by omega)).symm)
            case round48 =>
              intro i hi
              refine TC.seq ?_
              refine TC.seq ?_
              refine TC.region ?_
              refine' TL.y rfl rfl rfl ?hy49 ?_
              case hy49 => exact Yl.move rfl rfl
              refine' TL.y rfl rfl rfl ?hy50 ?_
              case hy50 => exact Yl.move rfl rfl
              refine' TL.y rfl rfl rfl ?hy51 ?_
              case hy51 => exact Yl.len rfl rfl Try.underlying22
              refine' TL.y rfl rfl rfl ?hy52 ?_
              case hy52 => exact Yl.bin rfl rfl rfl (Bin.lss _ _ _ _)
              refine TL.nil ?_
              refine TE.next ?_
              refine TC.cond rfl (fun hs47 => ?_) (fun hs47 => ?_)
              · skip
                (try simp only [decide_eq_true_eq, decide_eq_false_iff_not, beq_iff_eq, beq_eq_false_iff_ne, bne_iff_ne, ne_eq, bne_eq_false_iff_eq, Bool.not_eq_true', Bool.not_eq_false', Int.not_lt, Int.not_le, gt_iff_lt, ge_iff_le] at hs47)
                have hi2 : i < m := by omega
                have hkf := kk_facts hok1 hi2
                have hkp := kk_part hok1 hsp (show i ≤ m by omega)
                have hkp1 := kk_part hok1 hsp (show i + 1 ≤ m by omega)
                rw [sumF] at hkp1
                have hsn := split_nonneg hok1 hi2
                have hl0 := hok1.w0 i hi2
                have hl1 := hok1.w1 i hi2
                have hn0 := hok1.n0
                have hn1 := hok1.n1
                have ho := hI.o0 i hi2
                refine TC.skip ?_
                refine TE.next ?_
                refine TC.seq ?_
                refine TC.block ?_
                refine TC.seq ?_
                refine TC.draw (k := 10) _ [] #[false, false, false, false, false, false, false, false, false, false] (by kernel_rfl) rfl rfl (fun _ h => h.drew) (fun _ h => h) ?_
                refine' TA.y (i := 0) #[true, false, false, false, false, false, false, false, false, false] rfl rfl rfl (by kernel_rfl) (fun _ _ _ h => h) (fun _ h => by exact Hp.sub h (by repeat (first | exact List.Sublist.refl _ | apply List.Sublist.cons))) rfl ?hy53 ?_
                case hy53 => exact Yl.move rfl rfl
                refine' TA.y (i := 1) #[true, true, false, false, false, false, false, false, false, false] rfl rfl rfl (by kernel_rfl) (fun _ _ _ h => h) (fun _ h => by exact Hp.sub h (by repeat (first | exact List.Sublist.refl _ | apply List.Sublist.cons))) rfl ?hy54 ?_
                case hy54 => exact Yl.move rfl rfl
                refine' TA.y (i := 2) #[true, true, true, false, false, false, false, false, false, false] rfl rfl rfl (by kernel_rfl) (fun _ _ _ h => h) (fun _ h => by exact Hp.sub h (by repeat (first | exact List.Sublist.refl _ | apply List.Sublist.cons))) rfl ?hy55 ?_
                case hy55 => first | exact Yl.ixn rfl rfl rfl Try.underlying22 (by kernel_rfl) (by omega) | exact Yl.ixz rfl rfl rfl Try.underlying22 (by kernel_rfl) (by omega) (by omega) | exact Yl.ixcn rfl rfl rfl Try.underlying22 (by kernel_rfl) (by omega) | exact Yl.ixcz rfl rfl rfl Try.underlying22 (by kernel_rfl) (by omega) (by omega)
                refine' TA.y (i := 3) #[true, true, true, true, false, false, false, false, false, false] rfl rfl rfl (by kernel_rfl) (fun _ _ _ h => h) (fun _ h => by exact Hp.sub h (by repeat (first | exact List.Sublist.refl _ | apply List.Sublist.cons))) rfl ?hy56 ?_
                case hy56 => first | exact Yl.load rfl rfl (by kernel_rfl) (Sl.vw hS rfl (by omega) (fun _ h => h)) | exact Yl.load rfl rfl (by kernel_rfl) (Hp.vw mem0 (by omega)) | exact Yl.load rfl rfl (by kernel_rfl) (Hp.vw mem1 (by omega)) | exact Yl.load rfl rfl (by kernel_rfl) (Hp.vw mem2 (by omega)) | exact Yl.load rfl rfl (by kernel_rfl) (Hp.cell mem0 rfl) | exact Yl.load rfl rfl (by kernel_rfl) (Hp.cell mem1 rfl) | exact Yl.load rfl rfl (by kernel_rfl) (Hp.cell mem2 rfl) | exact Yl.load rfl rfl (by kernel_rfl) (Hp.cell mem3 rfl) | exact Yl.load rfl rfl (by kernel_rfl) (Hp.cell mem4 rfl) | exact Yl.load rfl rfl (by kernel_rfl) (Hp.rowAt mem0 (by omega) rfl) | exact Yl.load rfl rfl (by kernel_rfl) (Hp.rowAt mem1 (by omega) rfl) | exact Yl.load rfl rfl (by kernel_rfl) (Hp.rowAt mem2 (by omega) rfl) | exact Yl.load rfl rfl (by kernel_rfl) (Hp.rowAt mem3 (by omega) rfl) | exact Yl.load rfl rfl (by kernel_rfl) (Hp.rowAt mem4 (by omega) rfl)
                refine' TA.y (i := 4) #[true, true, true, true, true, false, false, false, false, false] rfl rfl rfl (by kernel_rfl) (fun _ _ _ h => h) (fun _ h => by exact Hp.sub h (by repeat (first | exact List.Sublist.refl _ | apply List.Sublist.cons))) rfl ?hy57 ?_
                case hy57 => exact Yl.move rfl rfl
                refine' TA.y (i := 5) #[true, true, true, true, true, true, false, false, false, false] rfl rfl rfl (by kernel_rfl) (fun _ _ _ h => h) (fun _ h => by exact Hp.sub h (by repeat (first | exact List.Sublist.refl _ | apply List.Sublist.cons))) rfl ?hy58 ?_
                case hy58 => exact Yl.move rfl rfl
                refine' TA.y (i := 6) #[true, true, true, true, true, true, true, false, false, false] rfl rfl rfl (by kernel_rfl) (fun _ _ _ h => h) (fun _ h => by exact Hp.sub h (by repeat (first | exact List.Sublist.refl _ | apply List.Sublist.cons))) rfl ?hy59 ?_
                case hy59 => first | exact Yl.ixn rfl rfl rfl Try.underlying22 (by kernel_rfl) (by omega) | exact Yl.ixz rfl rfl rfl Try.underlying22 (by kernel_rfl) (by omega) (by omega) | exact Yl.ixcn rfl rfl rfl Try.underlying22 (by kernel_rfl) (by omega) | exact Yl.ixcz rfl rfl rfl Try.underlying22 (by kernel_rfl) (by omega) (by omega)
                refine' TA.y (i := 7) #[true, true, true, true, true, true, true, true, false, false] rfl rfl rfl (by kernel_rfl) (fun _ _ _ h => h) (fun _ h => by exact Hp.sub h (by repeat (first | exact List.Sublist.refl _ | apply List.Sublist.cons))) rfl ?hy60 ?_
                case hy60 => first | exact Yl.load rfl rfl (by kernel_rfl) (Sl.vw hS rfl (by omega) (fun _ h => h)) | exact Yl.load rfl rfl (by kernel_rfl) (Hp.vw mem0 (by omega)) | exact Yl.load rfl rfl (by kernel_rfl) (Hp.vw mem1 (by omega)) | exact Yl.load rfl rfl (by kernel_rfl) (Hp.vw mem2 (by omega)) | exact Yl.load rfl rfl (by kernel_rfl) (Hp.cell mem0 rfl) | exact Yl.load rfl rfl (by kernel_rfl) (Hp.cell mem1 rfl) | exact Yl.load rfl rfl (by kernel_rfl) (Hp.cell mem2 rfl) | exact Yl.load rfl rfl (by kernel_rfl) (Hp.cell mem3 rfl) | exact Yl.load rfl rfl (by kernel_rfl) (Hp.cell mem4 rfl) | exact Yl.load rfl rfl (by kernel_rfl) (Hp.rowAt mem0 (by omega) rfl) | exact Yl.load rfl rfl (by kernel_rfl) (Hp.rowAt mem1 (by omega) rfl) | exact Yl.load rfl rfl (by kernel_rfl) (Hp.rowAt mem2 (by omega) rfl) | exact Yl.load rfl rfl (by kernel_rfl) (Hp.rowAt mem3 (by omega) rfl) | exact Yl.load rfl rfl (by kernel_rfl) (Hp.rowAt mem4 (by omega) rfl)
                refine TA.re (i := 57) (v' := .int .i64 (l i)) rfl (congrArg (Value.int .i64) (if_neg (by omega))) ?_
                refine' TA.y (i := 8) #[true, true, true, true, true, true, true, true, true, false] rfl rfl rfl (by kernel_rfl) (fun _ _ _ h => h) (fun _ h => by exact Hp.sub h (by repeat (first | exact List.Sublist.refl _ | apply List.Sublist.cons))) rfl ?hy61 ?_
                case hy61 => exact Yl.min rfl rfl rfl
                refine TA.re (i := 58) (v' := .int .i64 (kkF n1 m l i)) rfl rfl ?_
                refine' TA.y (i := 9) #[true, true, true, true, true, true, true, true, true, true] rfl rfl rfl (by kernel_rfl) (fun _ _ _ h => h) (fun _ h => by exact Hp.sub h (by repeat (first | exact List.Sublist.refl _ | apply List.Sublist.cons))) rfl ?hy62 ?_
                case hy62 => exact Yl.assign rfl rfl
                refine TA.done (by kernel_rfl) ?_
                refine TE.next ?_
                refine TC.seq ?_
                refine TC.region ?_
                refine' TL.y rfl rfl rfl ?hy63 ?_
                case hy63 => exact Yl.move rfl rfl
                refine' TL.y rfl rfl rfl ?hy64 ?_
                case hy64 => exact Yl.move rfl rfl
                refine' TL.y rfl rfl rfl ?hy65 ?_
                case hy65 => exact Yl.move rfl rfl
                refine' TL.y rfl rfl rfl ?hy66 ?_
                case hy66 => exact Yl.move rfl rfl
                refine' TL.y rfl rfl rfl ?hy67 ?_
                case hy67 => first | exact Yl.ixn rfl rfl rfl Try.underlying22 (by kernel_rfl) (by omega) | exact Yl.ixz rfl rfl rfl Try.underlying22 (by kernel_rfl) (by omega) (by omega) | exact Yl.ixcn rfl rfl rfl Try.underlying22 (by kernel_rfl) (by omega) | exact Yl.ixcz rfl rfl rfl Try.underlying22 (by kernel_rfl) (by omega) (by omega)
                refine' TL.y rfl rfl rfl ?hy68 ?_
                case hy68 => first | exact Yl.load rfl rfl (by kernel_rfl) (Sl.vw hS rfl (by omega) (fun _ h => h)) | exact Yl.load rfl rfl (by kernel_rfl) (Hp.vw mem0 (by omega)) | exact Yl.load rfl rfl (by kernel_rfl) (Hp.vw mem1 (by omega)) | exact Yl.load rfl rfl (by kernel_rfl) (Hp.vw mem2 (by omega)) | exact Yl.load rfl rfl (by kernel_rfl) (Hp.cell mem0 rfl) | exact Yl.load rfl rfl (by kernel_rfl) (Hp.cell mem1 rfl) | exact Yl.load rfl rfl (by kernel_rfl) (Hp.cell mem2 rfl) | exact Yl.load rfl rfl (by kernel_rfl) (Hp.cell mem3 rfl) | exact Yl.load rfl rfl (by kernel_rfl) (Hp.cell mem4 rfl) | exact Yl.load rfl rfl (by kernel_rfl) (Hp.rowAt mem0 (by omega) rfl) | exact Yl.load rfl rfl (by kernel_rfl) (Hp.rowAt mem1 (by omega) rfl) | exact Yl.load rfl rfl (by kernel_rfl) (Hp.rowAt mem2 (by omega) rfl) | exact Yl.load rfl rfl (by kernel_rfl) (Hp.rowAt mem3 (by omega) rfl) | exact Yl.load rfl rfl (by kernel_rfl) (Hp.rowAt mem4 (by omega) rfl)
                refine TL.re (i := 64) (v' := .int .i64 (o i)) rfl (congrArg (Value.int .i64) (if_neg (by omega))) ?_
                refine' TL.y rfl rfl rfl ?hy69 ?_
                case hy69 => exact Yl.move rfl rfl
                refine' TL.y rfl rfl rfl ?hy70 ?_
                case hy70 => first | (refine Yl.val (Yl.bin rfl rfl rfl (Bin.add _ _ _ _)) (congrArg (Value.int .i64) (i64in ?_ ?_)) <;> omega) | exact Yl.bin rfl rfl rfl (Bin.add _ _ _ _)
                refine' TL.y rfl rfl rfl ?hy71 ?_
                case hy71 => first | exact Yl.ixn rfl rfl rfl Try.underlying22 (by kernel_rfl) (by omega) | exact Yl.ixz rfl rfl rfl Try.underlying22 (by kernel_rfl) (by omega) (by omega) | exact Yl.ixcn rfl rfl rfl Try.underlying22 (by kernel_rfl) (by omega) | exact Yl.ixcz rfl rfl rfl Try.underlying22 (by kernel_rfl) (by omega) (by omega)
                refine' TL.s rfl rfl ?hy72 ?_
                case hy72 => first | exact Ys.vw rfl rfl rfl (by kernel_rfl) foc1 (by omega) | exact Ys.vw rfl rfl rfl (by kernel_rfl) foc2 (by omega) | exact Ys.vw rfl rfl rfl (by kernel_rfl) foc0 (by omega)
                refine TL.nil ?_
                refine TE.next ?_
                refine TC.seq ?_
                refine TC.region ?_
                refine' TL.y rfl rfl rfl ?hy73 ?_
                case hy73 => exact Yl.move rfl rfl
                refine' TL.y rfl rfl rfl ?hy74 ?_
                case hy74 => exact Yl.move rfl rfl
                refine' TL.y rfl rfl rfl ?hy75 ?_
                case hy75 => exact Yl.move rfl rfl
                refine' TL.y rfl rfl rfl ?hy76 ?_
                case hy76 => exact Yl.move rfl rfl
                refine' TL.y rfl rfl rfl ?hy77 ?_
                case hy77 => first | exact Yl.ixn rfl rfl rfl Try.underlying22 (by kernel_rfl) (by omega) | exact Yl.ixz rfl rfl rfl Try.underlying22 (by kernel_rfl) (by omega) (by omega) | exact Yl.ixcn rfl rfl rfl Try.underlying22 (by kernel_rfl) (by omega) | exact Yl.ixcz rfl rfl rfl Try.underlying22 (by kernel_rfl) (by omega) (by omega)
                refine' TL.y rfl rfl rfl ?hy78 ?_
                case hy78 => first | exact Yl.load rfl rfl (by kernel_rfl) (Sl.vw hS rfl (by omega) (fun _ h => h)) | exact Yl.load rfl rfl (by kernel_rfl) (Hp.vw mem0 (by omega)) | exact Yl.load rfl rfl (by kernel_rfl) (Hp.vw mem1 (by omega)) | exact Yl.load rfl rfl (by kernel_rfl) (Hp.vw mem2 (by omega)) | exact Yl.load rfl rfl (by kernel_rfl) (Hp.cell mem0 rfl) | exact Yl.load rfl rfl (by kernel_rfl) (Hp.cell mem1 rfl) | exact Yl.load rfl rfl (by kernel_rfl) (Hp.cell mem2 rfl) | exact Yl.load rfl rfl (by kernel_rfl) (Hp.cell mem3 rfl) | exact Yl.load rfl rfl (by kernel_rfl) (Hp.cell mem4 rfl) | exact Yl.load rfl rfl (by kernel_rfl) (Hp.rowAt mem0 (by omega) rfl) | exact Yl.load rfl rfl (by kernel_rfl) (Hp.rowAt mem1 (by omega) rfl) | exact Yl.load rfl rfl (by kernel_rfl) (Hp.rowAt mem2 (by omega) rfl) | exact Yl.load rfl rfl (by kernel_rfl) (Hp.rowAt mem3 (by omega) rfl) | exact Yl.load rfl rfl (by kernel_rfl) (Hp.rowAt mem4 (by omega) rfl)
                refine TL.re (i := 73) (v' := .int .i64 (l i)) rfl (congrArg (Value.int .i64) (if_neg (by omega))) ?_
                refine' TL.y rfl rfl rfl ?hy79 ?_
                case hy79 => exact Yl.move rfl rfl
                refine' TL.y rfl rfl rfl ?hy80 ?_
                case hy80 => first | (refine Yl.val (Yl.bin rfl rfl rfl (Bin.sub _ _ _ _)) (congrArg (Value.int .i64) (i64in ?_ ?_)) <;> omega) | exact Yl.bin rfl rfl rfl (Bin.sub _ _ _ _)
                refine' TL.y rfl rfl rfl ?hy81 ?_
                case hy81 => first | exact Yl.ixn rfl rfl rfl Try.underlying22 (by kernel_rfl) (by omega) | exact Yl.ixz rfl rfl rfl Try.underlying22 (by kernel_rfl) (by omega) (by omega) | exact Yl.ixcn rfl rfl rfl Try.underlying22 (by kernel_rfl) (by omega) | exact Yl.ixcz rfl rfl rfl Try.underlying22 (by kernel_rfl) (by omega) (by omega)
                refine' TL.s rfl rfl ?hy82 ?_
                case hy82 => first | exact Ys.vw rfl rfl rfl (by kernel_rfl) foc1 (by omega) | exact Ys.vw rfl rfl rfl (by kernel_rfl) foc2 (by omega) | exact Ys.vw rfl rfl rfl (by kernel_rfl) foc0 (by omega)
                refine TL.nil ?_
                refine TE.next ?_
                refine TC.region ?_
                refine' TL.y rfl rfl rfl ?hy83 ?_
                case hy83 => exact Yl.move rfl rfl
                refine' TL.y rfl rfl rfl ?hy84 ?_
                case hy84 => exact Yl.move rfl rfl
                refine' TL.y rfl rfl rfl ?hy85 ?_
                case hy85 => first | (refine Yl.val (Yl.bin rfl rfl rfl (Bin.sub _ _ _ _)) (congrArg (Value.int .i64) (i64in ?_ ?_)) <;> omega) | exact Yl.bin rfl rfl rfl (Bin.sub _ _ _ _)
                refine' TL.y rfl rfl rfl ?hy86 ?_
                case hy86 => exact Yl.assign rfl rfl
                refine TL.nil ?_
                refine TE.inNormal ?_
                refine TE.next ?_
                refine TC.region ?_
                refine' TL.y rfl rfl rfl ?hy87 ?_
                case hy87 => exact Yl.move rfl rfl
                refine' TL.y rfl rfl rfl ?hy88 ?_
                case hy88 => first | (refine Yl.val (Yl.bin rfl rfl rfl (Bin.add _ _ _ _)) (congrArg (Value.int .i64) (i64in ?_ ?_)) <;> omega) | exact Yl.bin rfl rfl rfl (Bin.add _ _ _ _)
                refine' TL.y rfl rfl rfl ?hy89 ?_
                case hy89 => exact Yl.assign rfl rfl
                refine TL.nil ?_
                refine TE.round (i + 1) ?hF90 ?hlt90 ?hs90 ?hm90
                case hF90 => omega
                case hlt90 => omega
                case hs90 => exact ⟨rfl, rfl, rfl, (by show some (Value.int .i64 (n1 - sumF (kkF n1 m l) i - kkF n1 m l i)) = _; rw [sumF, Int.sub_sub]), rfl, rfl, trivial⟩
                case hm90 => exact (fun w h => (h.vwc1 (fun j hj => by
                    show upI _ _ _ j = _
                    unfold upI; dsimp only
                    by_cases e : j = i
                    · rw [if_pos e, if_pos (by omega), e]
                    · rw [if_neg e]
                      by_cases e2 : j < i
                      · rw [if_pos e2, if_pos (by omega)]
                      · rw [if_neg e2, if_neg (by omega)])).vwc2 (fun j hj => by
                    show upI _ _ _ j = _
                    unfold upI; dsimp only
                    by_cases e : j = i
                    · rw [if_pos e, if_pos (by omega), e]
                    · rw [if_neg e]
                      by_cases e2 : j < i
                      · rw [if_pos e2, if_pos (by omega)]
                      · rw [if_neg e2, if_neg (by omega)]))
              · skip
                (try simp only [decide_eq_true_eq, decide_eq_false_iff_not, beq_iff_eq, beq_eq_false_iff_ne, bne_iff_ne, ne_eq, bne_eq_false_iff_eq, Bool.not_eq_true', Bool.not_eq_false', Int.not_lt, Int.not_le, gt_iff_lt, ge_iff_le] at hs47)
                have him : i = m := by omega
                have hst := hI.step hn hsp
                refine TC.exit ?_
                refine TE.thenExit ?_
                refine TE.thenExit ?_
                refine TE.inHere ?_
                refine TE.inNormal ?_
                refine TE.round (fuel - 1, n1 - sumF (kkF n1 m l) m, fun j => l j - kkF n1 m l j, fun j => o j + kkF n1 m l j) ?hF91 ?hlt91 ?hs91 ?hm91
                case hF91 => exact hst.2
                case hlt91 => dsimp only; omega
                case hs91 => exact ⟨(by show some (Value.int .i64 (n1 - sumF (kkF n1 m l) i)) = _; rw [show i = m by omega]), rfl, rfl, rfl, trivial⟩
                case hm91 => exact fun w h => (((h.sub (List.sublist_cons_self _ _)).vwc (fun j hj => by dsimp only; rw [if_pos (by omega)])).vwc1 (fun j hj => by dsimp only; rw [if_pos (by omega)]))
          · skip
            (try simp only [decide_eq_true_eq, decide_eq_false_iff_not, beq_iff_eq, beq_eq_false_iff_ne, bne_iff_ne, ne_eq, bne_eq_false_iff_eq, Bool.not_eq_true', Bool.not_eq_false', Int.not_lt, Int.not_le, gt_iff_lt, ge_iff_le] at hs40)
            refine TC.exit ?_
            refine TE.thenExit ?_
            refine TE.thenExit ?_
            refine TE.inHere ?_
            refine TE.next ?_
            refine TC.seq ?_
            refine TC.region ?_
            refine' TL.y rfl rfl rfl ?hy92 ?_
            case hy92 => exact Yl.move rfl rfl
            refine' TL.y rfl rfl rfl ?hy93 ?_
            case hy93 => exact Yl.assign rfl rfl
            refine TL.nil ?_
            refine TE.next ?_
            refine TC.ret ?_
            refine TE.ret1 rfl rfl ?_
            have hdn := hI.done (by omega)
            exact fun w h => ⟨_, rfl, by rw [lenR_ok hok]; rw [hdn] at h; exact (h.sub (List.Sublist.cons_cons _ (List.nil_sublist _))).leaveNew⟩
        · skip
          (try simp only [decide_eq_true_eq, decide_eq_false_iff_not, beq_iff_eq, beq_eq_false_iff_ne, bne_iff_ne, ne_eq, bne_eq_false_iff_eq, Bool.not_eq_true', Bool.not_eq_false', Int.not_lt, Int.not_le, gt_iff_lt, ge_iff_le] at hs36)
          refine TL.skip rfl rfl rfl ?_
          refine TL.skip rfl rfl rfl ?_
          refine TL.skip rfl rfl rfl ?_
          refine' TL.y rfl rfl rfl ?hy94 ?_
          case hy94 => exact Yl.pickF rfl rfl rfl
          refine TL.nil ?_
          refine TE.next ?_
          refine TC.no rfl rfl ?_
          refine TC.exit ?_
          refine TE.thenExit ?_
          refine TE.thenExit ?_
          refine TE.inHere ?_
          refine TE.next ?_
          refine TC.seq ?_
          refine TC.region ?_
          refine' TL.y rfl rfl rfl ?hy95 ?_
          case hy95 => exact Yl.move rfl rfl
          refine' TL.y rfl rfl rfl ?hy96 ?_
          case hy96 => exact Yl.assign rfl rfl
          refine TL.nil ?_
          refine TE.next ?_
          refine TC.ret ?_
          refine TE.ret1 rfl rfl ?_
          have hdn := hI.done (by omega)
          exact fun w h => ⟨_, rfl, by rw [lenR_ok hok]; rw [hdn] at h; exact (h.sub (List.Sublist.cons_cons _ (List.nil_sublist _))).leaveNew⟩
set_option maxRecDepth 100000 in
set_option maxHeartbeats 2000000 in
theorem k_row (W : World) {m m2 : Nat} {u v : Nat → Int} {A B : Option Addr} {cp cq : Nat} (hS : Sl W A (Vw m u)) (hS2 : Sl W B (Vw m2 v)) (hm : m ≤ 9223372036854775807) : Calls Try.prog 10 #[.slice A m cp, .slice B m2 cq] W fun e w' => e = .returned (.bool (decide (m = m2 ∧ ∀ j, j < m → u j = v j))) ∧ Below W.heap.size W w' := by
  have hM : Hp W (fun _ => False) [] W := Hp.start
  refine TC.enter (n := 26) Try.func10 rfl rfl rfl hM ?_
  refine TC.seq ?_
  refine TC.region ?_
  refine' TL.y rfl rfl rfl ?hy1 ?_
  case hy1 => exact Yl.assign rfl rfl
  refine TL.nil ?_
  refine TE.next ?_
  refine TC.seq ?_
  refine TC.seq ?_
  refine TC.region ?_
  refine' TL.y rfl rfl rfl ?hy2 ?_
  case hy2 => exact Yl.move rfl rfl
  refine' TL.y rfl rfl rfl ?hy3 ?_
  case hy3 => exact Yl.len rfl rfl Try.underlying22
  refine' TL.y rfl rfl rfl ?hy4 ?_
  case hy4 => exact Yl.move rfl rfl
  refine' TL.y rfl rfl rfl ?hy5 ?_
  case hy5 => exact Yl.len rfl rfl Try.underlying22
  refine' TL.y rfl rfl rfl ?hy6 ?_
  case hy6 => exact Yl.bin rfl rfl rfl (Bin.neq _ _ _ _)
  refine TL.nil ?_
  refine TE.next ?_
  refine TC.cond rfl (fun hs10 => ?_) (fun hs10 => ?_)
  · skip
    (try simp only [decide_eq_true_eq, decide_eq_false_iff_not, beq_iff_eq, beq_eq_false_iff_ne, bne_iff_ne, ne_eq, bne_eq_false_iff_eq, Bool.not_eq_true', Bool.not_eq_false', Int.not_lt, Int.not_le, gt_iff_lt, ge_iff_le] at hs10)
    refine TC.seq ?_
    refine TC.region ?_
    refine' TL.y rfl rfl rfl ?hy7 ?_
    case hy7 => exact Yl.assign rfl rfl
    refine TL.nil ?_
    refine TE.next ?_
    refine TC.ret ?_
    refine TE.thenRet ?_
    refine TE.ret1 rfl rfl ?_
    exact fun w h => ⟨by rw [decide_eq_false (fun e => by omega)], h.below⟩
  · skip
    (try simp only [decide_eq_true_eq, decide_eq_false_iff_not, beq_iff_eq, beq_eq_false_iff_ne, bne_iff_ne, ne_eq, bne_eq_false_iff_eq, Bool.not_eq_true', Bool.not_eq_false', Int.not_lt, Int.not_le, gt_iff_lt, ge_iff_le] at hs10)
    obtain rfl : m = m2 := by omega
    refine TC.skip ?_
    refine TE.next ?_
    refine TC.seq ?_
    refine TC.seq ?_
    refine TC.region ?_
    refine' TL.y rfl rfl rfl ?hy8 ?_
    case hy8 => exact Yl.assign rfl rfl
    refine TL.nil ?_
    refine TE.next ?_
    refine TC.block ?_
    refine TC.loop (σ := Nat) (fun i => [(0, .slice A m cp), (1, .slice B m cq), (5, .int .i64 (i : Int))]) (fun i => Hp W (fun _ => False) []) (fun i => i ≤ m ∧ ∀ j, j < i → u j = v j) (fun i => m - i) 0 ?hF9 ?hs9 ?hm9 ?round9
    case hF9 => exact ⟨Nat.zero_le _, fun j hj => by omega⟩
    case hs9 => exact ⟨rfl, rfl, rfl, trivial⟩
    case hm9 => exact fun _ h => h
    case round9 =>
      rintro i ⟨hi, hF⟩
      refine TC.seq ?_
      refine TC.seq ?_
      refine TC.region ?_
      refine' TL.y rfl rfl rfl ?hy10 ?_
      case hy10 => exact Yl.move rfl rfl
      refine' TL.y rfl rfl rfl ?hy11 ?_
      case hy11 => exact Yl.move rfl rfl
      refine' TL.y rfl rfl rfl ?hy12 ?_
      case hy12 => exact Yl.len rfl rfl Try.underlying22
      refine' TL.y rfl rfl rfl ?hy13 ?_
      case hy13 => exact Yl.bin rfl rfl rfl (Bin.lss _ _ _ _)
      refine TL.nil ?_
      refine TE.next ?_
      refine TC.cond rfl (fun hs14 => ?_) (fun hs14 => ?_)
      · skip
        (try simp only [decide_eq_true_eq, decide_eq_false_iff_not, beq_iff_eq, beq_eq_false_iff_ne, bne_iff_ne, ne_eq, bne_eq_false_iff_eq, Bool.not_eq_true', Bool.not_eq_false', Int.not_lt, Int.not_le, gt_iff_lt, ge_iff_le] at hs14)
        obtain ⟨b, o, rfl⟩ := Sl.some2 hS (by rw [Vw_length]; omega)
        obtain ⟨b2, o2, rfl⟩ := Sl.some2 hS2 (by rw [Vw_length]; omega)
        refine TC.skip ?_
        refine TE.next ?_
        refine TC.seq ?_
        refine TC.block ?_
        refine TC.seq ?_
        refine TC.draw (k := 9) _ [] #[false, false, false, false, false, false, false, false, false] (by kernel_rfl) rfl rfl (fun _ h => h.drew) (fun _ h => h) ?_
        refine' TA.y (i := 0) #[true, false, false, false, false, false, false, false, false] rfl rfl rfl (by kernel_rfl) (fun _ _ _ h => h) (fun _ h => by exact Hp.sub h (by repeat (first | exact List.Sublist.refl _ | apply List.Sublist.cons))) rfl ?hy14 ?_
        case hy14 => exact Yl.move rfl rfl
        refine' TA.y (i := 1) #[true, true, false, false, false, false, false, false, false] rfl rfl rfl (by kernel_rfl) (fun _ _ _ h => h) (fun _ h => by exact Hp.sub h (by repeat (first | exact List.Sublist.refl _ | apply List.Sublist.cons))) rfl ?hy15 ?_
        case hy15 => exact Yl.move rfl rfl
        refine' TA.y (i := 2) #[true, true, true, false, false, false, false, false, false] rfl rfl rfl (by kernel_rfl) (fun _ _ _ h => h) (fun _ h => by exact Hp.sub h (by repeat (first | exact List.Sublist.refl _ | apply List.Sublist.cons))) rfl ?hy16 ?_
        case hy16 => first | exact Yl.ixn rfl rfl rfl Try.underlying22 (by kernel_rfl) (by omega) | exact Yl.ixz rfl rfl rfl Try.underlying22 (by kernel_rfl) (by omega) (by omega) | exact Yl.ixcn rfl rfl rfl Try.underlying22 (by kernel_rfl) (by omega) | exact Yl.ixcz rfl rfl rfl Try.underlying22 (by kernel_rfl) (by omega) (by omega)
        refine' TA.y (i := 3) #[true, true, true, true, false, false, false, false, false] rfl rfl rfl (by kernel_rfl) (fun _ _ _ h => h) (fun _ h => by exact Hp.sub h (by repeat (first | exact List.Sublist.refl _ | apply List.Sublist.cons))) rfl ?hy17 ?_
        case hy17 => first | exact Yl.load rfl rfl (by kernel_rfl) (Sl.vw hS rfl (by omega) (fun _ h => h)) | exact Yl.load rfl rfl (by kernel_rfl) (Sl.vw hS2 rfl (by omega) (fun _ h => h)) | exact Yl.load rfl rfl (by kernel_rfl) (Hp.cell mem0 rfl) | exact Yl.load rfl rfl (by kernel_rfl) (Hp.cell mem1 rfl) | exact Yl.load rfl rfl (by kernel_rfl) (Hp.cell mem2 rfl) | exact Yl.load rfl rfl (by kernel_rfl) (Hp.cell mem3 rfl) | exact Yl.load rfl rfl (by kernel_rfl) (Hp.cell mem4 rfl) | exact Yl.load rfl rfl (by kernel_rfl) (Hp.rowAt mem0 (by omega) rfl) | exact Yl.load rfl rfl (by kernel_rfl) (Hp.rowAt mem1 (by omega) rfl) | exact Yl.load rfl rfl (by kernel_rfl) (Hp.rowAt mem2 (by omega) rfl) | exact Yl.load rfl rfl (by kernel_rfl) (Hp.rowAt mem3 (by omega) rfl) | exact Yl.load rfl rfl (by kernel_rfl) (Hp.rowAt mem4 (by omega) rfl)
        refine' TA.y (i := 4) #[true, true, true, true, true, false, false, false, false] rfl rfl rfl (by kernel_rfl) (fun _ _ _ h => h) (fun _ h => by exact Hp.sub h (by repeat (first | exact List.Sublist.refl _ | apply List.Sublist.cons))) rfl ?hy18 ?_
        case hy18 => exact Yl.move rfl rfl
        refine' TA.y (i := 5) #[true, true, true, true, true, true, false, false, false] rfl rfl rfl (by kernel_rfl) (fun _ _ _ h => h) (fun _ h => by exact Hp.sub h (by repeat (first | exact List.Sublist.refl _ | apply List.Sublist.cons))) rfl ?hy19 ?_
        case hy19 => exact Yl.move rfl rfl
        refine' TA.y (i := 6) #[true, true, true, true, true, true, true, false, false] rfl rfl rfl (by kernel_rfl) (fun _ _ _ h => h) (fun _ h => by exact Hp.sub h (by repeat (first | exact List.Sublist.refl _ | apply List.Sublist.cons))) rfl ?hy20 ?_
        case hy20 => first | exact Yl.ixn rfl rfl rfl Try.underlying22 (by kernel_rfl) (by omega) | exact Yl.ixz rfl rfl rfl Try.underlying22 (by kernel_rfl) (by omega) (by omega) | exact Yl.ixcn rfl rfl rfl Try.underlying22 (by kernel_rfl) (by omega) | exact Yl.ixcz rfl rfl rfl Try.underlying22 (by kernel_rfl) (by omega) (by omega)
        refine' TA.y (i := 7) #[true, true, true, true, true, true, true, true, false] rfl rfl rfl (by kernel_rfl) (fun _ _ _ h => h) (fun _ h => by exact Hp.sub h (by repeat (first | exact List.Sublist.refl _ | apply List.Sublist.cons))) rfl ?hy21 ?_
        case hy21 => first | exact Yl.load rfl rfl (by kernel_rfl) (Sl.vw hS rfl (by omega) (fun _ h => h)) | exact Yl.load rfl rfl (by kernel_rfl) (Sl.vw hS2 rfl (by omega) (fun _ h => h)) | exact Yl.load rfl rfl (by kernel_rfl) (Hp.cell mem0 rfl) | exact Yl.load rfl rfl (by kernel_rfl) (Hp.cell mem1 rfl) | exact Yl.load rfl rfl (by kernel_rfl) (Hp.cell mem2 rfl) | exact Yl.load rfl rfl (by kernel_rfl) (Hp.cell mem3 rfl) | exact Yl.load rfl rfl (by kernel_rfl) (Hp.cell mem4 rfl) | exact Yl.load rfl rfl (by kernel_rfl) (Hp.rowAt mem0 (by omega) rfl) | exact Yl.load rfl rfl (by kernel_rfl) (Hp.rowAt mem1 (by omega) rfl) | exact Yl.load rfl rfl (by kernel_rfl) (Hp.rowAt mem2 (by omega) rfl) | exact Yl.load rfl rfl (by kernel_rfl) (Hp.rowAt mem3 (by omega) rfl) | exact Yl.load rfl rfl (by kernel_rfl) (Hp.rowAt mem4 (by omega) rfl)
        refine' TA.y (i := 8) #[true, true, true, true, true, true, true, true, true] rfl rfl rfl (by kernel_rfl) (fun _ _ _ h => h) (fun _ h => by exact Hp.sub h (by repeat (first | exact List.Sublist.refl _ | apply List.Sublist.cons))) rfl ?hy22 ?_
        case hy22 => exact Yl.bin rfl rfl rfl (Bin.neq _ _ _ _)
        refine TA.done (by kernel_rfl) ?_
        refine TE.next ?_
        refine TC.cond rfl (fun hs25 => ?_) (fun hs25 => ?_)
        · skip
          (try simp only [decide_eq_true_eq, decide_eq_false_iff_not, beq_iff_eq, beq_eq_false_iff_ne, bne_iff_ne, ne_eq, bne_eq_false_iff_eq, Bool.not_eq_true', Bool.not_eq_false', Int.not_lt, Int.not_le, gt_iff_lt, ge_iff_le] at hs25)
          refine TC.seq ?_
          refine TC.region ?_
          refine' TL.y rfl rfl rfl ?hy23 ?_
          case hy23 => exact Yl.assign rfl rfl
          refine TL.nil ?_
          refine TE.next ?_
          refine TC.ret ?_
          refine TE.inRet ?_
          refine TE.thenRet ?_
          refine TE.thenRet ?_
          refine TE.inRet ?_
          refine TE.thenRet ?_
          refine TE.ret1 rfl rfl ?_
          exact fun w h => ⟨by rw [decide_eq_false (fun e => hs25 (e.2 i (by omega)))], h.below⟩
        · skip
          (try simp only [decide_eq_true_eq, decide_eq_false_iff_not, beq_iff_eq, beq_eq_false_iff_ne, bne_iff_ne, ne_eq, bne_eq_false_iff_eq, Bool.not_eq_true', Bool.not_eq_false', Int.not_lt, Int.not_le, gt_iff_lt, ge_iff_le] at hs25)
          refine TC.skip ?_
          refine TE.inNormal ?_
          refine TE.next ?_
          refine TC.region ?_
          refine' TL.y rfl rfl rfl ?hy24 ?_
          case hy24 => exact Yl.move rfl rfl
          refine' TL.y rfl rfl rfl ?hy25 ?_
          case hy25 => first | (refine Yl.val (Yl.bin rfl rfl rfl (Bin.add _ _ _ _)) (congrArg (Value.int .i64) (i64in ?_ ?_)) <;> omega) | exact Yl.bin rfl rfl rfl (Bin.add _ _ _ _)
          refine' TL.y rfl rfl rfl ?hy26 ?_
          case hy26 => exact Yl.assign rfl rfl
          refine TL.nil ?_
          refine TE.round (i + 1) ?hF27 ?hlt27 ?hs27 ?hm27
          case hF27 => exact ⟨by omega, fun j hj => by
            by_cases e : j = i
            · rw [e]; omega
            · exact hF j (by omega)⟩
          case hlt27 => omega
          case hs27 => exact ⟨rfl, rfl, rfl, trivial⟩
          case hm27 => exact fun _ h => h
      · skip
        (try simp only [decide_eq_true_eq, decide_eq_false_iff_not, beq_iff_eq, beq_eq_false_iff_ne, bne_iff_ne, ne_eq, bne_eq_false_iff_eq, Bool.not_eq_true', Bool.not_eq_false', Int.not_lt, Int.not_le, gt_iff_lt, ge_iff_le] at hs14)
        refine TC.exit ?_
        refine TE.thenExit ?_
        refine TE.thenExit ?_
        refine TE.inHere ?_
        refine TE.next ?_
        refine TC.seq ?_
        refine TC.region ?_
        refine' TL.y rfl rfl rfl ?hy28 ?_
        case hy28 => exact Yl.assign rfl rfl
        refine TL.nil ?_
        refine TE.next ?_
        refine TC.ret ?_
        refine TE.ret1 rfl rfl ?_
        exact fun w h => ⟨by rw [decide_eq_true ⟨rfl, fun j hj => hF j (by omega)⟩], h.below⟩
end Go.Proofs.Ythjllhaebanplaa.Pk
