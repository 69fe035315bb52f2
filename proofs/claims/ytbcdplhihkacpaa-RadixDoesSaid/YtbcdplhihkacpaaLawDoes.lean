/- Each call answers as the document says. -/
import Derived.Test.YtbcdplhihkacpaaRxW
import Derived.Test.YtbcdplhihkacpaaProg
import Derived.RowKit3
namespace Go.Proofs.Ytbcdplhihkacpaa.Pk
open Go Go.RowKit Go.Proofs.Ytbcdplhihkacpaa.HL Go.Proofs.Ytbcdplhihkacpaa.Ev Go.Proofs.YtbcdplhihkacpaaW.PrintWords Go.Proofs.RxP
set_option linter.unusedVariables false
set_option linter.unusedSimpArgs false
attribute [local irreducible] btw rowA nth ents Iw Aw stS stM walkL pagesL gI dpS rk nodes
theorem rf_new {W0 w : World} {T : Nat → Prop} {H : List Res} {b : Nat} (h : Hp W0 T (blk b (.cells #[.slice none 0 0] 44 (0, 0)) :: H) w) : Hp W0 T (Rf b (.slice none 0 0) (fun _ => none) :: H) w := by
  unfold Rf
  rw [ents_empty]
  exact Hp.tostar (Hp.swap (rowP_nil h))
theorem rf_shape {W : World} {b : Nat} {v : Value} {S : Sf} (h : (Rf b v S).holds W) : ∃ A c, v = .slice A (rk S 65536) c := by
  have h2 : (rowP v (ents S 65536)).holds W := h.2.1
  have h3 := Hp.ownSl (W0 := W) (T := (rowP v (ents S 65536)).foot) (H := [rowP v (ents S 65536)]) (e := 60) (size := 2) (m := (ents S 65536).length) (xs := Pw (ents S 65536)) mem0 W (Hp.enter h2)
  rw [Rf.len] at h3
  exact h3
theorem rf_cell {W0 : World} {T : Nat → Prop} {H : List Res} {b : Nat} {v : Value} {S : Sf} (hm : Rf b v S ∈ H) : ∀ w, Hp W0 T H w → w.cell? ⟨b, 0, none⟩ = some v := fun w h => by
  have h1 : w.heap[b]? = some (.cells #[v] 44 (0, 0)) := (h.all _ hm).1
  rw [blk_cell h1]; rfl
theorem pathL_len (n : Int) : (pathL n).length ≤ 4 := by unfold pathL; split <;> simp
set_option maxRecDepth 100000 in
set_option maxHeartbeats 2000000 in
theorem law_does (W : World) {m : Nat} {f : Nat → Ac} {A : Option Addr} {cp : Nat} (hS : Sl W A (Aw m f)) (hm : m ≤ 9223372036854775807) (n a t : Int) : Calls Try.prog 6 #[.slice A m cp, .int .i64 n, .int .i64 a, .int .i64 t] W fun e w' => e = .returned (.bool true) ∧ Below W.heap.size W w' := by
  have hM : Hp W (fun _ => False) [] W := Hp.start
  refine TC.enter (n := 150) Try.func6 rfl rfl rfl hM ?_
  refine TC.seq ?_
  refine TC.region ?_
  refine' TL.y rfl rfl rfl ?hy1 ?_
  case hy1 => exact Yl.assign rfl rfl
  refine TL.nil ?_
  refine TE.next ?_
  refine TC.seq ?_
  refine TC.region ?_
  refine' TL.c rfl rfl rfl ?hy2 ?_
  case hy2 => exact Yc.call rfl Try.func10 (by kernel_rfl) rfl rfl (Hp.calls (fun w h => k_works w))
  intro _
  refine' TL.y rfl rfl rfl ?hy3 ?_
  case hy3 => exact Yl.assign rfl rfl
  refine TL.nil ?_
  refine TE.next ?_
  refine TC.seq ?_
  refine TC.seq ?_
  refine TC.region ?_
  refine' TL.y rfl rfl rfl ?hy4 ?_
  case hy4 => exact Yl.move rfl rfl
  refine' TL.y rfl rfl rfl ?hy5 ?_
  case hy5 => exact Yl.not rfl rfl
  refine TL.nil ?_
  refine TE.next ?_
  refine TC.no rfl rfl ?_
  refine TC.skip ?_
  refine TE.next ?_
  refine TC.seq ?_
  refine TC.seq ?_
  refine TC.region ?_
  refine' TL.y rfl rfl rfl ?hy6 ?_
  case hy6 => exact Yl.move rfl rfl
  refine' TL.y rfl rfl rfl ?hy7 ?_
  case hy7 => exact Yl.len rfl rfl Try.underlying22
  refine' TL.y rfl rfl rfl ?hy8 ?_
  case hy8 => exact Yl.bin rfl rfl rfl (Bin.gtr _ _ _ _)
  refine TL.nil ?_
  refine TE.next ?_
  refine TC.cond rfl (fun hs26 => ?_) (fun hs26 => ?_)
  · skip
    (try simp only [decide_eq_true_eq, decide_eq_false_iff_not, beq_iff_eq, beq_eq_false_iff_ne, bne_iff_ne, ne_eq, bne_eq_false_iff_eq, Bool.not_eq_true', Bool.not_eq_false', Int.not_lt, Int.not_le, gt_iff_lt, ge_iff_le] at hs26)
    refine TC.seq ?_
    refine TC.region ?_
    refine' TL.y rfl rfl rfl ?hy9 ?_
    case hy9 => exact Yl.move rfl rfl
    refine' TL.y rfl rfl rfl ?hy10 ?_
    case hy10 => exact Yl.assign rfl rfl
    refine TL.nil ?_
    refine TE.next ?_
    refine TC.ret ?_
    refine TE.thenRet ?_
    refine TE.ret1 rfl rfl ?_
    exact fun w h => ⟨rfl, (h.sub (List.nil_sublist _)).below⟩
  · skip
    (try simp only [decide_eq_true_eq, decide_eq_false_iff_not, beq_iff_eq, beq_eq_false_iff_ne, bne_iff_ne, ne_eq, bne_eq_false_iff_eq, Bool.not_eq_true', Bool.not_eq_false', Int.not_lt, Int.not_le, gt_iff_lt, ge_iff_le] at hs26)
    refine TC.skip ?_
    refine TE.next ?_
    refine TC.seq ?_
    refine TC.region ?_
    refine' TL.c rfl rfl rfl ?hy11 ?_
    case hy11 => exact Yc.call rfl Try.func11 (by kernel_rfl) rfl rfl (Hp.news (fun w h => k_new w))
    intro b
    refine' TL.y rfl rfl rfl ?hy12 ?_
    case hy12 => exact Yl.assign rfl rfl
    refine TL.nil ?_
    refine TE.next ?_
    refine TC.seq ?_
    refine TC.region ?_
    refine' TL.y rfl rfl rfl ?hy13 ?_
    case hy13 => exact Yl.build (z := .agg #[.slice none 0 0]) [(0, 1)] rfl (by kernel_rfl) Try.underlying44 (by kernel_rfl) rfl rfl
    refine' TL.mx rfl rfl rfl ?hy14 ?_
    case hy14 => exact Ym.box rfl rfl
    intro b30
    refine' TL.y rfl rfl rfl ?hy15 ?_
    case hy15 => exact Yl.assign rfl rfl
    refine TL.nil ?_
    refine TE.next ?_
    refine TC.seq ?_
    refine TC.seq ?_
    refine TC.region ?_
    refine' TL.y rfl rfl rfl ?hy16 ?_
    case hy16 => exact Yl.assign rfl rfl
    refine TL.nil ?_
    refine TE.next ?_
    refine TC.block ?_
    refine TC.loop (σ := Nat × St × Value) (fun s => [(0, .slice A m cp), (1, .int .i64 n), (2, .int .i64 a), (3, .int .i64 t), (9, .bool true), (10, .pointer (some ⟨b, 0, none⟩)), (11, .pointer (some ⟨b30, 0, none⟩)), (12, .int .i64 (s.1 : Int))]) (fun s => Hp W (fun _ => False) [Rf b30 s.2.2 (stM f s.1), tabR s.2.1]) (fun s => s.1 ≤ m ∧ Tab s.2.1 (stM f s.1) b) (fun s => m - s.1) (0, st0 b, .slice none 0 0) ?hF17 ?hs17 ?hm17 ?round17
    case hF17 => exact ⟨Nat.zero_le _, by show Tab _ (stM f 0) b; rw [stM]; exact Tab.new b⟩
    case hs17 => exact ⟨rfl, rfl, rfl, rfl, rfl, rfl, rfl, rfl, trivial⟩
    case hm17 => exact fun w h => by dsimp only; rw [stM]; exact rf_new h
    case round17 =>
      rintro ⟨i, st, v⟩ ⟨hi, hTab⟩
      dsimp only at hi hTab ⊢
      refine TC.seq ?_
      refine TC.seq ?_
      refine TC.region ?_
      refine' TL.y rfl rfl rfl ?hy18 ?_
      case hy18 => exact Yl.move rfl rfl
      refine' TL.y rfl rfl rfl ?hy19 ?_
      case hy19 => exact Yl.move rfl rfl
      refine' TL.y rfl rfl rfl ?hy20 ?_
      case hy20 => exact Yl.len rfl rfl Try.underlying22
      refine' TL.y rfl rfl rfl ?hy21 ?_
      case hy21 => exact Yl.bin rfl rfl rfl (Bin.lss _ _ _ _)
      refine TL.nil ?_
      refine TE.next ?_
      refine TC.cond rfl (fun hs34 => ?_) (fun hs34 => ?_)
      · skip
        (try simp only [decide_eq_true_eq, decide_eq_false_iff_not, beq_iff_eq, beq_eq_false_iff_ne, bne_iff_ne, ne_eq, bne_eq_false_iff_eq, Bool.not_eq_true', Bool.not_eq_false', Int.not_lt, Int.not_le, gt_iff_lt, ge_iff_le] at hs34)
        have him : i < m := by omega
        obtain ⟨b0, o0, rfl⟩ := Sl.some2 hS (by rw [Aw_length]; omega)
        refine TC.skip ?_
        refine TE.next ?_
        refine TC.seq ?_
        refine TC.block ?_
        refine TC.meet (σ := St × Value) (fun s => [(0, .slice (some ⟨b0, o0, none⟩) m cp), (1, .int .i64 n), (2, .int .i64 a), (3, .int .i64 t), (9, .bool true), (10, .pointer (some ⟨b, 0, none⟩)), (11, .pointer (some ⟨b30, 0, none⟩)), (12, .int .i64 (i : Int))]) (fun s => Hp W (fun _ => False) [Rf b30 s.2 (stM f (i + 1)), tabR s.1]) (fun s => Tab s.1 (stM f (i + 1)) b) ?hx22 ?hy22
        case hx22 =>
          refine TC.seq ?_
          refine TC.region ?_
          refine' TL.y rfl rfl rfl ?hy23 ?_
          case hy23 => exact Yl.move rfl rfl
          refine' TL.y rfl rfl rfl ?hy24 ?_
          case hy24 => exact Yl.move rfl rfl
          refine' TL.y rfl rfl rfl ?hy25 ?_
          case hy25 => first | exact Yl.ixkn (k := 3) rfl rfl rfl Try.underlying22 (by kernel_rfl) (by omega) | exact Yl.ixkz (k := 3) rfl rfl rfl Try.underlying22 (by kernel_rfl) (by omega) (by omega)
          refine' TL.y rfl rfl rfl ?hy26 ?_
          case hy26 => first | exact Yl.field0 (k := 0) 2 rfl rfl Try.underlying30 rfl (by kernel_rfl) rfl | exact Yl.field (k := 0) 2 rfl rfl Try.underlying30 rfl (by kernel_rfl) rfl
          refine' TL.y rfl rfl rfl ?hy27 ?_
          case hy27 => exact Yl.load rfl rfl (by kernel_rfl) (Sl.aw hS (i := 2) rfl (by omega) (by decide))
          refine TL.re (i := 41) (v' := .bool ((f i).2.2)) rfl rfl ?_
          refine TL.nil ?_
          refine TE.next ?_
          refine TC.cond rfl (fun hs41 => ?_) (fun hs41 => ?_)
          · skip
            (try simp only [decide_eq_true_eq, decide_eq_false_iff_not, beq_iff_eq, beq_eq_false_iff_ne, bne_iff_ne, ne_eq, bne_eq_false_iff_eq, Bool.not_eq_true', Bool.not_eq_false', Int.not_lt, Int.not_le, gt_iff_lt, ge_iff_le] at hs41)
            have hoff : (f i).2.2 = true := by simpa using hs41
            refine TC.seq ?_
            refine TC.region ?_
            refine' TL.y rfl rfl rfl ?hy28 ?_
            case hy28 => exact Yl.move rfl rfl
            refine' TL.y rfl rfl rfl ?hy29 ?_
            case hy29 => exact Yl.move rfl rfl
            refine' TL.y rfl rfl rfl ?hy30 ?_
            case hy30 => exact Yl.move rfl rfl
            refine' TL.y rfl rfl rfl ?hy31 ?_
            case hy31 => first | exact Yl.ixkn (k := 3) rfl rfl rfl Try.underlying22 (by kernel_rfl) (by omega) | exact Yl.ixkz (k := 3) rfl rfl rfl Try.underlying22 (by kernel_rfl) (by omega) (by omega)
            refine' TL.y rfl rfl rfl ?hy32 ?_
            case hy32 => first | exact Yl.field0 (k := 0) 0 rfl rfl Try.underlying30 rfl (by kernel_rfl) rfl | exact Yl.field (k := 0) 0 rfl rfl Try.underlying30 rfl (by kernel_rfl) rfl
            refine' TL.y rfl rfl rfl ?hy33 ?_
            case hy33 => exact Yl.load rfl rfl (by kernel_rfl) (Sl.aw hS (i := 0) rfl (by omega) (by decide))
            refine TL.re (i := 47) (v' := .int .i64 ((f i).1)) rfl rfl ?_
            refine' TL.c rfl rfl rfl ?hy34 ?_
            case hy34 => exact Yc.call rfl Try.func18 (by kernel_rfl) rfl rfl (Hp.turnx mem1 (fun s => foc1) (k_drop hTab (f i).1))
            intro ⟨st2, hT2⟩
            dsimp only
            have hT3 : Tab st2 (stM f (i + 1)) b := by rw [stM, if_pos hoff]; exact hT2
            refine' TL.y rfl rfl rfl ?hy35 ?_
            case hy35 => exact Yl.assign rfl rfl
            refine TL.nil ?_
            refine TE.next ?_
            refine TC.seq ?_
            refine TC.region ?_
            refine' TL.y rfl rfl rfl ?hy36 ?_
            case hy36 => exact Yl.move rfl rfl
            refine' TL.y rfl rfl rfl ?hy37 ?_
            case hy37 => exact Yl.move rfl rfl
            refine' TL.y rfl rfl rfl ?hy38 ?_
            case hy38 => exact Yl.move rfl rfl
            refine' TL.y rfl rfl rfl ?hy39 ?_
            case hy39 => first | exact Yl.ixkn (k := 3) rfl rfl rfl Try.underlying22 (by kernel_rfl) (by omega) | exact Yl.ixkz (k := 3) rfl rfl rfl Try.underlying22 (by kernel_rfl) (by omega) (by omega)
            refine' TL.y rfl rfl rfl ?hy40 ?_
            case hy40 => first | exact Yl.field0 (k := 0) 0 rfl rfl Try.underlying30 rfl (by kernel_rfl) rfl | exact Yl.field (k := 0) 0 rfl rfl Try.underlying30 rfl (by kernel_rfl) rfl
            refine' TL.y rfl rfl rfl ?hy41 ?_
            case hy41 => exact Yl.load rfl rfl (by kernel_rfl) (Sl.aw hS (i := 0) rfl (by omega) (by decide))
            refine TL.re (i := 54) (v' := .int .i64 ((f i).1)) rfl rfl ?_
            refine' TL.c rfl rfl rfl ?hy42 ?_
            case hy42 => exact Yc.call rfl Try.func19 (by kernel_rfl) rfl rfl (Hp.turnx mem0 (fun s => foc0) (k_rdrop (f i).1))
            intro v2
            refine' TL.y rfl rfl rfl ?hy43 ?_
            case hy43 => exact Yl.assign rfl rfl
            refine TL.nil ?_
            refine TE.next ?_
            refine TC.seq ?_
            refine TC.region ?_
            refine' TL.y rfl rfl rfl ?hy44 ?_
            case hy44 => exact Yl.move rfl rfl
            refine' TL.y rfl rfl rfl ?hy45 ?_
            case hy45 => exact Yl.move rfl rfl
            refine' TL.y rfl rfl rfl ?hy46 ?_
            case hy46 => exact Yl.bin rfl rfl rfl (Bin.neqB _ _ _ (by kernel_rfl))
            refine TL.nil ?_
            refine TE.next ?_
            refine TC.no rfl (by simp) ?_
            refine TC.skip ?_
            refine TE.met (st2, v2) ?hF47 ?hs47 ?hm47
            case hF47 => exact hT3
            case hs47 => exact ⟨rfl, rfl, rfl, rfl, rfl, rfl, rfl, rfl, trivial⟩
            case hm47 => exact fun w h => by dsimp only; rw [stM, if_pos hoff]; exact h
          · skip
            (try simp only [decide_eq_true_eq, decide_eq_false_iff_not, beq_iff_eq, beq_eq_false_iff_ne, bne_iff_ne, ne_eq, bne_eq_false_iff_eq, Bool.not_eq_true', Bool.not_eq_false', Int.not_lt, Int.not_le, gt_iff_lt, ge_iff_le] at hs41)
            have hoff : ¬ (f i).2.2 = true := by simpa using hs41
            refine TC.seq ?_
            refine TC.draw (k := 13) (Hp W (fun _ => False) []) [] #[false, false, false, false, false, false, false, false, false, false, false, false, false] (by kernel_rfl) rfl rfl (fun _ h => h.drew) (fun _ h => by exact Hp.sub h (by repeat (first | exact List.Sublist.refl _ | exact List.nil_sublist _ | apply List.Sublist.cons_cons | apply List.Sublist.cons))) ?_
            refine' TA.y (i := 0) #[true, false, false, false, false, false, false, false, false, false, false, false, false] rfl rfl rfl (by kernel_rfl) (fun _ _ _ h => h) (fun _ h => by exact Hp.sub h (by repeat (first | exact List.Sublist.refl _ | exact List.nil_sublist _ | apply List.Sublist.cons_cons | apply List.Sublist.cons))) rfl ?hy48 ?_
            case hy48 => exact Yl.move rfl rfl
            refine' TA.y (i := 1) #[true, true, false, false, false, false, false, false, false, false, false, false, false] rfl rfl rfl (by kernel_rfl) (fun _ _ _ h => h) (fun _ h => by exact Hp.sub h (by repeat (first | exact List.Sublist.refl _ | exact List.nil_sublist _ | apply List.Sublist.cons_cons | apply List.Sublist.cons))) rfl ?hy49 ?_
            case hy49 => exact Yl.move rfl rfl
            refine' TA.y (i := 2) #[true, true, true, false, false, false, false, false, false, false, false, false, false] rfl rfl rfl (by kernel_rfl) (fun _ _ _ h => h) (fun _ h => by exact Hp.sub h (by repeat (first | exact List.Sublist.refl _ | exact List.nil_sublist _ | apply List.Sublist.cons_cons | apply List.Sublist.cons))) rfl ?hy50 ?_
            case hy50 => exact Yl.move rfl rfl
            refine' TA.y (i := 3) #[true, true, true, true, false, false, false, false, false, false, false, false, false] rfl rfl rfl (by kernel_rfl) (fun _ _ _ h => h) (fun _ h => by exact Hp.sub h (by repeat (first | exact List.Sublist.refl _ | exact List.nil_sublist _ | apply List.Sublist.cons_cons | apply List.Sublist.cons))) rfl ?hy51 ?_
            case hy51 => first | exact Yl.ixkn (k := 3) rfl rfl rfl Try.underlying22 (by kernel_rfl) (by omega) | exact Yl.ixkz (k := 3) rfl rfl rfl Try.underlying22 (by kernel_rfl) (by omega) (by omega)
            refine' TA.y (i := 4) #[true, true, true, true, true, false, false, false, false, false, false, false, false] rfl rfl rfl (by kernel_rfl) (fun _ _ _ h => h) (fun _ h => by exact Hp.sub h (by repeat (first | exact List.Sublist.refl _ | exact List.nil_sublist _ | apply List.Sublist.cons_cons | apply List.Sublist.cons))) rfl ?hy52 ?_
            case hy52 => first | exact Yl.field0 (k := 0) 0 rfl rfl Try.underlying30 rfl (by kernel_rfl) rfl | exact Yl.field (k := 0) 0 rfl rfl Try.underlying30 rfl (by kernel_rfl) rfl
            refine' TA.y (i := 5) #[true, true, true, true, true, true, false, false, false, false, false, false, false] rfl rfl rfl (by kernel_rfl) (fun _ _ _ h => h) (fun _ h => by exact Hp.sub h (by repeat (first | exact List.Sublist.refl _ | exact List.nil_sublist _ | apply List.Sublist.cons_cons | apply List.Sublist.cons))) rfl ?hy53 ?_
            case hy53 => exact Yl.load rfl rfl (by kernel_rfl) (Sl.aw hS (i := 0) rfl (by omega) (by decide))
            refine TA.re (i := 64) (v' := .int .i64 ((f i).1)) rfl rfl ?_
            refine' TA.y (i := 6) #[true, true, true, true, true, true, true, false, false, false, false, false, false] rfl rfl rfl (by kernel_rfl) (fun _ _ _ h => h) (fun _ h => by exact Hp.sub h (by repeat (first | exact List.Sublist.refl _ | exact List.nil_sublist _ | apply List.Sublist.cons_cons | apply List.Sublist.cons))) rfl ?hy54 ?_
            case hy54 => exact Yl.move rfl rfl
            refine' TA.y (i := 7) #[true, true, true, true, true, true, true, true, false, false, false, false, false] rfl rfl rfl (by kernel_rfl) (fun _ _ _ h => h) (fun _ h => by exact Hp.sub h (by repeat (first | exact List.Sublist.refl _ | exact List.nil_sublist _ | apply List.Sublist.cons_cons | apply List.Sublist.cons))) rfl ?hy55 ?_
            case hy55 => exact Yl.move rfl rfl
            refine' TA.y (i := 8) #[true, true, true, true, true, true, true, true, true, false, false, false, false] rfl rfl rfl (by kernel_rfl) (fun _ _ _ h => h) (fun _ h => by exact Hp.sub h (by repeat (first | exact List.Sublist.refl _ | exact List.nil_sublist _ | apply List.Sublist.cons_cons | apply List.Sublist.cons))) rfl ?hy56 ?_
            case hy56 => first | exact Yl.ixkn (k := 3) rfl rfl rfl Try.underlying22 (by kernel_rfl) (by omega) | exact Yl.ixkz (k := 3) rfl rfl rfl Try.underlying22 (by kernel_rfl) (by omega) (by omega)
            refine' TA.y (i := 9) #[true, true, true, true, true, true, true, true, true, true, false, false, false] rfl rfl rfl (by kernel_rfl) (fun _ _ _ h => h) (fun _ h => by exact Hp.sub h (by repeat (first | exact List.Sublist.refl _ | exact List.nil_sublist _ | apply List.Sublist.cons_cons | apply List.Sublist.cons))) rfl ?hy57 ?_
            case hy57 => first | exact Yl.field0 (k := 0) 1 rfl rfl Try.underlying30 rfl (by kernel_rfl) rfl | exact Yl.field (k := 0) 1 rfl rfl Try.underlying30 rfl (by kernel_rfl) rfl
            refine' TA.y (i := 10) #[true, true, true, true, true, true, true, true, true, true, true, false, false] rfl rfl rfl (by kernel_rfl) (fun _ _ _ h => h) (fun _ h => by exact Hp.sub h (by repeat (first | exact List.Sublist.refl _ | exact List.nil_sublist _ | apply List.Sublist.cons_cons | apply List.Sublist.cons))) rfl ?hy58 ?_
            case hy58 => exact Yl.load rfl rfl (by kernel_rfl) (Sl.aw hS (i := 1) rfl (by omega) (by decide))
            refine TA.re (i := 69) (v' := .int .u64 ((f i).2.1)) rfl rfl ?_
            refine' TA.c (i := 11) #[true, true, true, true, true, true, true, true, true, true, true, true, false] rfl rfl rfl (by kernel_rfl) (by decide) rfl ?hy59 ?hz59 ?_
            case hy59 => exact Yc.call rfl Try.func12 (by kernel_rfl) rfl rfl (Hp.turnx mem1 (fun s => foc1) (k_set hTab (f i).1 (f i).2.1))
            case hz59 => exact (fun _ _ h => by exact Hp.sub h (by repeat (first | exact List.Sublist.refl _ | exact List.nil_sublist _ | apply List.Sublist.cons_cons | apply List.Sublist.cons)))
            intro ⟨st2, hT2⟩
            dsimp only
            have hT3 : Tab st2 (stM f (i + 1)) b := by rw [stM, if_neg hoff]; exact hT2
            refine' TA.y (i := 12) #[true, true, true, true, true, true, true, true, true, true, true, true, true] rfl rfl rfl (by kernel_rfl) (fun _ _ _ h => h) (fun _ h => by exact Hp.sub h (by repeat (first | exact List.Sublist.refl _ | exact List.nil_sublist _ | apply List.Sublist.cons_cons | apply List.Sublist.cons))) rfl ?hy60 ?_
            case hy60 => exact Yl.assign rfl rfl
            refine TA.done (by kernel_rfl) ?_
            refine TE.next ?_
            refine TC.seq ?_
            refine TC.draw (k := 13) (Hp W (fun _ => False) []) [] #[false, false, false, false, false, false, false, false, false, false, false, false, false] (by kernel_rfl) rfl rfl (fun _ h => h.drew) (fun _ h => by exact Hp.sub h (by repeat (first | exact List.Sublist.refl _ | exact List.nil_sublist _ | apply List.Sublist.cons_cons | apply List.Sublist.cons))) ?_
            refine' TA.y (i := 0) #[true, false, false, false, false, false, false, false, false, false, false, false, false] rfl rfl rfl (by kernel_rfl) (fun _ _ _ h => h) (fun _ h => by exact Hp.sub h (by repeat (first | exact List.Sublist.refl _ | exact List.nil_sublist _ | apply List.Sublist.cons_cons | apply List.Sublist.cons))) rfl ?hy61 ?_
            case hy61 => exact Yl.move rfl rfl
            refine' TA.y (i := 1) #[true, true, false, false, false, false, false, false, false, false, false, false, false] rfl rfl rfl (by kernel_rfl) (fun _ _ _ h => h) (fun _ h => by exact Hp.sub h (by repeat (first | exact List.Sublist.refl _ | exact List.nil_sublist _ | apply List.Sublist.cons_cons | apply List.Sublist.cons))) rfl ?hy62 ?_
            case hy62 => exact Yl.move rfl rfl
            refine' TA.y (i := 2) #[true, true, true, false, false, false, false, false, false, false, false, false, false] rfl rfl rfl (by kernel_rfl) (fun _ _ _ h => h) (fun _ h => by exact Hp.sub h (by repeat (first | exact List.Sublist.refl _ | exact List.nil_sublist _ | apply List.Sublist.cons_cons | apply List.Sublist.cons))) rfl ?hy63 ?_
            case hy63 => exact Yl.move rfl rfl
            refine' TA.y (i := 3) #[true, true, true, true, false, false, false, false, false, false, false, false, false] rfl rfl rfl (by kernel_rfl) (fun _ _ _ h => h) (fun _ h => by exact Hp.sub h (by repeat (first | exact List.Sublist.refl _ | exact List.nil_sublist _ | apply List.Sublist.cons_cons | apply List.Sublist.cons))) rfl ?hy64 ?_
            case hy64 => first | exact Yl.ixkn (k := 3) rfl rfl rfl Try.underlying22 (by kernel_rfl) (by omega) | exact Yl.ixkz (k := 3) rfl rfl rfl Try.underlying22 (by kernel_rfl) (by omega) (by omega)
            refine' TA.y (i := 4) #[true, true, true, true, true, false, false, false, false, false, false, false, false] rfl rfl rfl (by kernel_rfl) (fun _ _ _ h => h) (fun _ h => by exact Hp.sub h (by repeat (first | exact List.Sublist.refl _ | exact List.nil_sublist _ | apply List.Sublist.cons_cons | apply List.Sublist.cons))) rfl ?hy65 ?_
            case hy65 => first | exact Yl.field0 (k := 0) 0 rfl rfl Try.underlying30 rfl (by kernel_rfl) rfl | exact Yl.field (k := 0) 0 rfl rfl Try.underlying30 rfl (by kernel_rfl) rfl
            refine' TA.y (i := 5) #[true, true, true, true, true, true, false, false, false, false, false, false, false] rfl rfl rfl (by kernel_rfl) (fun _ _ _ h => h) (fun _ h => by exact Hp.sub h (by repeat (first | exact List.Sublist.refl _ | exact List.nil_sublist _ | apply List.Sublist.cons_cons | apply List.Sublist.cons))) rfl ?hy66 ?_
            case hy66 => exact Yl.load rfl rfl (by kernel_rfl) (Sl.aw hS (i := 0) rfl (by omega) (by decide))
            refine TA.re (i := 76) (v' := .int .i64 ((f i).1)) rfl rfl ?_
            refine' TA.y (i := 6) #[true, true, true, true, true, true, true, false, false, false, false, false, false] rfl rfl rfl (by kernel_rfl) (fun _ _ _ h => h) (fun _ h => by exact Hp.sub h (by repeat (first | exact List.Sublist.refl _ | exact List.nil_sublist _ | apply List.Sublist.cons_cons | apply List.Sublist.cons))) rfl ?hy67 ?_
            case hy67 => exact Yl.move rfl rfl
            refine' TA.y (i := 7) #[true, true, true, true, true, true, true, true, false, false, false, false, false] rfl rfl rfl (by kernel_rfl) (fun _ _ _ h => h) (fun _ h => by exact Hp.sub h (by repeat (first | exact List.Sublist.refl _ | exact List.nil_sublist _ | apply List.Sublist.cons_cons | apply List.Sublist.cons))) rfl ?hy68 ?_
            case hy68 => exact Yl.move rfl rfl
            refine' TA.y (i := 8) #[true, true, true, true, true, true, true, true, true, false, false, false, false] rfl rfl rfl (by kernel_rfl) (fun _ _ _ h => h) (fun _ h => by exact Hp.sub h (by repeat (first | exact List.Sublist.refl _ | exact List.nil_sublist _ | apply List.Sublist.cons_cons | apply List.Sublist.cons))) rfl ?hy69 ?_
            case hy69 => first | exact Yl.ixkn (k := 3) rfl rfl rfl Try.underlying22 (by kernel_rfl) (by omega) | exact Yl.ixkz (k := 3) rfl rfl rfl Try.underlying22 (by kernel_rfl) (by omega) (by omega)
            refine' TA.y (i := 9) #[true, true, true, true, true, true, true, true, true, true, false, false, false] rfl rfl rfl (by kernel_rfl) (fun _ _ _ h => h) (fun _ h => by exact Hp.sub h (by repeat (first | exact List.Sublist.refl _ | exact List.nil_sublist _ | apply List.Sublist.cons_cons | apply List.Sublist.cons))) rfl ?hy70 ?_
            case hy70 => first | exact Yl.field0 (k := 0) 1 rfl rfl Try.underlying30 rfl (by kernel_rfl) rfl | exact Yl.field (k := 0) 1 rfl rfl Try.underlying30 rfl (by kernel_rfl) rfl
            refine' TA.y (i := 10) #[true, true, true, true, true, true, true, true, true, true, true, false, false] rfl rfl rfl (by kernel_rfl) (fun _ _ _ h => h) (fun _ h => by exact Hp.sub h (by repeat (first | exact List.Sublist.refl _ | exact List.nil_sublist _ | apply List.Sublist.cons_cons | apply List.Sublist.cons))) rfl ?hy71 ?_
            case hy71 => exact Yl.load rfl rfl (by kernel_rfl) (Sl.aw hS (i := 1) rfl (by omega) (by decide))
            refine TA.re (i := 81) (v' := .int .u64 ((f i).2.1)) rfl rfl ?_
            refine' TA.c (i := 11) #[true, true, true, true, true, true, true, true, true, true, true, true, false] rfl rfl rfl (by kernel_rfl) (by decide) rfl ?hy72 ?hz72 ?_
            case hy72 => exact Yc.call rfl Try.func20 (by kernel_rfl) rfl rfl (Hp.turnx mem0 (fun s => foc0) (k_rset (f i).1 (f i).2.1))
            case hz72 => exact (fun _ _ h => by exact Hp.sub h (by repeat (first | exact List.Sublist.refl _ | exact List.nil_sublist _ | apply List.Sublist.cons_cons | apply List.Sublist.cons)))
            intro v2
            refine' TA.y (i := 12) #[true, true, true, true, true, true, true, true, true, true, true, true, true] rfl rfl rfl (by kernel_rfl) (fun _ _ _ h => h) (fun _ h => by exact Hp.sub h (by repeat (first | exact List.Sublist.refl _ | exact List.nil_sublist _ | apply List.Sublist.cons_cons | apply List.Sublist.cons))) rfl ?hy73 ?_
            case hy73 => exact Yl.assign rfl rfl
            refine TA.done (by kernel_rfl) ?_
            refine TE.next ?_
            refine TC.seq ?_
            refine TC.region ?_
            refine' TL.y rfl rfl rfl ?hy74 ?_
            case hy74 => exact Yl.move rfl rfl
            refine' TL.y rfl rfl rfl ?hy75 ?_
            case hy75 => exact Yl.move rfl rfl
            refine' TL.y rfl rfl rfl ?hy76 ?_
            case hy76 => exact Yl.bin rfl rfl rfl (Bin.neq _ _ _ _)
            refine TL.nil ?_
            refine TE.next ?_
            refine TC.no rfl (by simp) ?_
            refine TC.skip ?_
            refine TE.met (st2, v2) ?hF77 ?hs77 ?hm77
            case hF77 => exact hT3
            case hs77 => exact ⟨rfl, rfl, rfl, rfl, rfl, rfl, rfl, rfl, trivial⟩
            case hm77 => exact fun w h => by dsimp only; rw [stM, if_neg hoff]; exact h
        case hy22 =>
          rintro ⟨st2, v2⟩ hT3
          dsimp only at hT3 ⊢
          refine TC.fact (fun w h => rf_shape (h.all _ mem0)) ?_
          rintro ⟨A9, c9, rfl⟩
          refine TC.seq ?_
          refine TC.region ?_
          refine' TL.y rfl rfl rfl ?hy78 ?_
          case hy78 => exact Yl.move rfl rfl
          refine' TL.y rfl rfl rfl ?hy79 ?_
          case hy79 => exact Yl.move rfl rfl
          refine' TL.c rfl rfl rfl ?hy80 ?_
          case hy80 => exact Yc.call rfl Try.func14 (by kernel_rfl) rfl rfl (Hp.calls (fun w h => k_getT w (h.all _ mem1) hT3 n))
          intro _
          refine' TL.y rfl rfl rfl ?hy81 ?_
          case hy81 => exact Yl.move rfl rfl
          refine' TL.y rfl rfl rfl ?hy82 ?_
          case hy82 => exact Yl.extract rfl rfl rfl
          refine' TL.y rfl rfl rfl ?hy83 ?_
          case hy83 => exact Yl.extract rfl rfl rfl
          refine' TL.y rfl rfl rfl ?hy84 ?_
          case hy84 => exact Yl.assign rfl rfl
          refine' TL.y rfl rfl rfl ?hy85 ?_
          case hy85 => exact Yl.assign rfl rfl
          refine TL.nil ?_
          refine TE.next ?_
          refine TC.seq ?_
          refine TC.region ?_
          refine' TL.y rfl rfl rfl ?hy86 ?_
          case hy86 => exact Yl.move rfl rfl
          refine' TL.y rfl rfl rfl ?hy87 ?_
          case hy87 => exact Yl.move rfl rfl
          refine' TL.c rfl rfl rfl ?hy88 ?_
          case hy88 => exact Yc.call rfl Try.func21 (by kernel_rfl) rfl rfl (Hp.calls (fun w h => by obtain ⟨A9, c9, hR⟩ := Rf.at_ (h.all _ mem0); exact k_rget w hR n))
          intro _
          refine' TL.y rfl rfl rfl ?hy89 ?_
          case hy89 => exact Yl.move rfl rfl
          refine' TL.y rfl rfl rfl ?hy90 ?_
          case hy90 => exact Yl.extract rfl rfl rfl
          refine' TL.y rfl rfl rfl ?hy91 ?_
          case hy91 => exact Yl.extract rfl rfl rfl
          refine' TL.y rfl rfl rfl ?hy92 ?_
          case hy92 => exact Yl.assign rfl rfl
          refine' TL.y rfl rfl rfl ?hy93 ?_
          case hy93 => exact Yl.assign rfl rfl
          refine TL.nil ?_
          refine TE.next ?_
          refine TC.seq ?_
          refine TC.draw (k := 37) (Hp W (fun _ => False) [Rf b30 (.slice A9 (rk (stM f (i + 1)) 65536) c9) (stM f (i + 1))]) [] #[false, false, false, false, false, false, false, false, false, false, false, false, false, false, false, false, false, false, false, false, false, false, false, false, false, false, false, false, false, false, false, false, false, false, false, false, false] (by kernel_rfl) rfl rfl (fun _ h => h.drew) (fun _ h => by exact Hp.sub h (by repeat (first | exact List.Sublist.refl _ | exact List.nil_sublist _ | apply List.Sublist.cons_cons | apply List.Sublist.cons))) ?_
          refine' TA.y (i := 0) #[true, false, false, false, false, false, false, false, false, false, false, false, false, false, false, false, false, false, false, false, false, false, false, false, false, false, false, false, false, false, false, false, false, false, false, false, false] rfl rfl rfl (by kernel_rfl) (fun _ _ _ h => h) (fun _ h => by exact Hp.sub h (by repeat (first | exact List.Sublist.refl _ | exact List.nil_sublist _ | apply List.Sublist.cons_cons | apply List.Sublist.cons))) rfl ?hy94 ?_
          case hy94 => exact Yl.move rfl rfl
          refine' TA.y (i := 1) #[true, true, false, false, false, false, false, false, false, false, false, false, false, false, false, false, false, false, false, false, false, false, false, false, false, false, false, false, false, false, false, false, false, false, false, false, false] rfl rfl rfl (by kernel_rfl) (fun _ _ _ h => h) (fun _ h => by exact Hp.sub h (by repeat (first | exact List.Sublist.refl _ | exact List.nil_sublist _ | apply List.Sublist.cons_cons | apply List.Sublist.cons))) rfl ?hy95 ?_
          case hy95 => exact Yl.move rfl rfl
          refine' TA.y (i := 2) #[true, true, true, false, false, false, false, false, false, false, false, false, false, false, false, false, false, false, false, false, false, false, false, false, false, false, false, false, false, false, false, false, false, false, false, false, false] rfl rfl rfl (by kernel_rfl) (fun _ _ _ h => h) (fun _ h => by exact Hp.sub h (by repeat (first | exact List.Sublist.refl _ | exact List.nil_sublist _ | apply List.Sublist.cons_cons | apply List.Sublist.cons))) rfl ?hy96 ?_
          case hy96 => exact Yl.bin rfl rfl rfl (Bin.neq _ _ _ _)
          refine' TA.y (i := 3) #[true, true, true, true, false, false, false, false, false, false, false, false, false, false, false, false, false, false, false, false, false, false, false, false, false, false, false, false, false, false, false, false, false, false, false, false, false] rfl rfl rfl (by kernel_rfl) (fun _ _ _ h => h) (fun _ h => by exact Hp.sub h (by repeat (first | exact List.Sublist.refl _ | exact List.nil_sublist _ | apply List.Sublist.cons_cons | apply List.Sublist.cons))) rfl ?hy97 ?_
          case hy97 => exact Yl.move rfl rfl
          refine TA.re (i := 101) (v' := .bool false) rfl (congrArg Value.bool (by simp)) ?_
          refine' TA.y (i := 4) #[true, true, true, true, true, false, false, false, false, false, false, false, false, false, false, false, false, false, false, false, false, false, false, false, false, false, false, false, false, false, false, false, false, false, false, false, false] rfl rfl rfl (by kernel_rfl) (fun _ _ _ h => h) (fun _ h => by exact Hp.sub h (by repeat (first | exact List.Sublist.refl _ | exact List.nil_sublist _ | apply List.Sublist.cons_cons | apply List.Sublist.cons))) rfl ?hy98 ?_
          case hy98 => exact Yl.move rfl rfl
          refine' TA.y (i := 5) #[true, true, true, true, true, true, false, false, false, false, false, false, false, false, false, false, false, false, false, false, false, false, false, false, false, false, false, false, false, false, false, false, false, false, false, false, false] rfl rfl rfl (by kernel_rfl) (fun _ _ _ h => h) (fun _ h => by exact Hp.sub h (by repeat (first | exact List.Sublist.refl _ | exact List.nil_sublist _ | apply List.Sublist.cons_cons | apply List.Sublist.cons))) rfl ?hy99 ?_
          case hy99 => exact Yl.move rfl rfl
          refine' TA.y (i := 6) #[true, true, true, true, true, true, true, false, false, false, false, false, false, false, false, false, false, false, false, false, false, false, false, false, false, false, false, false, false, false, false, false, false, false, false, false, false] rfl rfl rfl (by kernel_rfl) (fun _ _ _ h => h) (fun _ h => by exact Hp.sub h (by repeat (first | exact List.Sublist.refl _ | exact List.nil_sublist _ | apply List.Sublist.cons_cons | apply List.Sublist.cons))) rfl ?hy100 ?_
          case hy100 => exact Yl.bin rfl rfl rfl (Bin.neqB _ _ _ (by kernel_rfl))
          refine' TA.y (i := 7) #[true, true, true, true, true, true, true, true, false, false, false, false, false, false, false, false, false, false, false, false, false, false, false, false, false, false, false, false, false, false, false, false, false, false, false, false, false] rfl rfl rfl (by kernel_rfl) (fun _ _ _ h => h) (fun _ h => by exact Hp.sub h (by repeat (first | exact List.Sublist.refl _ | exact List.nil_sublist _ | apply List.Sublist.cons_cons | apply List.Sublist.cons))) rfl ?hy101 ?_
          case hy101 => exact Yl.pickF rfl rfl rfl
          refine' TA.y (i := 8) #[true, true, true, true, true, true, true, true, true, false, false, false, false, false, false, false, false, false, false, false, false, false, false, false, false, false, false, false, false, false, false, false, false, false, false, false, false] rfl rfl rfl (by kernel_rfl) (fun _ _ _ h => h) (fun _ h => by exact Hp.sub h (by repeat (first | exact List.Sublist.refl _ | exact List.nil_sublist _ | apply List.Sublist.cons_cons | apply List.Sublist.cons))) rfl ?hy102 ?_
          case hy102 => exact Yl.move rfl rfl
          refine TA.re (i := 106) (v' := .bool false) rfl (congrArg Value.bool (by simp)) ?_
          refine' TA.y (i := 9) #[true, true, true, true, true, true, true, true, true, true, false, false, false, false, false, false, false, false, false, false, false, false, false, false, false, false, false, false, false, false, false, false, false, false, false, false, false] rfl rfl rfl (by kernel_rfl) (fun _ _ _ h => h) (fun _ h => by exact Hp.sub h (by repeat (first | exact List.Sublist.refl _ | exact List.nil_sublist _ | apply List.Sublist.cons_cons | apply List.Sublist.cons))) rfl ?hy103 ?_
          case hy103 => exact Yl.move rfl rfl
          refine' TA.y (i := 11) #[true, true, true, true, true, true, true, true, true, true, false, true, false, false, false, false, false, false, false, false, false, false, false, false, false, false, false, false, false, false, false, false, false, false, false, false, false] rfl rfl rfl (by kernel_rfl) (fun _ _ _ h => h) (fun _ h => by exact Hp.sub h (by repeat (first | exact List.Sublist.refl _ | exact List.nil_sublist _ | apply List.Sublist.cons_cons | apply List.Sublist.cons))) rfl ?hy104 ?_
          case hy104 => exact Yl.move rfl rfl
          refine' TA.y (i := 12) #[true, true, true, true, true, true, true, true, true, true, false, true, true, false, false, false, false, false, false, false, false, false, false, false, false, false, false, false, false, false, false, false, false, false, false, false, false] rfl rfl rfl (by kernel_rfl) (fun _ _ _ h => h) (fun _ h => by exact Hp.sub h (by repeat (first | exact List.Sublist.refl _ | exact List.nil_sublist _ | apply List.Sublist.cons_cons | apply List.Sublist.cons))) rfl ?hy105 ?_
          case hy105 => exact Yl.nilCheck rfl rfl
          refine' TA.y (i := 13) #[true, true, true, true, true, true, true, true, true, true, false, true, true, true, false, false, false, false, false, false, false, false, false, false, false, false, false, false, false, false, false, false, false, false, false, false, false] rfl rfl rfl (by kernel_rfl) (fun _ _ _ h => h) (fun _ h => by exact Hp.sub h (by repeat (first | exact List.Sublist.refl _ | exact List.nil_sublist _ | apply List.Sublist.cons_cons | apply List.Sublist.cons))) rfl ?hy106 ?_
          case hy106 => first | exact Yl.field0 (k := 0) 0 rfl rfl Try.underlying44 rfl (by kernel_rfl) rfl | exact Yl.field (k := 0) 0 rfl rfl Try.underlying44 rfl (by kernel_rfl) rfl
          refine' TA.y (i := 14) #[true, true, true, true, true, true, true, true, true, true, false, true, true, true, true, false, false, false, false, false, false, false, false, false, false, false, false, false, false, false, false, false, false, false, false, false, false] rfl rfl rfl (by kernel_rfl) (fun _ _ _ h => h) (fun _ h => by exact Hp.sub h (by repeat (first | exact List.Sublist.refl _ | exact List.nil_sublist _ | apply List.Sublist.cons_cons | apply List.Sublist.cons))) rfl ?hy107 ?_
          case hy107 => first | exact Yl.load rfl rfl (by kernel_rfl) (rf_cell mem0) | exact Yl.load rfl rfl (by kernel_rfl) (Hp.cell mem0 rfl) | exact Yl.load rfl rfl (by kernel_rfl) (Hp.cell mem1 rfl) | exact Yl.load rfl rfl (by kernel_rfl) (Hp.cell mem2 rfl) | exact Yl.load rfl rfl (by kernel_rfl) (Hp.cell mem3 rfl) | exact Yl.load rfl rfl (by kernel_rfl) (Hp.cell mem4 rfl) | exact Yl.load rfl rfl (by kernel_rfl) (Hp.rowAt mem0 (by omega) rfl) | exact Yl.load rfl rfl (by kernel_rfl) (Hp.rowAt mem1 (by omega) rfl) | exact Yl.load rfl rfl (by kernel_rfl) (Hp.rowAt mem2 (by omega) rfl) | exact Yl.load rfl rfl (by kernel_rfl) (Hp.rowAt mem3 (by omega) rfl) | exact Yl.load rfl rfl (by kernel_rfl) (Hp.rowAt mem4 (by omega) rfl)
          refine' TA.y (i := 15) #[true, true, true, true, true, true, true, true, true, true, false, true, true, true, true, true, false, false, false, false, false, false, false, false, false, false, false, false, false, false, false, false, false, false, false, false, false] rfl rfl rfl (by kernel_rfl) (fun _ _ _ h => h) (fun _ h => by exact Hp.sub h (by repeat (first | exact List.Sublist.refl _ | exact List.nil_sublist _ | apply List.Sublist.cons_cons | apply List.Sublist.cons))) rfl ?hy108 ?_
          case hy108 => exact Yl.len rfl rfl Try.underlying42
          refine' TA.c (i := 10) #[true, true, true, true, true, true, true, true, true, true, true, true, true, true, true, true, false, false, false, false, false, false, false, false, false, false, false, false, false, false, false, false, false, false, false, false, false] rfl rfl rfl (by kernel_rfl) (by decide) rfl ?hy109 ?hz109 ?_
          case hy109 => exact Yc.call rfl Try.func22 (by kernel_rfl) rfl rfl (Hp.calls (fun w h => k_lenT w (h.all _ mem1) hT3))
          case hz109 => exact (fun _ _ h => by exact Hp.sub h (by repeat (first | exact List.Sublist.refl _ | exact List.nil_sublist _ | apply List.Sublist.cons_cons | apply List.Sublist.cons)))
          intro _
          refine' TA.y (i := 16) #[true, true, true, true, true, true, true, true, true, true, true, true, true, true, true, true, true, false, false, false, false, false, false, false, false, false, false, false, false, false, false, false, false, false, false, false, false] rfl rfl rfl (by kernel_rfl) (fun _ _ _ h => h) (fun _ h => by exact Hp.sub h (by repeat (first | exact List.Sublist.refl _ | exact List.nil_sublist _ | apply List.Sublist.cons_cons | apply List.Sublist.cons))) rfl ?hy110 ?_
          case hy110 => exact Yl.bin rfl rfl rfl (Bin.neq _ _ _ _)
          refine' TA.y (i := 17) #[true, true, true, true, true, true, true, true, true, true, true, true, true, true, true, true, true, true, false, false, false, false, false, false, false, false, false, false, false, false, false, false, false, false, false, false, false] rfl rfl rfl (by kernel_rfl) (fun _ _ _ h => h) (fun _ h => by exact Hp.sub h (by repeat (first | exact List.Sublist.refl _ | exact List.nil_sublist _ | apply List.Sublist.cons_cons | apply List.Sublist.cons))) rfl ?hy111 ?_
          case hy111 => exact Yl.pickF rfl rfl rfl
          refine' TA.y (i := 18) #[true, true, true, true, true, true, true, true, true, true, true, true, true, true, true, true, true, true, true, false, false, false, false, false, false, false, false, false, false, false, false, false, false, false, false, false, false] rfl rfl rfl (by kernel_rfl) (fun _ _ _ h => h) (fun _ h => by exact Hp.sub h (by repeat (first | exact List.Sublist.refl _ | exact List.nil_sublist _ | apply List.Sublist.cons_cons | apply List.Sublist.cons))) rfl ?hy112 ?_
          case hy112 => exact Yl.move rfl rfl
          refine TA.re (i := 116) (v' := .bool false) rfl (congrArg Value.bool (by simp)) ?_
          refine' TA.y (i := 19) #[true, true, true, true, true, true, true, true, true, true, true, true, true, true, true, true, true, true, true, true, false, false, false, false, false, false, false, false, false, false, false, false, false, false, false, false, false] rfl rfl rfl (by kernel_rfl) (fun _ _ _ h => h) (fun _ h => by exact Hp.sub h (by repeat (first | exact List.Sublist.refl _ | exact List.nil_sublist _ | apply List.Sublist.cons_cons | apply List.Sublist.cons))) rfl ?hy113 ?_
          case hy113 => exact Yl.move rfl rfl
          refine' TA.y (i := 21) #[true, true, true, true, true, true, true, true, true, true, true, true, true, true, true, true, true, true, true, true, false, true, false, false, false, false, false, false, false, false, false, false, false, false, false, false, false] rfl rfl rfl (by kernel_rfl) (fun _ _ _ h => h) (fun _ h => by exact Hp.sub h (by repeat (first | exact List.Sublist.refl _ | exact List.nil_sublist _ | apply List.Sublist.cons_cons | apply List.Sublist.cons))) rfl ?hy114 ?_
          case hy114 => exact Yl.move rfl rfl
          refine' TA.c (i := 20) #[true, true, true, true, true, true, true, true, true, true, true, true, true, true, true, true, true, true, true, true, true, true, false, false, false, false, false, false, false, false, false, false, false, false, false, false, false] rfl rfl rfl (by kernel_rfl) (by decide) rfl ?hy115 ?hz115 ?_
          case hy115 => exact Yc.call rfl Try.func17 (by kernel_rfl) rfl rfl (Hp.calls (fun w h => k_nodesT w (h.all _ mem1) hT3))
          case hz115 => exact (fun _ _ h => by exact Hp.sub h (by repeat (first | exact List.Sublist.refl _ | exact List.nil_sublist _ | apply List.Sublist.cons_cons | apply List.Sublist.cons)))
          intro _
          refine' TA.c (i := 22) #[true, true, true, true, true, true, true, true, true, true, true, true, true, true, true, true, true, true, true, true, true, true, true, false, false, false, false, false, false, false, false, false, false, false, false, false, false] rfl rfl rfl (by kernel_rfl) (by decide) rfl ?hy116 ?hz116 ?_
          case hy116 => exact Yc.call rfl Try.func23 (by kernel_rfl) rfl rfl (Hp.calls (fun w h => by obtain ⟨A9, c9, hR⟩ := Rf.at_ (h.all _ mem0); exact k_rnodes w hR))
          case hz116 => exact (fun _ _ h => by exact Hp.sub h (by repeat (first | exact List.Sublist.refl _ | exact List.nil_sublist _ | apply List.Sublist.cons_cons | apply List.Sublist.cons)))
          intro _
          refine' TA.y (i := 23) #[true, true, true, true, true, true, true, true, true, true, true, true, true, true, true, true, true, true, true, true, true, true, true, true, false, false, false, false, false, false, false, false, false, false, false, false, false] rfl rfl rfl (by kernel_rfl) (fun _ _ _ h => h) (fun _ h => by exact Hp.sub h (by repeat (first | exact List.Sublist.refl _ | exact List.nil_sublist _ | apply List.Sublist.cons_cons | apply List.Sublist.cons))) rfl ?hy117 ?_
          case hy117 => exact Yl.bin rfl rfl rfl (Bin.neq _ _ _ _)
          refine' TA.y (i := 24) #[true, true, true, true, true, true, true, true, true, true, true, true, true, true, true, true, true, true, true, true, true, true, true, true, true, false, false, false, false, false, false, false, false, false, false, false, false] rfl rfl rfl (by kernel_rfl) (fun _ _ _ h => h) (fun _ h => by exact Hp.sub h (by repeat (first | exact List.Sublist.refl _ | exact List.nil_sublist _ | apply List.Sublist.cons_cons | apply List.Sublist.cons))) rfl ?hy118 ?_
          case hy118 => exact Yl.pickF rfl rfl rfl
          refine' TA.y (i := 25) #[true, true, true, true, true, true, true, true, true, true, true, true, true, true, true, true, true, true, true, true, true, true, true, true, true, true, false, false, false, false, false, false, false, false, false, false, false] rfl rfl rfl (by kernel_rfl) (fun _ _ _ h => h) (fun _ h => by exact Hp.sub h (by repeat (first | exact List.Sublist.refl _ | exact List.nil_sublist _ | apply List.Sublist.cons_cons | apply List.Sublist.cons))) rfl ?hy119 ?_
          case hy119 => exact Yl.move rfl rfl
          refine TA.re (i := 123) (v' := .bool false) rfl (congrArg Value.bool (by simp)) ?_
          refine' TA.y (i := 26) #[true, true, true, true, true, true, true, true, true, true, true, true, true, true, true, true, true, true, true, true, true, true, true, true, true, true, true, false, false, false, false, false, false, false, false, false, false] rfl rfl rfl (by kernel_rfl) (fun _ _ _ h => h) (fun _ h => by exact Hp.sub h (by repeat (first | exact List.Sublist.refl _ | exact List.nil_sublist _ | apply List.Sublist.cons_cons | apply List.Sublist.cons))) rfl ?hy120 ?_
          case hy120 => exact Yl.move rfl rfl
          refine' TA.y (i := 27) #[true, true, true, true, true, true, true, true, true, true, true, true, true, true, true, true, true, true, true, true, true, true, true, true, true, true, true, true, false, false, false, false, false, false, false, false, false] rfl rfl rfl (by kernel_rfl) (fun _ _ _ h => h) (fun _ h => by exact Hp.sub h (by repeat (first | exact List.Sublist.refl _ | exact List.nil_sublist _ | apply List.Sublist.cons_cons | apply List.Sublist.cons))) rfl ?hy121 ?_
          case hy121 => exact Yl.move rfl rfl
          refine' TA.y (i := 28) #[true, true, true, true, true, true, true, true, true, true, true, true, true, true, true, true, true, true, true, true, true, true, true, true, true, true, true, true, true, false, false, false, false, false, false, false, false] rfl rfl rfl (by kernel_rfl) (fun _ _ _ h => h) (fun _ h => by exact Hp.sub h (by repeat (first | exact List.Sublist.refl _ | exact List.nil_sublist _ | apply List.Sublist.cons_cons | apply List.Sublist.cons))) rfl ?hy122 ?_
          case hy122 => exact Yl.move rfl rfl
          refine' TA.y (i := 30) #[true, true, true, true, true, true, true, true, true, true, true, true, true, true, true, true, true, true, true, true, true, true, true, true, true, true, true, true, true, false, true, false, false, false, false, false, false] rfl rfl rfl (by kernel_rfl) (fun _ _ _ h => h) (fun _ h => by exact Hp.sub h (by repeat (first | exact List.Sublist.refl _ | exact List.nil_sublist _ | apply List.Sublist.cons_cons | apply List.Sublist.cons))) rfl ?hy123 ?_
          case hy123 => exact Yl.move rfl rfl
          refine' TA.y (i := 31) #[true, true, true, true, true, true, true, true, true, true, true, true, true, true, true, true, true, true, true, true, true, true, true, true, true, true, true, true, true, false, true, true, false, false, false, false, false] rfl rfl rfl (by kernel_rfl) (fun _ _ _ h => h) (fun _ h => by exact Hp.sub h (by repeat (first | exact List.Sublist.refl _ | exact List.nil_sublist _ | apply List.Sublist.cons_cons | apply List.Sublist.cons))) rfl ?hy124 ?_
          case hy124 => exact Yl.move rfl rfl
          refine' TA.y (i := 32) #[true, true, true, true, true, true, true, true, true, true, true, true, true, true, true, true, true, true, true, true, true, true, true, true, true, true, true, true, true, false, true, true, true, false, false, false, false] rfl rfl rfl (by kernel_rfl) (fun _ _ _ h => h) (fun _ h => by exact Hp.sub h (by repeat (first | exact List.Sublist.refl _ | exact List.nil_sublist _ | apply List.Sublist.cons_cons | apply List.Sublist.cons))) rfl ?hy125 ?_
          case hy125 => exact Yl.move rfl rfl
          refine' TA.c (i := 29) #[true, true, true, true, true, true, true, true, true, true, true, true, true, true, true, true, true, true, true, true, true, true, true, true, true, true, true, true, true, true, true, true, true, false, false, false, false] rfl rfl rfl (by kernel_rfl) (by decide) rfl ?hy126 ?hz126 ?_
          case hy126 => first
            | exact Yc.call rfl Try.func13 (by kernel_rfl) rfl rfl (Hp.news (fun w h => k_walkT w (h.all _ mem1) hT3 a t))
            | exact Yc.call rfl Try.func13 (by kernel_rfl) rfl rfl (Hp.news (fun w h => k_walkT w (h.all _ mem2) hT3 a t))
          case hz126 => exact (fun _ _ h => by exact Hp.sub h (by repeat (first | exact List.Sublist.refl _ | exact List.nil_sublist _ | apply List.Sublist.cons_cons | apply List.Sublist.cons)))
          intro v127
          refine TA.fact (fun w h => Hp.rowShape mem0 w h) ?_
          rintro ⟨A127, c127, rfl⟩
          refine' TA.c (i := 33) #[true, true, true, true, true, true, true, true, true, true, true, true, true, true, true, true, true, true, true, true, true, true, true, true, true, true, true, true, true, true, true, true, true, true, false, false, false] rfl rfl rfl (by kernel_rfl) (by decide) rfl ?hy127 ?hz127 ?_
          case hy127 => first
            | exact Yc.call rfl Try.func24 (by kernel_rfl) rfl rfl (Hp.news (fun w h => by obtain ⟨A9, c9, hR⟩ := Rf.at_ (h.all _ mem0); exact k_rwalk w hR a t))
            | exact Yc.call rfl Try.func24 (by kernel_rfl) rfl rfl (Hp.news (fun w h => by obtain ⟨A9, c9, hR⟩ := Rf.at_ (h.all _ mem1); exact k_rwalk w hR a t))
          case hz127 => exact (fun _ _ h => by exact Hp.sub h (by repeat (first | exact List.Sublist.refl _ | exact List.nil_sublist _ | apply List.Sublist.cons_cons | apply List.Sublist.cons)))
          intro v131
          refine TA.fact (fun w h => Hp.rowShape mem0 w h) ?_
          rintro ⟨A131, c131, rfl⟩
          refine' TA.c (i := 34) #[true, true, true, true, true, true, true, true, true, true, true, true, true, true, true, true, true, true, true, true, true, true, true, true, true, true, true, true, true, true, true, true, true, true, true, false, false] rfl rfl rfl (by kernel_rfl) (by decide) rfl ?hy128 ?hz128 ?_
          case hy128 => first
            | exact Yc.call rfl Try.func15 (by kernel_rfl) rfl rfl (Hp.calls (fun w h => k_rowL w (Hp.rowSl mem1 w h) (Hp.rowSl mem0 w h) (by have := walkL_len (stM f (i + 1)) a t; omega)))
            | exact Yc.call rfl Try.func15 (by kernel_rfl) rfl rfl (Hp.calls (fun w h => k_rowL w (Hp.rowSl mem0 w h) (Hp.rowSl mem1 w h) (by have := walkL_len (stM f (i + 1)) a t; omega)))
          case hz128 => exact (fun _ _ h => by exact Hp.sub h (by repeat (first | exact List.Sublist.refl _ | exact List.nil_sublist _ | apply List.Sublist.cons_cons | apply List.Sublist.cons)))
          intro _
          refine TA.re (i := 132) (v' := .bool true) rfl (congrArg Value.bool (decide_eq_true rfl)) ?_
          refine' TA.y (i := 35) #[true, true, true, true, true, true, true, true, true, true, true, true, true, true, true, true, true, true, true, true, true, true, true, true, true, true, true, true, true, true, true, true, true, true, true, true, false] rfl rfl rfl (by kernel_rfl) (fun _ _ _ h => h) (fun _ h => by exact Hp.sub h (by repeat (first | exact List.Sublist.refl _ | exact List.nil_sublist _ | apply List.Sublist.cons_cons | apply List.Sublist.cons))) rfl ?hy129 ?_
          case hy129 => exact Yl.not rfl rfl
          refine' TA.y (i := 36) #[true, true, true, true, true, true, true, true, true, true, true, true, true, true, true, true, true, true, true, true, true, true, true, true, true, true, true, true, true, true, true, true, true, true, true, true, true] rfl rfl rfl (by kernel_rfl) (fun _ _ _ h => h) (fun _ h => by exact Hp.sub h (by repeat (first | exact List.Sublist.refl _ | exact List.nil_sublist _ | apply List.Sublist.cons_cons | apply List.Sublist.cons))) rfl ?hy130 ?_
          case hy130 => exact Yl.pickF rfl rfl rfl
          refine TA.done (by kernel_rfl) ?_
          refine TE.next ?_
          refine TC.no rfl rfl ?_
          refine TC.skip ?_
          refine TE.inNormal ?_
          refine TE.next ?_
          refine TC.region ?_
          refine' TL.y rfl rfl rfl ?hy131 ?_
          case hy131 => exact Yl.move rfl rfl
          refine' TL.y rfl rfl rfl ?hy132 ?_
          case hy132 => first | (refine Yl.val (Yl.bin rfl rfl rfl (Bin.add _ _ _ _)) (congrArg (Value.int .i64) (i64in ?_ ?_)) <;> omega) | exact Yl.bin rfl rfl rfl (Bin.add _ _ _ _)
          refine' TL.y rfl rfl rfl ?hy133 ?_
          case hy133 => exact Yl.assign rfl rfl
          refine TL.nil ?_
          refine TE.round (i + 1, st2, .slice A9 (rk (stM f (i + 1)) 65536) c9) ?hF134 ?hlt134 ?hs134 ?hm134
          case hF134 => exact ⟨by dsimp only; omega, hT3⟩
          case hlt134 => dsimp only; omega
          case hs134 => exact ⟨rfl, rfl, rfl, rfl, rfl, rfl, rfl, rfl, trivial⟩
          case hm134 => exact fun w h => h.sub (by repeat (first | exact List.Sublist.refl _ | apply List.Sublist.cons))
      · skip
        (try simp only [decide_eq_true_eq, decide_eq_false_iff_not, beq_iff_eq, beq_eq_false_iff_ne, bne_iff_ne, ne_eq, bne_eq_false_iff_eq, Bool.not_eq_true', Bool.not_eq_false', Int.not_lt, Int.not_le, gt_iff_lt, ge_iff_le] at hs34)
        obtain rfl : m = i := by omega
        refine TC.exit ?_
        refine TE.thenExit ?_
        refine TE.thenExit ?_
        refine TE.inHere ?_
        refine TE.next ?_
        refine TC.seq ?_
        refine TC.region ?_
        refine' TL.y rfl rfl rfl ?hy135 ?_
        case hy135 => exact Yl.move rfl rfl
        refine' TL.y rfl rfl rfl ?hy136 ?_
        case hy136 => exact Yl.move rfl rfl
        refine' TL.y rfl rfl rfl ?hy137 ?_
        case hy137 => exact Yl.move rfl rfl
        refine' TL.c rfl rfl rfl ?hy138 ?_
        case hy138 => exact Yc.call rfl Try.func16 (by kernel_rfl) rfl rfl (Hp.news (fun w h => k_path w n))
        intro v138
        refine TL.fact (fun w h => Hp.rowShape mem0 w h) ?_
        rintro ⟨A138, c138, rfl⟩
        refine' TL.y rfl rfl rfl ?hy139 ?_
        case hy139 => exact Yl.move rfl rfl
        refine' TL.c rfl rfl rfl ?hy140 ?_
        case hy140 => exact Yc.call rfl Try.func25 (by kernel_rfl) rfl rfl (Hp.news (fun w h => k_rpath w n))
        intro v140
        refine TL.fact (fun w h => Hp.rowShape mem0 w h) ?_
        rintro ⟨A140, c140, rfl⟩
        refine' TL.c rfl rfl rfl ?hy141 ?_
        case hy141 => exact Yc.call rfl Try.func15 (by kernel_rfl) rfl rfl (Hp.calls (fun w h => k_rowL w (Hp.rowSl mem1 w h) (Hp.rowSl mem0 w h) (by have := pathL_len n; omega)))
        intro _
        refine TL.re (i := 141) (v' := .bool true) rfl (congrArg Value.bool (decide_eq_true rfl)) ?_
        refine' TL.y rfl rfl rfl ?hy142 ?_
        case hy142 => exact Yl.pickT rfl rfl rfl
        refine' TL.y rfl rfl rfl ?hy143 ?_
        case hy143 => exact Yl.move rfl rfl
        refine' TL.y rfl rfl rfl ?hy144 ?_
        case hy144 => exact Yl.move rfl rfl
        refine' TL.c rfl rfl rfl ?hy145 ?_
        case hy145 => exact Yc.call rfl Try.func13 (by kernel_rfl) rfl rfl (Hp.news (fun w h => k_walkT w (h.all _ mem3) hTab 0 65536))
        intro v145
        refine TL.fact (fun w h => Hp.rowShape mem0 w h) ?_
        rintro ⟨A145, c145, rfl⟩
        refine' TL.y rfl rfl rfl ?hy146 ?_
        case hy146 => exact Yl.move rfl rfl
        refine' TL.c rfl rfl rfl ?hy147 ?_
        case hy147 => exact Yc.call rfl Try.func24 (by kernel_rfl) rfl rfl (Hp.news (fun w h => by obtain ⟨A9, c9, hR⟩ := Rf.at_ (h.all _ mem3); exact k_rwalk w hR 0 65536))
        intro v147
        refine TL.fact (fun w h => Hp.rowShape mem0 w h) ?_
        rintro ⟨A147, c147, rfl⟩
        refine' TL.c rfl rfl rfl ?hy148 ?_
        case hy148 => exact Yc.call rfl Try.func15 (by kernel_rfl) rfl rfl (Hp.calls (fun w h => k_rowL w (Hp.rowSl mem1 w h) (Hp.rowSl mem0 w h) (by have := walkL_len (stM f m) 0 65536; omega)))
        intro _
        refine TL.re (i := 148) (v' := .bool true) rfl (congrArg Value.bool (decide_eq_true rfl)) ?_
        refine' TL.y rfl rfl rfl ?hy149 ?_
        case hy149 => exact Yl.pickT rfl rfl rfl
        refine' TL.y rfl rfl rfl ?hy150 ?_
        case hy150 => exact Yl.assign rfl rfl
        refine TL.nil ?_
        refine TE.next ?_
        refine TC.ret ?_
        refine TE.ret1 rfl rfl ?_
        exact fun w h => ⟨rfl, (h.sub (List.nil_sublist _)).below⟩
end Go.Proofs.Ytbcdplhihkacpaa.Pk
