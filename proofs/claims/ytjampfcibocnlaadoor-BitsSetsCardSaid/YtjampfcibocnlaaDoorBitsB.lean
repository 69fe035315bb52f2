/- Contracts: fields taken out, digits, joined. -/
import Derived.Test.YtjampfcibocnlaaDoorBitsA
import Derived.Test.YtjampfcibocnlaaDoorProg
import Derived.RowKit3
namespace Go.Proofs.YtjampfcibocnlaaDoor.Pk
open Go Go.RowKit Go.Proofs.YtjampfcibocnlaaDoor.HL Go.Proofs.YtjampfcibocnlaaDoor.BM
set_option linter.unusedVariables false
set_option linter.unusedSimpArgs false
attribute [local irreducible] rowA
set_option maxRecDepth 100000 in
set_option maxHeartbeats 2000000 in
theorem k_un_bad (W : World) (ws : List Int) (x : Int) (A : Option Addr) (cp : Nat) (hS : Sl W A (ws.map (Value.int .i64))) (hl : ws.length ≤ 1000) (hx0 : 0 ≤ x) (hx1 : x < 18446744073709551616) (hok : ¬ okW ws 0 = true) : Calls Tryd.prog 25 #[.slice A ws.length cp, .int .u64 x] W fun e w' => ∃ v, e = .returned (.tuple #[v, .int .i64 (unS ws x).2]) ∧ (ownR 3 1 v ((unS ws x).1).length (((unS ws x).1).map (Value.int .i64))).holds w' ∧ Below W.heap.size W w' ∧ ∀ kk, (ownR 3 1 v ((unS ws x).1).length (((unS ws x).1).map (Value.int .i64))).foot kk → W.heap.size ≤ kk := by
  have hM : Hp W (fun _ => False) [] W := Hp.start
  refine TC.enter (n := 49) Tryd.func25 rfl rfl rfl hM ?_
  refine TC.seq ?_
  refine TC.region ?_
  refine' TL.y rfl rfl rfl ?hy1 ?_
  case hy1 => exact Yl.assign rfl rfl
  refine' TL.y rfl rfl rfl ?hy2 ?_
  case hy2 => exact Yl.assign rfl rfl
  refine TL.nil ?_
  refine TE.next ?_
  refine TC.seq ?_
  refine TC.region ?_
  refine' TL.y rfl rfl rfl ?hy3 ?_
  case hy3 => exact Yl.move rfl rfl
  refine' TL.c rfl rfl rfl ?hy4 ?_
  case hy4 => exact Yc.call rfl Tryd.func35 (by kernel_rfl) rfl rfl (Hp.calls (fun w h => k_right_bad w ws A cp (hS.below h.below) hl hok))
  intro _
  refine' TL.y rfl rfl rfl ?hy5 ?_
  case hy5 => exact Yl.move rfl rfl
  refine' TL.y rfl rfl rfl ?hy6 ?_
  case hy6 => exact Yl.extract rfl rfl rfl
  refine' TL.y rfl rfl rfl ?hy7 ?_
  case hy7 => exact Yl.extract rfl rfl rfl
  refine' TL.y rfl rfl rfl ?hy8 ?_
  case hy8 => exact Yl.assign rfl rfl
  refine' TL.y rfl rfl rfl ?hy9 ?_
  case hy9 => exact Yl.assign rfl rfl
  refine TL.nil ?_
  refine TE.next ?_
  refine TC.seq ?_
  refine TC.seq ?_
  refine TC.region ?_
  refine' TL.y rfl rfl rfl ?hy10 ?_
  case hy10 => exact Yl.move rfl rfl
  refine' TL.y rfl rfl rfl ?hy11 ?_
  case hy11 => exact Yl.not rfl rfl
  refine' TL.y rfl rfl rfl ?hy12 ?_
  case hy12 => exact Yl.move rfl rfl
  refine TL.skip rfl rfl rfl ?_
  refine TL.skip rfl rfl rfl ?_
  refine TL.skip rfl rfl rfl ?_
  refine TL.skip rfl rfl rfl ?_
  refine TL.skip rfl rfl rfl ?_
  refine TL.skip rfl rfl rfl ?_
  refine TL.skip rfl rfl rfl ?_
  refine TL.skip rfl rfl rfl ?_
  refine TL.skip rfl rfl rfl ?_
  refine' TL.y rfl rfl rfl ?hy13 ?_
  case hy13 => exact Yl.pickT rfl rfl rfl
  refine TL.nil ?_
  refine TE.next ?_
  refine TC.yes rfl rfl ?_
  refine TC.seq ?_
  refine TC.region ?_
  refine' TL.y rfl rfl rfl ?hy14 ?_
  case hy14 => exact Yl.assign rfl rfl
  refine' TL.y rfl rfl rfl ?hy15 ?_
  case hy15 => exact Yl.assign rfl rfl
  refine TL.nil ?_
  refine TE.next ?_
  refine TC.ret ?_
  refine TE.thenRet ?_
  refine TE.ret2 rfl rfl rfl ?_
  exact fun w h => ⟨.slice none 0 0, by rw [show unS ws x = ([], 1) from if_neg (by first | omega | (simp_all; done) | (rw [← hy]; omega))], ((h.sub (List.nil_sublist _)).nil (e := 3) (size := 1)).leaveNew.1 |> fun q => by rw [show unS ws x = ([], 1) from if_neg (by first | omega | (simp_all; done) | (rw [← hy]; omega))]; exact ((h.sub (List.nil_sublist _)).nil (e := 3) (size := 1)).leaveNew⟩
set_option maxRecDepth 100000 in
set_option maxHeartbeats 2000000 in
theorem k_un_ok (W : World) (ws : List Int) (x : Int) (A : Option Addr) (cp : Nat) (hS : Sl W A (ws.map (Value.int .i64))) (hl : ws.length ≤ 1000) (hx0 : 0 ≤ x) (hx1 : x < 18446744073709551616) (hok : okW ws 0 = true) : Calls Tryd.prog 25 #[.slice A ws.length cp, .int .u64 x] W fun e w' => ∃ v, e = .returned (.tuple #[v, .int .i64 (unS ws x).2]) ∧ (ownR 3 1 v ((unS ws x).1).length (((unS ws x).1).map (Value.int .i64))).holds w' ∧ Below W.heap.size W w' ∧ ∀ kk, (ownR 3 1 v ((unS ws x).1).length (((unS ws x).1).map (Value.int .i64))).foot kk → W.heap.size ≤ kk := by
  have hsm := okW_sum ws 0 (by decide) hok
  have hur : 64 ≤ sumW ws → unR ws x = 0 := fun h => by rw [unR_is ws 0 x hok]; exact Int.ediv_eq_zero_of_lt hx0 (by rw [show (sumW ws).toNat = 64 by omega]; exact hx1)
  have hM : Hp W (fun _ => False) [] W := Hp.start
  refine TC.enter (n := 49) Tryd.func25 rfl rfl rfl hM ?_
  refine TC.seq ?_
  refine TC.region ?_
  refine' TL.y rfl rfl rfl ?hy1 ?_
  case hy1 => exact Yl.assign rfl rfl
  refine' TL.y rfl rfl rfl ?hy2 ?_
  case hy2 => exact Yl.assign rfl rfl
  refine TL.nil ?_
  refine TE.next ?_
  refine TC.seq ?_
  refine TC.region ?_
  refine' TL.y rfl rfl rfl ?hy3 ?_
  case hy3 => exact Yl.move rfl rfl
  refine' TL.c rfl rfl rfl ?hy4 ?_
  case hy4 => exact Yc.call rfl Tryd.func35 (by kernel_rfl) rfl rfl (Hp.calls (fun w h => k_right_ok w ws A cp (hS.below h.below) hl hok))
  intro _
  refine' TL.y rfl rfl rfl ?hy5 ?_
  case hy5 => exact Yl.move rfl rfl
  refine' TL.y rfl rfl rfl ?hy6 ?_
  case hy6 => exact Yl.extract rfl rfl rfl
  refine' TL.y rfl rfl rfl ?hy7 ?_
  case hy7 => exact Yl.extract rfl rfl rfl
  refine' TL.y rfl rfl rfl ?hy8 ?_
  case hy8 => exact Yl.assign rfl rfl
  refine' TL.y rfl rfl rfl ?hy9 ?_
  case hy9 => exact Yl.assign rfl rfl
  refine TL.nil ?_
  refine TE.next ?_
  refine TC.meet (σ := Unit) (fun _ => [(0, .slice A ws.length cp), (1, .int .u64 x)]) (fun _ => Hp W (fun _ => False) []) (fun _ => unR ws x = 0) ?hx10 ?hy10
  case hx10 =>
    refine TC.seq ?_
    refine TC.region ?_
    refine' TL.y rfl rfl rfl ?hy11 ?_
    case hy11 => exact Yl.move rfl rfl
    refine' TL.y rfl rfl rfl ?hy12 ?_
    case hy12 => exact Yl.not rfl rfl
    refine' TL.y rfl rfl rfl ?hy13 ?_
    case hy13 => exact Yl.move rfl rfl
    refine' TL.y rfl rfl rfl ?hy14 ?_
    case hy14 => exact Yl.move rfl rfl
    refine' TL.y rfl rfl rfl ?hy15 ?_
    case hy15 => exact Yl.bin rfl rfl rfl (Bin.lss _ _ _ _)
    refine' TL.y rfl rfl rfl ?hy16 ?_
    case hy16 => exact Yl.move rfl rfl
    refine TL.split (i := 21) rfl (fun hs21 => ?_) (fun hs21 => ?_)
    · skip
      (try simp only [decide_eq_true_eq, decide_eq_false_iff_not, beq_iff_eq, beq_eq_false_iff_ne, bne_iff_ne, ne_eq, bne_eq_false_iff_eq, Bool.not_eq_true', Bool.not_eq_false', Int.not_lt, Int.not_le, gt_iff_lt, ge_iff_le] at hs21)
      refine' TL.y rfl rfl rfl ?hy17 ?_
      case hy17 => exact Yl.move rfl rfl
      refine' TL.y rfl rfl rfl ?hy18 ?_
      case hy18 => exact Yl.move rfl rfl
      refine' TL.y rfl rfl rfl ?hy19 ?_
      case hy19 => first | (refine Yl.val (Yl.conv rfl rfl (by kernel_rfl) Tryd.underlying56) (congrArg (Value.int .u64) (u64in ?_ ?_)) <;> omega) | exact Yl.conv rfl rfl (by kernel_rfl) Tryd.underlying56
      refine' TL.y rfl rfl rfl ?hy20 ?_
      case hy20 => exact Yl.val (Yl.bin rfl rfl rfl (Bin.shr _ _ _ _ _ (by omega))) (congrArg (Value.int .u64) (show x / 2 ^ min (sumW ws).toNat IntKind.u64.bits = unR ws x from by rw [unR_is ws 0 x hok, show min (sumW ws).toNat IntKind.u64.bits = (sumW ws).toNat from by (have : IntKind.u64.bits = 64 := rfl); omega]))
      refine' TL.y rfl rfl rfl ?hy21 ?_
      case hy21 => exact Yl.bin rfl rfl rfl (Bin.neq _ _ _ _)
      refine' TL.y rfl rfl rfl ?hy22 ?_
      case hy22 => exact Yl.pickT rfl rfl rfl
      refine' TL.y rfl rfl rfl ?hy23 ?_
      case hy23 => exact Yl.pickF rfl rfl rfl
      refine TL.nil ?_
      refine TE.next ?_
      refine TC.cond rfl (fun hs28 => ?_) (fun hs28 => ?_)
      · skip
        (try simp only [decide_eq_true_eq, decide_eq_false_iff_not, beq_iff_eq, beq_eq_false_iff_ne, bne_iff_ne, ne_eq, bne_eq_false_iff_eq, Bool.not_eq_true', Bool.not_eq_false', Int.not_lt, Int.not_le, gt_iff_lt, ge_iff_le] at hs28)
        refine TC.seq ?_
        refine TC.region ?_
        refine' TL.y rfl rfl rfl ?hy24 ?_
        case hy24 => exact Yl.assign rfl rfl
        refine' TL.y rfl rfl rfl ?hy25 ?_
        case hy25 => exact Yl.assign rfl rfl
        refine TL.nil ?_
        refine TE.next ?_
        refine TC.ret ?_
        refine TE.thenRet ?_
        refine TE.ret2 rfl rfl rfl ?_
        exact fun w h => ⟨.slice none 0 0, by rw [show unS ws x = ([], 1) from if_neg (by first | omega | (simp_all; done) | (rw [← hy]; omega))], ((h.sub (List.nil_sublist _)).nil (e := 3) (size := 1)).leaveNew.1 |> fun q => by rw [show unS ws x = ([], 1) from if_neg (by first | omega | (simp_all; done) | (rw [← hy]; omega))]; exact ((h.sub (List.nil_sublist _)).nil (e := 3) (size := 1)).leaveNew⟩
      · skip
        (try simp only [decide_eq_true_eq, decide_eq_false_iff_not, beq_iff_eq, beq_eq_false_iff_ne, bne_iff_ne, ne_eq, bne_eq_false_iff_eq, Bool.not_eq_true', Bool.not_eq_false', Int.not_lt, Int.not_le, gt_iff_lt, ge_iff_le] at hs28)
        refine TC.skip ?_
        refine TE.met () ?hF26 ?hs26 ?hm26
        case hF26 => omega
        case hs26 => exact ⟨rfl, rfl, trivial⟩
        case hm26 => exact fun _ h => h
    · skip
      (try simp only [decide_eq_true_eq, decide_eq_false_iff_not, beq_iff_eq, beq_eq_false_iff_ne, bne_iff_ne, ne_eq, bne_eq_false_iff_eq, Bool.not_eq_true', Bool.not_eq_false', Int.not_lt, Int.not_le, gt_iff_lt, ge_iff_le] at hs21)
      refine TL.skip rfl rfl rfl ?_
      refine TL.skip rfl rfl rfl ?_
      refine TL.skip rfl rfl rfl ?_
      refine TL.skip rfl rfl rfl ?_
      refine TL.skip rfl rfl rfl ?_
      refine' TL.y rfl rfl rfl ?hy27 ?_
      case hy27 => exact Yl.pickF rfl rfl rfl
      refine' TL.y rfl rfl rfl ?hy28 ?_
      case hy28 => exact Yl.pickF rfl rfl rfl
      refine TL.nil ?_
      refine TE.next ?_
      refine TC.no rfl rfl ?_
      refine TC.skip ?_
      refine TE.met () ?hF29 ?hs29 ?hm29
      case hF29 => omega
      case hs29 => exact ⟨rfl, rfl, trivial⟩
      case hm29 => exact fun _ h => h
  case hy10 =>
    intro _ hur2
    refine TC.seq ?_
    refine TC.region ?_
    refine' TL.y rfl rfl rfl ?hy30 ?_
    case hy30 => exact Yl.assign rfl rfl
    refine TL.nil ?_
    refine TE.next ?_
    refine TC.seq ?_
    refine TC.seq ?_
    refine TC.region ?_
    refine' TL.y rfl rfl rfl ?hy31 ?_
    case hy31 => exact Yl.move rfl rfl
    refine' TL.y rfl rfl rfl ?hy32 ?_
    case hy32 => exact Yl.len rfl rfl Tryd.underlying39
    refine' TL.y rfl rfl rfl ?hy33 ?_
    case hy33 => exact Yl.move rfl rfl
    refine TL.nil ?_
    refine TE.next ?_
    refine TC.block ?_
    refine TC.loop (σ := Nat × Value × List Int × Int × Int) (fun s => [(29, .slice A ws.length cp), (31, .int .i64 (s.1 : Int)), (1, .int .u64 s.2.2.2.1), (8, s.2.1), (30, .int .i64 ws.length)]) (fun s => Hp W (fun _ => False) [ownR 3 1 s.2.1 s.2.2.1.length (s.2.2.1.map (Value.int .i64))]) (fun s => s.1 ≤ ws.length ∧ s.2.2.1 ++ unG (ws.drop s.1) s.2.2.2.1 = unG ws x ∧ unR (ws.drop s.1) s.2.2.2.1 = unR ws x ∧ okW (ws.drop s.1) s.2.2.2.2 = true ∧ s.2.2.1.length = s.1 ∧ 0 ≤ s.2.2.2.1 ∧ s.2.2.2.1 < 18446744073709551616) (fun s => ws.length - s.1) (0, .slice none 0 0, [], x, 0) ?hF34 ?hs34 ?hm34 ?round34
    case hF34 => exact ⟨Nat.zero_le _, rfl, rfl, hok, rfl, hx0, hx1⟩
    case hs34 => exact ⟨rfl, rfl, rfl, rfl, rfl, trivial⟩
    case hm34 => exact fun w h => h.nil (e := 3) (size := 1)
    case round34 =>
      rintro ⟨i, v, acc, y, n⟩ ⟨h1, hi, hr, ho, hl2, h2, h3⟩
      dsimp only at h1 hi hr ho hl2 h2 h3 ⊢
      refine TC.seq ?_
      refine TC.region ?_
      refine' TL.y rfl rfl rfl ?hy35 ?_
      case hy35 => exact Yl.bin rfl rfl rfl (Bin.lss _ _ _ _)
      refine TL.nil ?_
      refine TE.next ?_
      refine TC.seq ?_
      refine TC.cond rfl (fun hs32 => ?_) (fun hs32 => ?_)
      · skip
        (try simp only [decide_eq_true_eq, decide_eq_false_iff_not, beq_iff_eq, beq_eq_false_iff_ne, bne_iff_ne, ne_eq, bne_eq_false_iff_eq, Bool.not_eq_true', Bool.not_eq_false', Int.not_lt, Int.not_le, gt_iff_lt, ge_iff_le] at hs32)
        obtain ⟨bb, oo, rfl⟩ := Sl.in hS (by omega)
        have q1 := okW_at (by omega : i < ws.length) ho
        have q2 := pow62 q1.1 q1.2.1
        rw [unG_step (by omega)] at hi
        rw [unR_step (by omega)] at hr
        refine TC.skip ?_
        refine TE.next ?_
        refine TC.seq ?_
        refine TC.block ?_
        refine TC.seq ?_
        refine TC.region ?_
        refine' TL.y rfl rfl rfl ?hy36 ?_
        case hy36 => first | exact Yl.ixn rfl rfl rfl Tryd.underlying39 (by kernel_rfl) (by omega) | exact Yl.ixz rfl rfl rfl Tryd.underlying39 (by kernel_rfl) (by omega) (by omega) | exact Yl.ixcn rfl rfl rfl Tryd.underlying39 (by kernel_rfl) (by omega) | exact Yl.ixcz rfl rfl rfl Tryd.underlying39 (by kernel_rfl) (by omega) (by omega)
        refine' TL.y rfl rfl rfl ?hy37 ?_
        case hy37 => first | exact Yl.load rfl rfl (by kernel_rfl) (Sl.rd 0 hS rfl (by omega) (fun _ => id)) | exact Yl.load rfl rfl (by kernel_rfl) (Hp.cell mem0 rfl) | exact Yl.load rfl rfl (by kernel_rfl) (Hp.cell mem1 rfl) | exact Yl.load rfl rfl (by kernel_rfl) (Hp.cell mem2 rfl) | exact Yl.load rfl rfl (by kernel_rfl) (Hp.cell mem3 rfl) | exact Yl.load rfl rfl (by kernel_rfl) (Hp.cell mem4 rfl) | exact Yl.load rfl rfl (by kernel_rfl) (Hp.rowAt mem0 (by omega) rfl) | exact Yl.load rfl rfl (by kernel_rfl) (Hp.rowAt mem1 (by omega) rfl) | exact Yl.load rfl rfl (by kernel_rfl) (Hp.rowAt mem2 (by omega) rfl) | exact Yl.load rfl rfl (by kernel_rfl) (Hp.rowAt mem3 (by omega) rfl) | exact Yl.load rfl rfl (by kernel_rfl) (Hp.rowAt mem4 (by omega) rfl)
        refine' TL.y rfl rfl rfl ?hy38 ?_
        case hy38 => exact Yl.assign rfl rfl
        refine TL.nil ?_
        refine TE.next ?_
        refine TC.seq ?_
        refine TC.region ?_
        refine' TL.y rfl rfl rfl ?hy39 ?_
        case hy39 => exact Yl.move rfl rfl
        refine' TL.y rfl rfl rfl ?hy40 ?_
        case hy40 => exact Yl.move rfl rfl
        refine' TL.y rfl rfl rfl ?hy41 ?_
        case hy41 => exact Yl.move rfl rfl
        refine' TL.c rfl rfl rfl ?hy42 ?_
        case hy42 => exact Yc.call rfl Tryd.func36 (by kernel_rfl) rfl rfl (Hp.gives (k_mask _ (by omega) (by omega)))
        intro _
        refine' TL.y rfl rfl rfl ?hy43 ?_
        case hy43 => exact Yl.val (Yl.bin rfl rfl rfl (Bin.and _ _ _ _)) (congrArg (Value.int .u64) (maskU y (ws.getD i 0).toNat (by omega) h2 h3))
        refine' TL.y rfl rfl rfl ?hy44 ?_
        case hy44 => exact Yl.val (Yl.conv rfl rfl (by kernel_rfl) Tryd.underlying3) (congrArg (Value.int .i64) (show IntKind.i64.wrap (y % 2 ^ (ws.getD i 0).toNat) = y % 2 ^ (ws.getD i 0).toNat from by rw [IntKind.wrap_i64]; have := Int.emod_nonneg y (show (2 : Int) ^ (ws.getD i 0).toNat ≠ 0 by omega); have := Int.emod_lt_of_pos y q2.2.1; omega))
        refine' TL.mx rfl rfl rfl ?hy45 ?_
        case hy45 => exact Ym.buildSlice (cells := #[_]) (z := .int .i64 0) (size := 1) #[.int .i64 0] rfl Tryd.underlying39 (by kernel_rfl) (by decide) (by decide) (by kernel_rfl) rfl rfl
        intro b41
        refine' TL.mx rfl rfl rfl ?hy46 ?_
        case hy46 => exact Ym.append (news := [.int .i64 (y % 2 ^ (ws.getD i 0).toNat)]) rfl Tryd.underlying39 (by kernel_rfl) (z := .int .i64 0) (size := 1) (bytes := 8) rfl (by decide) (by decide) rfl rfl rfl (Hp.cells mem0 (fun j v hj => by simpa [Value.cells] using hj)) (by simp [Value.oneCell']) (by omega) (fun v' => foc1)
        intro b42
        refine' TL.y rfl rfl rfl ?hy47 ?_
        case hy47 => exact Yl.assign rfl rfl
        refine TL.nil ?_
        refine TE.next ?_
        refine TC.region ?_
        refine' TL.y rfl rfl rfl ?hy48 ?_
        case hy48 => exact Yl.move rfl rfl
        refine' TL.y rfl rfl rfl ?hy49 ?_
        case hy49 => exact Yl.move rfl rfl
        refine' TL.y rfl rfl rfl ?hy50 ?_
        case hy50 => first | (refine Yl.val (Yl.conv rfl rfl (by kernel_rfl) Tryd.underlying56) (congrArg (Value.int .u64) (u64in ?_ ?_)) <;> omega) | exact Yl.conv rfl rfl (by kernel_rfl) Tryd.underlying56
        refine' TL.y rfl rfl rfl ?hy51 ?_
        case hy51 => exact Yl.val (Yl.bin rfl rfl rfl (Bin.shr _ _ _ _ _ (by omega))) (congrArg (Value.int .u64) (show y / 2 ^ min (ws.getD i 0).toNat IntKind.u64.bits = y / 2 ^ (ws.getD i 0).toNat from by rw [show min (ws.getD i 0).toNat IntKind.u64.bits = (ws.getD i 0).toNat from by (have : IntKind.u64.bits = 64 := rfl); omega]))
        refine' TL.y rfl rfl rfl ?hy52 ?_
        case hy52 => exact Yl.assign rfl rfl
        refine TL.nil ?_
        refine TE.inNormal ?_
        refine TE.next ?_
        refine TC.region ?_
        refine' TL.y rfl rfl rfl ?hy53 ?_
        case hy53 => first | (refine Yl.val (Yl.bin rfl rfl rfl (Bin.add _ _ _ _)) (congrArg (Value.int .i64) (i64in ?_ ?_)) <;> omega) | exact Yl.bin rfl rfl rfl (Bin.add _ _ _ _)
        refine' TL.y rfl rfl rfl ?hy54 ?_
        case hy54 => exact Yl.move rfl rfl
        refine TL.nil ?_
        refine TE.round (i + 1, b42, acc ++ [y % 2 ^ (ws.getD i 0).toNat], y / 2 ^ (ws.getD i 0).toNat, n + ws.getD i 0) ?hF55 ?hlt55 ?hs55 ?hm55
        case hF55 => refine ⟨by dsimp only; omega, by dsimp only; rw [List.append_assoc]; exact hi, hr, q1.2.2.2, by dsimp only; simp; omega, Int.ediv_nonneg h2 (by omega), Int.lt_of_le_of_lt (Int.ediv_le_self _ h2) h3⟩
        case hlt55 => dsimp only; omega
        case hs55 => exact ⟨rfl, rfl, rfl, rfl, rfl, trivial⟩
        case hm55 => exact fun w h => by have h2 := h.sub (.cons _ (.refl _)); simpa using h2
      · skip
        (try simp only [decide_eq_true_eq, decide_eq_false_iff_not, beq_iff_eq, beq_eq_false_iff_ne, bne_iff_ne, ne_eq, bne_eq_false_iff_eq, Bool.not_eq_true', Bool.not_eq_false', Int.not_lt, Int.not_le, gt_iff_lt, ge_iff_le] at hs32)
        refine TC.exit ?_
        refine TE.thenExit ?_
        refine TE.thenExit ?_
        refine TE.inHere ?_
        refine TE.next ?_
        refine TC.seq ?_
        refine TC.region ?_
        refine' TL.y rfl rfl rfl ?hy56 ?_
        case hy56 => exact Yl.move rfl rfl
        refine' TL.y rfl rfl rfl ?hy57 ?_
        case hy57 => exact Yl.assign rfl rfl
        refine' TL.y rfl rfl rfl ?hy58 ?_
        case hy58 => exact Yl.assign rfl rfl
        refine TL.nil ?_
        refine TE.next ?_
        refine TC.ret ?_
        refine TE.ret2 rfl rfl rfl ?_
        obtain rfl : i = ws.length := by omega
        rw [List.drop_length] at hi hr
        rw [show unG [] y = [] from rfl, List.append_nil] at hi
        have hR : unS ws x = (acc, 0) := by unfold unS; rw [hi]; exact if_pos ⟨hok, by omega⟩
        exact fun w h => ⟨v, by rw [hR], by rw [hR]; exact h.leaveNew⟩
set_option maxRecDepth 100000 in
set_option maxHeartbeats 2000000 in
theorem k_run_bad (W : World) (ws : List Int) (x : Int) (A : Option Addr) (cp : Nat) (hS : Sl W A (ws.map (Value.int .i64))) (hl : ws.length ≤ 1000) (hx0 : 0 ≤ x) (hx1 : x < 18446744073709551616) (hok : ¬ okW ws 0 = true) : Calls Tryd.prog 26 #[.slice A ws.length cp, .int .u64 x] W fun e w' => ∃ v, e = .returned (.tuple #[v, .int .i64 (unS ws x).2]) ∧ (ownR 3 1 v ((unS ws x).1).length (((unS ws x).1).map (Value.int .i64))).holds w' ∧ Below W.heap.size W w' ∧ ∀ kk, (ownR 3 1 v ((unS ws x).1).length (((unS ws x).1).map (Value.int .i64))).foot kk → W.heap.size ≤ kk := by
  have hM : Hp W (fun _ => False) [] W := Hp.start
  refine TC.enter (n := 38) Tryd.func26 rfl rfl rfl hM ?_
  refine TC.seq ?_
  refine TC.region ?_
  refine' TL.y rfl rfl rfl ?hy1 ?_
  case hy1 => exact Yl.assign rfl rfl
  refine' TL.y rfl rfl rfl ?hy2 ?_
  case hy2 => exact Yl.assign rfl rfl
  refine TL.nil ?_
  refine TE.next ?_
  refine TC.seq ?_
  refine TC.seq ?_
  refine TC.region ?_
  refine' TL.y rfl rfl rfl ?hy3 ?_
  case hy3 => exact Yl.move rfl rfl
  refine' TL.c rfl rfl rfl ?hy4 ?_
  case hy4 => exact Yc.call rfl Tryd.func37 (by kernel_rfl) rfl rfl (Hp.calls (fun w h => k_widths_bad w ws A cp (hS.below h.below) hl hok))
  intro _
  refine' TL.y rfl rfl rfl ?hy5 ?_
  case hy5 => exact Yl.not rfl rfl
  refine TL.nil ?_
  refine TE.next ?_
  refine TC.yes rfl rfl ?_
  refine TC.seq ?_
  refine TC.region ?_
  refine' TL.y rfl rfl rfl ?hy6 ?_
  case hy6 => exact Yl.assign rfl rfl
  refine' TL.y rfl rfl rfl ?hy7 ?_
  case hy7 => exact Yl.assign rfl rfl
  refine TL.nil ?_
  refine TE.next ?_
  refine TC.ret ?_
  refine TE.thenRet ?_
  refine TE.ret2 rfl rfl rfl ?_
  exact fun w h => ⟨.slice none 0 0, by rw [show unS ws x = ([], 1) from if_neg (by first | omega | (simp_all; done) | (rw [← hy]; omega))], ((h.sub (List.nil_sublist _)).nil (e := 3) (size := 1)).leaveNew.1 |> fun q => by rw [show unS ws x = ([], 1) from if_neg (by first | omega | (simp_all; done) | (rw [← hy]; omega))]; exact ((h.sub (List.nil_sublist _)).nil (e := 3) (size := 1)).leaveNew⟩
set_option maxRecDepth 100000 in
set_option maxHeartbeats 2000000 in
theorem k_run_ok (W : World) (ws : List Int) (x : Int) (A : Option Addr) (cp : Nat) (hS : Sl W A (ws.map (Value.int .i64))) (hl : ws.length ≤ 1000) (hx0 : 0 ≤ x) (hx1 : x < 18446744073709551616) (hok : okW ws 0 = true) : Calls Tryd.prog 26 #[.slice A ws.length cp, .int .u64 x] W fun e w' => ∃ v, e = .returned (.tuple #[v, .int .i64 (unS ws x).2]) ∧ (ownR 3 1 v ((unS ws x).1).length (((unS ws x).1).map (Value.int .i64))).holds w' ∧ Below W.heap.size W w' ∧ ∀ kk, (ownR 3 1 v ((unS ws x).1).length (((unS ws x).1).map (Value.int .i64))).foot kk → W.heap.size ≤ kk := by
  have hsm := okW_sum ws 0 (by decide) hok
  have hur : 64 ≤ sumW ws → unR ws x = 0 := fun h => by rw [unR_is ws 0 x hok]; exact Int.ediv_eq_zero_of_lt hx0 (by rw [show (sumW ws).toNat = 64 by omega]; exact hx1)
  have hM : Hp W (fun _ => False) [] W := Hp.start
  refine TC.enter (n := 38) Tryd.func26 rfl rfl rfl hM ?_
  refine TC.seq ?_
  refine TC.region ?_
  refine' TL.y rfl rfl rfl ?hy1 ?_
  case hy1 => exact Yl.assign rfl rfl
  refine' TL.y rfl rfl rfl ?hy2 ?_
  case hy2 => exact Yl.assign rfl rfl
  refine TL.nil ?_
  refine TE.next ?_
  refine TC.seq ?_
  refine TC.seq ?_
  refine TC.region ?_
  refine' TL.y rfl rfl rfl ?hy3 ?_
  case hy3 => exact Yl.move rfl rfl
  refine' TL.c rfl rfl rfl ?hy4 ?_
  case hy4 => exact Yc.call rfl Tryd.func37 (by kernel_rfl) rfl rfl (Hp.calls (fun w h => k_widths_ok w ws A cp (hS.below h.below) hl hok))
  intro _
  refine' TL.y rfl rfl rfl ?hy5 ?_
  case hy5 => exact Yl.not rfl rfl
  refine TL.nil ?_
  refine TE.next ?_
  refine TC.no rfl rfl ?_
  refine TC.skip ?_
  refine TE.next ?_
  refine TC.seq ?_
  refine TC.region ?_
  refine' TL.y rfl rfl rfl ?hy6 ?_
  case hy6 => exact Yl.assign rfl rfl
  refine TL.nil ?_
  refine TE.next ?_
  refine TC.seq ?_
  refine TC.seq ?_
  refine TC.region ?_
  refine' TL.y rfl rfl rfl ?hy7 ?_
  case hy7 => exact Yl.assign rfl rfl
  refine TL.nil ?_
  refine TE.next ?_
  refine TC.block ?_
  refine TC.loop (σ := Nat × Value × List Int × Int × Int) (fun s => [(0, .slice A ws.length cp), (7, .int .i64 (s.1 : Int)), (1, .int .u64 s.2.2.2.1), (6, s.2.1)]) (fun s => Hp W (fun _ => False) [ownR 3 1 s.2.1 s.2.2.1.length (s.2.2.1.map (Value.int .i64))]) (fun s => s.1 ≤ ws.length ∧ s.2.2.1 ++ unG (ws.drop s.1) s.2.2.2.1 = unG ws x ∧ unR (ws.drop s.1) s.2.2.2.1 = unR ws x ∧ okW (ws.drop s.1) s.2.2.2.2 = true ∧ s.2.2.1.length = s.1 ∧ 0 ≤ s.2.2.2.1 ∧ s.2.2.2.1 < 18446744073709551616) (fun s => ws.length - s.1) (0, .slice none 0 0, [], x, 0) ?hF8 ?hs8 ?hm8 ?round8
  case hF8 => exact ⟨Nat.zero_le _, rfl, rfl, hok, rfl, hx0, hx1⟩
  case hs8 => exact ⟨rfl, rfl, rfl, rfl, trivial⟩
  case hm8 => exact fun w h => h.nil (e := 3) (size := 1)
  case round8 =>
    rintro ⟨i, v, acc, y, n⟩ ⟨h1, hi, hr, ho, hl2, h2, h3⟩
    dsimp only at h1 hi hr ho hl2 h2 h3 ⊢
    refine TC.seq ?_
    refine TC.seq ?_
    refine TC.region ?_
    refine' TL.y rfl rfl rfl ?hy9 ?_
    case hy9 => exact Yl.move rfl rfl
    refine' TL.y rfl rfl rfl ?hy10 ?_
    case hy10 => exact Yl.move rfl rfl
    refine' TL.y rfl rfl rfl ?hy11 ?_
    case hy11 => exact Yl.len rfl rfl Tryd.underlying39
    refine' TL.y rfl rfl rfl ?hy12 ?_
    case hy12 => exact Yl.bin rfl rfl rfl (Bin.lss _ _ _ _)
    refine TL.nil ?_
    refine TE.next ?_
    refine TC.cond rfl (fun hs14 => ?_) (fun hs14 => ?_)
    · skip
      (try simp only [decide_eq_true_eq, decide_eq_false_iff_not, beq_iff_eq, beq_eq_false_iff_ne, bne_iff_ne, ne_eq, bne_eq_false_iff_eq, Bool.not_eq_true', Bool.not_eq_false', Int.not_lt, Int.not_le, gt_iff_lt, ge_iff_le] at hs14)
      obtain ⟨bb, oo, rfl⟩ := Sl.in hS (by omega)
      have q1 := okW_at (by omega : i < ws.length) ho
      have q2 := pow62 q1.1 q1.2.1
      rw [unG_step (by omega)] at hi
      rw [unR_step (by omega)] at hr
      refine TC.skip ?_
      refine TE.next ?_
      refine TC.seq ?_
      refine TC.block ?_
      refine TC.seq ?_
      refine TC.region ?_
      refine' TL.y rfl rfl rfl ?hy13 ?_
      case hy13 => exact Yl.move rfl rfl
      refine' TL.y rfl rfl rfl ?hy14 ?_
      case hy14 => exact Yl.move rfl rfl
      refine' TL.y rfl rfl rfl ?hy15 ?_
      case hy15 => exact Yl.move rfl rfl
      refine' TL.y rfl rfl rfl ?hy16 ?_
      case hy16 => exact Yl.move rfl rfl
      refine' TL.y rfl rfl rfl ?hy17 ?_
      case hy17 => first | exact Yl.ixn rfl rfl rfl Tryd.underlying39 (by kernel_rfl) (by omega) | exact Yl.ixz rfl rfl rfl Tryd.underlying39 (by kernel_rfl) (by omega) (by omega) | exact Yl.ixcn rfl rfl rfl Tryd.underlying39 (by kernel_rfl) (by omega) | exact Yl.ixcz rfl rfl rfl Tryd.underlying39 (by kernel_rfl) (by omega) (by omega)
      refine' TL.y rfl rfl rfl ?hy18 ?_
      case hy18 => first | exact Yl.load rfl rfl (by kernel_rfl) (Sl.rd 0 hS rfl (by omega) (fun _ => id)) | exact Yl.load rfl rfl (by kernel_rfl) (Hp.cell mem0 rfl) | exact Yl.load rfl rfl (by kernel_rfl) (Hp.cell mem1 rfl) | exact Yl.load rfl rfl (by kernel_rfl) (Hp.cell mem2 rfl) | exact Yl.load rfl rfl (by kernel_rfl) (Hp.cell mem3 rfl) | exact Yl.load rfl rfl (by kernel_rfl) (Hp.cell mem4 rfl) | exact Yl.load rfl rfl (by kernel_rfl) (Hp.rowAt mem0 (by omega) rfl) | exact Yl.load rfl rfl (by kernel_rfl) (Hp.rowAt mem1 (by omega) rfl) | exact Yl.load rfl rfl (by kernel_rfl) (Hp.rowAt mem2 (by omega) rfl) | exact Yl.load rfl rfl (by kernel_rfl) (Hp.rowAt mem3 (by omega) rfl) | exact Yl.load rfl rfl (by kernel_rfl) (Hp.rowAt mem4 (by omega) rfl)
      refine' TL.c rfl rfl rfl ?hy19 ?_
      case hy19 => exact Yc.call rfl Tryd.func38 (by kernel_rfl) rfl rfl (Hp.gives (k_power _ (by omega) (by omega)))
      intro _
      rw [q2.1]
      refine' TL.y rfl rfl rfl ?hy20 ?_
      case hy20 => exact Yl.val (Yl.bin rfl rfl rfl (Bin.rem _ _ _ _ (by omega))) (congrArg (Value.int .u64) (show y.tmod (2 ^ (ws.getD i 0).toNat) = y % 2 ^ (ws.getD i 0).toNat from Int.tmod_eq_emod_of_nonneg h2))
      refine' TL.y rfl rfl rfl ?hy21 ?_
      case hy21 => exact Yl.val (Yl.conv rfl rfl (by kernel_rfl) Tryd.underlying3) (congrArg (Value.int .i64) (show IntKind.i64.wrap (y % 2 ^ (ws.getD i 0).toNat) = y % 2 ^ (ws.getD i 0).toNat from by rw [IntKind.wrap_i64]; have := Int.emod_nonneg y (show (2 : Int) ^ (ws.getD i 0).toNat ≠ 0 by omega); have := Int.emod_lt_of_pos y q2.2.1; omega))
      refine' TL.mx rfl rfl rfl ?hy22 ?_
      case hy22 => exact Ym.buildSlice (cells := #[_]) (z := .int .i64 0) (size := 1) #[.int .i64 0] rfl Tryd.underlying39 (by kernel_rfl) (by decide) (by decide) (by kernel_rfl) rfl rfl
      intro b26
      refine' TL.mx rfl rfl rfl ?hy23 ?_
      case hy23 => exact Ym.append (news := [.int .i64 (y % 2 ^ (ws.getD i 0).toNat)]) rfl Tryd.underlying39 (by kernel_rfl) (z := .int .i64 0) (size := 1) (bytes := 8) rfl (by decide) (by decide) rfl rfl rfl (Hp.cells mem0 (fun j v hj => by simpa [Value.cells] using hj)) (by simp [Value.oneCell']) (by omega) (fun v' => foc1)
      intro b27
      refine' TL.y rfl rfl rfl ?hy24 ?_
      case hy24 => exact Yl.assign rfl rfl
      refine TL.nil ?_
      refine TE.next ?_
      refine TC.region ?_
      refine' TL.y rfl rfl rfl ?hy25 ?_
      case hy25 => exact Yl.move rfl rfl
      refine' TL.y rfl rfl rfl ?hy26 ?_
      case hy26 => exact Yl.move rfl rfl
      refine' TL.y rfl rfl rfl ?hy27 ?_
      case hy27 => exact Yl.move rfl rfl
      refine' TL.y rfl rfl rfl ?hy28 ?_
      case hy28 => first | exact Yl.ixn rfl rfl rfl Tryd.underlying39 (by kernel_rfl) (by omega) | exact Yl.ixz rfl rfl rfl Tryd.underlying39 (by kernel_rfl) (by omega) (by omega) | exact Yl.ixcn rfl rfl rfl Tryd.underlying39 (by kernel_rfl) (by omega) | exact Yl.ixcz rfl rfl rfl Tryd.underlying39 (by kernel_rfl) (by omega) (by omega)
      refine' TL.y rfl rfl rfl ?hy29 ?_
      case hy29 => first | exact Yl.load rfl rfl (by kernel_rfl) (Sl.rd 0 hS rfl (by omega) (fun _ => id)) | exact Yl.load rfl rfl (by kernel_rfl) (Hp.cell mem0 rfl) | exact Yl.load rfl rfl (by kernel_rfl) (Hp.cell mem1 rfl) | exact Yl.load rfl rfl (by kernel_rfl) (Hp.cell mem2 rfl) | exact Yl.load rfl rfl (by kernel_rfl) (Hp.cell mem3 rfl) | exact Yl.load rfl rfl (by kernel_rfl) (Hp.cell mem4 rfl) | exact Yl.load rfl rfl (by kernel_rfl) (Hp.rowAt mem0 (by omega) rfl) | exact Yl.load rfl rfl (by kernel_rfl) (Hp.rowAt mem1 (by omega) rfl) | exact Yl.load rfl rfl (by kernel_rfl) (Hp.rowAt mem2 (by omega) rfl) | exact Yl.load rfl rfl (by kernel_rfl) (Hp.rowAt mem3 (by omega) rfl) | exact Yl.load rfl rfl (by kernel_rfl) (Hp.rowAt mem4 (by omega) rfl)
      refine' TL.c rfl rfl rfl ?hy30 ?_
      case hy30 => exact Yc.call rfl Tryd.func38 (by kernel_rfl) rfl rfl (Hp.gives (k_power _ (by omega) (by omega)))
      intro _
      rw [q2.1]
      refine' TL.y rfl rfl rfl ?hy31 ?_
      case hy31 => exact Yl.val (Yl.bin rfl rfl rfl (Bin.quo _ _ _ _ (by omega))) (congrArg (Value.int .u64) (show IntKind.u64.wrap (y.tdiv (2 ^ (ws.getD i 0).toNat)) = y / 2 ^ (ws.getD i 0).toNat from by rw [Int.tdiv_eq_ediv_of_nonneg h2]; have := Int.ediv_nonneg h2 (Int.le_of_lt q2.2.1); have := Int.ediv_le_self (2 ^ (ws.getD i 0).toNat) h2; exact u64in (by omega) (by omega)))
      refine' TL.y rfl rfl rfl ?hy32 ?_
      case hy32 => exact Yl.assign rfl rfl
      refine TL.nil ?_
      refine TE.inNormal ?_
      refine TE.next ?_
      refine TC.region ?_
      refine' TL.y rfl rfl rfl ?hy33 ?_
      case hy33 => exact Yl.move rfl rfl
      refine' TL.y rfl rfl rfl ?hy34 ?_
      case hy34 => first | (refine Yl.val (Yl.bin rfl rfl rfl (Bin.add _ _ _ _)) (congrArg (Value.int .i64) (i64in ?_ ?_)) <;> omega) | exact Yl.bin rfl rfl rfl (Bin.add _ _ _ _)
      refine' TL.y rfl rfl rfl ?hy35 ?_
      case hy35 => exact Yl.assign rfl rfl
      refine TL.nil ?_
      refine TE.round (i + 1, b27, acc ++ [y % 2 ^ (ws.getD i 0).toNat], y / 2 ^ (ws.getD i 0).toNat, n + ws.getD i 0) ?hF36 ?hlt36 ?hs36 ?hm36
      case hF36 => refine ⟨by dsimp only; omega, by dsimp only; rw [List.append_assoc]; exact hi, hr, q1.2.2.2, by dsimp only; simp; omega, Int.ediv_nonneg h2 (by omega), Int.lt_of_le_of_lt (Int.ediv_le_self _ h2) h3⟩
      case hlt36 => dsimp only; omega
      case hs36 => exact ⟨rfl, rfl, rfl, rfl, trivial⟩
      case hm36 => exact fun w h => by have h2 := h.sub (.cons _ (.refl _)); simpa using h2
    · skip
      (try simp only [decide_eq_true_eq, decide_eq_false_iff_not, beq_iff_eq, beq_eq_false_iff_ne, bne_iff_ne, ne_eq, bne_eq_false_iff_eq, Bool.not_eq_true', Bool.not_eq_false', Int.not_lt, Int.not_le, gt_iff_lt, ge_iff_le] at hs14)
      refine TC.exit ?_
      refine TE.thenExit ?_
      refine TE.thenExit ?_
      refine TE.inHere ?_
      refine TE.next ?_
      refine TC.seq ?_
      refine TC.seq ?_
      refine TC.region ?_
      refine' TL.y rfl rfl rfl ?hy37 ?_
      case hy37 => exact Yl.move rfl rfl
      refine' TL.y rfl rfl rfl ?hy38 ?_
      case hy38 => exact Yl.bin rfl rfl rfl (Bin.gtr _ _ _ _)
      refine TL.nil ?_
      refine TE.next ?_
      refine TC.cond rfl (fun hs36 => ?_) (fun hs36 => ?_)
      · skip
        (try simp only [decide_eq_true_eq, decide_eq_false_iff_not, beq_iff_eq, beq_eq_false_iff_ne, bne_iff_ne, ne_eq, bne_eq_false_iff_eq, Bool.not_eq_true', Bool.not_eq_false', Int.not_lt, Int.not_le, gt_iff_lt, ge_iff_le] at hs36)
        refine TC.seq ?_
        refine TC.region ?_
        refine' TL.y rfl rfl rfl ?hy39 ?_
        case hy39 => exact Yl.assign rfl rfl
        refine' TL.y rfl rfl rfl ?hy40 ?_
        case hy40 => exact Yl.assign rfl rfl
        refine TL.nil ?_
        refine TE.next ?_
        refine TC.ret ?_
        refine TE.thenRet ?_
        refine TE.ret2 rfl rfl rfl ?_
        obtain rfl : i = ws.length := by omega
        rw [List.drop_length] at hr
        have hy : y = unR ws x := hr
        exact fun w h => ⟨.slice none 0 0, by rw [show unS ws x = ([], 1) from if_neg (by first | omega | (simp_all; done) | (rw [← hy]; omega))], ((h.sub (List.nil_sublist _)).nil (e := 3) (size := 1)).leaveNew.1 |> fun q => by rw [show unS ws x = ([], 1) from if_neg (by first | omega | (simp_all; done) | (rw [← hy]; omega))]; exact ((h.sub (List.nil_sublist _)).nil (e := 3) (size := 1)).leaveNew⟩
      · skip
        (try simp only [decide_eq_true_eq, decide_eq_false_iff_not, beq_iff_eq, beq_eq_false_iff_ne, bne_iff_ne, ne_eq, bne_eq_false_iff_eq, Bool.not_eq_true', Bool.not_eq_false', Int.not_lt, Int.not_le, gt_iff_lt, ge_iff_le] at hs36)
        refine TC.skip ?_
        refine TE.next ?_
        refine TC.seq ?_
        refine TC.region ?_
        refine' TL.y rfl rfl rfl ?hy41 ?_
        case hy41 => exact Yl.move rfl rfl
        refine' TL.y rfl rfl rfl ?hy42 ?_
        case hy42 => exact Yl.assign rfl rfl
        refine' TL.y rfl rfl rfl ?hy43 ?_
        case hy43 => exact Yl.assign rfl rfl
        refine TL.nil ?_
        refine TE.next ?_
        refine TC.ret ?_
        refine TE.ret2 rfl rfl rfl ?_
        obtain rfl : i = ws.length := by omega
        rw [List.drop_length] at hi hr
        rw [show unG [] y = [] from rfl, List.append_nil] at hi
        have hR : unS ws x = (acc, 0) := by unfold unS; rw [hi]; exact if_pos ⟨hok, by have : y = unR ws x := hr; omega⟩
        exact fun w h => ⟨v, by rw [hR], by rw [hR]; exact h.leaveNew⟩
set_option maxRecDepth 100000 in
set_option maxHeartbeats 2000000 in
theorem k_same (W : World) (xs ys : List Int) (A B : Option Addr) (cp cq : Nat) (hS : Sl W A (xs.map (Value.int .i64))) (hT : Sl W B (ys.map (Value.int .i64))) (hl : xs.length ≤ 1000000) : Calls Tryd.prog 27 #[.slice A xs.length cp, .slice B ys.length cq] W fun e w' => e = .returned (.bool (decide (xs = ys))) ∧ Below W.heap.size W w' := by
  have hM : Hp W (fun _ => False) [] W := Hp.start
  refine TC.enter (n := 26) Tryd.func27 rfl rfl rfl hM ?_
  refine TC.seq ?_
  refine TC.region ?_
  refine' TL.y rfl rfl rfl ?hy1 ?_
  case hy1 => exact Yl.assign rfl rfl
  refine TL.nil ?_
  refine TE.next ?_
  refine TC.seq ?_
  refine TC.seq ?_
  refine TC.region ?_
  refine' TL.y rfl rfl rfl ?hy2 ?_
  case hy2 => exact Yl.move rfl rfl
  refine' TL.y rfl rfl rfl ?hy3 ?_
  case hy3 => exact Yl.len rfl rfl Tryd.underlying39
  refine' TL.y rfl rfl rfl ?hy4 ?_
  case hy4 => exact Yl.move rfl rfl
  refine' TL.y rfl rfl rfl ?hy5 ?_
  case hy5 => exact Yl.len rfl rfl Tryd.underlying39
  refine' TL.y rfl rfl rfl ?hy6 ?_
  case hy6 => exact Yl.bin rfl rfl rfl (Bin.neq _ _ _ _)
  refine TL.nil ?_
  refine TE.next ?_
  refine TC.cond rfl (fun hs10 => ?_) (fun hs10 => ?_)
  · skip
    (try simp only [decide_eq_true_eq, decide_eq_false_iff_not, beq_iff_eq, beq_eq_false_iff_ne, bne_iff_ne, ne_eq, bne_eq_false_iff_eq, Bool.not_eq_true', Bool.not_eq_false', Int.not_lt, Int.not_le, gt_iff_lt, ge_iff_le] at hs10)
    refine TC.seq ?_
    refine TC.region ?_
    refine' TL.y rfl rfl rfl ?hy7 ?_
    case hy7 => exact Yl.assign rfl rfl
    refine TL.nil ?_
    refine TE.next ?_
    refine TC.ret ?_
    refine TE.thenRet ?_
    refine TE.ret1 rfl rfl ?_
    exact fun w h => ⟨by rw [show decide (xs = ys) = false from decide_eq_false (fun e => hs10 (by rw [e]))], h.below⟩
  · skip
    (try simp only [decide_eq_true_eq, decide_eq_false_iff_not, beq_iff_eq, beq_eq_false_iff_ne, bne_iff_ne, ne_eq, bne_eq_false_iff_eq, Bool.not_eq_true', Bool.not_eq_false', Int.not_lt, Int.not_le, gt_iff_lt, ge_iff_le] at hs10)
    refine TC.skip ?_
    refine TE.next ?_
    refine TC.seq ?_
    refine TC.seq ?_
    refine TC.region ?_
    refine' TL.y rfl rfl rfl ?hy8 ?_
    case hy8 => exact Yl.assign rfl rfl
    refine TL.nil ?_
    refine TE.next ?_
    refine TC.block ?_
    refine TC.loop (σ := Nat) (fun i => [(0, .slice A xs.length cp), (1, .slice B ys.length cq), (5, .int .i64 (i : Int))]) (fun i => Hp W (fun _ => False) []) (fun i => i ≤ xs.length ∧ xs.take i = ys.take i) (fun i => xs.length - i) 0 ?hF9 ?hs9 ?hm9 ?round9
    case hF9 => exact ⟨Nat.zero_le _, rfl⟩
    case hs9 => exact ⟨rfl, rfl, rfl, trivial⟩
    case hm9 => exact fun _ h => h
    case round9 =>
      rintro i ⟨h1, h2⟩
      refine TC.seq ?_
      refine TC.seq ?_
      refine TC.region ?_
      refine' TL.y rfl rfl rfl ?hy10 ?_
      case hy10 => exact Yl.move rfl rfl
      refine' TL.y rfl rfl rfl ?hy11 ?_
      case hy11 => exact Yl.move rfl rfl
      refine' TL.y rfl rfl rfl ?hy12 ?_
      case hy12 => exact Yl.len rfl rfl Tryd.underlying39
      refine' TL.y rfl rfl rfl ?hy13 ?_
      case hy13 => exact Yl.bin rfl rfl rfl (Bin.lss _ _ _ _)
      refine TL.nil ?_
      refine TE.next ?_
      refine TC.cond rfl (fun hs14 => ?_) (fun hs14 => ?_)
      · skip
        (try simp only [decide_eq_true_eq, decide_eq_false_iff_not, beq_iff_eq, beq_eq_false_iff_ne, bne_iff_ne, ne_eq, bne_eq_false_iff_eq, Bool.not_eq_true', Bool.not_eq_false', Int.not_lt, Int.not_le, gt_iff_lt, ge_iff_le] at hs14)
        obtain ⟨bb, oo, rfl⟩ := Sl.in hS (by omega)
        obtain ⟨bc, oc, rfl⟩ := Sl.in hT (by omega)
        refine TC.skip ?_
        refine TE.next ?_
        refine TC.seq ?_
        refine TC.block ?_
        refine TC.seq ?_
        refine TC.draw (k := 9) _ [] #[false, false, false, false, false, false, false, false, false] (by kernel_rfl) rfl rfl (fun _ h => h.drew) (fun _ h => h) ?_
        refine' TA.y (i := 0) #[true, false, false, false, false, false, false, false, false] rfl rfl rfl (by kernel_rfl) (fun _ _ _ h => h) (fun _ h => by exact Hp.sub h (by repeat (first | exact List.Sublist.refl _ | apply List.Sublist.cons))) rfl ?hy14 ?_
        case hy14 => exact Yl.move rfl rfl
        refine' TA.y (i := 1) #[true, true, false, false, false, false, false, false, false] rfl rfl rfl (by kernel_rfl) (fun _ _ _ h => h) (fun _ h => by exact Hp.sub h (by repeat (first | exact List.Sublist.refl _ | apply List.Sublist.cons))) rfl ?hy15 ?_
        case hy15 => exact Yl.move rfl rfl
        refine' TA.y (i := 2) #[true, true, true, false, false, false, false, false, false] rfl rfl rfl (by kernel_rfl) (fun _ _ _ h => h) (fun _ h => by exact Hp.sub h (by repeat (first | exact List.Sublist.refl _ | apply List.Sublist.cons))) rfl ?hy16 ?_
        case hy16 => first | exact Yl.ixn rfl rfl rfl Tryd.underlying39 (by kernel_rfl) (by omega) | exact Yl.ixz rfl rfl rfl Tryd.underlying39 (by kernel_rfl) (by omega) (by omega) | exact Yl.ixcn rfl rfl rfl Tryd.underlying39 (by kernel_rfl) (by omega) | exact Yl.ixcz rfl rfl rfl Tryd.underlying39 (by kernel_rfl) (by omega) (by omega)
        refine' TA.y (i := 3) #[true, true, true, true, false, false, false, false, false] rfl rfl rfl (by kernel_rfl) (fun _ _ _ h => h) (fun _ h => by exact Hp.sub h (by repeat (first | exact List.Sublist.refl _ | apply List.Sublist.cons))) rfl ?hy17 ?_
        case hy17 => first | exact Yl.load rfl rfl (by kernel_rfl) (Sl.rd 0 hS rfl (by omega) (fun _ => id)) | exact Yl.load rfl rfl (by kernel_rfl) (Sl.rd 0 hT rfl (by omega) (fun _ => id)) | exact Yl.load rfl rfl (by kernel_rfl) (Hp.cell mem0 rfl) | exact Yl.load rfl rfl (by kernel_rfl) (Hp.cell mem1 rfl) | exact Yl.load rfl rfl (by kernel_rfl) (Hp.cell mem2 rfl) | exact Yl.load rfl rfl (by kernel_rfl) (Hp.cell mem3 rfl) | exact Yl.load rfl rfl (by kernel_rfl) (Hp.cell mem4 rfl) | exact Yl.load rfl rfl (by kernel_rfl) (Hp.rowAt mem0 (by omega) rfl) | exact Yl.load rfl rfl (by kernel_rfl) (Hp.rowAt mem1 (by omega) rfl) | exact Yl.load rfl rfl (by kernel_rfl) (Hp.rowAt mem2 (by omega) rfl) | exact Yl.load rfl rfl (by kernel_rfl) (Hp.rowAt mem3 (by omega) rfl) | exact Yl.load rfl rfl (by kernel_rfl) (Hp.rowAt mem4 (by omega) rfl)
        refine' TA.y (i := 4) #[true, true, true, true, true, false, false, false, false] rfl rfl rfl (by kernel_rfl) (fun _ _ _ h => h) (fun _ h => by exact Hp.sub h (by repeat (first | exact List.Sublist.refl _ | apply List.Sublist.cons))) rfl ?hy18 ?_
        case hy18 => exact Yl.move rfl rfl
        refine' TA.y (i := 5) #[true, true, true, true, true, true, false, false, false] rfl rfl rfl (by kernel_rfl) (fun _ _ _ h => h) (fun _ h => by exact Hp.sub h (by repeat (first | exact List.Sublist.refl _ | apply List.Sublist.cons))) rfl ?hy19 ?_
        case hy19 => exact Yl.move rfl rfl
        refine' TA.y (i := 6) #[true, true, true, true, true, true, true, false, false] rfl rfl rfl (by kernel_rfl) (fun _ _ _ h => h) (fun _ h => by exact Hp.sub h (by repeat (first | exact List.Sublist.refl _ | apply List.Sublist.cons))) rfl ?hy20 ?_
        case hy20 => first | exact Yl.ixn rfl rfl rfl Tryd.underlying39 (by kernel_rfl) (by omega) | exact Yl.ixz rfl rfl rfl Tryd.underlying39 (by kernel_rfl) (by omega) (by omega) | exact Yl.ixcn rfl rfl rfl Tryd.underlying39 (by kernel_rfl) (by omega) | exact Yl.ixcz rfl rfl rfl Tryd.underlying39 (by kernel_rfl) (by omega) (by omega)
        refine' TA.y (i := 7) #[true, true, true, true, true, true, true, true, false] rfl rfl rfl (by kernel_rfl) (fun _ _ _ h => h) (fun _ h => by exact Hp.sub h (by repeat (first | exact List.Sublist.refl _ | apply List.Sublist.cons))) rfl ?hy21 ?_
        case hy21 => first | exact Yl.load rfl rfl (by kernel_rfl) (Sl.rd 0 hS rfl (by omega) (fun _ => id)) | exact Yl.load rfl rfl (by kernel_rfl) (Sl.rd 0 hT rfl (by omega) (fun _ => id)) | exact Yl.load rfl rfl (by kernel_rfl) (Hp.cell mem0 rfl) | exact Yl.load rfl rfl (by kernel_rfl) (Hp.cell mem1 rfl) | exact Yl.load rfl rfl (by kernel_rfl) (Hp.cell mem2 rfl) | exact Yl.load rfl rfl (by kernel_rfl) (Hp.cell mem3 rfl) | exact Yl.load rfl rfl (by kernel_rfl) (Hp.cell mem4 rfl) | exact Yl.load rfl rfl (by kernel_rfl) (Hp.rowAt mem0 (by omega) rfl) | exact Yl.load rfl rfl (by kernel_rfl) (Hp.rowAt mem1 (by omega) rfl) | exact Yl.load rfl rfl (by kernel_rfl) (Hp.rowAt mem2 (by omega) rfl) | exact Yl.load rfl rfl (by kernel_rfl) (Hp.rowAt mem3 (by omega) rfl) | exact Yl.load rfl rfl (by kernel_rfl) (Hp.rowAt mem4 (by omega) rfl)
        refine' TA.y (i := 8) #[true, true, true, true, true, true, true, true, true] rfl rfl rfl (by kernel_rfl) (fun _ _ _ h => h) (fun _ h => by exact Hp.sub h (by repeat (first | exact List.Sublist.refl _ | apply List.Sublist.cons))) rfl ?hy22 ?_
        case hy22 => exact Yl.bin rfl rfl rfl (Bin.neq _ _ _ _)
        refine TA.done (by kernel_rfl) ?_
        refine TE.next ?_
        refine TC.cond rfl (fun hs25 => ?_) (fun hs25 => ?_)
        · skip
          (try simp only [decide_eq_true_eq, decide_eq_false_iff_not, beq_iff_eq, beq_eq_false_iff_ne, bne_iff_ne, ne_eq, bne_eq_false_iff_eq, Bool.not_eq_true', Bool.not_eq_false', Int.not_lt, Int.not_le, gt_iff_lt, ge_iff_le] at hs25)
          refine TC.seq ?_
          refine TC.region ?_
          refine' TL.y rfl rfl rfl ?hy23 ?_
          case hy23 => exact Yl.assign rfl rfl
          refine TL.nil ?_
          refine TE.next ?_
          refine TC.ret ?_
          refine TE.inRet ?_
          refine TE.thenRet ?_
          refine TE.thenRet ?_
          refine TE.inRet ?_
          refine TE.thenRet ?_
          refine TE.ret1 rfl rfl ?_
          exact fun w h => ⟨by rw [show decide (xs = ys) = false from decide_eq_false (fun e => hs25 (by rw [e]))], h.below⟩
        · skip
          (try simp only [decide_eq_true_eq, decide_eq_false_iff_not, beq_iff_eq, beq_eq_false_iff_ne, bne_iff_ne, ne_eq, bne_eq_false_iff_eq, Bool.not_eq_true', Bool.not_eq_false', Int.not_lt, Int.not_le, gt_iff_lt, ge_iff_le] at hs25)
          refine TC.skip ?_
          refine TE.inNormal ?_
          refine TE.next ?_
          refine TC.region ?_
          refine' TL.y rfl rfl rfl ?hy24 ?_
          case hy24 => exact Yl.move rfl rfl
          refine' TL.y rfl rfl rfl ?hy25 ?_
          case hy25 => first | (refine Yl.val (Yl.bin rfl rfl rfl (Bin.add _ _ _ _)) (congrArg (Value.int .i64) (i64in ?_ ?_)) <;> omega) | exact Yl.bin rfl rfl rfl (Bin.add _ _ _ _)
          refine' TL.y rfl rfl rfl ?hy26 ?_
          case hy26 => exact Yl.assign rfl rfl
          refine TL.nil ?_
          refine TE.round (i + 1) ?hF27 ?hlt27 ?hs27 ?hm27
          case hF27 => exact ⟨by omega, take_same (by omega) (by omega) h2 hs25⟩
          case hlt27 => omega
          case hs27 => exact ⟨rfl, rfl, rfl, trivial⟩
          case hm27 => exact fun _ h => h
      · skip
        (try simp only [decide_eq_true_eq, decide_eq_false_iff_not, beq_iff_eq, beq_eq_false_iff_ne, bne_iff_ne, ne_eq, bne_eq_false_iff_eq, Bool.not_eq_true', Bool.not_eq_false', Int.not_lt, Int.not_le, gt_iff_lt, ge_iff_le] at hs14)
        refine TC.exit ?_
        refine TE.thenExit ?_
        refine TE.thenExit ?_
        refine TE.inHere ?_
        refine TE.next ?_
        refine TC.seq ?_
        refine TC.region ?_
        refine' TL.y rfl rfl rfl ?hy28 ?_
        case hy28 => exact Yl.assign rfl rfl
        refine TL.nil ?_
        refine TE.next ?_
        refine TC.ret ?_
        refine TE.ret1 rfl rfl ?_
        have he : xs = ys := by have := h2; rwa [List.take_of_length_le (by omega), List.take_of_length_le (by omega)] at this
        exact fun w h => ⟨by rw [show decide (xs = ys) = true from decide_eq_true he], h.below⟩
set_option maxRecDepth 100000 in
set_option maxHeartbeats 2000000 in
theorem k_dig_lo (W : World) (x : Int) (hx0 : 0 ≤ x) (hx1 : x < 18446744073709551616) (w0 : Int) (hw : w0 < 1) : Calls Tryd.prog 28 #[.int .u64 x, .int .i64 w0] W fun e w' => ∃ v, e = .returned (v) ∧ (ownR 3 1 v (dS x w0).length ((dS x w0).map (Value.int .i64))).holds w' ∧ Below W.heap.size W w' ∧ ∀ kk, (ownR 3 1 v (dS x w0).length ((dS x w0).map (Value.int .i64))).foot kk → W.heap.size ≤ kk := by
  have hM : Hp W (fun _ => False) [] W := Hp.start
  refine TC.enter (n := 45) Tryd.func28 rfl rfl rfl hM ?_
  refine TC.seq ?_
  refine TC.region ?_
  refine' TL.y rfl rfl rfl ?hy1 ?_
  case hy1 => exact Yl.assign rfl rfl
  refine TL.nil ?_
  refine TE.next ?_
  refine TC.seq ?_
  refine TC.seq ?_
  refine TC.region ?_
  refine' TL.y rfl rfl rfl ?hy2 ?_
  case hy2 => exact Yl.move rfl rfl
  refine' TL.y rfl rfl rfl ?hy3 ?_
  case hy3 => exact Yl.bin rfl rfl rfl (Bin.lss _ _ _ _)
  refine' TL.y rfl rfl rfl ?hy4 ?_
  case hy4 => exact Yl.move rfl rfl
  refine TL.re (i := 10) (v' := .bool true) rfl (congrArg Value.bool (by simp; omega)) ?_
  refine TL.skip rfl rfl rfl ?_
  refine TL.skip rfl rfl rfl ?_
  refine' TL.y rfl rfl rfl ?hy5 ?_
  case hy5 => exact Yl.pickT rfl rfl rfl
  refine TL.nil ?_
  refine TE.next ?_
  refine TC.yes rfl rfl ?_
  refine TC.seq ?_
  refine TC.region ?_
  refine' TL.y rfl rfl rfl ?hy6 ?_
  case hy6 => exact Yl.assign rfl rfl
  refine TL.nil ?_
  refine TE.next ?_
  refine TC.ret ?_
  refine TE.thenRet ?_
  refine TE.ret1 rfl rfl ?_
  exact fun w h => ⟨.slice none 0 0, rfl, by rw [show dS x w0 = [] from if_neg (by omega)]; exact (h.nil (e := 3) (size := 1)).leaveNew⟩
set_option maxRecDepth 100000 in
set_option maxHeartbeats 2000000 in
theorem k_dig_hi (W : World) (x : Int) (hx0 : 0 ≤ x) (hx1 : x < 18446744073709551616) (w0 : Int) (hw : 16 < w0) : Calls Tryd.prog 28 #[.int .u64 x, .int .i64 w0] W fun e w' => ∃ v, e = .returned (v) ∧ (ownR 3 1 v (dS x w0).length ((dS x w0).map (Value.int .i64))).holds w' ∧ Below W.heap.size W w' ∧ ∀ kk, (ownR 3 1 v (dS x w0).length ((dS x w0).map (Value.int .i64))).foot kk → W.heap.size ≤ kk := by
  have hM : Hp W (fun _ => False) [] W := Hp.start
  refine TC.enter (n := 45) Tryd.func28 rfl rfl rfl hM ?_
  refine TC.seq ?_
  refine TC.region ?_
  refine' TL.y rfl rfl rfl ?hy1 ?_
  case hy1 => exact Yl.assign rfl rfl
  refine TL.nil ?_
  refine TE.next ?_
  refine TC.seq ?_
  refine TC.seq ?_
  refine TC.region ?_
  refine' TL.y rfl rfl rfl ?hy2 ?_
  case hy2 => exact Yl.move rfl rfl
  refine' TL.y rfl rfl rfl ?hy3 ?_
  case hy3 => exact Yl.bin rfl rfl rfl (Bin.lss _ _ _ _)
  refine' TL.y rfl rfl rfl ?hy4 ?_
  case hy4 => exact Yl.move rfl rfl
  refine TL.re (i := 10) (v' := .bool false) rfl (congrArg Value.bool (by simp; omega)) ?_
  refine' TL.y rfl rfl rfl ?hy5 ?_
  case hy5 => exact Yl.move rfl rfl
  refine' TL.y rfl rfl rfl ?hy6 ?_
  case hy6 => exact Yl.bin rfl rfl rfl (Bin.gtr _ _ _ _)
  refine' TL.y rfl rfl rfl ?hy7 ?_
  case hy7 => exact Yl.pickF rfl rfl rfl
  refine TL.nil ?_
  refine TE.next ?_
  refine TC.yes rfl (by simp; omega) ?_
  refine TC.seq ?_
  refine TC.region ?_
  refine' TL.y rfl rfl rfl ?hy8 ?_
  case hy8 => exact Yl.assign rfl rfl
  refine TL.nil ?_
  refine TE.next ?_
  refine TC.ret ?_
  refine TE.thenRet ?_
  refine TE.ret1 rfl rfl ?_
  exact fun w h => ⟨.slice none 0 0, rfl, by rw [show dS x w0 = [] from if_neg (by omega)]; exact (h.nil (e := 3) (size := 1)).leaveNew⟩
set_option maxRecDepth 100000 in
set_option maxHeartbeats 2000000 in
theorem k_dig_in (W : World) (x : Int) (hx0 : 0 ≤ x) (hx1 : x < 18446744073709551616) (k : Nat) (hk : 1 ≤ k) (hk1 : k ≤ 16) : Calls Tryd.prog 28 #[.int .u64 x, .int .i64 (k : Int)] W fun e w' => ∃ v, e = .returned (v) ∧ (ownR 3 1 v (dS x (k : Int)).length ((dS x (k : Int)).map (Value.int .i64))).holds w' ∧ Below W.heap.size W w' ∧ ∀ kk, (ownR 3 1 v (dS x (k : Int)).length ((dS x (k : Int)).map (Value.int .i64))).foot kk → W.heap.size ≤ kk := by
  have hM : Hp W (fun _ => False) [] W := Hp.start
  refine TC.enter (n := 45) Tryd.func28 rfl rfl rfl hM ?_
  refine TC.seq ?_
  refine TC.region ?_
  refine' TL.y rfl rfl rfl ?hy1 ?_
  case hy1 => exact Yl.assign rfl rfl
  refine TL.nil ?_
  refine TE.next ?_
  refine TC.seq ?_
  refine TC.seq ?_
  refine TC.region ?_
  refine' TL.y rfl rfl rfl ?hy2 ?_
  case hy2 => exact Yl.move rfl rfl
  refine' TL.y rfl rfl rfl ?hy3 ?_
  case hy3 => exact Yl.bin rfl rfl rfl (Bin.lss _ _ _ _)
  refine' TL.y rfl rfl rfl ?hy4 ?_
  case hy4 => exact Yl.move rfl rfl
  refine TL.re (i := 10) (v' := .bool false) rfl (congrArg Value.bool (by simp; omega)) ?_
  refine' TL.y rfl rfl rfl ?hy5 ?_
  case hy5 => exact Yl.move rfl rfl
  refine' TL.y rfl rfl rfl ?hy6 ?_
  case hy6 => exact Yl.bin rfl rfl rfl (Bin.gtr _ _ _ _)
  refine' TL.y rfl rfl rfl ?hy7 ?_
  case hy7 => exact Yl.pickF rfl rfl rfl
  refine TL.nil ?_
  refine TE.next ?_
  refine TC.no rfl (by simp; omega) ?_
  refine TC.skip ?_
  refine TE.next ?_
  refine TC.seq ?_
  refine TC.region ?_
  refine' TL.y rfl rfl rfl ?hy8 ?_
  case hy8 => exact Yl.move rfl rfl
  refine' TL.y rfl rfl rfl ?hy9 ?_
  case hy9 => first | (refine Yl.val (Yl.bin rfl rfl rfl (Bin.add _ _ _ _)) (congrArg (Value.int .i64) (i64in ?_ ?_)) <;> omega) | exact Yl.bin rfl rfl rfl (Bin.add _ _ _ _)
  refine' TL.y rfl rfl rfl ?hy10 ?_
  case hy10 => first | (refine Yl.val (Yl.bin rfl rfl rfl (Bin.sub _ _ _ _)) (congrArg (Value.int .i64) (i64in ?_ ?_)) <;> omega) | exact Yl.bin rfl rfl rfl (Bin.sub _ _ _ _)
  refine' TL.y rfl rfl rfl ?hy11 ?_
  case hy11 => exact Yl.move rfl rfl
  refine' TL.y rfl rfl rfl ?hy12 ?_
  case hy12 => exact Yl.val (Yl.bin rfl rfl rfl (Bin.quo _ _ _ _ (by omega))) (congrArg (Value.int .i64) (digN_is hk))
  have hk2 := (digN_le k hk).2
  have hp := pow16 hk1
  have hL : dS x (k : Int) = digL x k := if_pos (by omega)
  refine' TL.mx rfl rfl rfl ?hy13 ?_
  case hy13 => exact Ym.makeRow (z := .int .i64 0) (by_ := 8) rfl rfl rfl Tryd.underlying39 (by kernel_rfl) rfl (by omega) (by omega) (by omega)
  intro b19
  simp only [Int.toNat_natCast]
  refine' TL.y rfl rfl rfl ?hy14 ?_
  case hy14 => exact Yl.assign rfl rfl
  refine TL.nil ?_
  refine TE.next ?_
  refine TC.seq ?_
  refine TC.seq ?_
  refine TC.region ?_
  refine' TL.y rfl rfl rfl ?hy15 ?_
  case hy15 => exact Yl.move rfl rfl
  refine' TL.y rfl rfl rfl ?hy16 ?_
  case hy16 => exact Yl.len rfl rfl Tryd.underlying39
  refine' TL.y rfl rfl rfl ?hy17 ?_
  case hy17 => exact Yl.move rfl rfl
  refine TL.nil ?_
  refine TE.next ?_
  refine TC.block ?_
  refine TC.loop (σ := Nat) (fun i => [(5, .slice (some ⟨b19, 0, none⟩) (digN k) (digN k)), (21, .int .i64 (digN k)), (22, .int .i64 (i : Int)), (0, .int .u64 x), (1, .int .i64 (k : Int))]) (fun i => Hp W (fun _ => False) [blk b19 (.cells (rowA (digN k) (fun j => if j < i then .int .i64 (digS x k (digN k) j) else .int .i64 0)) 3 (0, 0))]) (fun i => i ≤ digN k) (fun i => digN k - i) 0 ?hF18 ?hs18 ?hm18 ?round18
  case hF18 => exact Nat.zero_le _
  case hs18 => exact ⟨rfl, rfl, rfl, rfl, rfl, trivial⟩
  case hm18 => exact fun w h => by simpa using h
  case round18 =>
    intro i h1
    refine TC.seq ?_
    refine TC.region ?_
    refine' TL.y rfl rfl rfl ?hy19 ?_
    case hy19 => exact Yl.bin rfl rfl rfl (Bin.lss _ _ _ _)
    refine TL.nil ?_
    refine TE.next ?_
    refine TC.seq ?_
    refine TC.cond rfl (fun hs23 => ?_) (fun hs23 => ?_)
    · skip
      (try simp only [decide_eq_true_eq, decide_eq_false_iff_not, beq_iff_eq, beq_eq_false_iff_ne, bne_iff_ne, ne_eq, bne_eq_false_iff_eq, Bool.not_eq_true', Bool.not_eq_false', Int.not_lt, Int.not_le, gt_iff_lt, ge_iff_le] at hs23)
      have hb := digN_at hk (show i < digN k by omega)
      have hd := digS_range x k (digN k) i
      refine TC.skip ?_
      refine TE.next ?_
      refine TC.seq ?_
      refine TC.block ?_
      refine TC.seq ?_
      refine TC.region ?_
      refine' TL.y rfl rfl rfl ?hy20 ?_
      case hy20 => exact Yl.move rfl rfl
      refine' TL.y rfl rfl rfl ?hy21 ?_
      case hy21 => exact Yl.assign rfl rfl
      refine TL.nil ?_
      refine TE.next ?_
      refine TC.seq ?_
      refine TC.region ?_
      refine' TL.y rfl rfl rfl ?hy22 ?_
      case hy22 => exact Yl.move rfl rfl
      refine' TL.y rfl rfl rfl ?hy23 ?_
      case hy23 => exact Yl.len rfl rfl Tryd.underlying39
      refine' TL.y rfl rfl rfl ?hy24 ?_
      case hy24 => first | (refine Yl.val (Yl.bin rfl rfl rfl (Bin.sub _ _ _ _)) (congrArg (Value.int .i64) (i64in ?_ ?_)) <;> omega) | exact Yl.bin rfl rfl rfl (Bin.sub _ _ _ _)
      refine' TL.y rfl rfl rfl ?hy25 ?_
      case hy25 => exact Yl.move rfl rfl
      refine' TL.y rfl rfl rfl ?hy26 ?_
      case hy26 => first | (refine Yl.val (Yl.bin rfl rfl rfl (Bin.sub _ _ _ _)) (congrArg (Value.int .i64) (i64in ?_ ?_)) <;> omega) | exact Yl.bin rfl rfl rfl (Bin.sub _ _ _ _)
      refine' TL.y rfl rfl rfl ?hy27 ?_
      case hy27 => exact Yl.move rfl rfl
      refine' TL.y rfl rfl rfl ?hy28 ?_
      case hy28 => exact Yl.val (Yl.bin rfl rfl rfl (Bin.mul _ _ _ _)) (congrArg (Value.int .i64) (show IntKind.i64.wrap (((digN k : Int) - 1 - i) * k) = (((digN k - 1 - i) * k : Nat) : Int) from by rw [show ((digN k : Int) - 1 - i) = ((digN k - 1 - i : Nat) : Int) by omega, ← Int.natCast_mul]; exact i64in (by omega) (by omega)))
      refine' TL.y rfl rfl rfl ?hy29 ?_
      case hy29 => first | (refine Yl.val (Yl.conv rfl rfl (by kernel_rfl) Tryd.underlying56) (congrArg (Value.int .u64) (u64in ?_ ?_)) <;> omega) | exact Yl.conv rfl rfl (by kernel_rfl) Tryd.underlying56
      refine' TL.y rfl rfl rfl ?hy30 ?_
      case hy30 => exact Yl.assign rfl rfl
      refine TL.nil ?_
      refine TE.next ?_
      refine TC.region ?_
      refine' TL.y rfl rfl rfl ?hy31 ?_
      case hy31 => exact Yl.move rfl rfl
      refine' TL.y rfl rfl rfl ?hy32 ?_
      case hy32 => exact Yl.move rfl rfl
      refine' TL.y rfl rfl rfl ?hy33 ?_
      case hy33 => exact Yl.move rfl rfl
      refine' TL.y rfl rfl rfl ?hy34 ?_
      case hy34 => exact Yl.move rfl rfl
      refine' TL.y rfl rfl rfl ?hy35 ?_
      case hy35 => exact Yl.val (Yl.bin rfl rfl rfl (Bin.shr _ _ _ _ _ (by omega))) (congrArg (Value.int .u64) (show x / 2 ^ min (((digN k - 1 - i) * k : Nat) : Int).toNat IntKind.u64.bits = x / 2 ^ ((digN k - 1 - i) * k) from by rw [Int.toNat_natCast, show min ((digN k - 1 - i) * k) IntKind.u64.bits = (digN k - 1 - i) * k from by (have : IntKind.u64.bits = 64 := rfl); omega]))
      refine' TL.y rfl rfl rfl ?hy36 ?_
      case hy36 => exact Yl.move rfl rfl
      refine' TL.c rfl rfl rfl ?hy37 ?_
      case hy37 => exact Yc.call rfl Tryd.func36 (by kernel_rfl) rfl rfl (Hp.gives (k_mask _ (by omega) (by omega)))
      intro _
      refine' TL.y rfl rfl rfl ?hy38 ?_
      case hy38 => exact Yl.val (Yl.bin rfl rfl rfl (Bin.and _ _ _ _)) (congrArg (Value.int .u64) (show Go.bits .and .u64 (x / 2 ^ ((digN k - 1 - i) * k)) (2 ^ (k : Int).toNat - 1) = digS x k (digN k) i from by rw [Int.toNat_natCast]; exact maskU _ k (by omega) (Int.ediv_nonneg hx0 (Int.le_of_lt (pow_pos _))) (Int.lt_of_le_of_lt (Int.ediv_le_self _ hx0) hx1)))
      refine' TL.y rfl rfl rfl ?hy39 ?_
      case hy39 => first | (refine Yl.val (Yl.conv rfl rfl (by kernel_rfl) Tryd.underlying3) (congrArg (Value.int .i64) (i64in ?_ ?_)) <;> omega) | exact Yl.conv rfl rfl (by kernel_rfl) Tryd.underlying3
      refine' TL.y rfl rfl rfl ?hy40 ?_
      case hy40 => first | exact Yl.ixn rfl rfl rfl Tryd.underlying39 (by kernel_rfl) (by omega) | exact Yl.ixz rfl rfl rfl Tryd.underlying39 (by kernel_rfl) (by omega) (by omega) | exact Yl.ixcn rfl rfl rfl Tryd.underlying39 (by kernel_rfl) (by omega) | exact Yl.ixcz rfl rfl rfl Tryd.underlying39 (by kernel_rfl) (by omega) (by omega)
      refine' TL.s rfl rfl ?hy41 ?_
      case hy41 => first | exact Ys.row rfl rfl rfl rfl (by kernel_rfl) rfl foc0 (by omega) rfl | exact Ys.row rfl rfl rfl rfl (by kernel_rfl) rfl foc1 (by omega) rfl | exact Ys.row rfl rfl rfl rfl (by kernel_rfl) rfl foc2 (by omega) rfl | exact Ys.row rfl rfl rfl rfl (by kernel_rfl) rfl foc3 (by omega) rfl | exact Ys.row rfl rfl rfl rfl (by kernel_rfl) rfl foc4 (by omega) rfl | exact Ys.store rfl rfl rfl rfl (by kernel_rfl) (by simp [Value.oneCell', Value.cells]) foc0 (by simp [Value.cells]) rfl | exact Ys.store rfl rfl rfl rfl (by kernel_rfl) (by simp [Value.oneCell', Value.cells]) foc1 (by simp [Value.cells]) rfl | exact Ys.store rfl rfl rfl rfl (by kernel_rfl) (by simp [Value.oneCell', Value.cells]) foc2 (by simp [Value.cells]) rfl | exact Ys.store rfl rfl rfl rfl (by kernel_rfl) (by simp [Value.oneCell', Value.cells]) foc3 (by simp [Value.cells]) rfl | exact Ys.store rfl rfl rfl rfl (by kernel_rfl) (by simp [Value.oneCell', Value.cells]) foc4 (by simp [Value.cells]) rfl
      refine TL.nil ?_
      refine TE.inNormal ?_
      refine TE.next ?_
      refine TC.region ?_
      refine' TL.y rfl rfl rfl ?hy42 ?_
      case hy42 => first | (refine Yl.val (Yl.bin rfl rfl rfl (Bin.add _ _ _ _)) (congrArg (Value.int .i64) (i64in ?_ ?_)) <;> omega) | exact Yl.bin rfl rfl rfl (Bin.add _ _ _ _)
      refine' TL.y rfl rfl rfl ?hy43 ?_
      case hy43 => exact Yl.move rfl rfl
      refine TL.nil ?_
      refine TE.round (i + 1) ?hF44 ?hlt44 ?hs44 ?hm44
      case hF44 => omega
      case hlt44 => omega
      case hs44 => exact ⟨rfl, rfl, rfl, rfl, rfl, trivial⟩
      case hm44 => exact fun w h => by rw [← fill_up]; exact h
    · skip
      (try simp only [decide_eq_true_eq, decide_eq_false_iff_not, beq_iff_eq, beq_eq_false_iff_ne, bne_iff_ne, ne_eq, bne_eq_false_iff_eq, Bool.not_eq_true', Bool.not_eq_false', Int.not_lt, Int.not_le, gt_iff_lt, ge_iff_le] at hs23)
      refine TC.exit ?_
      refine TE.thenExit ?_
      refine TE.thenExit ?_
      refine TE.inHere ?_
      refine TE.next ?_
      refine TC.seq ?_
      refine TC.region ?_
      refine' TL.y rfl rfl rfl ?hy45 ?_
      case hy45 => exact Yl.move rfl rfl
      refine' TL.y rfl rfl rfl ?hy46 ?_
      case hy46 => exact Yl.assign rfl rfl
      refine TL.nil ?_
      refine TE.next ?_
      refine TC.ret ?_
      refine TE.ret1 rfl rfl ?_
      obtain rfl : i = digN k := by omega
      exact fun w h => ⟨.slice (some ⟨b19, 0, none⟩) (digN k) (digN k), rfl, by rw [hL]; have h2 := (h.rowOwn (by have := (digN_le k hk).2; unfold maxLen; omega)); have h3 := h2.leaveNew; rw [show (List.range (digN k)).map (fun j => if j < digN k then Value.int .i64 (digS x k (digN k) j) else Value.int .i64 0) = (digL x k).map (Value.int .i64) from by unfold digL; rw [List.map_map]; exact List.map_congr_left (fun j hj => if_pos (List.mem_range.1 hj))] at h3; rw [show (digL x k).length = digN k from by simp [digL]]; exact h3⟩
theorem k_dig (W : World) (x : Int) (hx0 : 0 ≤ x) (hx1 : x < 18446744073709551616) (w0 : Int) : Calls Go.Proofs.Tryd.prog 28 #[.int .u64 x, .int .i64 w0] W fun e w' => ∃ v, e = .returned (v) ∧ (ownR 3 1 v (dS x w0).length ((dS x w0).map (Value.int .i64))).holds w' ∧ Below W.heap.size W w' ∧ ∀ kk, (ownR 3 1 v (dS x w0).length ((dS x w0).map (Value.int .i64))).foot kk → W.heap.size ≤ kk := by
  by_cases h1 : w0 < 1
  · exact k_dig_lo W x hx0 hx1 w0 h1
  · by_cases h2 : 16 < w0
    · exact k_dig_hi W x hx0 hx1 w0 h2
    · obtain ⟨k, rfl⟩ := Int.eq_ofNat_of_zero_le (show 0 ≤ w0 by omega)
      exact k_dig_in W x hx0 hx1 k (by omega) (by omega)
set_option maxRecDepth 100000 in
set_option maxHeartbeats 2000000 in
theorem k_rdig_lo (W : World) (x : Int) (hx0 : 0 ≤ x) (hx1 : x < 18446744073709551616) (w0 : Int) (hw : w0 < 1) : Calls Tryd.prog 29 #[.int .u64 x, .int .i64 w0] W fun e w' => ∃ v, e = .returned (v) ∧ (ownR 3 1 v (dS x w0).length ((dS x w0).map (Value.int .i64))).holds w' ∧ Below W.heap.size W w' ∧ ∀ kk, (ownR 3 1 v (dS x w0).length ((dS x w0).map (Value.int .i64))).foot kk → W.heap.size ≤ kk := by
  have hM : Hp W (fun _ => False) [] W := Hp.start
  refine TC.enter (n := 40) Tryd.func29 rfl rfl rfl hM ?_
  refine TC.seq ?_
  refine TC.region ?_
  refine' TL.y rfl rfl rfl ?hy1 ?_
  case hy1 => exact Yl.assign rfl rfl
  refine TL.nil ?_
  refine TE.next ?_
  refine TC.seq ?_
  refine TC.seq ?_
  refine TC.region ?_
  refine' TL.y rfl rfl rfl ?hy2 ?_
  case hy2 => exact Yl.move rfl rfl
  refine' TL.y rfl rfl rfl ?hy3 ?_
  case hy3 => exact Yl.bin rfl rfl rfl (Bin.lss _ _ _ _)
  refine' TL.y rfl rfl rfl ?hy4 ?_
  case hy4 => exact Yl.move rfl rfl
  refine TL.re (i := 10) (v' := .bool true) rfl (congrArg Value.bool (by simp; omega)) ?_
  refine TL.skip rfl rfl rfl ?_
  refine TL.skip rfl rfl rfl ?_
  refine' TL.y rfl rfl rfl ?hy5 ?_
  case hy5 => exact Yl.pickT rfl rfl rfl
  refine TL.nil ?_
  refine TE.next ?_
  refine TC.yes rfl rfl ?_
  refine TC.seq ?_
  refine TC.region ?_
  refine' TL.y rfl rfl rfl ?hy6 ?_
  case hy6 => exact Yl.assign rfl rfl
  refine TL.nil ?_
  refine TE.next ?_
  refine TC.ret ?_
  refine TE.thenRet ?_
  refine TE.ret1 rfl rfl ?_
  exact fun w h => ⟨.slice none 0 0, rfl, by rw [show dS x w0 = [] from if_neg (by omega)]; exact (h.nil (e := 3) (size := 1)).leaveNew⟩
set_option maxRecDepth 100000 in
set_option maxHeartbeats 2000000 in
theorem k_rdig_hi (W : World) (x : Int) (hx0 : 0 ≤ x) (hx1 : x < 18446744073709551616) (w0 : Int) (hw : 16 < w0) : Calls Tryd.prog 29 #[.int .u64 x, .int .i64 w0] W fun e w' => ∃ v, e = .returned (v) ∧ (ownR 3 1 v (dS x w0).length ((dS x w0).map (Value.int .i64))).holds w' ∧ Below W.heap.size W w' ∧ ∀ kk, (ownR 3 1 v (dS x w0).length ((dS x w0).map (Value.int .i64))).foot kk → W.heap.size ≤ kk := by
  have hM : Hp W (fun _ => False) [] W := Hp.start
  refine TC.enter (n := 40) Tryd.func29 rfl rfl rfl hM ?_
  refine TC.seq ?_
  refine TC.region ?_
  refine' TL.y rfl rfl rfl ?hy1 ?_
  case hy1 => exact Yl.assign rfl rfl
  refine TL.nil ?_
  refine TE.next ?_
  refine TC.seq ?_
  refine TC.seq ?_
  refine TC.region ?_
  refine' TL.y rfl rfl rfl ?hy2 ?_
  case hy2 => exact Yl.move rfl rfl
  refine' TL.y rfl rfl rfl ?hy3 ?_
  case hy3 => exact Yl.bin rfl rfl rfl (Bin.lss _ _ _ _)
  refine' TL.y rfl rfl rfl ?hy4 ?_
  case hy4 => exact Yl.move rfl rfl
  refine TL.re (i := 10) (v' := .bool false) rfl (congrArg Value.bool (by simp; omega)) ?_
  refine' TL.y rfl rfl rfl ?hy5 ?_
  case hy5 => exact Yl.move rfl rfl
  refine' TL.y rfl rfl rfl ?hy6 ?_
  case hy6 => exact Yl.bin rfl rfl rfl (Bin.gtr _ _ _ _)
  refine' TL.y rfl rfl rfl ?hy7 ?_
  case hy7 => exact Yl.pickF rfl rfl rfl
  refine TL.nil ?_
  refine TE.next ?_
  refine TC.yes rfl (by simp; omega) ?_
  refine TC.seq ?_
  refine TC.region ?_
  refine' TL.y rfl rfl rfl ?hy8 ?_
  case hy8 => exact Yl.assign rfl rfl
  refine TL.nil ?_
  refine TE.next ?_
  refine TC.ret ?_
  refine TE.thenRet ?_
  refine TE.ret1 rfl rfl ?_
  exact fun w h => ⟨.slice none 0 0, rfl, by rw [show dS x w0 = [] from if_neg (by omega)]; exact (h.nil (e := 3) (size := 1)).leaveNew⟩
set_option maxRecDepth 100000 in
set_option maxHeartbeats 2000000 in
theorem k_rdig_in (W : World) (x : Int) (hx0 : 0 ≤ x) (hx1 : x < 18446744073709551616) (k : Nat) (hk : 1 ≤ k) (hk1 : k ≤ 16) : Calls Tryd.prog 29 #[.int .u64 x, .int .i64 (k : Int)] W fun e w' => ∃ v, e = .returned (v) ∧ (ownR 3 1 v (dS x (k : Int)).length ((dS x (k : Int)).map (Value.int .i64))).holds w' ∧ Below W.heap.size W w' ∧ ∀ kk, (ownR 3 1 v (dS x (k : Int)).length ((dS x (k : Int)).map (Value.int .i64))).foot kk → W.heap.size ≤ kk := by
  have hM : Hp W (fun _ => False) [] W := Hp.start
  refine TC.enter (n := 40) Tryd.func29 rfl rfl rfl hM ?_
  refine TC.seq ?_
  refine TC.region ?_
  refine' TL.y rfl rfl rfl ?hy1 ?_
  case hy1 => exact Yl.assign rfl rfl
  refine TL.nil ?_
  refine TE.next ?_
  refine TC.seq ?_
  refine TC.seq ?_
  refine TC.region ?_
  refine' TL.y rfl rfl rfl ?hy2 ?_
  case hy2 => exact Yl.move rfl rfl
  refine' TL.y rfl rfl rfl ?hy3 ?_
  case hy3 => exact Yl.bin rfl rfl rfl (Bin.lss _ _ _ _)
  refine' TL.y rfl rfl rfl ?hy4 ?_
  case hy4 => exact Yl.move rfl rfl
  refine TL.re (i := 10) (v' := .bool false) rfl (congrArg Value.bool (by simp; omega)) ?_
  refine' TL.y rfl rfl rfl ?hy5 ?_
  case hy5 => exact Yl.move rfl rfl
  refine' TL.y rfl rfl rfl ?hy6 ?_
  case hy6 => exact Yl.bin rfl rfl rfl (Bin.gtr _ _ _ _)
  refine' TL.y rfl rfl rfl ?hy7 ?_
  case hy7 => exact Yl.pickF rfl rfl rfl
  refine TL.nil ?_
  refine TE.next ?_
  refine TC.no rfl (by simp; omega) ?_
  refine TC.skip ?_
  refine TE.next ?_
  refine TC.seq ?_
  refine TC.region ?_
  refine' TL.y rfl rfl rfl ?hy8 ?_
  case hy8 => exact Yl.move rfl rfl
  refine' TL.y rfl rfl rfl ?hy9 ?_
  case hy9 => first | (refine Yl.val (Yl.bin rfl rfl rfl (Bin.add _ _ _ _)) (congrArg (Value.int .i64) (i64in ?_ ?_)) <;> omega) | exact Yl.bin rfl rfl rfl (Bin.add _ _ _ _)
  refine' TL.y rfl rfl rfl ?hy10 ?_
  case hy10 => first | (refine Yl.val (Yl.bin rfl rfl rfl (Bin.sub _ _ _ _)) (congrArg (Value.int .i64) (i64in ?_ ?_)) <;> omega) | exact Yl.bin rfl rfl rfl (Bin.sub _ _ _ _)
  refine' TL.y rfl rfl rfl ?hy11 ?_
  case hy11 => exact Yl.move rfl rfl
  refine' TL.y rfl rfl rfl ?hy12 ?_
  case hy12 => exact Yl.val (Yl.bin rfl rfl rfl (Bin.quo _ _ _ _ (by omega))) (congrArg (Value.int .i64) (digN_is hk))
  have hk2 := (digN_le k hk).2
  have hp := pow16 hk1
  have hL : dS x (k : Int) = digL x k := if_pos (by omega)
  refine' TL.y rfl rfl rfl ?hy13 ?_
  case hy13 => exact Yl.assign rfl rfl
  refine TL.nil ?_
  refine TE.next ?_
  refine TC.seq ?_
  refine TC.region ?_
  refine' TL.y rfl rfl rfl ?hy14 ?_
  case hy14 => exact Yl.move rfl rfl
  refine' TL.mx rfl rfl rfl ?hy15 ?_
  case hy15 => exact Ym.makeRow (z := .int .i64 0) (by_ := 8) rfl rfl rfl Tryd.underlying39 (by kernel_rfl) rfl (by omega) (by omega) (by omega)
  intro b20
  simp only [Int.toNat_natCast]
  refine' TL.y rfl rfl rfl ?hy16 ?_
  case hy16 => exact Yl.assign rfl rfl
  refine TL.nil ?_
  refine TE.next ?_
  refine TC.seq ?_
  refine TC.seq ?_
  refine TC.region ?_
  refine' TL.y rfl rfl rfl ?hy17 ?_
  case hy17 => exact Yl.move rfl rfl
  refine' TL.y rfl rfl rfl ?hy18 ?_
  case hy18 => first | (refine Yl.val (Yl.bin rfl rfl rfl (Bin.sub _ _ _ _)) (congrArg (Value.int .i64) (i64in ?_ ?_)) <;> omega) | exact Yl.bin rfl rfl rfl (Bin.sub _ _ _ _)
  refine' TL.y rfl rfl rfl ?hy19 ?_
  case hy19 => exact Yl.assign rfl rfl
  refine TL.nil ?_
  refine TE.next ?_
  refine TC.block ?_
  refine TC.loop (σ := Nat) (fun i => [(6, .slice (some ⟨b20, 0, none⟩) (digN k) (digN k)), (7, .int .i64 ((digN k : Int) - 1 - i)), (0, .int .u64 (x / 2 ^ (i * k))), (1, .int .i64 (k : Int))]) (fun i => Hp W (fun _ => False) [blk b20 (.cells (rowA (digN k) (fun j => if digN k - i ≤ j then .int .i64 (digS x k (digN k) j) else .int .i64 0)) 3 (0, 0))]) (fun i => i ≤ digN k) (fun i => digN k - i) 0 ?hF20 ?hs20 ?hm20 ?round20
  case hF20 => exact Nat.zero_le _
  case hs20 => exact ⟨rfl, (by show some (Value.int IntKind.i64 ((digN k : Int) - 1)) = _; simp), (by show some (Value.int IntKind.u64 x) = _; simp), rfl, trivial⟩
  case hm20 => exact fun w h => by rw [rowA_congr (h := fun _ => .int .i64 0) (fun j hj => if_neg (by omega))]; exact h
  case round20 =>
    intro i h1
    refine TC.seq ?_
    refine TC.seq ?_
    refine TC.region ?_
    refine' TL.y rfl rfl rfl ?hy21 ?_
    case hy21 => exact Yl.move rfl rfl
    refine' TL.y rfl rfl rfl ?hy22 ?_
    case hy22 => exact Yl.bin rfl rfl rfl (Bin.geq _ _ _ _)
    refine TL.nil ?_
    refine TE.next ?_
    refine TC.cond rfl (fun hs24 => ?_) (fun hs24 => ?_)
    · skip
      (try simp only [decide_eq_true_eq, decide_eq_false_iff_not, beq_iff_eq, beq_eq_false_iff_ne, bne_iff_ne, ne_eq, bne_eq_false_iff_eq, Bool.not_eq_true', Bool.not_eq_false', Int.not_lt, Int.not_le, gt_iff_lt, ge_iff_le] at hs24)
      have hd := digS_range x k (digN k) (digN k - 1 - i)
      have hy : x / 2 ^ (i * k) % 2 ^ k = digS x k (digN k) (digN k - 1 - i) := by unfold digS; rw [show digN k - 1 - (digN k - 1 - i) = i by omega]
      have hn : 0 ≤ x / 2 ^ (i * k) := Int.ediv_nonneg hx0 (Int.le_of_lt (pow_pos _))
      have hn2 : x / 2 ^ (i * k) ≤ x := Int.ediv_le_self _ hx0
      rw [show ((digN k : Int) - 1 - i) = ((digN k - 1 - i : Nat) : Int) from by omega]
      obtain ⟨q, hq⟩ : ∃ q, digN k - 1 - i = q := ⟨_, rfl⟩
      rw [hq] at hd hy ⊢
      refine TC.skip ?_
      refine TE.next ?_
      refine TC.seq ?_
      refine TC.block ?_
      refine TC.seq ?_
      refine TC.region ?_
      refine' TL.y rfl rfl rfl ?hy23 ?_
      case hy23 => exact Yl.move rfl rfl
      refine' TL.y rfl rfl rfl ?hy24 ?_
      case hy24 => exact Yl.move rfl rfl
      refine' TL.y rfl rfl rfl ?hy25 ?_
      case hy25 => exact Yl.move rfl rfl
      refine' TL.y rfl rfl rfl ?hy26 ?_
      case hy26 => exact Yl.move rfl rfl
      refine' TL.c rfl rfl rfl ?hy27 ?_
      case hy27 => exact Yc.call rfl Tryd.func38 (by kernel_rfl) rfl rfl (Hp.gives (k_power _ (by omega) (by omega)))
      intro _
      rw [Int.toNat_natCast, hp.2.2]
      refine' TL.y rfl rfl rfl ?hy28 ?_
      case hy28 => exact Yl.val (Yl.bin rfl rfl rfl (Bin.rem _ _ _ _ (by omega))) (congrArg (Value.int .u64) ((Int.tmod_eq_emod_of_nonneg hn).trans hy))
      refine' TL.y rfl rfl rfl ?hy29 ?_
      case hy29 => first | (refine Yl.val (Yl.conv rfl rfl (by kernel_rfl) Tryd.underlying3) (congrArg (Value.int .i64) (i64in ?_ ?_)) <;> omega) | exact Yl.conv rfl rfl (by kernel_rfl) Tryd.underlying3
      refine' TL.y rfl rfl rfl ?hy30 ?_
      case hy30 => first | exact Yl.ixn rfl rfl rfl Tryd.underlying39 (by kernel_rfl) (by omega) | exact Yl.ixz rfl rfl rfl Tryd.underlying39 (by kernel_rfl) (by omega) (by omega) | exact Yl.ixcn rfl rfl rfl Tryd.underlying39 (by kernel_rfl) (by omega) | exact Yl.ixcz rfl rfl rfl Tryd.underlying39 (by kernel_rfl) (by omega) (by omega)
      refine' TL.s rfl rfl ?hy31 ?_
      case hy31 => first | exact Ys.row rfl rfl rfl rfl (by kernel_rfl) rfl foc0 (by omega) rfl | exact Ys.row rfl rfl rfl rfl (by kernel_rfl) rfl foc1 (by omega) rfl | exact Ys.row rfl rfl rfl rfl (by kernel_rfl) rfl foc2 (by omega) rfl | exact Ys.row rfl rfl rfl rfl (by kernel_rfl) rfl foc3 (by omega) rfl | exact Ys.row rfl rfl rfl rfl (by kernel_rfl) rfl foc4 (by omega) rfl | exact Ys.store rfl rfl rfl rfl (by kernel_rfl) (by simp [Value.oneCell', Value.cells]) foc0 (by simp [Value.cells]) rfl | exact Ys.store rfl rfl rfl rfl (by kernel_rfl) (by simp [Value.oneCell', Value.cells]) foc1 (by simp [Value.cells]) rfl | exact Ys.store rfl rfl rfl rfl (by kernel_rfl) (by simp [Value.oneCell', Value.cells]) foc2 (by simp [Value.cells]) rfl | exact Ys.store rfl rfl rfl rfl (by kernel_rfl) (by simp [Value.oneCell', Value.cells]) foc3 (by simp [Value.cells]) rfl | exact Ys.store rfl rfl rfl rfl (by kernel_rfl) (by simp [Value.oneCell', Value.cells]) foc4 (by simp [Value.cells]) rfl
      refine TL.nil ?_
      refine TE.next ?_
      refine TC.region ?_
      refine' TL.y rfl rfl rfl ?hy32 ?_
      case hy32 => exact Yl.move rfl rfl
      refine' TL.y rfl rfl rfl ?hy33 ?_
      case hy33 => exact Yl.move rfl rfl
      refine' TL.c rfl rfl rfl ?hy34 ?_
      case hy34 => exact Yc.call rfl Tryd.func38 (by kernel_rfl) rfl rfl (Hp.gives (k_power _ (by omega) (by omega)))
      intro _
      rw [Int.toNat_natCast, hp.2.2]
      refine' TL.y rfl rfl rfl ?hy35 ?_
      case hy35 => exact Yl.val (Yl.bin rfl rfl rfl (Bin.quo _ _ _ _ (by omega))) (congrArg (Value.int .u64) (show IntKind.u64.wrap ((x / 2 ^ (i * k)).tdiv (2 ^ k)) = x / 2 ^ ((i + 1) * k) from by rw [Int.tdiv_eq_ediv_of_nonneg hn, Nat.add_mul, Nat.one_mul, pow_add, ← Int.ediv_ediv_of_nonneg (Int.le_of_lt (pow_pos _))]; have a1 := Int.ediv_nonneg hn (Int.le_of_lt (pow_pos k)); have a2 := Int.ediv_le_self (2 ^ k) hn; exact u64in (by omega) (by omega)))
      refine' TL.y rfl rfl rfl ?hy36 ?_
      case hy36 => exact Yl.assign rfl rfl
      refine TL.nil ?_
      refine TE.inNormal ?_
      refine TE.next ?_
      refine TC.region ?_
      refine' TL.y rfl rfl rfl ?hy37 ?_
      case hy37 => exact Yl.move rfl rfl
      refine' TL.y rfl rfl rfl ?hy38 ?_
      case hy38 => exact Yl.val (Yl.bin rfl rfl rfl (Bin.sub _ _ _ _)) (congrArg (Value.int .i64) (show IntKind.i64.wrap ((q : Int) - 1) = (digN k : Int) - 1 - ((i + 1 : Nat) : Int) from by rw [i64in (by omega) (by omega)]; omega))
      refine' TL.y rfl rfl rfl ?hy39 ?_
      case hy39 => exact Yl.assign rfl rfl
      refine TL.nil ?_
      refine TE.round (i + 1) ?hF40 ?hlt40 ?hs40 ?hm40
      case hF40 => omega
      case hlt40 => omega
      case hs40 => exact ⟨rfl, rfl, rfl, rfl, trivial⟩
      case hm40 => exact fun w h => by rw [rowA_congr (h := upV (fun j => if digN k - i ≤ j then .int .i64 (digS x k (digN k) j) else .int .i64 0) q (.int .i64 (digS x k (digN k) q))) (fun j hj => by unfold upV; by_cases e : j = q; rw [if_pos (show digN k - (i + 1) ≤ j by omega), if_pos e, e]; rw [if_neg e]; by_cases h2 : digN k - i ≤ j; rw [if_pos (show digN k - (i + 1) ≤ j by omega)]; exact (if_pos h2).symm; rw [if_neg (show ¬ digN k - (i + 1) ≤ j by omega)]; exact (if_neg h2).symm)]; exact h
    · skip
      (try simp only [decide_eq_true_eq, decide_eq_false_iff_not, beq_iff_eq, beq_eq_false_iff_ne, bne_iff_ne, ne_eq, bne_eq_false_iff_eq, Bool.not_eq_true', Bool.not_eq_false', Int.not_lt, Int.not_le, gt_iff_lt, ge_iff_le] at hs24)
      refine TC.exit ?_
      refine TE.thenExit ?_
      refine TE.thenExit ?_
      refine TE.inHere ?_
      refine TE.next ?_
      refine TC.seq ?_
      refine TC.region ?_
      refine' TL.y rfl rfl rfl ?hy41 ?_
      case hy41 => exact Yl.move rfl rfl
      refine' TL.y rfl rfl rfl ?hy42 ?_
      case hy42 => exact Yl.assign rfl rfl
      refine TL.nil ?_
      refine TE.next ?_
      refine TC.ret ?_
      refine TE.ret1 rfl rfl ?_
      obtain rfl : i = digN k := by omega
      rw [rowA_congr (h := fun j => if j < digN k then .int .i64 (digS x k (digN k) j) else .int .i64 0) (fun j hj => by rw [if_pos (by omega), if_pos hj])]
      exact fun w h => ⟨.slice (some ⟨b20, 0, none⟩) (digN k) (digN k), rfl, by rw [hL]; have h2 := (h.rowOwn (by have := (digN_le k hk).2; unfold maxLen; omega)); have h3 := h2.leaveNew; rw [show (List.range (digN k)).map (fun j => if j < digN k then Value.int .i64 (digS x k (digN k) j) else Value.int .i64 0) = (digL x k).map (Value.int .i64) from by unfold digL; rw [List.map_map]; exact List.map_congr_left (fun j hj => if_pos (List.mem_range.1 hj))] at h3; rw [show (digL x k).length = digN k from by simp [digL]]; exact h3⟩
theorem k_rdig (W : World) (x : Int) (hx0 : 0 ≤ x) (hx1 : x < 18446744073709551616) (w0 : Int) : Calls Go.Proofs.Tryd.prog 29 #[.int .u64 x, .int .i64 w0] W fun e w' => ∃ v, e = .returned (v) ∧ (ownR 3 1 v (dS x w0).length ((dS x w0).map (Value.int .i64))).holds w' ∧ Below W.heap.size W w' ∧ ∀ kk, (ownR 3 1 v (dS x w0).length ((dS x w0).map (Value.int .i64))).foot kk → W.heap.size ≤ kk := by
  by_cases h1 : w0 < 1
  · exact k_rdig_lo W x hx0 hx1 w0 h1
  · by_cases h2 : 16 < w0
    · exact k_rdig_hi W x hx0 hx1 w0 h2
    · obtain ⟨k, rfl⟩ := Int.eq_ofNat_of_zero_le (show 0 ≤ w0 by omega)
      exact k_rdig_in W x hx0 hx1 k (by omega) (by omega)
set_option maxRecDepth 100000 in
set_option maxHeartbeats 2000000 in
theorem k_join_lo (W : World) (l : List Int) (A : Option Addr) (cp : Nat) (hS : Sl W A (l.map (Value.int .i64))) (hl : l.length ≤ 1000) (w0 : Int) (hw : w0 < 1) : Calls Tryd.prog 30 #[.slice A l.length cp, .int .i64 w0] W fun e w' => e = .returned (.int .u64 (jS l w0)) ∧ Below W.heap.size W w' := by
  have hM : Hp W (fun _ => False) [] W := Hp.start
  refine TC.enter (n := 32) Tryd.func30 rfl rfl rfl hM ?_
  refine TC.seq ?_
  refine TC.region ?_
  refine' TL.y rfl rfl rfl ?hy1 ?_
  case hy1 => exact Yl.assign rfl rfl
  refine TL.nil ?_
  refine TE.next ?_
  refine TC.seq ?_
  refine TC.seq ?_
  refine TC.region ?_
  refine' TL.y rfl rfl rfl ?hy2 ?_
  case hy2 => exact Yl.move rfl rfl
  refine' TL.y rfl rfl rfl ?hy3 ?_
  case hy3 => exact Yl.bin rfl rfl rfl (Bin.lss _ _ _ _)
  refine' TL.y rfl rfl rfl ?hy4 ?_
  case hy4 => exact Yl.move rfl rfl
  refine TL.re (i := 10) (v' := .bool true) rfl (congrArg Value.bool (by simp; omega)) ?_
  refine TL.skip rfl rfl rfl ?_
  refine TL.skip rfl rfl rfl ?_
  refine' TL.y rfl rfl rfl ?hy5 ?_
  case hy5 => exact Yl.pickT rfl rfl rfl
  refine TL.nil ?_
  refine TE.next ?_
  refine TC.yes rfl rfl ?_
  refine TC.seq ?_
  refine TC.region ?_
  refine' TL.y rfl rfl rfl ?hy6 ?_
  case hy6 => exact Yl.assign rfl rfl
  refine TL.nil ?_
  refine TE.next ?_
  refine TC.ret ?_
  refine TE.thenRet ?_
  refine TE.ret1 rfl rfl ?_
  exact fun w h => ⟨by rw [show jS l w0 = 0 from if_neg (by omega)], h.below⟩
set_option maxRecDepth 100000 in
set_option maxHeartbeats 2000000 in
theorem k_join_hi (W : World) (l : List Int) (A : Option Addr) (cp : Nat) (hS : Sl W A (l.map (Value.int .i64))) (hl : l.length ≤ 1000) (w0 : Int) (hw : 16 < w0) : Calls Tryd.prog 30 #[.slice A l.length cp, .int .i64 w0] W fun e w' => e = .returned (.int .u64 (jS l w0)) ∧ Below W.heap.size W w' := by
  have hM : Hp W (fun _ => False) [] W := Hp.start
  refine TC.enter (n := 32) Tryd.func30 rfl rfl rfl hM ?_
  refine TC.seq ?_
  refine TC.region ?_
  refine' TL.y rfl rfl rfl ?hy1 ?_
  case hy1 => exact Yl.assign rfl rfl
  refine TL.nil ?_
  refine TE.next ?_
  refine TC.seq ?_
  refine TC.seq ?_
  refine TC.region ?_
  refine' TL.y rfl rfl rfl ?hy2 ?_
  case hy2 => exact Yl.move rfl rfl
  refine' TL.y rfl rfl rfl ?hy3 ?_
  case hy3 => exact Yl.bin rfl rfl rfl (Bin.lss _ _ _ _)
  refine' TL.y rfl rfl rfl ?hy4 ?_
  case hy4 => exact Yl.move rfl rfl
  refine TL.re (i := 10) (v' := .bool false) rfl (congrArg Value.bool (by simp; omega)) ?_
  refine' TL.y rfl rfl rfl ?hy5 ?_
  case hy5 => exact Yl.move rfl rfl
  refine' TL.y rfl rfl rfl ?hy6 ?_
  case hy6 => exact Yl.bin rfl rfl rfl (Bin.gtr _ _ _ _)
  refine' TL.y rfl rfl rfl ?hy7 ?_
  case hy7 => exact Yl.pickF rfl rfl rfl
  refine TL.nil ?_
  refine TE.next ?_
  refine TC.yes rfl (by simp; omega) ?_
  refine TC.seq ?_
  refine TC.region ?_
  refine' TL.y rfl rfl rfl ?hy8 ?_
  case hy8 => exact Yl.assign rfl rfl
  refine TL.nil ?_
  refine TE.next ?_
  refine TC.ret ?_
  refine TE.thenRet ?_
  refine TE.ret1 rfl rfl ?_
  exact fun w h => ⟨by rw [show jS l w0 = 0 from if_neg (by omega)], h.below⟩
set_option maxRecDepth 100000 in
set_option maxHeartbeats 2000000 in
theorem k_join_in (W : World) (l : List Int) (A : Option Addr) (cp : Nat) (hS : Sl W A (l.map (Value.int .i64))) (hl : l.length ≤ 1000) (k : Nat) (hk : 1 ≤ k) (hk1 : k ≤ 16) : Calls Tryd.prog 30 #[.slice A l.length cp, .int .i64 (k : Int)] W fun e w' => e = .returned (.int .u64 (jS l (k : Int))) ∧ Below W.heap.size W w' := by
  have hM : Hp W (fun _ => False) [] W := Hp.start
  refine TC.enter (n := 32) Tryd.func30 rfl rfl rfl hM ?_
  refine TC.seq ?_
  refine TC.region ?_
  refine' TL.y rfl rfl rfl ?hy1 ?_
  case hy1 => exact Yl.assign rfl rfl
  refine TL.nil ?_
  refine TE.next ?_
  refine TC.seq ?_
  refine TC.seq ?_
  refine TC.region ?_
  refine' TL.y rfl rfl rfl ?hy2 ?_
  case hy2 => exact Yl.move rfl rfl
  refine' TL.y rfl rfl rfl ?hy3 ?_
  case hy3 => exact Yl.bin rfl rfl rfl (Bin.lss _ _ _ _)
  refine' TL.y rfl rfl rfl ?hy4 ?_
  case hy4 => exact Yl.move rfl rfl
  refine TL.re (i := 10) (v' := .bool false) rfl (congrArg Value.bool (by simp; omega)) ?_
  refine' TL.y rfl rfl rfl ?hy5 ?_
  case hy5 => exact Yl.move rfl rfl
  refine' TL.y rfl rfl rfl ?hy6 ?_
  case hy6 => exact Yl.bin rfl rfl rfl (Bin.gtr _ _ _ _)
  refine' TL.y rfl rfl rfl ?hy7 ?_
  case hy7 => exact Yl.pickF rfl rfl rfl
  refine TL.nil ?_
  refine TE.next ?_
  refine TC.no rfl (by simp; omega) ?_
  refine TC.skip ?_
  refine TE.next ?_
  refine TC.seq ?_
  refine TC.region ?_
  refine' TL.y rfl rfl rfl ?hy8 ?_
  case hy8 => exact Yl.assign rfl rfl
  refine TL.nil ?_
  refine TE.next ?_
  refine TC.seq ?_
  refine TC.seq ?_
  refine TC.region ?_
  refine' TL.y rfl rfl rfl ?hy9 ?_
  case hy9 => exact Yl.move rfl rfl
  refine' TL.y rfl rfl rfl ?hy10 ?_
  case hy10 => exact Yl.len rfl rfl Tryd.underlying39
  refine' TL.y rfl rfl rfl ?hy11 ?_
  case hy11 => exact Yl.move rfl rfl
  refine TL.nil ?_
  refine TE.next ?_
  refine TC.block ?_
  refine TC.loop (σ := Nat × Int) (fun s => [(14, .slice A l.length cp), (16, .int .i64 (s.1 : Int)), (5, .int .u64 s.2), (1, .int .i64 (k : Int)), (15, .int .i64 l.length)]) (fun s => Hp W (fun _ => False) []) (fun s => s.1 ≤ l.length ∧ (l.drop s.1).foldl (joinF k) s.2 = joinS k l ∧ 0 ≤ s.2 ∧ s.2 < 18446744073709551616) (fun s => l.length - s.1) (0, 0) ?hF12 ?hs12 ?hm12 ?round12
  case hF12 => exact ⟨Nat.zero_le _, rfl, by decide, by decide⟩
  case hs12 => exact ⟨rfl, rfl, rfl, rfl, rfl, trivial⟩
  case hm12 => exact fun _ h => h
  case round12 =>
    rintro ⟨i, x⟩ ⟨h1, hi, h2, h3⟩
    dsimp only at h1 hi h2 h3 ⊢
    refine TC.seq ?_
    refine TC.region ?_
    refine' TL.y rfl rfl rfl ?hy13 ?_
    case hy13 => exact Yl.bin rfl rfl rfl (Bin.lss _ _ _ _)
    refine TL.nil ?_
    refine TE.next ?_
    refine TC.seq ?_
    refine TC.cond rfl (fun hs17 => ?_) (fun hs17 => ?_)
    · skip
      (try simp only [decide_eq_true_eq, decide_eq_false_iff_not, beq_iff_eq, beq_eq_false_iff_ne, bne_iff_ne, ne_eq, bne_eq_false_iff_eq, Bool.not_eq_true', Bool.not_eq_false', Int.not_lt, Int.not_le, gt_iff_lt, ge_iff_le] at hs17)
      obtain ⟨bb, oo, rfl⟩ := Sl.in hS (by omega)
      have hp := pow16 hk1
      have hb := high_bd x (l.getD i 0) hk1
      refine TC.skip ?_
      refine TE.next ?_
      refine TC.seq ?_
      refine TC.block ?_
      refine TC.seq ?_
      refine TC.region ?_
      refine' TL.y rfl rfl rfl ?hy14 ?_
      case hy14 => first | exact Yl.ixn rfl rfl rfl Tryd.underlying39 (by kernel_rfl) (by omega) | exact Yl.ixz rfl rfl rfl Tryd.underlying39 (by kernel_rfl) (by omega) (by omega) | exact Yl.ixcn rfl rfl rfl Tryd.underlying39 (by kernel_rfl) (by omega) | exact Yl.ixcz rfl rfl rfl Tryd.underlying39 (by kernel_rfl) (by omega) (by omega)
      refine' TL.y rfl rfl rfl ?hy15 ?_
      case hy15 => first | exact Yl.load rfl rfl (by kernel_rfl) (Sl.rd 0 hS rfl (by omega) (fun _ => id)) | exact Yl.load rfl rfl (by kernel_rfl) (Hp.cell mem0 rfl) | exact Yl.load rfl rfl (by kernel_rfl) (Hp.cell mem1 rfl) | exact Yl.load rfl rfl (by kernel_rfl) (Hp.cell mem2 rfl) | exact Yl.load rfl rfl (by kernel_rfl) (Hp.cell mem3 rfl) | exact Yl.load rfl rfl (by kernel_rfl) (Hp.cell mem4 rfl) | exact Yl.load rfl rfl (by kernel_rfl) (Hp.rowAt mem0 (by omega) rfl) | exact Yl.load rfl rfl (by kernel_rfl) (Hp.rowAt mem1 (by omega) rfl) | exact Yl.load rfl rfl (by kernel_rfl) (Hp.rowAt mem2 (by omega) rfl) | exact Yl.load rfl rfl (by kernel_rfl) (Hp.rowAt mem3 (by omega) rfl) | exact Yl.load rfl rfl (by kernel_rfl) (Hp.rowAt mem4 (by omega) rfl)
      refine' TL.y rfl rfl rfl ?hy16 ?_
      case hy16 => exact Yl.assign rfl rfl
      refine TL.nil ?_
      refine TE.next ?_
      refine TC.region ?_
      refine' TL.y rfl rfl rfl ?hy17 ?_
      case hy17 => exact Yl.move rfl rfl
      refine' TL.y rfl rfl rfl ?hy18 ?_
      case hy18 => exact Yl.move rfl rfl
      refine' TL.y rfl rfl rfl ?hy19 ?_
      case hy19 => first | (refine Yl.val (Yl.conv rfl rfl (by kernel_rfl) Tryd.underlying56) (congrArg (Value.int .u64) (u64in ?_ ?_)) <;> omega) | exact Yl.conv rfl rfl (by kernel_rfl) Tryd.underlying56
      refine' TL.y rfl rfl rfl ?hy20 ?_
      case hy20 => exact Yl.val (Yl.bin rfl rfl rfl (Bin.shl _ _ _ _ _ (by omega))) (congrArg (Value.int .u64) (show IntKind.u64.wrap (x * 2 ^ min (k : Int).toNat IntKind.u64.bits) = x * 2 ^ k % 18446744073709551616 from by rw [Int.toNat_natCast, show min k IntKind.u64.bits = k from by (have : IntKind.u64.bits = 64 := rfl); omega, u64m]))
      refine' TL.y rfl rfl rfl ?hy21 ?_
      case hy21 => exact Yl.move rfl rfl
      refine' TL.y rfl rfl rfl ?hy22 ?_
      case hy22 => exact Yl.val (Yl.conv rfl rfl (by kernel_rfl) Tryd.underlying40) (congrArg (Value.int .u64) (show IntKind.u64.wrap (l.getD i 0) = l.getD i 0 % 18446744073709551616 from u64m _))
      refine' TL.y rfl rfl rfl ?hy23 ?_
      case hy23 => exact Yl.move rfl rfl
      refine' TL.c rfl rfl rfl ?hy24 ?_
      case hy24 => exact Yc.call rfl Tryd.func36 (by kernel_rfl) rfl rfl (Hp.gives (k_mask _ (by omega) (by omega)))
      intro _
      rw [Int.toNat_natCast]
      refine' TL.y rfl rfl rfl ?hy25 ?_
      case hy25 => exact Yl.val (Yl.bin rfl rfl rfl (Bin.and _ _ _ _)) (congrArg (Value.int .u64) (show Go.bits .and .u64 (l.getD i 0 % 18446744073709551616) (2 ^ k - 1) = l.getD i 0 % 2 ^ k from by rw [maskU _ k (by omega) (by omega) (by omega), emod64 _ hk1]))
      refine' TL.y rfl rfl rfl ?hy26 ?_
      case hy26 => exact Yl.val (Yl.bin rfl rfl rfl (Bin.or _ _ _ _)) (congrArg (Value.int .u64) (join_or x (l.getD i 0) hk1))
      refine' TL.y rfl rfl rfl ?hy27 ?_
      case hy27 => exact Yl.assign rfl rfl
      refine TL.nil ?_
      refine TE.inNormal ?_
      refine TE.next ?_
      refine TC.region ?_
      refine' TL.y rfl rfl rfl ?hy28 ?_
      case hy28 => first | (refine Yl.val (Yl.bin rfl rfl rfl (Bin.add _ _ _ _)) (congrArg (Value.int .i64) (i64in ?_ ?_)) <;> omega) | exact Yl.bin rfl rfl rfl (Bin.add _ _ _ _)
      refine' TL.y rfl rfl rfl ?hy29 ?_
      case hy29 => exact Yl.move rfl rfl
      refine TL.nil ?_
      refine TE.round (i + 1, joinF k x (l.getD i 0)) ?hF30 ?hlt30 ?hs30 ?hm30
      case hF30 => exact ⟨by dsimp only; omega, joinS_step (by omega) hi, (joinF_range k x _).1, (joinF_range k x _).2⟩
      case hlt30 => dsimp only; omega
      case hs30 => exact ⟨rfl, rfl, rfl, rfl, rfl, trivial⟩
      case hm30 => exact fun _ h => h
    · skip
      (try simp only [decide_eq_true_eq, decide_eq_false_iff_not, beq_iff_eq, beq_eq_false_iff_ne, bne_iff_ne, ne_eq, bne_eq_false_iff_eq, Bool.not_eq_true', Bool.not_eq_false', Int.not_lt, Int.not_le, gt_iff_lt, ge_iff_le] at hs17)
      refine TC.exit ?_
      refine TE.thenExit ?_
      refine TE.thenExit ?_
      refine TE.inHere ?_
      refine TE.next ?_
      refine TC.seq ?_
      refine TC.region ?_
      refine' TL.y rfl rfl rfl ?hy31 ?_
      case hy31 => exact Yl.move rfl rfl
      refine' TL.y rfl rfl rfl ?hy32 ?_
      case hy32 => exact Yl.assign rfl rfl
      refine TL.nil ?_
      refine TE.next ?_
      refine TC.ret ?_
      refine TE.ret1 rfl rfl ?_
      obtain rfl : i = l.length := by omega
      rw [List.drop_length] at hi
      exact fun w h => ⟨by rw [show jS l (k : Int) = x from by unfold jS; rw [if_pos (by omega), Int.toNat_natCast]; exact hi.symm], h.below⟩
theorem k_join (W : World) (l : List Int) (A : Option Addr) (cp : Nat) (hS : Sl W A (l.map (Value.int .i64))) (hl : l.length ≤ 1000) (w0 : Int) : Calls Go.Proofs.Tryd.prog 30 #[.slice A l.length cp, .int .i64 w0] W fun e w' => e = .returned (.int .u64 (jS l w0)) ∧ Below W.heap.size W w' := by
  by_cases h1 : w0 < 1
  · exact k_join_lo W l A cp hS hl w0 h1
  · by_cases h2 : 16 < w0
    · exact k_join_hi W l A cp hS hl w0 h2
    · obtain ⟨k, rfl⟩ := Int.eq_ofNat_of_zero_le (show 0 ≤ w0 by omega)
      exact k_join_in W l A cp hS hl k (by omega) (by omega)
set_option maxRecDepth 100000 in
set_option maxHeartbeats 2000000 in
theorem k_rjoin_lo (W : World) (l : List Int) (A : Option Addr) (cp : Nat) (hS : Sl W A (l.map (Value.int .i64))) (hl : l.length ≤ 1000) (w0 : Int) (hw : w0 < 1) : Calls Tryd.prog 31 #[.slice A l.length cp, .int .i64 w0] W fun e w' => e = .returned (.int .u64 (jS l w0)) ∧ Below W.heap.size W w' := by
  have hM : Hp W (fun _ => False) [] W := Hp.start
  refine TC.enter (n := 33) Tryd.func31 rfl rfl rfl hM ?_
  refine TC.seq ?_
  refine TC.region ?_
  refine' TL.y rfl rfl rfl ?hy1 ?_
  case hy1 => exact Yl.assign rfl rfl
  refine TL.nil ?_
  refine TE.next ?_
  refine TC.seq ?_
  refine TC.seq ?_
  refine TC.region ?_
  refine' TL.y rfl rfl rfl ?hy2 ?_
  case hy2 => exact Yl.move rfl rfl
  refine' TL.y rfl rfl rfl ?hy3 ?_
  case hy3 => exact Yl.bin rfl rfl rfl (Bin.lss _ _ _ _)
  refine' TL.y rfl rfl rfl ?hy4 ?_
  case hy4 => exact Yl.move rfl rfl
  refine TL.re (i := 9) (v' := .bool true) rfl (congrArg Value.bool (by simp; omega)) ?_
  refine TL.skip rfl rfl rfl ?_
  refine TL.skip rfl rfl rfl ?_
  refine' TL.y rfl rfl rfl ?hy5 ?_
  case hy5 => exact Yl.pickT rfl rfl rfl
  refine TL.nil ?_
  refine TE.next ?_
  refine TC.yes rfl rfl ?_
  refine TC.seq ?_
  refine TC.region ?_
  refine' TL.y rfl rfl rfl ?hy6 ?_
  case hy6 => exact Yl.assign rfl rfl
  refine TL.nil ?_
  refine TE.next ?_
  refine TC.ret ?_
  refine TE.thenRet ?_
  refine TE.ret1 rfl rfl ?_
  exact fun w h => ⟨by rw [show jS l w0 = 0 from if_neg (by omega)], h.below⟩
set_option maxRecDepth 100000 in
set_option maxHeartbeats 2000000 in
theorem k_rjoin_hi (W : World) (l : List Int) (A : Option Addr) (cp : Nat) (hS : Sl W A (l.map (Value.int .i64))) (hl : l.length ≤ 1000) (w0 : Int) (hw : 16 < w0) : Calls Tryd.prog 31 #[.slice A l.length cp, .int .i64 w0] W fun e w' => e = .returned (.int .u64 (jS l w0)) ∧ Below W.heap.size W w' := by
  have hM : Hp W (fun _ => False) [] W := Hp.start
  refine TC.enter (n := 33) Tryd.func31 rfl rfl rfl hM ?_
  refine TC.seq ?_
  refine TC.region ?_
  refine' TL.y rfl rfl rfl ?hy1 ?_
  case hy1 => exact Yl.assign rfl rfl
  refine TL.nil ?_
  refine TE.next ?_
  refine TC.seq ?_
  refine TC.seq ?_
  refine TC.region ?_
  refine' TL.y rfl rfl rfl ?hy2 ?_
  case hy2 => exact Yl.move rfl rfl
  refine' TL.y rfl rfl rfl ?hy3 ?_
  case hy3 => exact Yl.bin rfl rfl rfl (Bin.lss _ _ _ _)
  refine' TL.y rfl rfl rfl ?hy4 ?_
  case hy4 => exact Yl.move rfl rfl
  refine TL.re (i := 9) (v' := .bool false) rfl (congrArg Value.bool (by simp; omega)) ?_
  refine' TL.y rfl rfl rfl ?hy5 ?_
  case hy5 => exact Yl.move rfl rfl
  refine' TL.y rfl rfl rfl ?hy6 ?_
  case hy6 => exact Yl.bin rfl rfl rfl (Bin.gtr _ _ _ _)
  refine' TL.y rfl rfl rfl ?hy7 ?_
  case hy7 => exact Yl.pickF rfl rfl rfl
  refine TL.nil ?_
  refine TE.next ?_
  refine TC.yes rfl (by simp; omega) ?_
  refine TC.seq ?_
  refine TC.region ?_
  refine' TL.y rfl rfl rfl ?hy8 ?_
  case hy8 => exact Yl.assign rfl rfl
  refine TL.nil ?_
  refine TE.next ?_
  refine TC.ret ?_
  refine TE.thenRet ?_
  refine TE.ret1 rfl rfl ?_
  exact fun w h => ⟨by rw [show jS l w0 = 0 from if_neg (by omega)], h.below⟩
set_option maxRecDepth 100000 in
set_option maxHeartbeats 2000000 in
theorem k_rjoin_in (W : World) (l : List Int) (A : Option Addr) (cp : Nat) (hS : Sl W A (l.map (Value.int .i64))) (hl : l.length ≤ 1000) (k : Nat) (hk : 1 ≤ k) (hk1 : k ≤ 16) : Calls Tryd.prog 31 #[.slice A l.length cp, .int .i64 (k : Int)] W fun e w' => e = .returned (.int .u64 (jS l (k : Int))) ∧ Below W.heap.size W w' := by
  have hM : Hp W (fun _ => False) [] W := Hp.start
  refine TC.enter (n := 33) Tryd.func31 rfl rfl rfl hM ?_
  refine TC.seq ?_
  refine TC.region ?_
  refine' TL.y rfl rfl rfl ?hy1 ?_
  case hy1 => exact Yl.assign rfl rfl
  refine TL.nil ?_
  refine TE.next ?_
  refine TC.seq ?_
  refine TC.seq ?_
  refine TC.region ?_
  refine' TL.y rfl rfl rfl ?hy2 ?_
  case hy2 => exact Yl.move rfl rfl
  refine' TL.y rfl rfl rfl ?hy3 ?_
  case hy3 => exact Yl.bin rfl rfl rfl (Bin.lss _ _ _ _)
  refine' TL.y rfl rfl rfl ?hy4 ?_
  case hy4 => exact Yl.move rfl rfl
  refine TL.re (i := 9) (v' := .bool false) rfl (congrArg Value.bool (by simp; omega)) ?_
  refine' TL.y rfl rfl rfl ?hy5 ?_
  case hy5 => exact Yl.move rfl rfl
  refine' TL.y rfl rfl rfl ?hy6 ?_
  case hy6 => exact Yl.bin rfl rfl rfl (Bin.gtr _ _ _ _)
  refine' TL.y rfl rfl rfl ?hy7 ?_
  case hy7 => exact Yl.pickF rfl rfl rfl
  refine TL.nil ?_
  refine TE.next ?_
  refine TC.no rfl (by simp; omega) ?_
  refine TC.skip ?_
  refine TE.next ?_
  refine TC.seq ?_
  refine TC.region ?_
  refine' TL.y rfl rfl rfl ?hy8 ?_
  case hy8 => exact Yl.assign rfl rfl
  refine TL.nil ?_
  refine TE.next ?_
  refine TC.seq ?_
  refine TC.seq ?_
  refine TC.region ?_
  refine' TL.y rfl rfl rfl ?hy9 ?_
  case hy9 => exact Yl.assign rfl rfl
  refine TL.nil ?_
  refine TE.next ?_
  refine TC.block ?_
  refine TC.loop (σ := Nat × Int) (fun s => [(0, .slice A l.length cp), (6, .int .i64 (s.1 : Int)), (5, .int .u64 s.2), (1, .int .i64 (k : Int))]) (fun s => Hp W (fun _ => False) []) (fun s => s.1 ≤ l.length ∧ (l.drop s.1).foldl (joinF k) s.2 = joinS k l ∧ 0 ≤ s.2 ∧ s.2 < 18446744073709551616) (fun s => l.length - s.1) (0, 0) ?hF10 ?hs10 ?hm10 ?round10
  case hF10 => exact ⟨Nat.zero_le _, rfl, by decide, by decide⟩
  case hs10 => exact ⟨rfl, rfl, rfl, rfl, trivial⟩
  case hm10 => exact fun _ h => h
  case round10 =>
    rintro ⟨i, x⟩ ⟨h1, hi, h2, h3⟩
    dsimp only at h1 hi h2 h3 ⊢
    refine TC.seq ?_
    refine TC.seq ?_
    refine TC.region ?_
    refine' TL.y rfl rfl rfl ?hy11 ?_
    case hy11 => exact Yl.move rfl rfl
    refine' TL.y rfl rfl rfl ?hy12 ?_
    case hy12 => exact Yl.move rfl rfl
    refine' TL.y rfl rfl rfl ?hy13 ?_
    case hy13 => exact Yl.len rfl rfl Tryd.underlying39
    refine' TL.y rfl rfl rfl ?hy14 ?_
    case hy14 => exact Yl.bin rfl rfl rfl (Bin.lss _ _ _ _)
    refine TL.nil ?_
    refine TE.next ?_
    refine TC.cond rfl (fun hs16 => ?_) (fun hs16 => ?_)
    · skip
      (try simp only [decide_eq_true_eq, decide_eq_false_iff_not, beq_iff_eq, beq_eq_false_iff_ne, bne_iff_ne, ne_eq, bne_eq_false_iff_eq, Bool.not_eq_true', Bool.not_eq_false', Int.not_lt, Int.not_le, gt_iff_lt, ge_iff_le] at hs16)
      obtain ⟨bb, oo, rfl⟩ := Sl.in hS (by omega)
      have hp := pow16 hk1
      have hb := high_bd x (l.getD i 0) hk1
      refine TC.skip ?_
      refine TE.next ?_
      refine TC.seq ?_
      refine TC.block ?_
      refine TC.draw (k := 14) _ [] #[false, false, false, false, false, false, false, false, false, false, false, false, false, false] (by kernel_rfl) rfl rfl (fun _ h => h.drew) (fun _ h => h) ?_
      refine' TA.y (i := 0) #[true, false, false, false, false, false, false, false, false, false, false, false, false, false] rfl rfl rfl (by kernel_rfl) (fun _ _ _ h => h) (fun _ h => by exact Hp.sub h (by repeat (first | exact List.Sublist.refl _ | apply List.Sublist.cons))) rfl ?hy15 ?_
      case hy15 => exact Yl.move rfl rfl
      refine' TA.y (i := 1) #[true, true, false, false, false, false, false, false, false, false, false, false, false, false] rfl rfl rfl (by kernel_rfl) (fun _ _ _ h => h) (fun _ h => by exact Hp.sub h (by repeat (first | exact List.Sublist.refl _ | apply List.Sublist.cons))) rfl ?hy16 ?_
      case hy16 => exact Yl.move rfl rfl
      refine' TA.y (i := 4) #[true, true, false, false, true, false, false, false, false, false, false, false, false, false] rfl rfl rfl (by kernel_rfl) (fun _ _ _ h => h) (fun _ h => by exact Hp.sub h (by repeat (first | exact List.Sublist.refl _ | apply List.Sublist.cons))) rfl ?hy17 ?_
      case hy17 => exact Yl.move rfl rfl
      refine' TA.y (i := 5) #[true, true, false, false, true, true, false, false, false, false, false, false, false, false] rfl rfl rfl (by kernel_rfl) (fun _ _ _ h => h) (fun _ h => by exact Hp.sub h (by repeat (first | exact List.Sublist.refl _ | apply List.Sublist.cons))) rfl ?hy18 ?_
      case hy18 => exact Yl.move rfl rfl
      refine' TA.y (i := 6) #[true, true, false, false, true, true, true, false, false, false, false, false, false, false] rfl rfl rfl (by kernel_rfl) (fun _ _ _ h => h) (fun _ h => by exact Hp.sub h (by repeat (first | exact List.Sublist.refl _ | apply List.Sublist.cons))) rfl ?hy19 ?_
      case hy19 => first | exact Yl.ixn rfl rfl rfl Tryd.underlying39 (by kernel_rfl) (by omega) | exact Yl.ixz rfl rfl rfl Tryd.underlying39 (by kernel_rfl) (by omega) (by omega) | exact Yl.ixcn rfl rfl rfl Tryd.underlying39 (by kernel_rfl) (by omega) | exact Yl.ixcz rfl rfl rfl Tryd.underlying39 (by kernel_rfl) (by omega) (by omega)
      refine' TA.y (i := 7) #[true, true, false, false, true, true, true, true, false, false, false, false, false, false] rfl rfl rfl (by kernel_rfl) (fun _ _ _ h => h) (fun _ h => by exact Hp.sub h (by repeat (first | exact List.Sublist.refl _ | apply List.Sublist.cons))) rfl ?hy20 ?_
      case hy20 => first | exact Yl.load rfl rfl (by kernel_rfl) (Sl.rd 0 hS rfl (by omega) (fun _ => id)) | exact Yl.load rfl rfl (by kernel_rfl) (Hp.cell mem0 rfl) | exact Yl.load rfl rfl (by kernel_rfl) (Hp.cell mem1 rfl) | exact Yl.load rfl rfl (by kernel_rfl) (Hp.cell mem2 rfl) | exact Yl.load rfl rfl (by kernel_rfl) (Hp.cell mem3 rfl) | exact Yl.load rfl rfl (by kernel_rfl) (Hp.cell mem4 rfl) | exact Yl.load rfl rfl (by kernel_rfl) (Hp.rowAt mem0 (by omega) rfl) | exact Yl.load rfl rfl (by kernel_rfl) (Hp.rowAt mem1 (by omega) rfl) | exact Yl.load rfl rfl (by kernel_rfl) (Hp.rowAt mem2 (by omega) rfl) | exact Yl.load rfl rfl (by kernel_rfl) (Hp.rowAt mem3 (by omega) rfl) | exact Yl.load rfl rfl (by kernel_rfl) (Hp.rowAt mem4 (by omega) rfl)
      refine' TA.y (i := 8) #[true, true, false, false, true, true, true, true, true, false, false, false, false, false] rfl rfl rfl (by kernel_rfl) (fun _ _ _ h => h) (fun _ h => by exact Hp.sub h (by repeat (first | exact List.Sublist.refl _ | apply List.Sublist.cons))) rfl ?hy21 ?_
      case hy21 => exact Yl.val (Yl.conv rfl rfl (by kernel_rfl) Tryd.underlying40) (congrArg (Value.int .u64) (show IntKind.u64.wrap (l.getD i 0) = l.getD i 0 % 18446744073709551616 from u64m _))
      refine' TA.y (i := 9) #[true, true, false, false, true, true, true, true, true, true, false, false, false, false] rfl rfl rfl (by kernel_rfl) (fun _ _ _ h => h) (fun _ h => by exact Hp.sub h (by repeat (first | exact List.Sublist.refl _ | apply List.Sublist.cons))) rfl ?hy22 ?_
      case hy22 => exact Yl.move rfl rfl
      refine' TA.c (i := 2) #[true, true, true, false, true, true, true, true, true, true, false, false, false, false] rfl rfl rfl (by kernel_rfl) (by decide) rfl ?hy23 ?hz23 ?_
      case hy23 => exact Yc.call rfl Tryd.func38 (by kernel_rfl) rfl rfl (Hp.gives (k_power _ (by omega) (by omega)))
      case hz23 => exact (fun _ _ h => by exact Hp.sub h (by repeat (first | exact List.Sublist.refl _ | apply List.Sublist.cons)))
      intro _
      rw [Int.toNat_natCast, hp.2.2]
      refine' TA.y (i := 3) #[true, true, true, true, true, true, true, true, true, true, false, false, false, false] rfl rfl rfl (by kernel_rfl) (fun _ _ _ h => h) (fun _ h => by exact Hp.sub h (by repeat (first | exact List.Sublist.refl _ | apply List.Sublist.cons))) rfl ?hy24 ?_
      case hy24 => exact Yl.val (Yl.bin rfl rfl rfl (Bin.mul _ _ _ _)) (congrArg (Value.int .u64) (show IntKind.u64.wrap (x * 2 ^ k) = x * 2 ^ k % 18446744073709551616 from u64m _))
      refine' TA.c (i := 10) #[true, true, true, true, true, true, true, true, true, true, true, false, false, false] rfl rfl rfl (by kernel_rfl) (by decide) rfl ?hy25 ?hz25 ?_
      case hy25 => exact Yc.call rfl Tryd.func38 (by kernel_rfl) rfl rfl (Hp.gives (k_power _ (by omega) (by omega)))
      case hz25 => exact (fun _ _ h => by exact Hp.sub h (by repeat (first | exact List.Sublist.refl _ | apply List.Sublist.cons)))
      intro _
      rw [Int.toNat_natCast, hp.2.2]
      refine' TA.y (i := 11) #[true, true, true, true, true, true, true, true, true, true, true, true, false, false] rfl rfl rfl (by kernel_rfl) (fun _ _ _ h => h) (fun _ h => by exact Hp.sub h (by repeat (first | exact List.Sublist.refl _ | apply List.Sublist.cons))) rfl ?hy26 ?_
      case hy26 => exact Yl.val (Yl.bin rfl rfl rfl (Bin.rem _ _ _ _ (by omega))) (congrArg (Value.int .u64) (show (l.getD i 0 % 18446744073709551616).tmod (2 ^ k) = l.getD i 0 % 2 ^ k from by rw [Int.tmod_eq_emod_of_nonneg (by omega), emod64 _ hk1]))
      refine' TA.y (i := 12) #[true, true, true, true, true, true, true, true, true, true, true, true, true, false] rfl rfl rfl (by kernel_rfl) (fun _ _ _ h => h) (fun _ h => by exact Hp.sub h (by repeat (first | exact List.Sublist.refl _ | apply List.Sublist.cons))) rfl ?hy27 ?_
      case hy27 => exact Yl.val (Yl.bin rfl rfl rfl (Bin.add _ _ _ _)) (congrArg (Value.int .u64) (join_add x (l.getD i 0) hk1))
      refine' TA.y (i := 13) #[true, true, true, true, true, true, true, true, true, true, true, true, true, true] rfl rfl rfl (by kernel_rfl) (fun _ _ _ h => h) (fun _ h => by exact Hp.sub h (by repeat (first | exact List.Sublist.refl _ | apply List.Sublist.cons))) rfl ?hy28 ?_
      case hy28 => exact Yl.assign rfl rfl
      refine TA.done (by kernel_rfl) ?_
      refine TE.inNormal ?_
      refine TE.next ?_
      refine TC.region ?_
      refine' TL.y rfl rfl rfl ?hy29 ?_
      case hy29 => exact Yl.move rfl rfl
      refine' TL.y rfl rfl rfl ?hy30 ?_
      case hy30 => first | (refine Yl.val (Yl.bin rfl rfl rfl (Bin.add _ _ _ _)) (congrArg (Value.int .i64) (i64in ?_ ?_)) <;> omega) | exact Yl.bin rfl rfl rfl (Bin.add _ _ _ _)
      refine' TL.y rfl rfl rfl ?hy31 ?_
      case hy31 => exact Yl.assign rfl rfl
      refine TL.nil ?_
      refine TE.round (i + 1, joinF k x (l.getD i 0)) ?hF32 ?hlt32 ?hs32 ?hm32
      case hF32 => exact ⟨by dsimp only; omega, joinS_step (by omega) hi, (joinF_range k x _).1, (joinF_range k x _).2⟩
      case hlt32 => dsimp only; omega
      case hs32 => exact ⟨rfl, rfl, rfl, rfl, trivial⟩
      case hm32 => exact fun _ h => h
    · skip
      (try simp only [decide_eq_true_eq, decide_eq_false_iff_not, beq_iff_eq, beq_eq_false_iff_ne, bne_iff_ne, ne_eq, bne_eq_false_iff_eq, Bool.not_eq_true', Bool.not_eq_false', Int.not_lt, Int.not_le, gt_iff_lt, ge_iff_le] at hs16)
      refine TC.exit ?_
      refine TE.thenExit ?_
      refine TE.thenExit ?_
      refine TE.inHere ?_
      refine TE.next ?_
      refine TC.seq ?_
      refine TC.region ?_
      refine' TL.y rfl rfl rfl ?hy33 ?_
      case hy33 => exact Yl.move rfl rfl
      refine' TL.y rfl rfl rfl ?hy34 ?_
      case hy34 => exact Yl.assign rfl rfl
      refine TL.nil ?_
      refine TE.next ?_
      refine TC.ret ?_
      refine TE.ret1 rfl rfl ?_
      obtain rfl : i = l.length := by omega
      rw [List.drop_length] at hi
      exact fun w h => ⟨by rw [show jS l (k : Int) = x from by unfold jS; rw [if_pos (by omega), Int.toNat_natCast]; exact hi.symm], h.below⟩
theorem k_rjoin (W : World) (l : List Int) (A : Option Addr) (cp : Nat) (hS : Sl W A (l.map (Value.int .i64))) (hl : l.length ≤ 1000) (w0 : Int) : Calls Go.Proofs.Tryd.prog 31 #[.slice A l.length cp, .int .i64 w0] W fun e w' => e = .returned (.int .u64 (jS l w0)) ∧ Below W.heap.size W w' := by
  by_cases h1 : w0 < 1
  · exact k_rjoin_lo W l A cp hS hl w0 h1
  · by_cases h2 : 16 < w0
    · exact k_rjoin_hi W l A cp hS hl w0 h2
    · obtain ⟨k, rfl⟩ := Int.eq_ofNat_of_zero_le (show 0 ≤ w0 by omega)
      exact k_rjoin_in W l A cp hS hl k (by omega) (by omega)
end Go.Proofs.YtjampfcibocnlaaDoor.Pk
