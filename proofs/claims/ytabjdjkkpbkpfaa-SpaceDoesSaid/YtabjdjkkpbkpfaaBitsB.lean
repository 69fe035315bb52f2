/- Contracts: fields taken out, digits, joined. -/
import Derived.Test.YtabjdjkkpbkpfaaBitsA
import Derived.Test.YtabjdjkkpbkpfaaProg
import Derived.RowKit3
namespace Go.Proofs.Ytabjdjkkpbkpfaa.Pk
open Go Go.RowKit Go.Proofs.Ytabjdjkkpbkpfaa.HL Go.Proofs.Ytabjdjkkpbkpfaa.Ev Go.Proofs.YtabjdjkkpbkpfaaW.PrintWords Go.Proofs.Ytabjdjkkpbkpfaa.BM
set_option linter.unusedVariables false
set_option linter.unusedSimpArgs false
attribute [local irreducible] rowA
set_option maxRecDepth 100000 in
set_option maxHeartbeats 2000000 in
theorem q_un_ok (W : World) (ws : List Int) (x : Int) (A : Option Addr) (cp : Nat) (hS : Sl W A (ws.map (Value.int .i64))) (hl : ws.length ≤ 1000) (hx0 : 0 ≤ x) (hx1 : x < 18446744073709551616) (hok : okW ws 0 = true) : Calls Try.prog 76 #[.slice A ws.length cp, .int .u64 x] W fun e w' => ∃ v, e = .returned (.tuple #[v, .int .i64 (unS ws x).2]) ∧ (ownR 3 1 v ((unS ws x).1).length (((unS ws x).1).map (Value.int .i64))).holds w' ∧ Below W.heap.size W w' ∧ ∀ kk, (ownR 3 1 v ((unS ws x).1).length (((unS ws x).1).map (Value.int .i64))).foot kk → W.heap.size ≤ kk := by
  have hsm := okW_sum ws 0 (by decide) hok
  have hur : 64 ≤ sumW ws → unR ws x = 0 := fun h => by rw [unR_is ws 0 x hok]; exact Int.ediv_eq_zero_of_lt hx0 (by rw [show (sumW ws).toNat = 64 by omega]; exact hx1)
  have hM : Hp W (fun _ => False) [] W := Hp.start
  refine TC.enter (n := 49) Try.func76 rfl rfl rfl hM ?_
  refine TC.seq ?_
  refine TC.region ?_
  refine' TL.y rfl rfl rfl ?hy1 ?_
  case hy1 => exact Yl.assign rfl rfl
  refine' TL.y rfl rfl rfl ?hy2 ?_
  case hy2 => exact Yl.assign rfl rfl
  refine TL.nil ?_
  refine TE.next ?_
  refine TC.seq ?_
  refine TC.region ?_
  refine' TL.y rfl rfl rfl ?hy3 ?_
  case hy3 => exact Yl.move rfl rfl
  refine' TL.c rfl rfl rfl ?hy4 ?_
  case hy4 => exact Yc.call rfl Try.func87 (by kernel_rfl) rfl rfl (Hp.calls (fun w h => q_right_ok w ws A cp (hS.below h.below) hl hok))
  intro _
  refine' TL.y rfl rfl rfl ?hy5 ?_
  case hy5 => exact Yl.move rfl rfl
  refine' TL.y rfl rfl rfl ?hy6 ?_
  case hy6 => exact Yl.extract rfl rfl rfl
  refine' TL.y rfl rfl rfl ?hy7 ?_
  case hy7 => exact Yl.extract rfl rfl rfl
  refine' TL.y rfl rfl rfl ?hy8 ?_
  case hy8 => exact Yl.assign rfl rfl
  refine' TL.y rfl rfl rfl ?hy9 ?_
  case hy9 => exact Yl.assign rfl rfl
  refine TL.nil ?_
  refine TE.next ?_
  refine TC.meet (σ := Unit) (fun _ => [(0, .slice A ws.length cp), (1, .int .u64 x)]) (fun _ => Hp W (fun _ => False) []) (fun _ => unR ws x = 0) ?hx10 ?hy10
  case hx10 =>
    refine TC.seq ?_
    refine TC.region ?_
    refine' TL.y rfl rfl rfl ?hy11 ?_
    case hy11 => exact Yl.move rfl rfl
    refine' TL.y rfl rfl rfl ?hy12 ?_
    case hy12 => exact Yl.not rfl rfl
    refine' TL.y rfl rfl rfl ?hy13 ?_
    case hy13 => exact Yl.move rfl rfl
    refine' TL.y rfl rfl rfl ?hy14 ?_
    case hy14 => exact Yl.move rfl rfl
    refine' TL.y rfl rfl rfl ?hy15 ?_
    case hy15 => exact Yl.bin rfl rfl rfl (Bin.lss _ _ _ _)
    refine' TL.y rfl rfl rfl ?hy16 ?_
    case hy16 => exact Yl.move rfl rfl
    refine TL.split (i := 21) rfl (fun hs21 => ?_) (fun hs21 => ?_)
    · skip
      (try simp only [nrm] at hs21)
      refine' TL.y rfl rfl rfl ?hy17 ?_
      case hy17 => exact Yl.move rfl rfl
      refine' TL.y rfl rfl rfl ?hy18 ?_
      case hy18 => exact Yl.move rfl rfl
      refine' TL.y rfl rfl rfl ?hy19 ?_
      case hy19 => first | (refine Yl.val (Yl.conv rfl rfl (by kernel_rfl) Try.underlying100) (congrArg (Value.int .u64) (u64in ?_ ?_)) <;> omega) | exact Yl.conv rfl rfl (by kernel_rfl) Try.underlying100
      refine' TL.y rfl rfl rfl ?hy20 ?_
      case hy20 => exact Yl.val (Yl.bin rfl rfl rfl (Bin.shr _ _ _ _ _ (by omega))) (congrArg (Value.int .u64) (show x / 2 ^ min (sumW ws).toNat IntKind.u64.bits = unR ws x from by rw [unR_is ws 0 x hok, show min (sumW ws).toNat IntKind.u64.bits = (sumW ws).toNat from by (have : IntKind.u64.bits = 64 := rfl); omega]))
      refine' TL.y rfl rfl rfl ?hy21 ?_
      case hy21 => exact Yl.bin rfl rfl rfl (Bin.neq _ _ _ _)
      refine' TL.y rfl rfl rfl ?hy22 ?_
      case hy22 => exact Yl.pickT rfl rfl rfl
      refine' TL.y rfl rfl rfl ?hy23 ?_
      case hy23 => exact Yl.pickF rfl rfl rfl
      refine TL.nil ?_
      refine TE.next ?_
      refine TC.cond rfl (fun hs28 => ?_) (fun hs28 => ?_)
      · skip
        (try simp only [nrm] at hs28)
        refine TC.seq ?_
        refine TC.region ?_
        refine' TL.y rfl rfl rfl ?hy24 ?_
        case hy24 => exact Yl.assign rfl rfl
        refine' TL.y rfl rfl rfl ?hy25 ?_
        case hy25 => exact Yl.assign rfl rfl
        refine TL.nil ?_
        refine TE.next ?_
        refine TC.ret ?_
        refine TE.thenRet ?_
        refine TE.ret2 rfl rfl rfl ?_
        exact fun w h => ⟨.slice none 0 0, by rw [show unS ws x = ([], 1) from if_neg (by first | omega | (simp_all; done) | (rw [← hy]; omega))], ((h.sub (List.nil_sublist _)).nil (e := 3) (size := 1)).leaveNew.1 |> fun q => by rw [show unS ws x = ([], 1) from if_neg (by first | omega | (simp_all; done) | (rw [← hy]; omega))]; exact ((h.sub (List.nil_sublist _)).nil (e := 3) (size := 1)).leaveNew⟩
      · skip
        (try simp only [nrm] at hs28)
        refine TC.skip ?_
        refine TE.met () ?hF26 ?hs26 ?hm26
        case hF26 => omega
        case hs26 => exact ⟨rfl, rfl, trivial⟩
        case hm26 => exact fun _ h => h
    · skip
      (try simp only [nrm] at hs21)
      refine TL.skip rfl rfl rfl ?_
      refine TL.skip rfl rfl rfl ?_
      refine TL.skip rfl rfl rfl ?_
      refine TL.skip rfl rfl rfl ?_
      refine TL.skip rfl rfl rfl ?_
      refine' TL.y rfl rfl rfl ?hy27 ?_
      case hy27 => exact Yl.pickF rfl rfl rfl
      refine' TL.y rfl rfl rfl ?hy28 ?_
      case hy28 => exact Yl.pickF rfl rfl rfl
      refine TL.nil ?_
      refine TE.next ?_
      refine TC.no rfl rfl ?_
      refine TC.skip ?_
      refine TE.met () ?hF29 ?hs29 ?hm29
      case hF29 => omega
      case hs29 => exact ⟨rfl, rfl, trivial⟩
      case hm29 => exact fun _ h => h
  case hy10 =>
    intro _ hur2
    refine TC.seq ?_
    refine TC.region ?_
    refine' TL.y rfl rfl rfl ?hy30 ?_
    case hy30 => exact Yl.assign rfl rfl
    refine TL.nil ?_
    refine TE.next ?_
    refine TC.seq ?_
    refine TC.seq ?_
    refine TC.region ?_
    refine' TL.y rfl rfl rfl ?hy31 ?_
    case hy31 => exact Yl.move rfl rfl
    refine' TL.y rfl rfl rfl ?hy32 ?_
    case hy32 => exact Yl.len rfl rfl Try.underlying36
    refine' TL.y rfl rfl rfl ?hy33 ?_
    case hy33 => exact Yl.move rfl rfl
    refine TL.nil ?_
    refine TE.next ?_
    refine TC.block ?_
    refine TC.loop (σ := Nat × Value × List Int × Int × Int) (fun s => [(29, .slice A ws.length cp), (31, .int .i64 (s.1 : Int)), (1, .int .u64 s.2.2.2.1), (8, s.2.1), (30, .int .i64 ws.length)]) (fun s => Hp W (fun _ => False) [ownR 3 1 s.2.1 s.2.2.1.length (s.2.2.1.map (Value.int .i64))]) (fun s => s.1 ≤ ws.length ∧ s.2.2.1 ++ unG (ws.drop s.1) s.2.2.2.1 = unG ws x ∧ unR (ws.drop s.1) s.2.2.2.1 = unR ws x ∧ okW (ws.drop s.1) s.2.2.2.2 = true ∧ s.2.2.1.length = s.1 ∧ 0 ≤ s.2.2.2.1 ∧ s.2.2.2.1 < 18446744073709551616) (fun s => ws.length - s.1) (0, .slice none 0 0, [], x, 0) ?hF34 ?hs34 ?hm34 ?round34
    case hF34 => exact ⟨Nat.zero_le _, rfl, rfl, hok, rfl, hx0, hx1⟩
    case hs34 => exact ⟨rfl, rfl, rfl, rfl, rfl, trivial⟩
    case hm34 => exact fun w h => h.nil (e := 3) (size := 1)
    case round34 =>
      rintro ⟨i, v, acc, y, n⟩ ⟨h1, hi, hr, ho, hl2, h2, h3⟩
      dsimp only at h1 hi hr ho hl2 h2 h3 ⊢
      refine TC.seq ?_
      refine TC.region ?_
      refine' TL.y rfl rfl rfl ?hy35 ?_
      case hy35 => exact Yl.bin rfl rfl rfl (Bin.lss _ _ _ _)
      refine TL.nil ?_
      refine TE.next ?_
      refine TC.seq ?_
      refine TC.cond rfl (fun hs32 => ?_) (fun hs32 => ?_)
      · skip
        (try simp only [nrm] at hs32)
        obtain ⟨bb, oo, rfl⟩ := Sl.in hS (by omega)
        have q1 := okW_at (by omega : i < ws.length) ho
        have q2 := pow62 q1.1 q1.2.1
        rw [unG_step (by omega)] at hi
        rw [unR_step (by omega)] at hr
        refine TC.skip ?_
        refine TE.next ?_
        refine TC.seq ?_
        refine TC.block ?_
        refine TC.seq ?_
        refine TC.region ?_
        refine' TL.y rfl rfl rfl ?hy36 ?_
        case hy36 => first | exact Yl.ixn rfl rfl rfl Try.underlying36 (by kernel_rfl) (by omega) | exact Yl.ixz rfl rfl rfl Try.underlying36 (by kernel_rfl) (by omega) (by omega) | exact Yl.ixcn rfl rfl rfl Try.underlying36 (by kernel_rfl) (by omega) | exact Yl.ixcz rfl rfl rfl Try.underlying36 (by kernel_rfl) (by omega) (by omega)
        refine' TL.y rfl rfl rfl ?hy37 ?_
        case hy37 => exact Yl.load rfl rfl (by kernel_rfl) (by first | exact Sl.rd 0 hS rfl (by omega) (fun _ => id) | exact Hp.cell mem0 rfl | exact Hp.cell mem1 rfl | exact Hp.cell mem2 rfl | exact Hp.cell mem3 rfl | exact Hp.cell mem4 rfl | exact Hp.rowAt mem0 (by omega) rfl | exact Hp.rowAt mem1 (by omega) rfl | exact Hp.rowAt mem2 (by omega) rfl | exact Hp.rowAt mem3 (by omega) rfl | exact Hp.rowAt mem4 (by omega) rfl)
        refine' TL.y rfl rfl rfl ?hy38 ?_
        case hy38 => exact Yl.assign rfl rfl
        refine TL.nil ?_
        refine TE.next ?_
        refine TC.seq ?_
        refine TC.region ?_
        refine' TL.y rfl rfl rfl ?hy39 ?_
        case hy39 => exact Yl.move rfl rfl
        refine' TL.y rfl rfl rfl ?hy40 ?_
        case hy40 => exact Yl.move rfl rfl
        refine' TL.y rfl rfl rfl ?hy41 ?_
        case hy41 => exact Yl.move rfl rfl
        refine' TL.c rfl rfl rfl ?hy42 ?_
        case hy42 => exact Yc.call rfl Try.func88 (by kernel_rfl) rfl rfl (Hp.gives (q_mask _ (by omega) (by omega)))
        intro _
        refine' TL.y rfl rfl rfl ?hy43 ?_
        case hy43 => exact Yl.val (Yl.bin rfl rfl rfl (Bin.and _ _ _ _)) (congrArg (Value.int .u64) (maskU y (ws.getD i 0).toNat (by omega) h2 h3))
        refine' TL.y rfl rfl rfl ?hy44 ?_
        case hy44 => exact Yl.val (Yl.conv rfl rfl (by kernel_rfl) Try.underlying3) (congrArg (Value.int .i64) (show IntKind.i64.wrap (y % 2 ^ (ws.getD i 0).toNat) = y % 2 ^ (ws.getD i 0).toNat from by rw [IntKind.wrap_i64]; have := Int.emod_nonneg y (show (2 : Int) ^ (ws.getD i 0).toNat ≠ 0 by omega); have := Int.emod_lt_of_pos y q2.2.1; omega))
        refine' TL.mx rfl rfl rfl ?hy45 ?_
        case hy45 => exact Ym.buildSlice (cells := #[_]) (z := .int .i64 0) (size := 1) #[.int .i64 0] rfl Try.underlying36 (by kernel_rfl) (by decide) (by decide) (by kernel_rfl) rfl rfl
        intro b41
        refine' TL.mx rfl rfl rfl ?hy46 ?_
        case hy46 => exact Ym.append (news := [.int .i64 (y % 2 ^ (ws.getD i 0).toNat)]) rfl Try.underlying36 (by kernel_rfl) (z := .int .i64 0) (size := 1) (bytes := 8) rfl (by decide) (by decide) rfl rfl rfl (Hp.cells mem0 (fun j v hj => by simpa [Value.cells] using hj)) (by simp [Value.oneCell']) (by omega) (fun v' => foc1)
        intro b42
        refine' TL.y rfl rfl rfl ?hy47 ?_
        case hy47 => exact Yl.assign rfl rfl
        refine TL.nil ?_
        refine TE.next ?_
        refine TC.region ?_
        refine' TL.y rfl rfl rfl ?hy48 ?_
        case hy48 => exact Yl.move rfl rfl
        refine' TL.y rfl rfl rfl ?hy49 ?_
        case hy49 => exact Yl.move rfl rfl
        refine' TL.y rfl rfl rfl ?hy50 ?_
        case hy50 => first | (refine Yl.val (Yl.conv rfl rfl (by kernel_rfl) Try.underlying100) (congrArg (Value.int .u64) (u64in ?_ ?_)) <;> omega) | exact Yl.conv rfl rfl (by kernel_rfl) Try.underlying100
        refine' TL.y rfl rfl rfl ?hy51 ?_
        case hy51 => exact Yl.val (Yl.bin rfl rfl rfl (Bin.shr _ _ _ _ _ (by omega))) (congrArg (Value.int .u64) (show y / 2 ^ min (ws.getD i 0).toNat IntKind.u64.bits = y / 2 ^ (ws.getD i 0).toNat from by rw [show min (ws.getD i 0).toNat IntKind.u64.bits = (ws.getD i 0).toNat from by (have : IntKind.u64.bits = 64 := rfl); omega]))
        refine' TL.y rfl rfl rfl ?hy52 ?_
        case hy52 => exact Yl.assign rfl rfl
        refine TL.nil ?_
        refine TE.inNormal ?_
        refine TE.next ?_
        refine TC.region ?_
        refine' TL.y rfl rfl rfl ?hy53 ?_
        case hy53 => first | (refine Yl.val (Yl.bin rfl rfl rfl (Bin.add _ _ _ _)) (congrArg (Value.int .i64) (i64in ?_ ?_)) <;> omega) | exact Yl.bin rfl rfl rfl (Bin.add _ _ _ _)
        refine' TL.y rfl rfl rfl ?hy54 ?_
        case hy54 => exact Yl.move rfl rfl
        refine TL.nil ?_
        refine TE.round (i + 1, b42, acc ++ [y % 2 ^ (ws.getD i 0).toNat], y / 2 ^ (ws.getD i 0).toNat, n + ws.getD i 0) ?hF55 ?hlt55 ?hs55 ?hm55
        case hF55 => refine ⟨by dsimp only; omega, by dsimp only; rw [List.append_assoc]; exact hi, hr, q1.2.2.2, by dsimp only; simp; omega, Int.ediv_nonneg h2 (by omega), Int.lt_of_le_of_lt (Int.ediv_le_self _ h2) h3⟩
        case hlt55 => dsimp only; omega
        case hs55 => exact ⟨rfl, rfl, rfl, rfl, rfl, trivial⟩
        case hm55 => exact fun w h => by have h2 := h.sub (.cons _ (.refl _)); simpa using h2
      · skip
        (try simp only [nrm] at hs32)
        refine TC.exit ?_
        refine TE.thenExit ?_
        refine TE.thenExit ?_
        refine TE.inHere ?_
        refine TE.next ?_
        refine TC.seq ?_
        refine TC.region ?_
        refine' TL.y rfl rfl rfl ?hy56 ?_
        case hy56 => exact Yl.move rfl rfl
        refine' TL.y rfl rfl rfl ?hy57 ?_
        case hy57 => exact Yl.assign rfl rfl
        refine' TL.y rfl rfl rfl ?hy58 ?_
        case hy58 => exact Yl.assign rfl rfl
        refine TL.nil ?_
        refine TE.next ?_
        refine TC.ret ?_
        refine TE.ret2 rfl rfl rfl ?_
        obtain rfl : i = ws.length := by omega
        rw [List.drop_length] at hi hr
        rw [show unG [] y = [] from rfl, List.append_nil] at hi
        have hR : unS ws x = (acc, 0) := by unfold unS; rw [hi]; exact if_pos ⟨hok, by omega⟩
        exact fun w h => ⟨v, by rw [hR], by rw [hR]; exact h.leaveNew⟩
set_option maxRecDepth 100000 in
set_option maxHeartbeats 2000000 in
theorem q_run_ok (W : World) (ws : List Int) (x : Int) (A : Option Addr) (cp : Nat) (hS : Sl W A (ws.map (Value.int .i64))) (hl : ws.length ≤ 1000) (hx0 : 0 ≤ x) (hx1 : x < 18446744073709551616) (hok : okW ws 0 = true) : Calls Try.prog 86 #[.slice A ws.length cp, .int .u64 x] W fun e w' => ∃ v, e = .returned (.tuple #[v, .int .i64 (unS ws x).2]) ∧ (ownR 3 1 v ((unS ws x).1).length (((unS ws x).1).map (Value.int .i64))).holds w' ∧ Below W.heap.size W w' ∧ ∀ kk, (ownR 3 1 v ((unS ws x).1).length (((unS ws x).1).map (Value.int .i64))).foot kk → W.heap.size ≤ kk := by
  have hsm := okW_sum ws 0 (by decide) hok
  have hur : 64 ≤ sumW ws → unR ws x = 0 := fun h => by rw [unR_is ws 0 x hok]; exact Int.ediv_eq_zero_of_lt hx0 (by rw [show (sumW ws).toNat = 64 by omega]; exact hx1)
  have hM : Hp W (fun _ => False) [] W := Hp.start
  refine TC.enter (n := 38) Try.func86 rfl rfl rfl hM ?_
  refine TC.seq ?_
  refine TC.region ?_
  refine' TL.y rfl rfl rfl ?hy1 ?_
  case hy1 => exact Yl.assign rfl rfl
  refine' TL.y rfl rfl rfl ?hy2 ?_
  case hy2 => exact Yl.assign rfl rfl
  refine TL.nil ?_
  refine TE.next ?_
  refine TC.seq ?_
  refine TC.seq ?_
  refine TC.region ?_
  refine' TL.y rfl rfl rfl ?hy3 ?_
  case hy3 => exact Yl.move rfl rfl
  refine' TL.c rfl rfl rfl ?hy4 ?_
  case hy4 => exact Yc.call rfl Try.func91 (by kernel_rfl) rfl rfl (Hp.calls (fun w h => q_widths_ok w ws A cp (hS.below h.below) hl hok))
  intro _
  refine' TL.y rfl rfl rfl ?hy5 ?_
  case hy5 => exact Yl.not rfl rfl
  refine TL.nil ?_
  refine TE.next ?_
  refine TC.no rfl rfl ?_
  refine TC.skip ?_
  refine TE.next ?_
  refine TC.seq ?_
  refine TC.region ?_
  refine' TL.y rfl rfl rfl ?hy6 ?_
  case hy6 => exact Yl.assign rfl rfl
  refine TL.nil ?_
  refine TE.next ?_
  refine TC.seq ?_
  refine TC.seq ?_
  refine TC.region ?_
  refine' TL.y rfl rfl rfl ?hy7 ?_
  case hy7 => exact Yl.assign rfl rfl
  refine TL.nil ?_
  refine TE.next ?_
  refine TC.block ?_
  refine TC.loop (σ := Nat × Value × List Int × Int × Int) (fun s => [(0, .slice A ws.length cp), (7, .int .i64 (s.1 : Int)), (1, .int .u64 s.2.2.2.1), (6, s.2.1)]) (fun s => Hp W (fun _ => False) [ownR 3 1 s.2.1 s.2.2.1.length (s.2.2.1.map (Value.int .i64))]) (fun s => s.1 ≤ ws.length ∧ s.2.2.1 ++ unG (ws.drop s.1) s.2.2.2.1 = unG ws x ∧ unR (ws.drop s.1) s.2.2.2.1 = unR ws x ∧ okW (ws.drop s.1) s.2.2.2.2 = true ∧ s.2.2.1.length = s.1 ∧ 0 ≤ s.2.2.2.1 ∧ s.2.2.2.1 < 18446744073709551616) (fun s => ws.length - s.1) (0, .slice none 0 0, [], x, 0) ?hF8 ?hs8 ?hm8 ?round8
  case hF8 => exact ⟨Nat.zero_le _, rfl, rfl, hok, rfl, hx0, hx1⟩
  case hs8 => exact ⟨rfl, rfl, rfl, rfl, trivial⟩
  case hm8 => exact fun w h => h.nil (e := 3) (size := 1)
  case round8 =>
    rintro ⟨i, v, acc, y, n⟩ ⟨h1, hi, hr, ho, hl2, h2, h3⟩
    dsimp only at h1 hi hr ho hl2 h2 h3 ⊢
    refine TC.seq ?_
    refine TC.seq ?_
    refine TC.region ?_
    refine' TL.y rfl rfl rfl ?hy9 ?_
    case hy9 => exact Yl.move rfl rfl
    refine' TL.y rfl rfl rfl ?hy10 ?_
    case hy10 => exact Yl.move rfl rfl
    refine' TL.y rfl rfl rfl ?hy11 ?_
    case hy11 => exact Yl.len rfl rfl Try.underlying36
    refine' TL.y rfl rfl rfl ?hy12 ?_
    case hy12 => exact Yl.bin rfl rfl rfl (Bin.lss _ _ _ _)
    refine TL.nil ?_
    refine TE.next ?_
    refine TC.cond rfl (fun hs14 => ?_) (fun hs14 => ?_)
    · skip
      (try simp only [nrm] at hs14)
      obtain ⟨bb, oo, rfl⟩ := Sl.in hS (by omega)
      have q1 := okW_at (by omega : i < ws.length) ho
      have q2 := pow62 q1.1 q1.2.1
      rw [unG_step (by omega)] at hi
      rw [unR_step (by omega)] at hr
      refine TC.skip ?_
      refine TE.next ?_
      refine TC.seq ?_
      refine TC.block ?_
      refine TC.seq ?_
      refine TC.region ?_
      refine' TL.y rfl rfl rfl ?hy13 ?_
      case hy13 => exact Yl.move rfl rfl
      refine' TL.y rfl rfl rfl ?hy14 ?_
      case hy14 => exact Yl.move rfl rfl
      refine' TL.y rfl rfl rfl ?hy15 ?_
      case hy15 => exact Yl.move rfl rfl
      refine' TL.y rfl rfl rfl ?hy16 ?_
      case hy16 => exact Yl.move rfl rfl
      refine' TL.y rfl rfl rfl ?hy17 ?_
      case hy17 => first | exact Yl.ixn rfl rfl rfl Try.underlying36 (by kernel_rfl) (by omega) | exact Yl.ixz rfl rfl rfl Try.underlying36 (by kernel_rfl) (by omega) (by omega) | exact Yl.ixcn rfl rfl rfl Try.underlying36 (by kernel_rfl) (by omega) | exact Yl.ixcz rfl rfl rfl Try.underlying36 (by kernel_rfl) (by omega) (by omega)
      refine' TL.y rfl rfl rfl ?hy18 ?_
      case hy18 => exact Yl.load rfl rfl (by kernel_rfl) (by first | exact Sl.rd 0 hS rfl (by omega) (fun _ => id) | exact Hp.cell mem0 rfl | exact Hp.cell mem1 rfl | exact Hp.cell mem2 rfl | exact Hp.cell mem3 rfl | exact Hp.cell mem4 rfl | exact Hp.rowAt mem0 (by omega) rfl | exact Hp.rowAt mem1 (by omega) rfl | exact Hp.rowAt mem2 (by omega) rfl | exact Hp.rowAt mem3 (by omega) rfl | exact Hp.rowAt mem4 (by omega) rfl)
      refine' TL.c rfl rfl rfl ?hy19 ?_
      case hy19 => exact Yc.call rfl Try.func92 (by kernel_rfl) rfl rfl (Hp.gives (q_power _ (by omega) (by omega)))
      intro _
      rw [q2.1]
      refine' TL.y rfl rfl rfl ?hy20 ?_
      case hy20 => exact Yl.val (Yl.bin rfl rfl rfl (Bin.rem _ _ _ _ (by omega))) (congrArg (Value.int .u64) (show y.tmod (2 ^ (ws.getD i 0).toNat) = y % 2 ^ (ws.getD i 0).toNat from Int.tmod_eq_emod_of_nonneg h2))
      refine' TL.y rfl rfl rfl ?hy21 ?_
      case hy21 => exact Yl.val (Yl.conv rfl rfl (by kernel_rfl) Try.underlying3) (congrArg (Value.int .i64) (show IntKind.i64.wrap (y % 2 ^ (ws.getD i 0).toNat) = y % 2 ^ (ws.getD i 0).toNat from by rw [IntKind.wrap_i64]; have := Int.emod_nonneg y (show (2 : Int) ^ (ws.getD i 0).toNat ≠ 0 by omega); have := Int.emod_lt_of_pos y q2.2.1; omega))
      refine' TL.mx rfl rfl rfl ?hy22 ?_
      case hy22 => exact Ym.buildSlice (cells := #[_]) (z := .int .i64 0) (size := 1) #[.int .i64 0] rfl Try.underlying36 (by kernel_rfl) (by decide) (by decide) (by kernel_rfl) rfl rfl
      intro b26
      refine' TL.mx rfl rfl rfl ?hy23 ?_
      case hy23 => exact Ym.append (news := [.int .i64 (y % 2 ^ (ws.getD i 0).toNat)]) rfl Try.underlying36 (by kernel_rfl) (z := .int .i64 0) (size := 1) (bytes := 8) rfl (by decide) (by decide) rfl rfl rfl (Hp.cells mem0 (fun j v hj => by simpa [Value.cells] using hj)) (by simp [Value.oneCell']) (by omega) (fun v' => foc1)
      intro b27
      refine' TL.y rfl rfl rfl ?hy24 ?_
      case hy24 => exact Yl.assign rfl rfl
      refine TL.nil ?_
      refine TE.next ?_
      refine TC.region ?_
      refine' TL.y rfl rfl rfl ?hy25 ?_
      case hy25 => exact Yl.move rfl rfl
      refine' TL.y rfl rfl rfl ?hy26 ?_
      case hy26 => exact Yl.move rfl rfl
      refine' TL.y rfl rfl rfl ?hy27 ?_
      case hy27 => exact Yl.move rfl rfl
      refine' TL.y rfl rfl rfl ?hy28 ?_
      case hy28 => first | exact Yl.ixn rfl rfl rfl Try.underlying36 (by kernel_rfl) (by omega) | exact Yl.ixz rfl rfl rfl Try.underlying36 (by kernel_rfl) (by omega) (by omega) | exact Yl.ixcn rfl rfl rfl Try.underlying36 (by kernel_rfl) (by omega) | exact Yl.ixcz rfl rfl rfl Try.underlying36 (by kernel_rfl) (by omega) (by omega)
      refine' TL.y rfl rfl rfl ?hy29 ?_
      case hy29 => exact Yl.load rfl rfl (by kernel_rfl) (by first | exact Sl.rd 0 hS rfl (by omega) (fun _ => id) | exact Hp.cell mem0 rfl | exact Hp.cell mem1 rfl | exact Hp.cell mem2 rfl | exact Hp.cell mem3 rfl | exact Hp.cell mem4 rfl | exact Hp.rowAt mem0 (by omega) rfl | exact Hp.rowAt mem1 (by omega) rfl | exact Hp.rowAt mem2 (by omega) rfl | exact Hp.rowAt mem3 (by omega) rfl | exact Hp.rowAt mem4 (by omega) rfl)
      refine' TL.c rfl rfl rfl ?hy30 ?_
      case hy30 => exact Yc.call rfl Try.func92 (by kernel_rfl) rfl rfl (Hp.gives (q_power _ (by omega) (by omega)))
      intro _
      rw [q2.1]
      refine' TL.y rfl rfl rfl ?hy31 ?_
      case hy31 => exact Yl.val (Yl.bin rfl rfl rfl (Bin.quo _ _ _ _ (by omega))) (congrArg (Value.int .u64) (show IntKind.u64.wrap (y.tdiv (2 ^ (ws.getD i 0).toNat)) = y / 2 ^ (ws.getD i 0).toNat from by rw [Int.tdiv_eq_ediv_of_nonneg h2]; have := Int.ediv_nonneg h2 (Int.le_of_lt q2.2.1); have := Int.ediv_le_self (2 ^ (ws.getD i 0).toNat) h2; exact u64in (by omega) (by omega)))
      refine' TL.y rfl rfl rfl ?hy32 ?_
      case hy32 => exact Yl.assign rfl rfl
      refine TL.nil ?_
      refine TE.inNormal ?_
      refine TE.next ?_
      refine TC.region ?_
      refine' TL.y rfl rfl rfl ?hy33 ?_
      case hy33 => exact Yl.move rfl rfl
      refine' TL.y rfl rfl rfl ?hy34 ?_
      case hy34 => first | (refine Yl.val (Yl.bin rfl rfl rfl (Bin.add _ _ _ _)) (congrArg (Value.int .i64) (i64in ?_ ?_)) <;> omega) | exact Yl.bin rfl rfl rfl (Bin.add _ _ _ _)
      refine' TL.y rfl rfl rfl ?hy35 ?_
      case hy35 => exact Yl.assign rfl rfl
      refine TL.nil ?_
      refine TE.round (i + 1, b27, acc ++ [y % 2 ^ (ws.getD i 0).toNat], y / 2 ^ (ws.getD i 0).toNat, n + ws.getD i 0) ?hF36 ?hlt36 ?hs36 ?hm36
      case hF36 => refine ⟨by dsimp only; omega, by dsimp only; rw [List.append_assoc]; exact hi, hr, q1.2.2.2, by dsimp only; simp; omega, Int.ediv_nonneg h2 (by omega), Int.lt_of_le_of_lt (Int.ediv_le_self _ h2) h3⟩
      case hlt36 => dsimp only; omega
      case hs36 => exact ⟨rfl, rfl, rfl, rfl, trivial⟩
      case hm36 => exact fun w h => by have h2 := h.sub (.cons _ (.refl _)); simpa using h2
    · skip
      (try simp only [nrm] at hs14)
      refine TC.exit ?_
      refine TE.thenExit ?_
      refine TE.thenExit ?_
      refine TE.inHere ?_
      refine TE.next ?_
      refine TC.seq ?_
      refine TC.seq ?_
      refine TC.region ?_
      refine' TL.y rfl rfl rfl ?hy37 ?_
      case hy37 => exact Yl.move rfl rfl
      refine' TL.y rfl rfl rfl ?hy38 ?_
      case hy38 => exact Yl.bin rfl rfl rfl (Bin.gtr _ _ _ _)
      refine TL.nil ?_
      refine TE.next ?_
      refine TC.cond rfl (fun hs36 => ?_) (fun hs36 => ?_)
      · skip
        (try simp only [nrm] at hs36)
        refine TC.seq ?_
        refine TC.region ?_
        refine' TL.y rfl rfl rfl ?hy39 ?_
        case hy39 => exact Yl.assign rfl rfl
        refine' TL.y rfl rfl rfl ?hy40 ?_
        case hy40 => exact Yl.assign rfl rfl
        refine TL.nil ?_
        refine TE.next ?_
        refine TC.ret ?_
        refine TE.thenRet ?_
        refine TE.ret2 rfl rfl rfl ?_
        obtain rfl : i = ws.length := by omega
        rw [List.drop_length] at hr
        have hy : y = unR ws x := hr
        exact fun w h => ⟨.slice none 0 0, by rw [show unS ws x = ([], 1) from if_neg (by first | omega | (simp_all; done) | (rw [← hy]; omega))], ((h.sub (List.nil_sublist _)).nil (e := 3) (size := 1)).leaveNew.1 |> fun q => by rw [show unS ws x = ([], 1) from if_neg (by first | omega | (simp_all; done) | (rw [← hy]; omega))]; exact ((h.sub (List.nil_sublist _)).nil (e := 3) (size := 1)).leaveNew⟩
      · skip
        (try simp only [nrm] at hs36)
        refine TC.skip ?_
        refine TE.next ?_
        refine TC.seq ?_
        refine TC.region ?_
        refine' TL.y rfl rfl rfl ?hy41 ?_
        case hy41 => exact Yl.move rfl rfl
        refine' TL.y rfl rfl rfl ?hy42 ?_
        case hy42 => exact Yl.assign rfl rfl
        refine' TL.y rfl rfl rfl ?hy43 ?_
        case hy43 => exact Yl.assign rfl rfl
        refine TL.nil ?_
        refine TE.next ?_
        refine TC.ret ?_
        refine TE.ret2 rfl rfl rfl ?_
        obtain rfl : i = ws.length := by omega
        rw [List.drop_length] at hi hr
        rw [show unG [] y = [] from rfl, List.append_nil] at hi
        have hR : unS ws x = (acc, 0) := by unfold unS; rw [hi]; exact if_pos ⟨hok, by have : y = unR ws x := hr; omega⟩
        exact fun w h => ⟨v, by rw [hR], by rw [hR]; exact h.leaveNew⟩
end Go.Proofs.Ytabjdjkkpbkpfaa.Pk
