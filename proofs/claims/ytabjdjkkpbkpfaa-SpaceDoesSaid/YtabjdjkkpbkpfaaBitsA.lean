/- Contracts: digits and fields of a word. -/
import Derived.Test.YtabjdjkkpbkpfaaHL
import Derived.Test.YtabjdjkkpbkpfaaBm
import Derived.Test.YtabjdjkkpbkpfaaProg
import Derived.RowKit3
namespace Go.Proofs.Ytabjdjkkpbkpfaa.Pk
open Go Go.RowKit Go.Proofs.Ytabjdjkkpbkpfaa.HL Go.Proofs.Ytabjdjkkpbkpfaa.Ev Go.Proofs.YtabjdjkkpbkpfaaW.PrintWords Go.Proofs.Ytabjdjkkpbkpfaa.BM
set_option linter.unusedVariables false
set_option linter.unusedSimpArgs false
attribute [local irreducible] rowA
theorem pow2 (n : Nat) (h : n ≤ 62) : (2 : Int) ^ n < 9223372036854775808 ∧ 0 < (2 : Int) ^ n := by
  have h1 := Nat.pow_le_pow_right (n := 2) (by decide) h
  have h2 : (2 : Int) ^ n ≤ 2 ^ 62 := by exact_mod_cast h1
  have h3 := pow_pos n
  have : (2 : Int) ^ 62 = 4611686018427387904 := by decide
  omega
set_option maxRecDepth 100000 in
set_option maxHeartbeats 2000000 in
theorem q_mask (n : Int) (h0 : 0 ≤ n) (h1 : n ≤ 62) : Gives Try.prog 88 #[.int .i64 n] (.int .u64 (2 ^ n.toNat - 1)) := by
  intro W
  have hM : Hp W (fun _ => False) [] W := Hp.start
  refine TC.enter (n := 7) Try.func88 rfl rfl rfl hM ?_
  refine TC.seq ?_
  refine TC.region ?_
  refine' TL.y rfl rfl rfl ?hy1 ?_
  case hy1 => exact Yl.assign rfl rfl
  refine TL.nil ?_
  refine TE.next ?_
  refine TC.seq ?_
  refine TC.region ?_
  refine' TL.y rfl rfl rfl ?hy2 ?_
  case hy2 => exact Yl.move rfl rfl
  refine' TL.y rfl rfl rfl ?hy3 ?_
  case hy3 => first | (refine Yl.val (Yl.conv rfl rfl (by kernel_rfl) Try.underlying100) (congrArg (Value.int .u64) (u64in ?_ ?_)) <;> omega) | exact Yl.conv rfl rfl (by kernel_rfl) Try.underlying100
  refine' TL.y rfl rfl rfl ?hy4 ?_
  case hy4 => exact Yl.val (Yl.bin rfl rfl rfl (Bin.shl _ _ _ _ _ (by omega))) (congrArg (Value.int .u64) (show IntKind.u64.wrap (1 * 2 ^ min n.toNat IntKind.u64.bits) = 2 ^ n.toNat from by rw [show min n.toNat IntKind.u64.bits = n.toNat from by (have : IntKind.u64.bits = 64 := rfl); omega, Int.one_mul]; have := pow2 n.toNat (by omega); exact u64in (by omega) (by omega)))
  refine' TL.y rfl rfl rfl ?hy5 ?_
  case hy5 => exact Yl.val (Yl.bin rfl rfl rfl (Bin.sub _ _ _ _)) (congrArg (Value.int .u64) (show IntKind.u64.wrap (2 ^ n.toNat - 1) = 2 ^ n.toNat - 1 from by have := pow2 n.toNat (by omega); exact u64in (by omega) (by omega)))
  refine' TL.y rfl rfl rfl ?hy6 ?_
  case hy6 => exact Yl.assign rfl rfl
  refine TL.nil ?_
  refine TE.next ?_
  refine TC.ret ?_
  refine TE.ret1 rfl rfl ?_
  exact fun w h => ⟨rfl, h.below⟩
set_option maxRecDepth 100000 in
set_option maxHeartbeats 2000000 in
theorem q_power (n : Int) (h0 : 0 ≤ n) (h1 : n ≤ 1000) : Gives Try.prog 92 #[.int .i64 n] (.int .u64 (2 ^ n.toNat % 18446744073709551616)) := by
  intro W
  have hM : Hp W (fun _ => False) [] W := Hp.start
  refine TC.enter (n := 13) Try.func92 rfl rfl rfl hM ?_
  refine TC.seq ?_
  refine TC.region ?_
  refine' TL.y rfl rfl rfl ?hy1 ?_
  case hy1 => exact Yl.assign rfl rfl
  refine TL.nil ?_
  refine TE.next ?_
  refine TC.seq ?_
  refine TC.region ?_
  refine' TL.y rfl rfl rfl ?hy2 ?_
  case hy2 => exact Yl.assign rfl rfl
  refine TL.nil ?_
  refine TE.next ?_
  refine TC.seq ?_
  refine TC.seq ?_
  refine TC.region ?_
  refine' TL.y rfl rfl rfl ?hy3 ?_
  case hy3 => exact Yl.assign rfl rfl
  refine TL.nil ?_
  refine TE.next ?_
  refine TC.block ?_
  refine TC.loop (σ := Nat) (fun j => [(0, .int .i64 n), (4, .int .i64 (j : Int)), (3, .int .u64 (2 ^ j % 18446744073709551616))]) (fun j => Hp W (fun _ => False) []) (fun j => j ≤ n.toNat) (fun j => n.toNat - j) 0 ?hF4 ?hs4 ?hm4 ?round4
  case hF4 => exact Nat.zero_le _
  case hs4 => exact ⟨rfl, rfl, rfl, trivial⟩
  case hm4 => exact fun _ h => h
  case round4 =>
    intro j hj
    refine TC.seq ?_
    refine TC.seq ?_
    refine TC.region ?_
    refine' TL.y rfl rfl rfl ?hy5 ?_
    case hy5 => exact Yl.move rfl rfl
    refine' TL.y rfl rfl rfl ?hy6 ?_
    case hy6 => exact Yl.move rfl rfl
    refine' TL.y rfl rfl rfl ?hy7 ?_
    case hy7 => exact Yl.bin rfl rfl rfl (Bin.lss _ _ _ _)
    refine TL.nil ?_
    refine TE.next ?_
    refine TC.cond rfl (fun hs7 => ?_) (fun hs7 => ?_)
    · skip
      (try simp only [nrm] at hs7)
      refine TC.skip ?_
      refine TE.next ?_
      refine TC.seq ?_
      refine TC.block ?_
      refine TC.region ?_
      refine' TL.y rfl rfl rfl ?hy8 ?_
      case hy8 => exact Yl.move rfl rfl
      refine' TL.y rfl rfl rfl ?hy9 ?_
      case hy9 => exact Yl.val (Yl.bin rfl rfl rfl (Bin.mul _ _ _ _)) (congrArg (Value.int .u64) (show IntKind.u64.wrap (2 ^ j % 18446744073709551616 * 2) = 2 ^ (j + 1) % 18446744073709551616 from by rw [u64mod, Int.pow_succ]; omega))
      refine' TL.y rfl rfl rfl ?hy10 ?_
      case hy10 => exact Yl.assign rfl rfl
      refine TL.nil ?_
      refine TE.inNormal ?_
      refine TE.next ?_
      refine TC.region ?_
      refine' TL.y rfl rfl rfl ?hy11 ?_
      case hy11 => exact Yl.move rfl rfl
      refine' TL.y rfl rfl rfl ?hy12 ?_
      case hy12 => first | (refine Yl.val (Yl.bin rfl rfl rfl (Bin.add _ _ _ _)) (congrArg (Value.int .i64) (i64in ?_ ?_)) <;> omega) | exact Yl.bin rfl rfl rfl (Bin.add _ _ _ _)
      refine' TL.y rfl rfl rfl ?hy13 ?_
      case hy13 => exact Yl.assign rfl rfl
      refine TL.nil ?_
      refine TE.round (j + 1) ?hF14 ?hlt14 ?hs14 ?hm14
      case hF14 => omega
      case hlt14 => omega
      case hs14 => exact ⟨rfl, rfl, rfl, trivial⟩
      case hm14 => exact fun _ h => h
    · skip
      (try simp only [nrm] at hs7)
      refine TC.exit ?_
      refine TE.thenExit ?_
      refine TE.thenExit ?_
      refine TE.inHere ?_
      refine TE.next ?_
      refine TC.seq ?_
      refine TC.region ?_
      refine' TL.y rfl rfl rfl ?hy15 ?_
      case hy15 => exact Yl.move rfl rfl
      refine' TL.y rfl rfl rfl ?hy16 ?_
      case hy16 => exact Yl.assign rfl rfl
      refine TL.nil ?_
      refine TE.next ?_
      refine TC.ret ?_
      refine TE.ret1 rfl rfl ?_
      obtain rfl : j = n.toNat := by omega
      exact fun w h => ⟨rfl, h.below⟩
set_option maxRecDepth 100000 in
set_option maxHeartbeats 2000000 in
theorem q_right (W : World) (ws : List Int) (A : Option Addr) (cp : Nat) (hS : Sl W A (ws.map (Value.int .i64))) (hl : ws.length ≤ 1000) : Calls Try.prog 87 #[.slice A ws.length cp] W fun e w' => e = .returned (.tuple #[.int .i64 (if okW ws 0 = true then sumW ws else 0), .bool (okW ws 0)]) ∧ Below W.heap.size W w' := by
  have hM : Hp W (fun _ => False) [] W := Hp.start
  refine TC.enter (n := 30) Try.func87 rfl rfl rfl hM ?_
  refine TC.seq ?_
  refine TC.region ?_
  refine' TL.y rfl rfl rfl ?hy1 ?_
  case hy1 => exact Yl.assign rfl rfl
  refine' TL.y rfl rfl rfl ?hy2 ?_
  case hy2 => exact Yl.assign rfl rfl
  refine TL.nil ?_
  refine TE.next ?_
  refine TC.seq ?_
  refine TC.region ?_
  refine' TL.y rfl rfl rfl ?hy3 ?_
  case hy3 => exact Yl.assign rfl rfl
  refine TL.nil ?_
  refine TE.next ?_
  refine TC.seq ?_
  refine TC.seq ?_
  refine TC.region ?_
  refine' TL.y rfl rfl rfl ?hy4 ?_
  case hy4 => exact Yl.move rfl rfl
  refine' TL.y rfl rfl rfl ?hy5 ?_
  case hy5 => exact Yl.len rfl rfl Try.underlying36
  refine' TL.y rfl rfl rfl ?hy6 ?_
  case hy6 => exact Yl.move rfl rfl
  refine TL.nil ?_
  refine TE.next ?_
  refine TC.block ?_
  refine TC.loop (σ := Nat × Int) (fun s => [(7, .slice A ws.length cp), (8, .int .i64 ws.length), (9, .int .i64 (s.1 : Int)), (4, .int .i64 s.2)]) (fun s => Hp W (fun _ => False) []) (fun s => s.1 ≤ ws.length ∧ okW ws 0 = okW (ws.drop s.1) s.2 ∧ sumW ws = s.2 + sumW (ws.drop s.1) ∧ 0 ≤ s.2 ∧ s.2 ≤ 64) (fun s => ws.length - s.1) (0, 0) ?hF7 ?hs7 ?hm7 ?round7
  case hF7 => exact ⟨Nat.zero_le _, rfl, by simp, by decide, by decide⟩
  case hs7 => exact ⟨rfl, rfl, rfl, rfl, trivial⟩
  case hm7 => exact fun _ h => h
  case round7 =>
    rintro ⟨i, n⟩ ⟨h1, hi, hs, h2, h3⟩
    dsimp only at h1 hi hs h2 h3 ⊢
    refine TC.seq ?_
    refine TC.region ?_
    refine' TL.y rfl rfl rfl ?hy8 ?_
    case hy8 => exact Yl.bin rfl rfl rfl (Bin.lss _ _ _ _)
    refine TL.nil ?_
    refine TE.next ?_
    refine TC.seq ?_
    refine TC.cond rfl (fun hs10 => ?_) (fun hs10 => ?_)
    · skip
      (try simp only [nrm] at hs10)
      obtain ⟨bb, oo, rfl⟩ := Sl.in hS (by omega)
      have hd := drop_get ws i (by omega)
      rw [hd] at hi
      rw [hd] at hs
      refine TC.skip ?_
      refine TE.next ?_
      refine TC.seq ?_
      refine TC.block ?_
      refine TC.seq ?_
      refine TC.region ?_
      refine' TL.y rfl rfl rfl ?hy9 ?_
      case hy9 => first | exact Yl.ixn rfl rfl rfl Try.underlying36 (by kernel_rfl) (by omega) | exact Yl.ixz rfl rfl rfl Try.underlying36 (by kernel_rfl) (by omega) (by omega) | exact Yl.ixcn rfl rfl rfl Try.underlying36 (by kernel_rfl) (by omega) | exact Yl.ixcz rfl rfl rfl Try.underlying36 (by kernel_rfl) (by omega) (by omega)
      refine' TL.y rfl rfl rfl ?hy10 ?_
      case hy10 => exact Yl.load rfl rfl (by kernel_rfl) (by first | exact Sl.rd 0 hS rfl (by omega) (fun _ => id) | exact Hp.cell mem0 rfl | exact Hp.cell mem1 rfl | exact Hp.cell mem2 rfl | exact Hp.cell mem3 rfl | exact Hp.cell mem4 rfl | exact Hp.rowAt mem0 (by omega) rfl | exact Hp.rowAt mem1 (by omega) rfl | exact Hp.rowAt mem2 (by omega) rfl | exact Hp.rowAt mem3 (by omega) rfl | exact Hp.rowAt mem4 (by omega) rfl)
      refine' TL.y rfl rfl rfl ?hy11 ?_
      case hy11 => exact Yl.assign rfl rfl
      refine TL.nil ?_
      refine TE.next ?_
      refine TC.seq ?_
      refine TC.seq ?_
      refine TC.region ?_
      refine' TL.y rfl rfl rfl ?hy12 ?_
      case hy12 => exact Yl.move rfl rfl
      refine' TL.y rfl rfl rfl ?hy13 ?_
      case hy13 => exact Yl.bin rfl rfl rfl (Bin.lss _ _ _ _)
      refine' TL.y rfl rfl rfl ?hy14 ?_
      case hy14 => exact Yl.move rfl rfl
      refine TL.split (i := 15) rfl (fun hs15 => ?_) (fun hs15 => ?_)
      · skip
        (try simp only [nrm] at hs15)
        refine TL.skip rfl rfl rfl ?_
        refine TL.skip rfl rfl rfl ?_
        refine' TL.y rfl rfl rfl ?hy15 ?_
        case hy15 => exact Yl.pickT rfl rfl rfl
        refine' TL.y rfl rfl rfl ?hy16 ?_
        case hy16 => exact Yl.move rfl rfl
        refine TL.skip rfl rfl rfl ?_
        refine TL.skip rfl rfl rfl ?_
        refine TL.skip rfl rfl rfl ?_
        refine TL.skip rfl rfl rfl ?_
        refine' TL.y rfl rfl rfl ?hy17 ?_
        case hy17 => exact Yl.pickT rfl rfl rfl
        refine TL.nil ?_
        refine TE.next ?_
        refine TC.yes rfl rfl ?_
        refine TC.seq ?_
        refine TC.region ?_
        refine' TL.y rfl rfl rfl ?hy18 ?_
        case hy18 => exact Yl.assign rfl rfl
        refine' TL.y rfl rfl rfl ?hy19 ?_
        case hy19 => exact Yl.assign rfl rfl
        refine TL.nil ?_
        refine TE.next ?_
        refine TC.ret ?_
        refine TE.thenRet ?_
        refine TE.inRet ?_
        refine TE.thenRet ?_
        refine TE.thenRet ?_
        refine TE.inRet ?_
        refine TE.thenRet ?_
        refine TE.ret2 rfl rfl rfl ?_
        exact fun w h => ⟨by rw [show okW ws 0 = false from by rw [hi]; exact okW_no (by omega)]; rfl, h.below⟩
      · skip
        (try simp only [nrm] at hs15)
        refine' TL.y rfl rfl rfl ?hy20 ?_
        case hy20 => exact Yl.move rfl rfl
        refine' TL.y rfl rfl rfl ?hy21 ?_
        case hy21 => exact Yl.bin rfl rfl rfl (Bin.gtr _ _ _ _)
        refine' TL.y rfl rfl rfl ?hy22 ?_
        case hy22 => exact Yl.pickF rfl rfl rfl
        refine' TL.y rfl rfl rfl ?hy23 ?_
        case hy23 => exact Yl.move rfl rfl
        refine TL.split (i := 19) rfl (fun hs19 => ?_) (fun hs19 => ?_)
        · skip
          (try simp only [nrm] at hs19)
          refine TL.skip rfl rfl rfl ?_
          refine TL.skip rfl rfl rfl ?_
          refine TL.skip rfl rfl rfl ?_
          refine TL.skip rfl rfl rfl ?_
          refine' TL.y rfl rfl rfl ?hy24 ?_
          case hy24 => exact Yl.pickT rfl rfl rfl
          refine TL.nil ?_
          refine TE.next ?_
          refine TC.yes rfl rfl ?_
          refine TC.seq ?_
          refine TC.region ?_
          refine' TL.y rfl rfl rfl ?hy25 ?_
          case hy25 => exact Yl.assign rfl rfl
          refine' TL.y rfl rfl rfl ?hy26 ?_
          case hy26 => exact Yl.assign rfl rfl
          refine TL.nil ?_
          refine TE.next ?_
          refine TC.ret ?_
          refine TE.thenRet ?_
          refine TE.inRet ?_
          refine TE.thenRet ?_
          refine TE.thenRet ?_
          refine TE.inRet ?_
          refine TE.thenRet ?_
          refine TE.ret2 rfl rfl rfl ?_
          exact fun w h => ⟨by rw [show okW ws 0 = false from by rw [hi]; exact okW_no (by omega)]; rfl, h.below⟩
        · skip
          (try simp only [nrm] at hs19)
          refine' TL.y rfl rfl rfl ?hy27 ?_
          case hy27 => exact Yl.move rfl rfl
          refine' TL.y rfl rfl rfl ?hy28 ?_
          case hy28 => exact Yl.move rfl rfl
          refine' TL.y rfl rfl rfl ?hy29 ?_
          case hy29 => first | (refine Yl.val (Yl.bin rfl rfl rfl (Bin.add _ _ _ _)) (congrArg (Value.int .i64) (i64in ?_ ?_)) <;> omega) | exact Yl.bin rfl rfl rfl (Bin.add _ _ _ _)
          refine' TL.y rfl rfl rfl ?hy30 ?_
          case hy30 => exact Yl.bin rfl rfl rfl (Bin.gtr _ _ _ _)
          refine' TL.y rfl rfl rfl ?hy31 ?_
          case hy31 => exact Yl.pickF rfl rfl rfl
          refine TL.nil ?_
          refine TE.next ?_
          refine TC.cond rfl (fun hs24 => ?_) (fun hs24 => ?_)
          · skip
            (try simp only [nrm] at hs24)
            refine TC.seq ?_
            refine TC.region ?_
            refine' TL.y rfl rfl rfl ?hy32 ?_
            case hy32 => exact Yl.assign rfl rfl
            refine' TL.y rfl rfl rfl ?hy33 ?_
            case hy33 => exact Yl.assign rfl rfl
            refine TL.nil ?_
            refine TE.next ?_
            refine TC.ret ?_
            refine TE.thenRet ?_
            refine TE.inRet ?_
            refine TE.thenRet ?_
            refine TE.thenRet ?_
            refine TE.inRet ?_
            refine TE.thenRet ?_
            refine TE.ret2 rfl rfl rfl ?_
            exact fun w h => ⟨by rw [show okW ws 0 = false from by rw [hi]; exact okW_no (by omega)]; rfl, h.below⟩
          · skip
            (try simp only [nrm] at hs24)
            refine TC.skip ?_
            refine TE.next ?_
            refine TC.region ?_
            refine' TL.y rfl rfl rfl ?hy34 ?_
            case hy34 => exact Yl.move rfl rfl
            refine' TL.y rfl rfl rfl ?hy35 ?_
            case hy35 => exact Yl.move rfl rfl
            refine' TL.y rfl rfl rfl ?hy36 ?_
            case hy36 => first | (refine Yl.val (Yl.bin rfl rfl rfl (Bin.add _ _ _ _)) (congrArg (Value.int .i64) (i64in ?_ ?_)) <;> omega) | exact Yl.bin rfl rfl rfl (Bin.add _ _ _ _)
            refine' TL.y rfl rfl rfl ?hy37 ?_
            case hy37 => exact Yl.assign rfl rfl
            refine TL.nil ?_
            refine TE.inNormal ?_
            refine TE.next ?_
            refine TC.region ?_
            refine' TL.y rfl rfl rfl ?hy38 ?_
            case hy38 => first | (refine Yl.val (Yl.bin rfl rfl rfl (Bin.add _ _ _ _)) (congrArg (Value.int .i64) (i64in ?_ ?_)) <;> omega) | exact Yl.bin rfl rfl rfl (Bin.add _ _ _ _)
            refine' TL.y rfl rfl rfl ?hy39 ?_
            case hy39 => exact Yl.move rfl rfl
            refine TL.nil ?_
            refine TE.round (i + 1, n + ws.getD i 0) ?hF40 ?hlt40 ?hs40 ?hm40
            case hF40 => refine ⟨by dsimp only; omega, hi.trans (okW_yes (by omega) (by omega) (by omega)), hs.trans (by dsimp only [sumW]; omega), by dsimp only; omega, by dsimp only; omega⟩
            case hlt40 => dsimp only; omega
            case hs40 => exact ⟨rfl, rfl, rfl, rfl, trivial⟩
            case hm40 => exact fun _ h => h
    · skip
      (try simp only [nrm] at hs10)
      refine TC.exit ?_
      refine TE.thenExit ?_
      refine TE.thenExit ?_
      refine TE.inHere ?_
      refine TE.next ?_
      refine TC.seq ?_
      refine TC.region ?_
      refine' TL.y rfl rfl rfl ?hy41 ?_
      case hy41 => exact Yl.move rfl rfl
      refine' TL.y rfl rfl rfl ?hy42 ?_
      case hy42 => exact Yl.assign rfl rfl
      refine' TL.y rfl rfl rfl ?hy43 ?_
      case hy43 => exact Yl.assign rfl rfl
      refine TL.nil ?_
      refine TE.next ?_
      refine TC.ret ?_
      refine TE.ret2 rfl rfl rfl ?_
      obtain rfl : i = ws.length := by omega
      rw [List.drop_length] at hi hs
      exact fun w h => ⟨by rw [show okW ws 0 = true from hi, show sumW ws = n from by rw [hs]; simp [sumW]]; rfl, h.below⟩
set_option maxRecDepth 100000 in
set_option maxHeartbeats 2000000 in
theorem q_widths (W : World) (ws : List Int) (A : Option Addr) (cp : Nat) (hS : Sl W A (ws.map (Value.int .i64))) (hl : ws.length ≤ 1000) : Calls Try.prog 91 #[.slice A ws.length cp] W fun e w' => e = .returned (.bool (okW ws 0)) ∧ Below W.heap.size W w' := by
  have hM : Hp W (fun _ => False) [] W := Hp.start
  refine TC.enter (n := 31) Try.func91 rfl rfl rfl hM ?_
  refine TC.seq ?_
  refine TC.region ?_
  refine' TL.y rfl rfl rfl ?hy1 ?_
  case hy1 => exact Yl.assign rfl rfl
  refine TL.nil ?_
  refine TE.next ?_
  refine TC.seq ?_
  refine TC.region ?_
  refine' TL.y rfl rfl rfl ?hy2 ?_
  case hy2 => exact Yl.assign rfl rfl
  refine TL.nil ?_
  refine TE.next ?_
  refine TC.seq ?_
  refine TC.seq ?_
  refine TC.region ?_
  refine' TL.y rfl rfl rfl ?hy3 ?_
  case hy3 => exact Yl.assign rfl rfl
  refine TL.nil ?_
  refine TE.next ?_
  refine TC.block ?_
  refine TC.loop (σ := Nat × Int) (fun s => [(0, .slice A ws.length cp), (4, .int .i64 (s.1 : Int)), (3, .int .i64 s.2)]) (fun s => Hp W (fun _ => False) []) (fun s => s.1 ≤ ws.length ∧ okW ws 0 = okW (ws.drop s.1) s.2 ∧ 0 ≤ s.2 ∧ s.2 ≤ 64) (fun s => ws.length - s.1) (0, 0) ?hF4 ?hs4 ?hm4 ?round4
  case hF4 => exact ⟨Nat.zero_le _, rfl, by decide, by decide⟩
  case hs4 => exact ⟨rfl, rfl, rfl, trivial⟩
  case hm4 => exact fun _ h => h
  case round4 =>
    rintro ⟨i, n⟩ ⟨h1, hi, h2, h3⟩
    dsimp only at h1 hi h2 h3 ⊢
    refine TC.seq ?_
    refine TC.seq ?_
    refine TC.region ?_
    refine' TL.y rfl rfl rfl ?hy5 ?_
    case hy5 => exact Yl.move rfl rfl
    refine' TL.y rfl rfl rfl ?hy6 ?_
    case hy6 => exact Yl.move rfl rfl
    refine' TL.y rfl rfl rfl ?hy7 ?_
    case hy7 => exact Yl.len rfl rfl Try.underlying36
    refine' TL.y rfl rfl rfl ?hy8 ?_
    case hy8 => exact Yl.bin rfl rfl rfl (Bin.lss _ _ _ _)
    refine TL.nil ?_
    refine TE.next ?_
    refine TC.cond rfl (fun hs8 => ?_) (fun hs8 => ?_)
    · skip
      (try simp only [nrm] at hs8)
      obtain ⟨bb, oo, rfl⟩ := Sl.in hS (by omega)
      have hd := drop_get ws i (by omega)
      rw [hd] at hi
      refine TC.skip ?_
      refine TE.next ?_
      refine TC.seq ?_
      refine TC.block ?_
      refine TC.seq ?_
      refine TC.seq ?_
      refine TC.region ?_
      refine' TL.y rfl rfl rfl ?hy9 ?_
      case hy9 => exact Yl.move rfl rfl
      refine' TL.y rfl rfl rfl ?hy10 ?_
      case hy10 => exact Yl.move rfl rfl
      refine' TL.y rfl rfl rfl ?hy11 ?_
      case hy11 => first | exact Yl.ixn rfl rfl rfl Try.underlying36 (by kernel_rfl) (by omega) | exact Yl.ixz rfl rfl rfl Try.underlying36 (by kernel_rfl) (by omega) (by omega) | exact Yl.ixcn rfl rfl rfl Try.underlying36 (by kernel_rfl) (by omega) | exact Yl.ixcz rfl rfl rfl Try.underlying36 (by kernel_rfl) (by omega) (by omega)
      refine' TL.y rfl rfl rfl ?hy12 ?_
      case hy12 => exact Yl.load rfl rfl (by kernel_rfl) (by first | exact Sl.rd 0 hS rfl (by omega) (fun _ => id) | exact Hp.cell mem0 rfl | exact Hp.cell mem1 rfl | exact Hp.cell mem2 rfl | exact Hp.cell mem3 rfl | exact Hp.cell mem4 rfl | exact Hp.rowAt mem0 (by omega) rfl | exact Hp.rowAt mem1 (by omega) rfl | exact Hp.rowAt mem2 (by omega) rfl | exact Hp.rowAt mem3 (by omega) rfl | exact Hp.rowAt mem4 (by omega) rfl)
      refine' TL.y rfl rfl rfl ?hy13 ?_
      case hy13 => exact Yl.bin rfl rfl rfl (Bin.lss _ _ _ _)
      refine' TL.y rfl rfl rfl ?hy14 ?_
      case hy14 => exact Yl.move rfl rfl
      refine TL.split (i := 16) rfl (fun hs16 => ?_) (fun hs16 => ?_)
      · skip
        (try simp only [nrm] at hs16)
        refine TL.skip rfl rfl rfl ?_
        refine TL.skip rfl rfl rfl ?_
        refine TL.skip rfl rfl rfl ?_
        refine TL.skip rfl rfl rfl ?_
        refine TL.skip rfl rfl rfl ?_
        refine' TL.y rfl rfl rfl ?hy15 ?_
        case hy15 => exact Yl.pickT rfl rfl rfl
        refine TL.nil ?_
        refine TE.next ?_
        refine TC.yes rfl rfl ?_
        refine TC.seq ?_
        refine TC.region ?_
        refine' TL.y rfl rfl rfl ?hy16 ?_
        case hy16 => exact Yl.assign rfl rfl
        refine TL.nil ?_
        refine TE.next ?_
        refine TC.ret ?_
        refine TE.thenRet ?_
        refine TE.inRet ?_
        refine TE.thenRet ?_
        refine TE.thenRet ?_
        refine TE.inRet ?_
        refine TE.thenRet ?_
        refine TE.ret1 rfl rfl ?_
        exact fun w h => ⟨by rw [show okW ws 0 = false from by rw [hi]; exact okW_no (by omega)], h.below⟩
      · skip
        (try simp only [nrm] at hs16)
        refine' TL.y rfl rfl rfl ?hy17 ?_
        case hy17 => exact Yl.move rfl rfl
        refine' TL.y rfl rfl rfl ?hy18 ?_
        case hy18 => exact Yl.move rfl rfl
        refine' TL.y rfl rfl rfl ?hy19 ?_
        case hy19 => first | exact Yl.ixn rfl rfl rfl Try.underlying36 (by kernel_rfl) (by omega) | exact Yl.ixz rfl rfl rfl Try.underlying36 (by kernel_rfl) (by omega) (by omega) | exact Yl.ixcn rfl rfl rfl Try.underlying36 (by kernel_rfl) (by omega) | exact Yl.ixcz rfl rfl rfl Try.underlying36 (by kernel_rfl) (by omega) (by omega)
        refine' TL.y rfl rfl rfl ?hy20 ?_
        case hy20 => exact Yl.load rfl rfl (by kernel_rfl) (by first | exact Sl.rd 0 hS rfl (by omega) (fun _ => id) | exact Hp.cell mem0 rfl | exact Hp.cell mem1 rfl | exact Hp.cell mem2 rfl | exact Hp.cell mem3 rfl | exact Hp.cell mem4 rfl | exact Hp.rowAt mem0 (by omega) rfl | exact Hp.rowAt mem1 (by omega) rfl | exact Hp.rowAt mem2 (by omega) rfl | exact Hp.rowAt mem3 (by omega) rfl | exact Hp.rowAt mem4 (by omega) rfl)
        refine' TL.y rfl rfl rfl ?hy21 ?_
        case hy21 => exact Yl.bin rfl rfl rfl (Bin.gtr _ _ _ _)
        refine' TL.y rfl rfl rfl ?hy22 ?_
        case hy22 => exact Yl.pickF rfl rfl rfl
        refine TL.nil ?_
        refine TE.next ?_
        refine TC.cond rfl (fun hs22 => ?_) (fun hs22 => ?_)
        · skip
          (try simp only [nrm] at hs22)
          refine TC.seq ?_
          refine TC.region ?_
          refine' TL.y rfl rfl rfl ?hy23 ?_
          case hy23 => exact Yl.assign rfl rfl
          refine TL.nil ?_
          refine TE.next ?_
          refine TC.ret ?_
          refine TE.thenRet ?_
          refine TE.inRet ?_
          refine TE.thenRet ?_
          refine TE.thenRet ?_
          refine TE.inRet ?_
          refine TE.thenRet ?_
          refine TE.ret1 rfl rfl ?_
          exact fun w h => ⟨by rw [show okW ws 0 = false from by rw [hi]; exact okW_no (by omega)], h.below⟩
        · skip
          (try simp only [nrm] at hs22)
          refine TC.skip ?_
          refine TE.next ?_
          refine TC.seq ?_
          refine TC.region ?_
          refine' TL.y rfl rfl rfl ?hy24 ?_
          case hy24 => exact Yl.move rfl rfl
          refine' TL.y rfl rfl rfl ?hy25 ?_
          case hy25 => exact Yl.move rfl rfl
          refine' TL.y rfl rfl rfl ?hy26 ?_
          case hy26 => exact Yl.move rfl rfl
          refine' TL.y rfl rfl rfl ?hy27 ?_
          case hy27 => first | exact Yl.ixn rfl rfl rfl Try.underlying36 (by kernel_rfl) (by omega) | exact Yl.ixz rfl rfl rfl Try.underlying36 (by kernel_rfl) (by omega) (by omega) | exact Yl.ixcn rfl rfl rfl Try.underlying36 (by kernel_rfl) (by omega) | exact Yl.ixcz rfl rfl rfl Try.underlying36 (by kernel_rfl) (by omega) (by omega)
          refine' TL.y rfl rfl rfl ?hy28 ?_
          case hy28 => exact Yl.load rfl rfl (by kernel_rfl) (by first | exact Sl.rd 0 hS rfl (by omega) (fun _ => id) | exact Hp.cell mem0 rfl | exact Hp.cell mem1 rfl | exact Hp.cell mem2 rfl | exact Hp.cell mem3 rfl | exact Hp.cell mem4 rfl | exact Hp.rowAt mem0 (by omega) rfl | exact Hp.rowAt mem1 (by omega) rfl | exact Hp.rowAt mem2 (by omega) rfl | exact Hp.rowAt mem3 (by omega) rfl | exact Hp.rowAt mem4 (by omega) rfl)
          refine' TL.y rfl rfl rfl ?hy29 ?_
          case hy29 => first | (refine Yl.val (Yl.bin rfl rfl rfl (Bin.add _ _ _ _)) (congrArg (Value.int .i64) (i64in ?_ ?_)) <;> omega) | exact Yl.bin rfl rfl rfl (Bin.add _ _ _ _)
          refine' TL.y rfl rfl rfl ?hy30 ?_
          case hy30 => exact Yl.assign rfl rfl
          refine TL.nil ?_
          refine TE.next ?_
          refine TC.seq ?_
          refine TC.region ?_
          refine' TL.y rfl rfl rfl ?hy31 ?_
          case hy31 => exact Yl.move rfl rfl
          refine' TL.y rfl rfl rfl ?hy32 ?_
          case hy32 => exact Yl.bin rfl rfl rfl (Bin.gtr _ _ _ _)
          refine TL.nil ?_
          refine TE.next ?_
          refine TC.cond rfl (fun hs30 => ?_) (fun hs30 => ?_)
          · skip
            (try simp only [nrm] at hs30)
            refine TC.seq ?_
            refine TC.region ?_
            refine' TL.y rfl rfl rfl ?hy33 ?_
            case hy33 => exact Yl.assign rfl rfl
            refine TL.nil ?_
            refine TE.next ?_
            refine TC.ret ?_
            refine TE.inRet ?_
            refine TE.thenRet ?_
            refine TE.thenRet ?_
            refine TE.inRet ?_
            refine TE.thenRet ?_
            refine TE.ret1 rfl rfl ?_
            exact fun w h => ⟨by rw [show okW ws 0 = false from by rw [hi]; exact okW_no (by omega)], h.below⟩
          · skip
            (try simp only [nrm] at hs30)
            refine TC.skip ?_
            refine TE.inNormal ?_
            refine TE.next ?_
            refine TC.region ?_
            refine' TL.y rfl rfl rfl ?hy34 ?_
            case hy34 => exact Yl.move rfl rfl
            refine' TL.y rfl rfl rfl ?hy35 ?_
            case hy35 => first | (refine Yl.val (Yl.bin rfl rfl rfl (Bin.add _ _ _ _)) (congrArg (Value.int .i64) (i64in ?_ ?_)) <;> omega) | exact Yl.bin rfl rfl rfl (Bin.add _ _ _ _)
            refine' TL.y rfl rfl rfl ?hy36 ?_
            case hy36 => exact Yl.assign rfl rfl
            refine TL.nil ?_
            refine TE.round (i + 1, n + ws.getD i 0) ?hF37 ?hlt37 ?hs37 ?hm37
            case hF37 => refine ⟨by dsimp only; omega, hi.trans (okW_yes (by omega) (by omega) (by omega)), by dsimp only; omega, by dsimp only; omega⟩
            case hlt37 => dsimp only; omega
            case hs37 => exact ⟨rfl, rfl, rfl, trivial⟩
            case hm37 => exact fun _ h => h
    · skip
      (try simp only [nrm] at hs8)
      refine TC.exit ?_
      refine TE.thenExit ?_
      refine TE.thenExit ?_
      refine TE.inHere ?_
      refine TE.next ?_
      refine TC.seq ?_
      refine TC.region ?_
      refine' TL.y rfl rfl rfl ?hy38 ?_
      case hy38 => exact Yl.assign rfl rfl
      refine TL.nil ?_
      refine TE.next ?_
      refine TC.ret ?_
      refine TE.ret1 rfl rfl ?_
      obtain rfl : i = ws.length := by omega
      rw [List.drop_length] at hi
      exact fun w h => ⟨by rw [show okW ws 0 = true from hi], h.below⟩
set_option maxRecDepth 100000 in
set_option maxHeartbeats 2000000 in
theorem q_pack (W : World) (ws vs : List Int) (A B : Option Addr) (cp cq : Nat) (hS : Sl W A (ws.map (Value.int .i64))) (hT : Sl W B (vs.map (Value.int .i64))) (hl : ws.length ≤ 1000) (hm : vs.length ≤ 9223372036854775807) (hv : wfI vs) : Calls Try.prog 67 #[.slice A ws.length cp, .slice B vs.length cq] W fun e w' => e = .returned (.tuple #[.int .u64 (packS ws vs).1, .int .i64 (packS ws vs).2]) ∧ Below W.heap.size W w' := by
  have hM : Hp W (fun _ => False) [] W := Hp.start
  refine TC.enter (n := 59) Try.func67 rfl rfl rfl hM ?_
  refine TC.seq ?_
  refine TC.region ?_
  refine' TL.y rfl rfl rfl ?hy1 ?_
  case hy1 => exact Yl.assign rfl rfl
  refine' TL.y rfl rfl rfl ?hy2 ?_
  case hy2 => exact Yl.assign rfl rfl
  refine TL.nil ?_
  refine TE.next ?_
  refine TC.seq ?_
  refine TC.seq ?_
  refine TC.region ?_
  refine' TL.y rfl rfl rfl ?hy3 ?_
  case hy3 => exact Yl.move rfl rfl
  refine' TL.c rfl rfl rfl ?hy4 ?_
  case hy4 => exact Yc.call rfl Try.func87 (by kernel_rfl) rfl rfl (Hp.calls (fun w h => q_right w ws A cp (hS.below h.below) hl))
  intro _
  refine' TL.y rfl rfl rfl ?hy5 ?_
  case hy5 => exact Yl.move rfl rfl
  refine' TL.y rfl rfl rfl ?hy6 ?_
  case hy6 => exact Yl.extract rfl rfl rfl
  refine' TL.y rfl rfl rfl ?hy7 ?_
  case hy7 => exact Yl.extract rfl rfl rfl
  refine' TL.y rfl rfl rfl ?hy8 ?_
  case hy8 => exact Yl.assign rfl rfl
  refine' TL.y rfl rfl rfl ?hy9 ?_
  case hy9 => exact Yl.assign rfl rfl
  refine TL.nil ?_
  refine TE.next ?_
  refine TC.seq ?_
  refine TC.region ?_
  refine' TL.y rfl rfl rfl ?hy10 ?_
  case hy10 => exact Yl.move rfl rfl
  refine' TL.y rfl rfl rfl ?hy11 ?_
  case hy11 => exact Yl.not rfl rfl
  refine' TL.y rfl rfl rfl ?hy12 ?_
  case hy12 => exact Yl.move rfl rfl
  refine TL.split (i := 20) rfl (fun hs20 => ?_) (fun hs20 => ?_)
  · skip
    (try simp only [nrm] at hs20)
    refine TL.skip rfl rfl rfl ?_
    refine TL.skip rfl rfl rfl ?_
    refine TL.skip rfl rfl rfl ?_
    refine TL.skip rfl rfl rfl ?_
    refine TL.skip rfl rfl rfl ?_
    refine' TL.y rfl rfl rfl ?hy13 ?_
    case hy13 => exact Yl.pickT rfl rfl rfl
    refine TL.nil ?_
    refine TE.next ?_
    refine TC.yes rfl rfl ?_
    refine TC.seq ?_
    refine TC.region ?_
    refine' TL.y rfl rfl rfl ?hy14 ?_
    case hy14 => exact Yl.assign rfl rfl
    refine' TL.y rfl rfl rfl ?hy15 ?_
    case hy15 => exact Yl.assign rfl rfl
    refine TL.nil ?_
    refine TE.next ?_
    refine TC.ret ?_
    refine TE.thenRet ?_
    refine TE.ret2 rfl rfl rfl ?_
    exact fun w h => ⟨by rw [packS_no (by first | exact .inl (by simpa using hs20) | exact .inr (by omega))], h.below⟩
  · skip
    (try simp only [nrm] at hs20)
    refine' TL.y rfl rfl rfl ?hy16 ?_
    case hy16 => exact Yl.move rfl rfl
    refine' TL.y rfl rfl rfl ?hy17 ?_
    case hy17 => exact Yl.len rfl rfl Try.underlying36
    refine' TL.y rfl rfl rfl ?hy18 ?_
    case hy18 => exact Yl.move rfl rfl
    refine' TL.y rfl rfl rfl ?hy19 ?_
    case hy19 => exact Yl.len rfl rfl Try.underlying36
    refine' TL.y rfl rfl rfl ?hy20 ?_
    case hy20 => exact Yl.bin rfl rfl rfl (Bin.neq _ _ _ _)
    refine' TL.y rfl rfl rfl ?hy21 ?_
    case hy21 => exact Yl.pickF rfl rfl rfl
    refine TL.nil ?_
    refine TE.next ?_
    refine TC.cond rfl (fun hs26 => ?_) (fun hs26 => ?_)
    · skip
      (try simp only [nrm] at hs26)
      refine TC.seq ?_
      refine TC.region ?_
      refine' TL.y rfl rfl rfl ?hy22 ?_
      case hy22 => exact Yl.assign rfl rfl
      refine' TL.y rfl rfl rfl ?hy23 ?_
      case hy23 => exact Yl.assign rfl rfl
      refine TL.nil ?_
      refine TE.next ?_
      refine TC.ret ?_
      refine TE.thenRet ?_
      refine TE.ret2 rfl rfl rfl ?_
      exact fun w h => ⟨by rw [packS_no (by first | exact .inl (by simpa using hs20) | exact .inr (by omega))], h.below⟩
    · skip
      (try simp only [nrm] at hs26)
      have hok : okW ws 0 = true := by simpa using hs20
      have hlen : vs.length = ws.length := by omega
      refine TC.skip ?_
      refine TE.next ?_
      refine TC.seq ?_
      refine TC.region ?_
      refine' TL.y rfl rfl rfl ?hy24 ?_
      case hy24 => exact Yl.assign rfl rfl
      refine' TL.y rfl rfl rfl ?hy25 ?_
      case hy25 => exact Yl.assign rfl rfl
      refine TL.nil ?_
      refine TE.next ?_
      refine TC.seq ?_
      refine TC.seq ?_
      refine TC.region ?_
      refine' TL.y rfl rfl rfl ?hy26 ?_
      case hy26 => exact Yl.move rfl rfl
      refine' TL.y rfl rfl rfl ?hy27 ?_
      case hy27 => exact Yl.len rfl rfl Try.underlying36
      refine' TL.y rfl rfl rfl ?hy28 ?_
      case hy28 => exact Yl.move rfl rfl
      refine TL.nil ?_
      refine TE.next ?_
      refine TC.block ?_
      refine TC.loop (σ := Nat × Nat × Int) (fun s => [(27, .slice A ws.length cp), (1, .slice B vs.length cq), (29, .int .i64 (s.1 : Int)), (8, .int .u64 s.2.2), (9, .int .u64 (s.2.1 : Int)), (28, .int .i64 ws.length)]) (fun s => Hp W (fun _ => False) []) (fun s => s.1 ≤ ws.length ∧ packS ws vs = packG (ws.drop s.1) (vs.drop s.1) s.2.1 s.2.2 ∧ okW (ws.drop s.1) s.2.1 = true ∧ 0 ≤ s.2.2 ∧ s.2.2 < 2 ^ s.2.1 ∧ s.2.1 ≤ 64) (fun s => ws.length - s.1) (0, 0, 0) ?hF29 ?hs29 ?hm29 ?round29
      case hF29 => exact ⟨Nat.zero_le _, packS_ok hok hlen, hok, by decide, by decide, by decide⟩
      case hs29 => exact ⟨rfl, rfl, rfl, rfl, rfl, rfl, trivial⟩
      case hm29 => exact fun _ h => h
      case round29 =>
        rintro ⟨i, low, x⟩ ⟨h1, hi, ho, h2, h3, h4⟩
        dsimp only at h1 hi ho h2 h3 h4 ⊢
        refine TC.seq ?_
        refine TC.region ?_
        refine' TL.y rfl rfl rfl ?hy30 ?_
        case hy30 => exact Yl.bin rfl rfl rfl (Bin.lss _ _ _ _)
        refine TL.nil ?_
        refine TE.next ?_
        refine TC.seq ?_
        refine TC.cond rfl (fun hs30 => ?_) (fun hs30 => ?_)
        · skip
          (try simp only [nrm] at hs30)
          obtain ⟨bb, oo, rfl⟩ := Sl.in hS (by omega)
          obtain ⟨bc, oc, rfl⟩ := Sl.in hT (by omega)
          have q1 := okW_at (by omega : i < ws.length) ho
          have q2 := pow62 q1.1 q1.2.1
          rw [drop_get ws i (by omega), drop_get vs i (by omega)] at hi
          have q3 := hv.at_ (show i < vs.length by omega)
          refine TC.skip ?_
          refine TE.next ?_
          refine TC.seq ?_
          refine TC.block ?_
          refine TC.seq ?_
          refine TC.region ?_
          refine' TL.y rfl rfl rfl ?hy31 ?_
          case hy31 => exact Yl.move rfl rfl
          refine' TL.y rfl rfl rfl ?hy32 ?_
          case hy32 => first | exact Yl.ixn rfl rfl rfl Try.underlying36 (by kernel_rfl) (by omega) | exact Yl.ixz rfl rfl rfl Try.underlying36 (by kernel_rfl) (by omega) (by omega) | exact Yl.ixcn rfl rfl rfl Try.underlying36 (by kernel_rfl) (by omega) | exact Yl.ixcz rfl rfl rfl Try.underlying36 (by kernel_rfl) (by omega) (by omega)
          refine' TL.y rfl rfl rfl ?hy33 ?_
          case hy33 => exact Yl.load rfl rfl (by kernel_rfl) (by first | exact Sl.rd 0 hS rfl (by omega) (fun _ => id) | exact Sl.rd 0 hT rfl (by omega) (fun _ => id) | exact Hp.cell mem0 rfl | exact Hp.cell mem1 rfl | exact Hp.cell mem2 rfl | exact Hp.cell mem3 rfl | exact Hp.cell mem4 rfl | exact Hp.rowAt mem0 (by omega) rfl | exact Hp.rowAt mem1 (by omega) rfl | exact Hp.rowAt mem2 (by omega) rfl | exact Hp.rowAt mem3 (by omega) rfl | exact Hp.rowAt mem4 (by omega) rfl)
          refine' TL.y rfl rfl rfl ?hy34 ?_
          case hy34 => exact Yl.assign rfl rfl
          refine' TL.y rfl rfl rfl ?hy35 ?_
          case hy35 => exact Yl.assign rfl rfl
          refine TL.nil ?_
          refine TE.next ?_
          refine TC.seq ?_
          refine TC.region ?_
          refine' TL.y rfl rfl rfl ?hy36 ?_
          case hy36 => exact Yl.move rfl rfl
          refine' TL.y rfl rfl rfl ?hy37 ?_
          case hy37 => exact Yl.move rfl rfl
          refine' TL.y rfl rfl rfl ?hy38 ?_
          case hy38 => first | exact Yl.ixn rfl rfl rfl Try.underlying36 (by kernel_rfl) (by omega) | exact Yl.ixz rfl rfl rfl Try.underlying36 (by kernel_rfl) (by omega) (by omega) | exact Yl.ixcn rfl rfl rfl Try.underlying36 (by kernel_rfl) (by omega) | exact Yl.ixcz rfl rfl rfl Try.underlying36 (by kernel_rfl) (by omega) (by omega)
          refine' TL.y rfl rfl rfl ?hy39 ?_
          case hy39 => exact Yl.load rfl rfl (by kernel_rfl) (by first | exact Sl.rd 0 hS rfl (by omega) (fun _ => id) | exact Sl.rd 0 hT rfl (by omega) (fun _ => id) | exact Hp.cell mem0 rfl | exact Hp.cell mem1 rfl | exact Hp.cell mem2 rfl | exact Hp.cell mem3 rfl | exact Hp.cell mem4 rfl | exact Hp.rowAt mem0 (by omega) rfl | exact Hp.rowAt mem1 (by omega) rfl | exact Hp.rowAt mem2 (by omega) rfl | exact Hp.rowAt mem3 (by omega) rfl | exact Hp.rowAt mem4 (by omega) rfl)
          refine' TL.y rfl rfl rfl ?hy40 ?_
          case hy40 => exact Yl.assign rfl rfl
          refine TL.nil ?_
          refine TE.next ?_
          refine TC.seq ?_
          refine TC.seq ?_
          refine TC.region ?_
          refine' TL.y rfl rfl rfl ?hy41 ?_
          case hy41 => exact Yl.move rfl rfl
          refine' TL.y rfl rfl rfl ?hy42 ?_
          case hy42 => exact Yl.bin rfl rfl rfl (Bin.lss _ _ _ _)
          refine' TL.y rfl rfl rfl ?hy43 ?_
          case hy43 => exact Yl.move rfl rfl
          refine TL.split (i := 40) rfl (fun hs40 => ?_) (fun hs40 => ?_)
          · skip
            (try simp only [nrm] at hs40)
            refine TL.skip rfl rfl rfl ?_
            refine TL.skip rfl rfl rfl ?_
            refine TL.skip rfl rfl rfl ?_
            refine TL.skip rfl rfl rfl ?_
            refine TL.skip rfl rfl rfl ?_
            refine' TL.y rfl rfl rfl ?hy44 ?_
            case hy44 => exact Yl.pickT rfl rfl rfl
            refine TL.nil ?_
            refine TE.next ?_
            refine TC.yes rfl rfl ?_
            refine TC.seq ?_
            refine TC.region ?_
            refine' TL.y rfl rfl rfl ?hy45 ?_
            case hy45 => exact Yl.assign rfl rfl
            refine' TL.y rfl rfl rfl ?hy46 ?_
            case hy46 => exact Yl.assign rfl rfl
            refine TL.nil ?_
            refine TE.next ?_
            refine TC.ret ?_
            refine TE.thenRet ?_
            refine TE.inRet ?_
            refine TE.thenRet ?_
            refine TE.thenRet ?_
            refine TE.inRet ?_
            refine TE.thenRet ?_
            refine TE.ret2 rfl rfl rfl ?_
            exact fun w h => ⟨by rw [show packS ws vs = (0, 1) from hi.trans (packG_no (by omega))], h.below⟩
          · skip
            (try simp only [nrm] at hs40)
            refine' TL.y rfl rfl rfl ?hy47 ?_
            case hy47 => exact Yl.move rfl rfl
            refine' TL.y rfl rfl rfl ?hy48 ?_
            case hy48 => first | (refine Yl.val (Yl.conv rfl rfl (by kernel_rfl) Try.underlying70) (congrArg (Value.int .u64) (u64in ?_ ?_)) <;> omega) | exact Yl.conv rfl rfl (by kernel_rfl) Try.underlying70
            refine' TL.y rfl rfl rfl ?hy49 ?_
            case hy49 => exact Yl.move rfl rfl
            refine' TL.c rfl rfl rfl ?hy50 ?_
            case hy50 => exact Yc.call rfl Try.func88 (by kernel_rfl) rfl rfl (Hp.gives (q_mask _ (by omega) (by omega)))
            intro _
            refine' TL.y rfl rfl rfl ?hy51 ?_
            case hy51 => exact Yl.bin rfl rfl rfl (Bin.gtr _ _ _ _)
            refine' TL.y rfl rfl rfl ?hy52 ?_
            case hy52 => exact Yl.pickF rfl rfl rfl
            refine TL.nil ?_
            refine TE.next ?_
            refine TC.cond rfl (fun hs46 => ?_) (fun hs46 => ?_)
            · skip
              (try simp only [nrm] at hs46)
              refine TC.seq ?_
              refine TC.region ?_
              refine' TL.y rfl rfl rfl ?hy53 ?_
              case hy53 => exact Yl.assign rfl rfl
              refine' TL.y rfl rfl rfl ?hy54 ?_
              case hy54 => exact Yl.assign rfl rfl
              refine TL.nil ?_
              refine TE.next ?_
              refine TC.ret ?_
              refine TE.thenRet ?_
              refine TE.inRet ?_
              refine TE.thenRet ?_
              refine TE.thenRet ?_
              refine TE.inRet ?_
              refine TE.thenRet ?_
              refine TE.ret2 rfl rfl rfl ?_
              exact fun w h => ⟨by rw [show packS ws vs = (0, 1) from hi.trans (packG_no (by omega))], h.below⟩
            · skip
              (try simp only [nrm] at hs46)
              refine TC.skip ?_
              refine TE.next ?_
              refine TC.seq ?_
              refine TC.region ?_
              refine' TL.y rfl rfl rfl ?hy55 ?_
              case hy55 => exact Yl.move rfl rfl
              refine' TL.y rfl rfl rfl ?hy56 ?_
              case hy56 => exact Yl.move rfl rfl
              refine' TL.y rfl rfl rfl ?hy57 ?_
              case hy57 => first | (refine Yl.val (Yl.conv rfl rfl (by kernel_rfl) Try.underlying70) (congrArg (Value.int .u64) (u64in ?_ ?_)) <;> omega) | exact Yl.conv rfl rfl (by kernel_rfl) Try.underlying70
              refine' TL.y rfl rfl rfl ?hy58 ?_
              case hy58 => exact Yl.move rfl rfl
              refine' TL.y rfl rfl rfl ?hy59 ?_
              case hy59 => exact Yl.val (Yl.bin rfl rfl rfl (Bin.shl _ _ _ _ _ (by omega))) (congrArg (Value.int .u64) (shlU (by omega) (shl_in (v := vs.getD i 0) (w := (ws.getD i 0).toNat) (low := low) (by omega) (by omega) (by omega))))
              refine' TL.y rfl rfl rfl ?hy60 ?_
              case hy60 => exact Yl.val (Yl.bin rfl rfl rfl (Bin.or _ _ _ _)) (congrArg (Value.int .u64) ((orU x (vs.getD i 0) low (by omega) h3 (lt64 h4 h3) (by omega) (shl_in (v := vs.getD i 0) (w := (ws.getD i 0).toNat) (low := low) (by omega) (by omega) (by omega)).2).1))
              refine' TL.y rfl rfl rfl ?hy61 ?_
              case hy61 => exact Yl.assign rfl rfl
              refine TL.nil ?_
              refine TE.next ?_
              refine TC.region ?_
              refine' TL.y rfl rfl rfl ?hy62 ?_
              case hy62 => exact Yl.move rfl rfl
              refine' TL.y rfl rfl rfl ?hy63 ?_
              case hy63 => exact Yl.move rfl rfl
              refine' TL.y rfl rfl rfl ?hy64 ?_
              case hy64 => first | (refine Yl.val (Yl.conv rfl rfl (by kernel_rfl) Try.underlying100) (congrArg (Value.int .u64) (u64in ?_ ?_)) <;> omega) | exact Yl.conv rfl rfl (by kernel_rfl) Try.underlying100
              refine' TL.y rfl rfl rfl ?hy65 ?_
              case hy65 => exact Yl.val (Yl.bin rfl rfl rfl (Bin.add _ _ _ _)) (congrArg (Value.int .u64) (show IntKind.u64.wrap ((low : Int) + ws.getD i 0) = ((low + (ws.getD i 0).toNat : Nat) : Int) from by rw [u64m]; omega))
              refine' TL.y rfl rfl rfl ?hy66 ?_
              case hy66 => exact Yl.assign rfl rfl
              refine TL.nil ?_
              refine TE.inNormal ?_
              refine TE.next ?_
              refine TC.region ?_
              refine' TL.y rfl rfl rfl ?hy67 ?_
              case hy67 => first | (refine Yl.val (Yl.bin rfl rfl rfl (Bin.add _ _ _ _)) (congrArg (Value.int .i64) (i64in ?_ ?_)) <;> omega) | exact Yl.bin rfl rfl rfl (Bin.add _ _ _ _)
              refine' TL.y rfl rfl rfl ?hy68 ?_
              case hy68 => exact Yl.move rfl rfl
              refine TL.nil ?_
              refine TE.round (i + 1, low + (ws.getD i 0).toNat, x + vs.getD i 0 * 2 ^ low) ?hF69 ?hlt69 ?hs69 ?hm69
              case hF69 => refine ⟨by dsimp only; omega, hi.trans (packG_yes (by omega) (by omega)), (by dsimp only; rw [Int.natCast_add, Int.toNat_of_nonneg q1.1]; exact q1.2.2.2), (by have := (shl_in (v := vs.getD i 0) (w := (ws.getD i 0).toNat) (low := low) (by omega) (by omega) (by omega)).1; dsimp only; omega), pack_bd h3 (by omega), by dsimp only; omega⟩
              case hlt69 => dsimp only; omega
              case hs69 => exact ⟨rfl, rfl, rfl, rfl, rfl, rfl, trivial⟩
              case hm69 => exact fun _ h => h
        · skip
          (try simp only [nrm] at hs30)
          refine TC.exit ?_
          refine TE.thenExit ?_
          refine TE.thenExit ?_
          refine TE.inHere ?_
          refine TE.next ?_
          refine TC.seq ?_
          refine TC.region ?_
          refine' TL.y rfl rfl rfl ?hy70 ?_
          case hy70 => exact Yl.move rfl rfl
          refine' TL.y rfl rfl rfl ?hy71 ?_
          case hy71 => exact Yl.assign rfl rfl
          refine' TL.y rfl rfl rfl ?hy72 ?_
          case hy72 => exact Yl.assign rfl rfl
          refine TL.nil ?_
          refine TE.next ?_
          refine TC.ret ?_
          refine TE.ret2 rfl rfl rfl ?_
          obtain rfl : i = ws.length := by omega
          rw [List.drop_length] at hi
          exact fun w h => ⟨by rw [show packS ws vs = (x, 0) from hi], h.below⟩
set_option maxRecDepth 100000 in
set_option maxHeartbeats 2000000 in
theorem q_rpack (W : World) (ws vs : List Int) (A B : Option Addr) (cp cq : Nat) (hS : Sl W A (ws.map (Value.int .i64))) (hT : Sl W B (vs.map (Value.int .i64))) (hl : ws.length ≤ 1000) (hm : vs.length ≤ 9223372036854775807) (hv : wfI vs) : Calls Try.prog 82 #[.slice A ws.length cp, .slice B vs.length cq] W fun e w' => e = .returned (.tuple #[.int .u64 (packS ws vs).1, .int .i64 (packS ws vs).2]) ∧ Below W.heap.size W w' := by
  have hM : Hp W (fun _ => False) [] W := Hp.start
  refine TC.enter (n := 60) Try.func82 rfl rfl rfl hM ?_
  refine TC.seq ?_
  refine TC.region ?_
  refine' TL.y rfl rfl rfl ?hy1 ?_
  case hy1 => exact Yl.assign rfl rfl
  refine' TL.y rfl rfl rfl ?hy2 ?_
  case hy2 => exact Yl.assign rfl rfl
  refine TL.nil ?_
  refine TE.next ?_
  refine TC.seq ?_
  refine TC.seq ?_
  refine TC.region ?_
  refine' TL.y rfl rfl rfl ?hy3 ?_
  case hy3 => exact Yl.move rfl rfl
  refine' TL.c rfl rfl rfl ?hy4 ?_
  case hy4 => exact Yc.call rfl Try.func91 (by kernel_rfl) rfl rfl (Hp.calls (fun w h => q_widths w ws A cp (hS.below h.below) hl))
  intro _
  refine' TL.y rfl rfl rfl ?hy5 ?_
  case hy5 => exact Yl.not rfl rfl
  refine' TL.y rfl rfl rfl ?hy6 ?_
  case hy6 => exact Yl.move rfl rfl
  refine TL.split (i := 12) rfl (fun hs12 => ?_) (fun hs12 => ?_)
  · skip
    (try simp only [nrm] at hs12)
    refine TL.skip rfl rfl rfl ?_
    refine TL.skip rfl rfl rfl ?_
    refine TL.skip rfl rfl rfl ?_
    refine TL.skip rfl rfl rfl ?_
    refine TL.skip rfl rfl rfl ?_
    refine' TL.y rfl rfl rfl ?hy7 ?_
    case hy7 => exact Yl.pickT rfl rfl rfl
    refine TL.nil ?_
    refine TE.next ?_
    refine TC.yes rfl rfl ?_
    refine TC.seq ?_
    refine TC.region ?_
    refine' TL.y rfl rfl rfl ?hy8 ?_
    case hy8 => exact Yl.assign rfl rfl
    refine' TL.y rfl rfl rfl ?hy9 ?_
    case hy9 => exact Yl.assign rfl rfl
    refine TL.nil ?_
    refine TE.next ?_
    refine TC.ret ?_
    refine TE.thenRet ?_
    refine TE.ret2 rfl rfl rfl ?_
    exact fun w h => ⟨by rw [packS_no (by first | exact .inl (by simpa using hs12) | exact .inr (by omega))], h.below⟩
  · skip
    (try simp only [nrm] at hs12)
    refine' TL.y rfl rfl rfl ?hy10 ?_
    case hy10 => exact Yl.move rfl rfl
    refine' TL.y rfl rfl rfl ?hy11 ?_
    case hy11 => exact Yl.len rfl rfl Try.underlying36
    refine' TL.y rfl rfl rfl ?hy12 ?_
    case hy12 => exact Yl.move rfl rfl
    refine' TL.y rfl rfl rfl ?hy13 ?_
    case hy13 => exact Yl.len rfl rfl Try.underlying36
    refine' TL.y rfl rfl rfl ?hy14 ?_
    case hy14 => exact Yl.bin rfl rfl rfl (Bin.neq _ _ _ _)
    refine' TL.y rfl rfl rfl ?hy15 ?_
    case hy15 => exact Yl.pickF rfl rfl rfl
    refine TL.nil ?_
    refine TE.next ?_
    refine TC.cond rfl (fun hs18 => ?_) (fun hs18 => ?_)
    · skip
      (try simp only [nrm] at hs18)
      refine TC.seq ?_
      refine TC.region ?_
      refine' TL.y rfl rfl rfl ?hy16 ?_
      case hy16 => exact Yl.assign rfl rfl
      refine' TL.y rfl rfl rfl ?hy17 ?_
      case hy17 => exact Yl.assign rfl rfl
      refine TL.nil ?_
      refine TE.next ?_
      refine TC.ret ?_
      refine TE.thenRet ?_
      refine TE.ret2 rfl rfl rfl ?_
      exact fun w h => ⟨by rw [packS_no (by first | exact .inl (by simpa using hs12) | exact .inr (by omega))], h.below⟩
    · skip
      (try simp only [nrm] at hs18)
      have hok : okW ws 0 = true := by simpa using hs12
      have hlen : vs.length = ws.length := by omega
      refine TC.skip ?_
      refine TE.next ?_
      refine TC.seq ?_
      refine TC.region ?_
      refine' TL.y rfl rfl rfl ?hy18 ?_
      case hy18 => exact Yl.assign rfl rfl
      refine TL.nil ?_
      refine TE.next ?_
      refine TC.seq ?_
      refine TC.region ?_
      refine' TL.y rfl rfl rfl ?hy19 ?_
      case hy19 => exact Yl.assign rfl rfl
      refine TL.nil ?_
      refine TE.next ?_
      refine TC.seq ?_
      refine TC.seq ?_
      refine TC.region ?_
      refine' TL.y rfl rfl rfl ?hy20 ?_
      case hy20 => exact Yl.assign rfl rfl
      refine TL.nil ?_
      refine TE.next ?_
      refine TC.block ?_
      refine TC.loop (σ := Nat × Nat × Int) (fun s => [(0, .slice A ws.length cp), (1, .slice B vs.length cq), (8, .int .i64 (s.1 : Int)), (6, .int .u64 s.2.2), (7, .int .i64 (s.2.1 : Int))]) (fun s => Hp W (fun _ => False) []) (fun s => s.1 ≤ ws.length ∧ packS ws vs = packG (ws.drop s.1) (vs.drop s.1) s.2.1 s.2.2 ∧ okW (ws.drop s.1) s.2.1 = true ∧ 0 ≤ s.2.2 ∧ s.2.2 < 2 ^ s.2.1 ∧ s.2.1 ≤ 64) (fun s => ws.length - s.1) (0, 0, 0) ?hF21 ?hs21 ?hm21 ?round21
      case hF21 => exact ⟨Nat.zero_le _, packS_ok hok hlen, hok, by decide, by decide, by decide⟩
      case hs21 => exact ⟨rfl, rfl, rfl, rfl, rfl, trivial⟩
      case hm21 => exact fun _ h => h
      case round21 =>
        rintro ⟨i, low, x⟩ ⟨h1, hi, ho, h2, h3, h4⟩
        dsimp only at h1 hi ho h2 h3 h4 ⊢
        refine TC.seq ?_
        refine TC.seq ?_
        refine TC.region ?_
        refine' TL.y rfl rfl rfl ?hy22 ?_
        case hy22 => exact Yl.move rfl rfl
        refine' TL.y rfl rfl rfl ?hy23 ?_
        case hy23 => exact Yl.move rfl rfl
        refine' TL.y rfl rfl rfl ?hy24 ?_
        case hy24 => exact Yl.len rfl rfl Try.underlying36
        refine' TL.y rfl rfl rfl ?hy25 ?_
        case hy25 => exact Yl.bin rfl rfl rfl (Bin.lss _ _ _ _)
        refine TL.nil ?_
        refine TE.next ?_
        refine TC.cond rfl (fun hs22 => ?_) (fun hs22 => ?_)
        · skip
          (try simp only [nrm] at hs22)
          obtain ⟨bb, oo, rfl⟩ := Sl.in hS (by omega)
          obtain ⟨bc, oc, rfl⟩ := Sl.in hT (by omega)
          have q1 := okW_at (by omega : i < ws.length) ho
          have q2 := pow62 q1.1 q1.2.1
          rw [drop_get ws i (by omega), drop_get vs i (by omega)] at hi
          have q3 := hv.at_ (show i < vs.length by omega)
          refine TC.skip ?_
          refine TE.next ?_
          refine TC.seq ?_
          refine TC.block ?_
          refine TC.seq ?_
          refine TC.seq ?_
          refine TC.draw (k := 18) _ [] #[false, false, false, false, false, false, false, false, false, false, false, false, false, false, false, false, false, false] (by kernel_rfl) rfl rfl (fun _ h => h.drew) (fun _ h => h) ?_
          refine' TA.y (i := 0) #[true, false, false, false, false, false, false, false, false, false, false, false, false, false, false, false, false, false] rfl rfl rfl (by kernel_rfl) (fun _ _ _ h => h) (fun _ h => by exact Hp.sub h (by repeat (first | exact sR _ | apply sC))) rfl ?hy26 ?_
          case hy26 => exact Yl.move rfl rfl
          refine' TA.y (i := 1) #[true, true, false, false, false, false, false, false, false, false, false, false, false, false, false, false, false, false] rfl rfl rfl (by kernel_rfl) (fun _ _ _ h => h) (fun _ h => by exact Hp.sub h (by repeat (first | exact sR _ | apply sC))) rfl ?hy27 ?_
          case hy27 => exact Yl.move rfl rfl
          refine' TA.y (i := 2) #[true, true, true, false, false, false, false, false, false, false, false, false, false, false, false, false, false, false] rfl rfl rfl (by kernel_rfl) (fun _ _ _ h => h) (fun _ h => by exact Hp.sub h (by repeat (first | exact sR _ | apply sC))) rfl ?hy28 ?_
          case hy28 => first | exact Yl.ixn rfl rfl rfl Try.underlying36 (by kernel_rfl) (by omega) | exact Yl.ixz rfl rfl rfl Try.underlying36 (by kernel_rfl) (by omega) (by omega) | exact Yl.ixcn rfl rfl rfl Try.underlying36 (by kernel_rfl) (by omega) | exact Yl.ixcz rfl rfl rfl Try.underlying36 (by kernel_rfl) (by omega) (by omega)
          refine' TA.y (i := 3) #[true, true, true, true, false, false, false, false, false, false, false, false, false, false, false, false, false, false] rfl rfl rfl (by kernel_rfl) (fun _ _ _ h => h) (fun _ h => by exact Hp.sub h (by repeat (first | exact sR _ | apply sC))) rfl ?hy29 ?_
          case hy29 => exact Yl.load rfl rfl (by kernel_rfl) (by first | exact Sl.rd 0 hS rfl (by omega) (fun _ => id) | exact Sl.rd 0 hT rfl (by omega) (fun _ => id) | exact Hp.cell mem0 rfl | exact Hp.cell mem1 rfl | exact Hp.cell mem2 rfl | exact Hp.cell mem3 rfl | exact Hp.cell mem4 rfl | exact Hp.rowAt mem0 (by omega) rfl | exact Hp.rowAt mem1 (by omega) rfl | exact Hp.rowAt mem2 (by omega) rfl | exact Hp.rowAt mem3 (by omega) rfl | exact Hp.rowAt mem4 (by omega) rfl)
          refine' TA.y (i := 4) #[true, true, true, true, true, false, false, false, false, false, false, false, false, false, false, false, false, false] rfl rfl rfl (by kernel_rfl) (fun _ _ _ h => h) (fun _ h => by exact Hp.sub h (by repeat (first | exact sR _ | apply sC))) rfl ?hy30 ?_
          case hy30 => exact Yl.bin rfl rfl rfl (Bin.lss _ _ _ _)
          refine' TA.y (i := 5) #[true, true, true, true, true, true, false, false, false, false, false, false, false, false, false, false, false, false] rfl rfl rfl (by kernel_rfl) (fun _ _ _ h => h) (fun _ h => by exact Hp.sub h (by repeat (first | exact sR _ | apply sC))) rfl ?hy31 ?_
          case hy31 => exact Yl.move rfl rfl
          refine TA.split (i := 30) rfl (fun hs30 => ?_) (fun hs30 => ?_)
          · skip
            (try simp only [nrm] at hs30)
            refine TA.skip (i := 6) #[true, true, true, true, true, true, true, false, false, false, false, false, false, false, false, false, false, false] rfl rfl rfl (by kernel_rfl) (fun _ _ _ h => h) rfl ?_
            refine TA.skip (i := 7) #[true, true, true, true, true, true, true, true, false, false, false, false, false, false, false, false, false, false] rfl rfl rfl (by kernel_rfl) (fun _ _ _ h => h) rfl ?_
            refine TA.skip (i := 8) #[true, true, true, true, true, true, true, true, true, false, false, false, false, false, false, false, false, false] rfl rfl rfl (by kernel_rfl) (fun _ _ _ h => h) rfl ?_
            refine TA.skip (i := 9) #[true, true, true, true, true, true, true, true, true, true, false, false, false, false, false, false, false, false] rfl rfl rfl (by kernel_rfl) (fun _ _ _ h => h) rfl ?_
            refine TA.skip (i := 10) #[true, true, true, true, true, true, true, true, true, true, true, false, false, false, false, false, false, false] rfl rfl rfl (by kernel_rfl) (fun _ _ _ h => h) rfl ?_
            refine TA.skip (i := 11) #[true, true, true, true, true, true, true, true, true, true, true, true, false, false, false, false, false, false] rfl rfl rfl (by kernel_rfl) (fun _ _ _ h => h) rfl ?_
            refine TA.skip (i := 12) #[true, true, true, true, true, true, true, true, true, true, true, true, true, false, false, false, false, false] rfl rfl rfl (by kernel_rfl) (fun _ _ _ h => h) rfl ?_
            refine TA.skip (i := 13) #[true, true, true, true, true, true, true, true, true, true, true, true, true, true, false, false, false, false] rfl rfl rfl (by kernel_rfl) (fun _ _ _ h => h) rfl ?_
            refine TA.skip (i := 14) #[true, true, true, true, true, true, true, true, true, true, true, true, true, true, true, false, false, false] rfl rfl rfl (by kernel_rfl) (fun _ _ _ h => h) rfl ?_
            refine TA.skip (i := 15) #[true, true, true, true, true, true, true, true, true, true, true, true, true, true, true, true, false, false] rfl rfl rfl (by kernel_rfl) (fun _ _ _ h => h) rfl ?_
            refine TA.skip (i := 16) #[true, true, true, true, true, true, true, true, true, true, true, true, true, true, true, true, true, false] rfl rfl rfl (by kernel_rfl) (fun _ _ _ h => h) rfl ?_
            refine' TA.y (i := 17) #[true, true, true, true, true, true, true, true, true, true, true, true, true, true, true, true, true, true] rfl rfl rfl (by kernel_rfl) (fun _ _ _ h => h) (fun _ h => by exact Hp.sub h (by repeat (first | exact sR _ | apply sC))) rfl ?hy32 ?_
            case hy32 => exact Yl.pickT rfl rfl rfl
            refine TA.done (by kernel_rfl) ?_
            refine TE.next ?_
            refine TC.yes rfl rfl ?_
            refine TC.seq ?_
            refine TC.region ?_
            refine' TL.y rfl rfl rfl ?hy33 ?_
            case hy33 => exact Yl.assign rfl rfl
            refine' TL.y rfl rfl rfl ?hy34 ?_
            case hy34 => exact Yl.assign rfl rfl
            refine TL.nil ?_
            refine TE.next ?_
            refine TC.ret ?_
            refine TE.thenRet ?_
            refine TE.inRet ?_
            refine TE.thenRet ?_
            refine TE.thenRet ?_
            refine TE.inRet ?_
            refine TE.thenRet ?_
            refine TE.ret2 rfl rfl rfl ?_
            exact fun w h => ⟨by rw [show packS ws vs = (0, 1) from hi.trans (packG_no (by omega))], h.below⟩
          · skip
            (try simp only [nrm] at hs30)
            refine' TA.y (i := 6) #[true, true, true, true, true, true, true, false, false, false, false, false, false, false, false, false, false, false] rfl rfl rfl (by kernel_rfl) (fun _ _ _ h => h) (fun _ h => by exact Hp.sub h (by repeat (first | exact sR _ | apply sC))) rfl ?hy35 ?_
            case hy35 => exact Yl.move rfl rfl
            refine' TA.y (i := 7) #[true, true, true, true, true, true, true, true, false, false, false, false, false, false, false, false, false, false] rfl rfl rfl (by kernel_rfl) (fun _ _ _ h => h) (fun _ h => by exact Hp.sub h (by repeat (first | exact sR _ | apply sC))) rfl ?hy36 ?_
            case hy36 => exact Yl.move rfl rfl
            refine' TA.y (i := 8) #[true, true, true, true, true, true, true, true, true, false, false, false, false, false, false, false, false, false] rfl rfl rfl (by kernel_rfl) (fun _ _ _ h => h) (fun _ h => by exact Hp.sub h (by repeat (first | exact sR _ | apply sC))) rfl ?hy37 ?_
            case hy37 => first | exact Yl.ixn rfl rfl rfl Try.underlying36 (by kernel_rfl) (by omega) | exact Yl.ixz rfl rfl rfl Try.underlying36 (by kernel_rfl) (by omega) (by omega) | exact Yl.ixcn rfl rfl rfl Try.underlying36 (by kernel_rfl) (by omega) | exact Yl.ixcz rfl rfl rfl Try.underlying36 (by kernel_rfl) (by omega) (by omega)
            refine' TA.y (i := 9) #[true, true, true, true, true, true, true, true, true, true, false, false, false, false, false, false, false, false] rfl rfl rfl (by kernel_rfl) (fun _ _ _ h => h) (fun _ h => by exact Hp.sub h (by repeat (first | exact sR _ | apply sC))) rfl ?hy38 ?_
            case hy38 => exact Yl.load rfl rfl (by kernel_rfl) (by first | exact Sl.rd 0 hS rfl (by omega) (fun _ => id) | exact Sl.rd 0 hT rfl (by omega) (fun _ => id) | exact Hp.cell mem0 rfl | exact Hp.cell mem1 rfl | exact Hp.cell mem2 rfl | exact Hp.cell mem3 rfl | exact Hp.cell mem4 rfl | exact Hp.rowAt mem0 (by omega) rfl | exact Hp.rowAt mem1 (by omega) rfl | exact Hp.rowAt mem2 (by omega) rfl | exact Hp.rowAt mem3 (by omega) rfl | exact Hp.rowAt mem4 (by omega) rfl)
            refine' TA.y (i := 10) #[true, true, true, true, true, true, true, true, true, true, true, false, false, false, false, false, false, false] rfl rfl rfl (by kernel_rfl) (fun _ _ _ h => h) (fun _ h => by exact Hp.sub h (by repeat (first | exact sR _ | apply sC))) rfl ?hy39 ?_
            case hy39 => first | (refine Yl.val (Yl.conv rfl rfl (by kernel_rfl) Try.underlying70) (congrArg (Value.int .u64) (u64in ?_ ?_)) <;> omega) | exact Yl.conv rfl rfl (by kernel_rfl) Try.underlying70
            refine' TA.y (i := 11) #[true, true, true, true, true, true, true, true, true, true, true, true, false, false, false, false, false, false] rfl rfl rfl (by kernel_rfl) (fun _ _ _ h => h) (fun _ h => by exact Hp.sub h (by repeat (first | exact sR _ | apply sC))) rfl ?hy40 ?_
            case hy40 => exact Yl.move rfl rfl
            refine' TA.y (i := 12) #[true, true, true, true, true, true, true, true, true, true, true, true, true, false, false, false, false, false] rfl rfl rfl (by kernel_rfl) (fun _ _ _ h => h) (fun _ h => by exact Hp.sub h (by repeat (first | exact sR _ | apply sC))) rfl ?hy41 ?_
            case hy41 => exact Yl.move rfl rfl
            refine' TA.y (i := 13) #[true, true, true, true, true, true, true, true, true, true, true, true, true, true, false, false, false, false] rfl rfl rfl (by kernel_rfl) (fun _ _ _ h => h) (fun _ h => by exact Hp.sub h (by repeat (first | exact sR _ | apply sC))) rfl ?hy42 ?_
            case hy42 => first | exact Yl.ixn rfl rfl rfl Try.underlying36 (by kernel_rfl) (by omega) | exact Yl.ixz rfl rfl rfl Try.underlying36 (by kernel_rfl) (by omega) (by omega) | exact Yl.ixcn rfl rfl rfl Try.underlying36 (by kernel_rfl) (by omega) | exact Yl.ixcz rfl rfl rfl Try.underlying36 (by kernel_rfl) (by omega) (by omega)
            refine' TA.y (i := 14) #[true, true, true, true, true, true, true, true, true, true, true, true, true, true, true, false, false, false] rfl rfl rfl (by kernel_rfl) (fun _ _ _ h => h) (fun _ h => by exact Hp.sub h (by repeat (first | exact sR _ | apply sC))) rfl ?hy43 ?_
            case hy43 => exact Yl.load rfl rfl (by kernel_rfl) (by first | exact Sl.rd 0 hS rfl (by omega) (fun _ => id) | exact Sl.rd 0 hT rfl (by omega) (fun _ => id) | exact Hp.cell mem0 rfl | exact Hp.cell mem1 rfl | exact Hp.cell mem2 rfl | exact Hp.cell mem3 rfl | exact Hp.cell mem4 rfl | exact Hp.rowAt mem0 (by omega) rfl | exact Hp.rowAt mem1 (by omega) rfl | exact Hp.rowAt mem2 (by omega) rfl | exact Hp.rowAt mem3 (by omega) rfl | exact Hp.rowAt mem4 (by omega) rfl)
            refine' TA.c (i := 15) #[true, true, true, true, true, true, true, true, true, true, true, true, true, true, true, true, false, false] rfl rfl rfl (by kernel_rfl) (by decide) rfl ?hy44 ?hz44 ?_
            case hy44 => exact Yc.call rfl Try.func92 (by kernel_rfl) rfl rfl (Hp.gives (q_power _ (by omega) (by omega)))
            case hz44 => exact (fun _ _ h => by exact Hp.sub h (by repeat (first | exact sR _ | apply sC)))
            intro _
            rw [q2.1]
            refine' TA.y (i := 16) #[true, true, true, true, true, true, true, true, true, true, true, true, true, true, true, true, true, false] rfl rfl rfl (by kernel_rfl) (fun _ _ _ h => h) (fun _ h => by exact Hp.sub h (by repeat (first | exact sR _ | apply sC))) rfl ?hy45 ?_
            case hy45 => exact Yl.bin rfl rfl rfl (Bin.geq _ _ _ _)
            refine' TA.y (i := 17) #[true, true, true, true, true, true, true, true, true, true, true, true, true, true, true, true, true, true] rfl rfl rfl (by kernel_rfl) (fun _ _ _ h => h) (fun _ h => by exact Hp.sub h (by repeat (first | exact sR _ | apply sC))) rfl ?hy46 ?_
            case hy46 => exact Yl.pickF rfl rfl rfl
            refine TA.done (by kernel_rfl) ?_
            refine TE.next ?_
            refine TC.cond rfl (fun hs42 => ?_) (fun hs42 => ?_)
            · skip
              (try simp only [nrm] at hs42)
              refine TC.seq ?_
              refine TC.region ?_
              refine' TL.y rfl rfl rfl ?hy47 ?_
              case hy47 => exact Yl.assign rfl rfl
              refine' TL.y rfl rfl rfl ?hy48 ?_
              case hy48 => exact Yl.assign rfl rfl
              refine TL.nil ?_
              refine TE.next ?_
              refine TC.ret ?_
              refine TE.thenRet ?_
              refine TE.inRet ?_
              refine TE.thenRet ?_
              refine TE.thenRet ?_
              refine TE.inRet ?_
              refine TE.thenRet ?_
              refine TE.ret2 rfl rfl rfl ?_
              exact fun w h => ⟨by rw [show packS ws vs = (0, 1) from hi.trans (packG_no (by omega))], h.below⟩
            · skip
              (try simp only [nrm] at hs42)
              refine TC.skip ?_
              refine TE.next ?_
              refine TC.seq ?_
              refine TC.draw (k := 11) _ [] #[false, false, false, false, false, false, false, false, false, false, false] (by kernel_rfl) rfl rfl (fun _ h => h.drew) (fun _ h => h) ?_
              refine' TA.y (i := 0) #[true, false, false, false, false, false, false, false, false, false, false] rfl rfl rfl (by kernel_rfl) (fun _ _ _ h => h) (fun _ h => by exact Hp.sub h (by repeat (first | exact sR _ | apply sC))) rfl ?hy49 ?_
              case hy49 => exact Yl.move rfl rfl
              refine' TA.y (i := 1) #[true, true, false, false, false, false, false, false, false, false, false] rfl rfl rfl (by kernel_rfl) (fun _ _ _ h => h) (fun _ h => by exact Hp.sub h (by repeat (first | exact sR _ | apply sC))) rfl ?hy50 ?_
              case hy50 => exact Yl.move rfl rfl
              refine' TA.y (i := 2) #[true, true, true, false, false, false, false, false, false, false, false] rfl rfl rfl (by kernel_rfl) (fun _ _ _ h => h) (fun _ h => by exact Hp.sub h (by repeat (first | exact sR _ | apply sC))) rfl ?hy51 ?_
              case hy51 => exact Yl.move rfl rfl
              refine' TA.y (i := 3) #[true, true, true, true, false, false, false, false, false, false, false] rfl rfl rfl (by kernel_rfl) (fun _ _ _ h => h) (fun _ h => by exact Hp.sub h (by repeat (first | exact sR _ | apply sC))) rfl ?hy52 ?_
              case hy52 => first | exact Yl.ixn rfl rfl rfl Try.underlying36 (by kernel_rfl) (by omega) | exact Yl.ixz rfl rfl rfl Try.underlying36 (by kernel_rfl) (by omega) (by omega) | exact Yl.ixcn rfl rfl rfl Try.underlying36 (by kernel_rfl) (by omega) | exact Yl.ixcz rfl rfl rfl Try.underlying36 (by kernel_rfl) (by omega) (by omega)
              refine' TA.y (i := 4) #[true, true, true, true, true, false, false, false, false, false, false] rfl rfl rfl (by kernel_rfl) (fun _ _ _ h => h) (fun _ h => by exact Hp.sub h (by repeat (first | exact sR _ | apply sC))) rfl ?hy53 ?_
              case hy53 => exact Yl.load rfl rfl (by kernel_rfl) (by first | exact Sl.rd 0 hS rfl (by omega) (fun _ => id) | exact Sl.rd 0 hT rfl (by omega) (fun _ => id) | exact Hp.cell mem0 rfl | exact Hp.cell mem1 rfl | exact Hp.cell mem2 rfl | exact Hp.cell mem3 rfl | exact Hp.cell mem4 rfl | exact Hp.rowAt mem0 (by omega) rfl | exact Hp.rowAt mem1 (by omega) rfl | exact Hp.rowAt mem2 (by omega) rfl | exact Hp.rowAt mem3 (by omega) rfl | exact Hp.rowAt mem4 (by omega) rfl)
              refine' TA.y (i := 5) #[true, true, true, true, true, true, false, false, false, false, false] rfl rfl rfl (by kernel_rfl) (fun _ _ _ h => h) (fun _ h => by exact Hp.sub h (by repeat (first | exact sR _ | apply sC))) rfl ?hy54 ?_
              case hy54 => first | (refine Yl.val (Yl.conv rfl rfl (by kernel_rfl) Try.underlying70) (congrArg (Value.int .u64) (u64in ?_ ?_)) <;> omega) | exact Yl.conv rfl rfl (by kernel_rfl) Try.underlying70
              refine' TA.y (i := 6) #[true, true, true, true, true, true, true, false, false, false, false] rfl rfl rfl (by kernel_rfl) (fun _ _ _ h => h) (fun _ h => by exact Hp.sub h (by repeat (first | exact sR _ | apply sC))) rfl ?hy55 ?_
              case hy55 => exact Yl.move rfl rfl
              refine' TA.c (i := 7) #[true, true, true, true, true, true, true, true, false, false, false] rfl rfl rfl (by kernel_rfl) (by decide) rfl ?hy56 ?hz56 ?_
              case hy56 => exact Yc.call rfl Try.func92 (by kernel_rfl) rfl rfl (Hp.gives (q_power _ (by omega) (by omega)))
              case hz56 => exact (fun _ _ h => by exact Hp.sub h (by repeat (first | exact sR _ | apply sC)))
              intro _
              refine' TA.y (i := 8) #[true, true, true, true, true, true, true, true, true, false, false] rfl rfl rfl (by kernel_rfl) (fun _ _ _ h => h) (fun _ h => by exact Hp.sub h (by repeat (first | exact sR _ | apply sC))) rfl ?hy57 ?_
              case hy57 => exact Yl.val (Yl.bin rfl rfl rfl (Bin.mul _ _ _ _)) (congrArg (Value.int .u64) (mulU (v := vs.getD i 0) (w := (ws.getD i 0).toNat) (low := low) (by omega) (by omega) (by omega)))
              refine' TA.y (i := 9) #[true, true, true, true, true, true, true, true, true, true, false] rfl rfl rfl (by kernel_rfl) (fun _ _ _ h => h) (fun _ h => by exact Hp.sub h (by repeat (first | exact sR _ | apply sC))) rfl ?hy58 ?_
              case hy58 => exact Yl.val (Yl.bin rfl rfl rfl (Bin.add _ _ _ _)) (congrArg (Value.int .u64) (show IntKind.u64.wrap (x + vs.getD i 0 * 2 ^ low) = x + vs.getD i 0 * 2 ^ low from by have := pack_bd (v := vs.getD i 0) (w := (ws.getD i 0).toNat) h3 (by omega); have := lt64 (by omega) this; have := shl_in (v := vs.getD i 0) (w := (ws.getD i 0).toNat) (low := low) (by omega) (by omega) (by omega); exact u64in (by omega) (by omega)))
              refine' TA.y (i := 10) #[true, true, true, true, true, true, true, true, true, true, true] rfl rfl rfl (by kernel_rfl) (fun _ _ _ h => h) (fun _ h => by exact Hp.sub h (by repeat (first | exact sR _ | apply sC))) rfl ?hy59 ?_
              case hy59 => exact Yl.assign rfl rfl
              refine TA.done (by kernel_rfl) ?_
              refine TE.next ?_
              refine TC.region ?_
              refine' TL.y rfl rfl rfl ?hy60 ?_
              case hy60 => exact Yl.move rfl rfl
              refine' TL.y rfl rfl rfl ?hy61 ?_
              case hy61 => exact Yl.move rfl rfl
              refine' TL.y rfl rfl rfl ?hy62 ?_
              case hy62 => exact Yl.move rfl rfl
              refine' TL.y rfl rfl rfl ?hy63 ?_
              case hy63 => first | exact Yl.ixn rfl rfl rfl Try.underlying36 (by kernel_rfl) (by omega) | exact Yl.ixz rfl rfl rfl Try.underlying36 (by kernel_rfl) (by omega) (by omega) | exact Yl.ixcn rfl rfl rfl Try.underlying36 (by kernel_rfl) (by omega) | exact Yl.ixcz rfl rfl rfl Try.underlying36 (by kernel_rfl) (by omega) (by omega)
              refine' TL.y rfl rfl rfl ?hy64 ?_
              case hy64 => exact Yl.load rfl rfl (by kernel_rfl) (by first | exact Sl.rd 0 hS rfl (by omega) (fun _ => id) | exact Sl.rd 0 hT rfl (by omega) (fun _ => id) | exact Hp.cell mem0 rfl | exact Hp.cell mem1 rfl | exact Hp.cell mem2 rfl | exact Hp.cell mem3 rfl | exact Hp.cell mem4 rfl | exact Hp.rowAt mem0 (by omega) rfl | exact Hp.rowAt mem1 (by omega) rfl | exact Hp.rowAt mem2 (by omega) rfl | exact Hp.rowAt mem3 (by omega) rfl | exact Hp.rowAt mem4 (by omega) rfl)
              refine' TL.y rfl rfl rfl ?hy65 ?_
              case hy65 => exact Yl.val (Yl.bin rfl rfl rfl (Bin.add _ _ _ _)) (congrArg (Value.int .i64) (show IntKind.i64.wrap ((low : Int) + ws.getD i 0) = ((low + (ws.getD i 0).toNat : Nat) : Int) from by rw [IntKind.wrap_i64]; omega))
              refine' TL.y rfl rfl rfl ?hy66 ?_
              case hy66 => exact Yl.assign rfl rfl
              refine TL.nil ?_
              refine TE.inNormal ?_
              refine TE.next ?_
              refine TC.region ?_
              refine' TL.y rfl rfl rfl ?hy67 ?_
              case hy67 => exact Yl.move rfl rfl
              refine' TL.y rfl rfl rfl ?hy68 ?_
              case hy68 => first | (refine Yl.val (Yl.bin rfl rfl rfl (Bin.add _ _ _ _)) (congrArg (Value.int .i64) (i64in ?_ ?_)) <;> omega) | exact Yl.bin rfl rfl rfl (Bin.add _ _ _ _)
              refine' TL.y rfl rfl rfl ?hy69 ?_
              case hy69 => exact Yl.assign rfl rfl
              refine TL.nil ?_
              refine TE.round (i + 1, low + (ws.getD i 0).toNat, x + vs.getD i 0 * 2 ^ low) ?hF70 ?hlt70 ?hs70 ?hm70
              case hF70 => refine ⟨by dsimp only; omega, hi.trans (packG_yes (by omega) (by omega)), (by dsimp only; rw [Int.natCast_add, Int.toNat_of_nonneg q1.1]; exact q1.2.2.2), (by have := (shl_in (v := vs.getD i 0) (w := (ws.getD i 0).toNat) (low := low) (by omega) (by omega) (by omega)).1; dsimp only; omega), pack_bd h3 (by omega), by dsimp only; omega⟩
              case hlt70 => dsimp only; omega
              case hs70 => exact ⟨rfl, rfl, rfl, rfl, rfl, trivial⟩
              case hm70 => exact fun _ h => h
        · skip
          (try simp only [nrm] at hs22)
          refine TC.exit ?_
          refine TE.thenExit ?_
          refine TE.thenExit ?_
          refine TE.inHere ?_
          refine TE.next ?_
          refine TC.seq ?_
          refine TC.region ?_
          refine' TL.y rfl rfl rfl ?hy71 ?_
          case hy71 => exact Yl.move rfl rfl
          refine' TL.y rfl rfl rfl ?hy72 ?_
          case hy72 => exact Yl.assign rfl rfl
          refine' TL.y rfl rfl rfl ?hy73 ?_
          case hy73 => exact Yl.assign rfl rfl
          refine TL.nil ?_
          refine TE.next ?_
          refine TC.ret ?_
          refine TE.ret2 rfl rfl rfl ?_
          obtain rfl : i = ws.length := by omega
          rw [List.drop_length] at hi
          exact fun w h => ⟨by rw [show packS ws vs = (x, 0) from hi], h.below⟩
theorem q_right_ok (W : World) (ws : List Int) (A : Option Addr) (cp : Nat) (hS : Sl W A (ws.map (Value.int .i64))) (hl : ws.length ≤ 1000) (ho : okW ws 0 = true) : Calls Go.Proofs.Try.prog 87 #[.slice A ws.length cp] W fun e w' => e = .returned (.tuple #[.int .i64 (sumW ws), .bool true]) ∧ Below W.heap.size W w' := by
  have h := q_right W ws A cp hS hl
  rw [ho] at h; exact h
theorem q_widths_ok (W : World) (ws : List Int) (A : Option Addr) (cp : Nat) (hS : Sl W A (ws.map (Value.int .i64))) (hl : ws.length ≤ 1000) (ho : okW ws 0 = true) : Calls Go.Proofs.Try.prog 91 #[.slice A ws.length cp] W fun e w' => e = .returned (.bool true) ∧ Below W.heap.size W w' := by
  have h := q_widths W ws A cp hS hl
  rw [ho] at h; exact h
end Go.Proofs.Ytabjdjkkpbkpfaa.Pk
