/- Contracts: digits and fields of a word. -/
import Derived.Test.YtafcmeoidcgmdaaDoorHL
import Derived.Test.YtafcmeoidcgmdaaDoorBm
import Derived.Test.YtafcmeoidcgmdaaDoorProg
import Derived.RowKit3
namespace Go.Proofs.YtafcmeoidcgmdaaDoor.Pk
open Go Go.RowKit Go.Proofs.YtafcmeoidcgmdaaDoor.HL Go.Proofs.YtafcmeoidcgmdaaDoor.BM
set_option linter.unusedVariables false
set_option linter.unusedSimpArgs false
attribute [local irreducible] rowA
theorem pow2 (n : Nat) (h : n ≤ 62) : (2 : Int) ^ n < 9223372036854775808 ∧ 0 < (2 : Int) ^ n := by
  have h1 := Nat.pow_le_pow_right (n := 2) (by decide) h
  have h2 : (2 : Int) ^ n ≤ 2 ^ 62 := by exact_mod_cast h1
  have h3 := pow_pos n
  have : (2 : Int) ^ 62 = 4611686018427387904 := by decide
  omega
theorem pow2u (n : Nat) (h : n ≤ 63) : (2 : Int) ^ n < 18446744073709551616 ∧ 0 < (2 : Int) ^ n := by
  have h1 := Nat.pow_le_pow_right (n := 2) (by decide) h
  have h2 : (2 : Int) ^ n ≤ 2 ^ 63 := by exact_mod_cast h1
  have h3 := pow_pos n
  have : (2 : Int) ^ 63 = 9223372036854775808 := by decide
  omega
set_option maxRecDepth 100000 in
set_option maxHeartbeats 2000000 in
theorem k_at (j : Nat) (hj : j < 1000000) : Gives Tryd.prog 30 #[.int .i64 (j : Int)] (.tuple #[.int .i64 ((j / 64 : Nat) : Int), .int .u64 ((2 ^ (j % 64) : Nat) : Int)]) := by
  intro W
  have hM : Hp W (fun _ => False) [] W := Hp.start
  refine TC.enter (n := 10) Tryd.func30 rfl rfl rfl hM ?_
  refine TC.seq ?_
  refine TC.region ?_
  refine' TL.y rfl rfl rfl ?hy1 ?_
  case hy1 => exact Yl.assign rfl rfl
  refine' TL.y rfl rfl rfl ?hy2 ?_
  case hy2 => exact Yl.assign rfl rfl
  refine TL.nil ?_
  refine TE.next ?_
  refine TC.seq ?_
  refine TC.region ?_
  refine' TL.y rfl rfl rfl ?hy3 ?_
  case hy3 => exact Yl.move rfl rfl
  refine' TL.y rfl rfl rfl ?hy4 ?_
  case hy4 => exact Yl.val (Yl.bin rfl rfl rfl (Bin.shr _ _ _ _ _ (by omega))) (congrArg (Value.int .i64) (show (j : Int) / 2 ^ min (6 : Int).toNat IntKind.i64.bits = ((j / 64 : Nat) : Int) from by rw [show (2 : Int) ^ min (6 : Int).toNat IntKind.i64.bits = 64 from by decide]; omega))
  refine' TL.y rfl rfl rfl ?hy5 ?_
  case hy5 => exact Yl.move rfl rfl
  refine' TL.y rfl rfl rfl ?hy6 ?_
  case hy6 => exact Yl.val (Yl.bin rfl rfl rfl (Bin.and _ _ _ _)) (congrArg (Value.int .i64) (show Go.bits .and .i64 (j : Int) 63 = ((j % 64 : Nat) : Int) from (andI64 (j : Int) 6 (by decide) (by omega) (by omega)).trans (by rw [show (2 : Int) ^ 6 = 64 from by decide]; omega)))
  refine' TL.y rfl rfl rfl ?hy7 ?_
  case hy7 => first | (refine Yl.val (Yl.conv rfl rfl (by kernel_rfl) Tryd.underlying56) (congrArg (Value.int .u64) (u64in ?_ ?_)) <;> omega) | exact Yl.conv rfl rfl (by kernel_rfl) Tryd.underlying56
  refine' TL.y rfl rfl rfl ?hy8 ?_
  case hy8 => exact Yl.val (Yl.bin rfl rfl rfl (Bin.shl _ _ _ _ _ (by omega))) (congrArg (Value.int .u64) (show IntKind.u64.wrap (1 * 2 ^ min ((j % 64 : Nat) : Int).toNat IntKind.u64.bits) = ((2 ^ (j % 64) : Nat) : Int) from by rw [Int.toNat_natCast, show min (j % 64) IntKind.u64.bits = j % 64 from by (have : IntKind.u64.bits = 64 := rfl); omega, Int.one_mul, u64in (by have := pow2u (j % 64) (by omega); omega) (by have := pow2u (j % 64) (by omega); omega)]; push_cast; rfl))
  refine' TL.y rfl rfl rfl ?hy9 ?_
  case hy9 => exact Yl.assign rfl rfl
  refine' TL.y rfl rfl rfl ?hy10 ?_
  case hy10 => exact Yl.assign rfl rfl
  refine TL.nil ?_
  refine TE.next ?_
  refine TC.ret ?_
  refine TE.ret2 rfl rfl rfl ?_
  exact fun w h => ⟨rfl, h.below⟩
end Go.Proofs.YtafcmeoidcgmdaaDoor.Pk
