/- Shadows in plain numbers. -/
import Derived.Test.YtpkpipkjmlhfaaaAx2
import Derived.Test.YtpkpipkjmlhfaaaAx4
import Derived.Test.YtpkpipkjmlhfaaaAx5
import Derived.Test.YtpkpipkjmlhfaaaAx6
import Derived.Test.YtpkpipkjmlhfaaaAx7
import Derived.Test.YtpkpipkjmlhfaaaAx8
import Derived.Test.YtpkpipkjmlhfaaaAx9
import Derived.Test.YtpkpipkjmlhfaaaLog
import Derived.Laws.BitsLemmas
namespace Go.Proofs.Ytpkpipkjmlhfaaa.Pure
open Go.RowKit Go.Proofs.Ytpkpipkjmlhfaaa.A Go.Proofs.Ytpkpipkjmlhfaaa.Ev Go.Proofs.YtpkpipkjmlhfaaaW.PrintWords Go.Proofs.YtpkpipkjmlhfaaaW.PrintLast Go.Proofs.YtpkpipkjmlhfaaaW.PrintMore
set_option linter.unusedVariables false
set_option linter.unusedSimpArgs false
theorem u64_wrap (n : Int) : IntKind.u64.wrap n = n % 18446744073709551616 := by simp [IntKind.wrap, IntKind.bits, IntKind.signed]
theorem u64_in (n : Int) (h0 : 0 ≤ n) (h1 : n < 18446744073709551616) : IntKind.u64.wrap n = n := by rw [u64_wrap]; omega
theorem u64_wf {n : Int} (h : (Lit.int .u64 n).wf = true) : 0 ≤ n ∧ n < 18446744073709551616 := by
  simp [Lit.wf, IntKind.min, IntKind.max, IntKind.bits, IntKind.signed] at h
  omega
theorem wraps_u64 (n : Int) (h₀ : 0 ≤ n) (h₁ : n < 2 ^ 64) : IntKind.u64.wrap n = n := by rw [u64_wrap]; omega
theorem nat_and_pow (a i : Nat) : a &&& 2 ^ i = a / 2 ^ i % 2 * 2 ^ i := by
  apply Nat.eq_of_testBit_eq
  intro j
  rw [Nat.testBit_and, Nat.testBit_two_pow]
  have hb : a / 2 ^ i % 2 = (a.testBit i).toNat := by rw [Nat.testBit_eq_decide_div_mod_eq]; have := Nat.mod_two_eq_zero_or_one (a / 2 ^ i); rcases this with h | h <;> simp [h]
  rw [hb]
  cases h : a.testBit i
  · by_cases e : i = j
    · subst e; simp [h]
    · simp [e]
  · by_cases e : i = j
    · subst e; simp [h]
    · simp [e]
theorem nat_or_pow (a i : Nat) (h : a / 2 ^ i % 2 = 0) : a ||| 2 ^ i = a + 2 ^ i := by
  have e1 : 2 ^ i * (a / 2 ^ i) + a % 2 ^ i = a := Nat.div_add_mod a (2 ^ i)
  have hl : a % 2 ^ i < 2 ^ i := Nat.mod_lt _ (Nat.two_pow_pos i)
  have e2 := Nat.two_pow_add_eq_or_of_lt hl (a / 2 ^ i)
  have e3 := Nat.two_pow_add_eq_or_of_lt hl (a / 2 ^ i + 1)
  have e4 : a / 2 ^ i ||| 1 = a / 2 ^ i + 1 := by
    have := Nat.two_pow_add_eq_or_of_lt (i := 1) (b := 1) (by decide) (a / 2 ^ i / 2)
    have e : 2 ^ 1 * (a / 2 ^ i / 2) = a / 2 ^ i := by omega
    rw [e] at this; exact this.symm
  have e5 : 2 ^ i * (a / 2 ^ i + 1) = 2 ^ i * (a / 2 ^ i) ||| 2 ^ i := by
    have := Nat.shiftLeft_or_distrib (a := a / 2 ^ i) (b := 1) (i := i)
    rw [e4, Nat.shiftLeft_eq, Nat.shiftLeft_eq, Nat.shiftLeft_eq, Nat.one_mul, Nat.mul_comm, Nat.mul_comm (a / 2 ^ i)] at this
    exact this
  calc a ||| 2 ^ i = (2 ^ i * (a / 2 ^ i) ||| a % 2 ^ i) ||| 2 ^ i := by rw [← e2, e1]
    _ = (2 ^ i * (a / 2 ^ i) ||| 2 ^ i) ||| a % 2 ^ i := by rw [Nat.or_assoc, Nat.or_comm (a % 2 ^ i), ← Nat.or_assoc]
    _ = 2 ^ i * (a / 2 ^ i + 1) ||| a % 2 ^ i := by rw [e5]
    _ = a + 2 ^ i := by rw [← e3, Nat.mul_add, Nat.mul_one]; omega
theorem nat_or_pow' (a i : Nat) (h : a / 2 ^ i % 2 = 1) : a ||| 2 ^ i = a := by
  apply Nat.eq_of_testBit_eq
  intro j
  rw [Nat.testBit_or, Nat.testBit_two_pow]
  by_cases e : i = j
  · subst e; rw [Nat.testBit_eq_decide_div_mod_eq]; simp [h]
  · simp [e]
theorem u64_and (x : Int) (i : Nat) (h0 : 0 ≤ x) (h1 : x < 18446744073709551616) (hi : i < 64) : Go.bits .and .u64 x ((2 ^ i : Nat) : Int) = x / ((2 ^ i : Nat) : Int) % 2 * ((2 ^ i : Nat) : Int) := by
  obtain ⟨a, rfl⟩ := Int.eq_ofNat_of_zero_le h0
  have hp : 2 ^ i < 2 ^ 64 := Nat.pow_lt_pow_right (by decide) hi
  rw [(bits_nat .u64 64 (by decide) wraps_u64 a (2 ^ i) (by omega) hp).1, nat_and_pow]
  push_cast; rfl
theorem u64_mask (x : Int) (i : Nat) (h0 : 0 ≤ x) (h1 : x < 18446744073709551616) (hi : i ≤ 64) : Go.bits .and .u64 x (2 ^ i - 1) = x % 2 ^ i :=
  Go.bits_mask .u64 64 (by decide) wraps_u64 i hi x h0 (by omega)
theorem u64_or (x : Int) (i : Nat) (h0 : 0 ≤ x) (h1 : x < 18446744073709551616) (hi : i < 64) : Go.bits .or .u64 x ((2 ^ i : Nat) : Int) = if x / ((2 ^ i : Nat) : Int) % 2 = 1 then x else x + ((2 ^ i : Nat) : Int) := by
  obtain ⟨a, rfl⟩ := Int.eq_ofNat_of_zero_le h0
  have hp : 2 ^ i < 2 ^ 64 := Nat.pow_lt_pow_right (by decide) hi
  rw [(bits_nat .u64 64 (by decide) wraps_u64 a (2 ^ i) (by omega) hp).2]
  by_cases h : a / 2 ^ i % 2 = 1
  · rw [nat_or_pow' a i h, if_pos (by exact_mod_cast h)]
  · rw [nat_or_pow a i (by omega), if_neg (by exact_mod_cast h)]; push_cast; rfl
theorem u64_andNot (x : Int) (i : Nat) (h0 : 0 ≤ x) (h1 : x < 18446744073709551616) (hi : i < 64) : Go.bits .andNot .u64 x ((2 ^ i : Nat) : Int) = if x / ((2 ^ i : Nat) : Int) % 2 = 1 then x - ((2 ^ i : Nat) : Int) else x := by
  obtain ⟨a, rfl⟩ := Int.eq_ofNat_of_zero_le h0
  have hp : 2 ^ i < 2 ^ 64 := Nat.pow_lt_pow_right (by decide) hi
  have ha : a < 2 ^ 64 := by omega
  -- in numbers: what is left is a without the bit
  have hb : ∀ b : Nat, b < 2 ^ 64 → b ||| 2 ^ i = a ∨ (b = a ∧ a / 2 ^ i % 2 = 0) → b / 2 ^ i % 2 = 0 → Go.bits .andNot .u64 (a : Int) ((2 ^ i : Nat) : Int) = b := by
    intro b hb he hc
    have hv : (BitVec.ofNat 64 a &&& ~~~ BitVec.ofNat 64 (2 ^ i)).toNat = b := by
      apply Nat.eq_of_testBit_eq
      intro j
      rw [BitVec.testBit_toNat, BitVec.getLsbD_and, BitVec.getLsbD_not, BitVec.getLsbD_ofNat, BitVec.getLsbD_ofNat, Nat.testBit_two_pow]
      by_cases hj : j < 64
      · by_cases e : i = j
        · subst e
          have : b.testBit i = false := by rw [Nat.testBit_eq_decide_div_mod_eq]; simp [hc]
          simp [this]
        · have : b.testBit j = a.testBit j := by
            rcases he with he | ⟨he, _⟩
            · rw [← he, Nat.testBit_or, Nat.testBit_two_pow]; simp [e]
            · rw [he]
          simp [hj, e, this]
      · have h2 : b < 2 ^ j := Nat.lt_of_lt_of_le hb (Nat.pow_le_pow_right (by decide) (by omega))
        rw [Nat.testBit_lt_two_pow h2]
        simp [hj]
    have := wraps_u64 (b : Int) (Int.natCast_nonneg _) (by exact_mod_cast hb)
    simp only [Go.bits, BitVec.ofInt_natCast]
    show IntKind.u64.wrap ((BitVec.ofNat 64 a &&& ~~~ BitVec.ofNat 64 (2 ^ i)).toNat : Int) = b
    rw [hv]; exact this
  by_cases h : a / 2 ^ i % 2 = 1
  · rw [if_pos (by exact_mod_cast h)]
    have hle : 2 ^ i ≤ a := by
      rcases Nat.lt_or_ge a (2 ^ i) with hl | hl
      · rw [Nat.div_eq_of_lt hl] at h; omega
      · exact hl
    have hd : (a - 2 ^ i) / 2 ^ i = a / 2 ^ i - 1 := by
      have := Nat.sub_mul_div a (2 ^ i) 1
      rw [Nat.mul_one] at this; exact this
    have hz : (a - 2 ^ i) / 2 ^ i % 2 = 0 := by rw [hd]; omega
    rw [hb (a - 2 ^ i) (Nat.lt_of_le_of_lt (Nat.sub_le _ _) ha) (.inl (by rw [nat_or_pow _ _ hz]; omega)) hz, Int.natCast_sub hle]
  · rw [if_neg (by exact_mod_cast h), hb a ha (.inr ⟨rfl, by omega⟩) (by omega)]
theorem or_join (i : Nat) (x y : Int) (hx0 : 0 ≤ x) (hx : x < (2 ^ i : Nat)) (hy0 : 0 ≤ y) (hb : (2 ^ i : Nat) * y < 18446744073709551616) (hi : i < 64) : Go.bits .or .u64 x ((2 ^ i : Nat) * y) = x + (2 ^ i : Nat) * y := by
  obtain ⟨a, rfl⟩ := Int.eq_ofNat_of_zero_le hx0
  obtain ⟨b, rfl⟩ := Int.eq_ofNat_of_zero_le hy0
  have ha : a < 2 ^ i := Int.ofNat_lt.mp hx
  have e : (((2 ^ i : Nat) : Int) * (b : Int)) = ((2 ^ i * b : Nat) : Int) := (Int.natCast_mul _ _).symm
  rw [e] at hb ⊢
  have hb' : 2 ^ i * b < 18446744073709551616 := Int.ofNat_lt.mp hb
  have hp : 2 ^ i < 2 ^ 64 := Nat.pow_lt_pow_right (by decide) hi
  rw [(bits_nat .u64 64 (by decide) wraps_u64 a (2 ^ i * b) (by omega) (by omega)).2, Nat.or_comm, ← Nat.two_pow_add_eq_or_of_lt ha]
  omega
theorem i64_mask40 (x : Int) : Go.bits .and .i64 x 1099511627775 = x % 1099511627776 := by
  have e : (BitVec.ofInt 64 x &&& BitVec.ofInt 64 1099511627775).toNat = (x % 1099511627776).toNat := by
    rw [BitVec.toNat_and, BitVec.toNat_ofInt, BitVec.toNat_ofInt]
    have h2 : ((1099511627775 : Int) % ((2 ^ 64 : Nat) : Int)).toNat = 2 ^ 40 - 1 := by decide
    rw [h2, Nat.and_two_pow_sub_one_eq_mod]
    have h4 : ((2 ^ 64 : Nat) : Int) = 18446744073709551616 := rfl
    have h5 : (2 : Nat) ^ 40 = 1099511627776 := by decide
    rw [h4, h5]
    omega
  show IntKind.i64.wrap ((BitVec.ofInt 64 x &&& BitVec.ofInt 64 1099511627775).toNat : Int) = _
  rw [e]
  have h6 : (((x % 1099511627776).toNat : Nat) : Int) = x % 1099511627776 := by omega
  rw [h6, i64_w]
  unfold wrap64; omega
theorem pack3 (g c : Int) (hg : -9223372036854775808 ≤ g ∧ g ≤ 9223372036854775807) (hc : 0 ≤ c ∧ c < 1099511627776) :
    bits_Pack.f 20 [1, 8, 40] [1, g, c] = some (if 0 ≤ g ∧ g < 256 then (1 + 2 * g + 512 * c, 0) else (0, 1)) := by
  have w3 : c % 18446744073709551616 = c := by omega
  have z0 : Go.bits .or .u64 0 1 = 1 := by decide
  have x5 : ¬ c < 0 := by omega
  have x6 : ¬ 1099511627775 < c := by omega
  by_cases p0 : g < 0
  · rw [if_neg (by omega)]
    simp [bits_Pack.f, bits_right.f, bits_right.l0, rd, wrap64, bits_Pack.l0, bits_mask.f, shl, u64_wrap, IntKind.bits, p0]
  · have w4 : g % 18446744073709551616 = g := by omega
    by_cases p1 : 255 < g
    · rw [if_neg (by omega)]
      simp [bits_Pack.f, bits_right.f, bits_right.l0, rd, wrap64, bits_Pack.l0, bits_mask.f, shl, u64_wrap, IntKind.bits, p0, w4, p1]
    · rw [if_pos (by omega)]
      have w5 : g * 2 % 18446744073709551616 = 2 * g := by omega
      have w7 : c * 512 % 18446744073709551616 = 512 * c := by omega
      have j1 : Go.bits .or .u64 1 (2 * g) = 1 + 2 * g := or_join 1 1 g (by decide) (by decide) (by omega) (by simp; omega) (by decide)
      have j3 : Go.bits .or .u64 (1 + 2 * g) (512 * c) = 1 + 2 * g + 512 * c := or_join 9 _ c (by omega) (by simp; omega) (by omega) (by simp; omega) (by decide)
      simp [bits_Pack.f, bits_right.f, bits_right.l0, rd, wrap64, bits_Pack.l0, bits_mask.f, shl, u64_wrap, IntKind.bits, w3, w4, w5, w7, z0, j1, j3, x5, x6, p0, p1]
theorem unp3 (x : Int) (h0 : 0 ≤ x) (h1 : x < 18446744073709551616) : bits_Unpack.f 20 [1, 8, 40] x = some (if x < 562949953421312 then ([x % 2, x / 2 % 256, x / 512 % 1099511627776], 0) else ([], 1)) := by
  have e1 := fun y h0 h1 => u64_mask y 1 h0 h1 (by decide)
  have e8 := fun y h0 h1 => u64_mask y 8 h0 h1 (by decide)
  have e40 := fun y h0 h1 => u64_mask y 40 h0 h1 (by decide)
  simp only [Int.reducePow, Int.reduceSub] at e1 e8 e40
  simp [bits_Unpack.f, bits_right.f, bits_right.l0, rd, wrap64, bits_Unpack.l0, bits_mask.f, shl, shr, u64_wrap, IntKind.bits]
  rw [e1 x h0 h1, e8 _ (by omega) (by omega), e40 _ (by omega) (by omega)]
  by_cases h : x < 562949953421312
  · rw [if_pos h, if_pos (by omega)]
    have q1 : (x % 2 + 9223372036854775808) % 18446744073709551616 - 9223372036854775808 = x % 2 := by omega
    have q2 : (x / 2 % 256 + 9223372036854775808) % 18446744073709551616 - 9223372036854775808 = x / 2 % 256 := by omega
    have q3 : (x / 2 / 256 % 1099511627776 + 9223372036854775808) % 18446744073709551616 - 9223372036854775808 = x / 512 % 1099511627776 := by omega
    rw [q1, q2, q3]
  · rw [if_neg h, if_neg (by omega)]
/-- A shadow, as the document has it. -/
def mk (g c : Int) : Int := if 0 ≤ g ∧ g < 256 ∧ 0 ≤ c then 1 + 2 * g + 512 * (c % 1099511627776) else 0
def isS (x : Int) : Bool := decide (x % 2 = 1) && decide (x < 562949953421312)
def lookS (x : Int) : Int × Int × Bool := if isS x = true then (x / 2 % 256, x / 512, true) else (0, 0, false)
def distS (x c : Int) : Int := if isS x = true ∧ 0 ≤ c then (c - x / 512) % 1099511627776 else -1
def nearS (x c r : Int) : Bool := decide (0 ≤ distS x c) && decide (distS x c ≤ r)
theorem make_is (g c : Int) (hg : -9223372036854775808 ≤ g ∧ g ≤ 9223372036854775807) (k : Nat) (hk : 20 ≤ k) : shadow_Make.f k g c = some (mk g c) := by
  refine at_rounds (shadow_Make.mono g c) hk ?_
  unfold shadow_Make.f mk
  by_cases hc : c < 0
  · rw [if_pos hc, if_neg (by omega)]
  · rw [if_neg hc]
    simp only [shadow_widths.f, Option.bind_some, i64_mask40]
    rw [pack3 g _ hg (by omega), Option.bind_some]
    by_cases h : 0 ≤ g ∧ g < 256
    · rw [if_pos h, if_pos (by omega)]
    · rw [if_neg h, if_neg (by omega)]
theorem look_is (x : Int) (h0 : 0 ≤ x) (h1 : x < 18446744073709551616) (k : Nat) (hk : 20 ≤ k) : shadow_Look.f k x = some (lookS x) := by
  refine at_rounds (shadow_Look.mono x) hk ?_
  unfold shadow_Look.f lookS isS
  simp only [shadow_widths.f, Option.bind_some, unp3 x h0 h1]
  by_cases h : x < 562949953421312
  · have e : x / 512 % 1099511627776 = x / 512 := by omega
    by_cases h2 : x % 2 = 1
    · simp [h, h2, rd, e]
    · simp [h, h2, rd]
  · simp [h]
theorem dist_is (x c : Int) (h0 : 0 ≤ x) (h1 : x < 18446744073709551616) (hc : -9223372036854775808 ≤ c ∧ c ≤ 9223372036854775807) (k : Nat) (hk : 20 ≤ k) : shadow_Distance.f k x c = some (distS x c) := by
  unfold shadow_Distance.f
  rw [look_is x h0 h1 k hk, Option.bind_some]
  unfold lookS distS
  cases hs : isS x
  · simp
  · have hl : x < 562949953421312 := by unfold isS at hs; simp at hs; exact hs.2
    by_cases hn : c < 0
    · simp [hn]; intro h; omega
    · have : wrap64 (c - x / 512) = c - x / 512 := by unfold wrap64; omega
      simp only [if_true, if_neg hn, i64_mask40, this]
      rw [if_pos ⟨trivial, by omega⟩]
theorem near_is (x c r : Int) (h0 : 0 ≤ x) (h1 : x < 18446744073709551616) (hc : -9223372036854775808 ≤ c ∧ c ≤ 9223372036854775807) (k : Nat) (hk : 20 ≤ k) : shadow_Working.f k x c r = some (nearS x c r) := by
  unfold shadow_Working.f
  rw [dist_is x c h0 h1 hc k hk, Option.bind_some]
  unfold nearS
  by_cases h : 0 ≤ distS x c <;> simp [h]
theorem rlook_is (x : Int) (h0 : 0 ≤ x) (h1 : x < 18446744073709551616) : millpondref13_Look.f x = some (lookS x) := by
  unfold millpondref13_Look.f lookS isS
  rw [Int.tmod_eq_emod_of_nonneg h0, Int.tdiv_eq_ediv_of_nonneg h0, Int.tdiv_eq_ediv_of_nonneg h0, u64_in (x / 512) (by omega) (by omega), u64_in (x / 2) (by omega) (by omega), Int.tmod_eq_emod_of_nonneg (by omega : 0 ≤ x / 2)]
  by_cases h2 : x % 2 = 0
  · rw [if_pos h2, if_neg (by simp; omega)]
  · rw [if_neg h2]
    by_cases h : x / 512 ≥ 1099511627776
    · rw [if_pos h, if_neg (by simp; omega)]
    · rw [if_neg h, if_pos (by simp; omega)]
      have e1 : wrap64 (x / 2 % 256) = x / 2 % 256 := by unfold wrap64; omega
      have e2 : wrap64 (x / 512) = x / 512 := by unfold wrap64; omega
      rw [e1, e2]
theorem rmake_is (g c : Int) (hc : -9223372036854775808 ≤ c ∧ c ≤ 9223372036854775807) : millpondref13_Make.f g c = some (mk g c) := by
  unfold millpondref13_Make.f mk
  by_cases h1 : g < 0
  · rw [if_pos h1, if_neg (by omega)]
  · rw [if_neg h1]
    by_cases h2 : g > 255
    · rw [if_pos h2, if_neg (by omega)]
    · rw [if_neg h2]
      by_cases h3 : c < 0
      · rw [if_pos h3, if_neg (by omega)]
      · rw [if_neg h3, if_pos (by omega), Int.tmod_eq_emod_of_nonneg (by omega)]
        have e1 : wrap64 (2 * g) = 2 * g := by unfold wrap64; omega
        have e2 : wrap64 (1 + 2 * g) = 1 + 2 * g := by unfold wrap64; omega
        have e3 : wrap64 (512 * (c % 1099511627776)) = 512 * (c % 1099511627776) := by unfold wrap64; omega
        have e4 : wrap64 (1 + 2 * g + 512 * (c % 1099511627776)) = 1 + 2 * g + 512 * (c % 1099511627776) := by unfold wrap64; omega
        rw [e1, e2, e3, e4, u64_in _ (by omega) (by omega)]
theorem rdist_is (x c : Int) (h0 : 0 ≤ x) (h1 : x < 18446744073709551616) (hc : -9223372036854775808 ≤ c ∧ c ≤ 9223372036854775807) : millpondref13_Distance.f x c = some (distS x c) := by
  unfold millpondref13_Distance.f
  rw [rlook_is x h0 h1, Option.bind_some]
  unfold lookS distS
  cases hs : isS x
  · simp
  · have hl : x < 562949953421312 := by unfold isS at hs; simp at hs; exact hs.2
    by_cases hn : c < 0
    · simp [hn]; intro h; omega
    · simp only [if_true, if_neg hn]
      rw [if_pos ⟨trivial, by omega⟩, Int.tmod_eq_emod_of_nonneg (by omega : 0 ≤ c)]
      have e1 : wrap64 (c % 1099511627776 - x / 512) = c % 1099511627776 - x / 512 := by unfold wrap64; omega
      have e2 : wrap64 (c % 1099511627776 - x / 512 + 1099511627776) = c % 1099511627776 - x / 512 + 1099511627776 := by unfold wrap64; omega
      rw [e1, e2, Int.tmod_eq_emod_of_nonneg (by omega)]
      congr 1; omega
theorem mk_range (g c : Int) : 0 ≤ mk g c ∧ mk g c < 562949953421312 := by unfold mk; split <;> omega
theorem look_mk (g c : Int) (hg : 0 ≤ g ∧ g < 256) (hc : 0 ≤ c ∧ c < 1099511627776) : lookS (mk g c) = (g, c, true) := by
  have e : mk g c = 1 + 2 * g + 512 * c := by unfold mk; rw [if_pos (by omega)]; omega
  unfold lookS isS
  rw [e, if_pos (by simp; omega)]
  congr 1
  · omega
  · congr 1; omega
theorem mk_look (x : Int) (h0 : 0 ≤ x) (hs : isS x = true) : mk (x / 2 % 256) (x / 512) = x := by
  unfold isS at hs
  simp at hs
  unfold mk
  rw [if_pos (by omega)]; omega
theorem dist_mk (g c d : Int) (hg : 0 ≤ g ∧ g < 256) (hc : 0 ≤ c ∧ c < 1099511627776) (hd : 0 ≤ d) : distS (mk g c) d = (d - c) % 1099511627776 := by
  have e : mk g c = 1 + 2 * g + 512 * c := by unfold mk; rw [if_pos (by omega)]; omega
  unfold distS isS
  rw [e, if_pos (by refine ⟨by simp; omega, hd⟩)]
  congr 1; omega
end Go.Proofs.Ytpkpipkjmlhfaaa.Pure
