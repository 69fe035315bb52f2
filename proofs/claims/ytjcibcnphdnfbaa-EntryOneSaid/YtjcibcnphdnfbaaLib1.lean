/- What the program's own entry functions compute, in plain numbers: each printed function equals a closed formula. No condition but that a word is of 64 bits. -/
import Derived.Test.YtjcibcnphdnfbaaPEntryTurnsx4
import Derived.Laws.BitsLemmas
namespace Go.Proofs.Ytjcibcnphdnfbaa.Pure
open Go.RowKit Go.Proofs.Ytjcibcnphdnfbaa.PEntryTurns Go.Proofs.YtjcibcnphdnfbaaW.PrintWords Go.Proofs.YtjcibcnphdnfbaaW.PrintLast Go.Proofs.YtjcibcnphdnfbaaW.PrintMore
set_option linter.unusedVariables false
set_option linter.unusedSimpArgs false
theorem u64_wrap (n : Int) : IntKind.u64.wrap n = n % 18446744073709551616 := by simp [IntKind.wrap, IntKind.bits, IntKind.signed]
theorem u64_in (n : Int) (h0 : 0 ≤ n) (h1 : n < 18446744073709551616) : IntKind.u64.wrap n = n := by rw [u64_wrap]; omega
theorem u64_wf {n : Int} (h : (Lit.int .u64 n).wf = true) : 0 ≤ n ∧ n < 18446744073709551616 := by
  simp [Lit.wf, IntKind.min, IntKind.max, IntKind.bits, IntKind.signed] at h
  omega
theorem wraps_u64 (n : Int) (h₀ : 0 ≤ n) (h₁ : n < 2 ^ 64) : IntKind.u64.wrap n = n := by rw [u64_wrap]; omega
theorem nat_and_pow (a i : Nat) : a &&& 2 ^ i = a / 2 ^ i % 2 * 2 ^ i := by
  apply Nat.eq_of_testBit_eq
  intro j
  rw [Nat.testBit_and, Nat.testBit_two_pow]
  have hb : a / 2 ^ i % 2 = (a.testBit i).toNat := by rw [Nat.testBit_eq_decide_div_mod_eq]; have := Nat.mod_two_eq_zero_or_one (a / 2 ^ i); rcases this with h | h <;> simp [h]
  rw [hb]
  cases h : a.testBit i
  · by_cases e : i = j
    · subst e; simp [h]
    · simp [e]
  · by_cases e : i = j
    · subst e; simp [h]
    · simp [e]
theorem nat_or_pow (a i : Nat) (h : a / 2 ^ i % 2 = 0) : a ||| 2 ^ i = a + 2 ^ i := by
  have e1 : 2 ^ i * (a / 2 ^ i) + a % 2 ^ i = a := Nat.div_add_mod a (2 ^ i)
  have hl : a % 2 ^ i < 2 ^ i := Nat.mod_lt _ (Nat.two_pow_pos i)
  have e2 := Nat.two_pow_add_eq_or_of_lt hl (a / 2 ^ i)
  have e3 := Nat.two_pow_add_eq_or_of_lt hl (a / 2 ^ i + 1)
  have e4 : a / 2 ^ i ||| 1 = a / 2 ^ i + 1 := by
    have := Nat.two_pow_add_eq_or_of_lt (i := 1) (b := 1) (by decide) (a / 2 ^ i / 2)
    have e : 2 ^ 1 * (a / 2 ^ i / 2) = a / 2 ^ i := by omega
    rw [e] at this; exact this.symm
  have e5 : 2 ^ i * (a / 2 ^ i + 1) = 2 ^ i * (a / 2 ^ i) ||| 2 ^ i := by
    have := Nat.shiftLeft_or_distrib (a := a / 2 ^ i) (b := 1) (i := i)
    rw [e4, Nat.shiftLeft_eq, Nat.shiftLeft_eq, Nat.shiftLeft_eq, Nat.one_mul, Nat.mul_comm, Nat.mul_comm (a / 2 ^ i)] at this
    exact this
  calc a ||| 2 ^ i = (2 ^ i * (a / 2 ^ i) ||| a % 2 ^ i) ||| 2 ^ i := by rw [← e2, e1]
    _ = (2 ^ i * (a / 2 ^ i) ||| 2 ^ i) ||| a % 2 ^ i := by rw [Nat.or_assoc, Nat.or_comm (a % 2 ^ i), ← Nat.or_assoc]
    _ = 2 ^ i * (a / 2 ^ i + 1) ||| a % 2 ^ i := by rw [e5]
    _ = a + 2 ^ i := by rw [← e3, Nat.mul_add, Nat.mul_one]; omega
theorem nat_or_pow' (a i : Nat) (h : a / 2 ^ i % 2 = 1) : a ||| 2 ^ i = a := by
  apply Nat.eq_of_testBit_eq
  intro j
  rw [Nat.testBit_or, Nat.testBit_two_pow]
  by_cases e : i = j
  · subst e; rw [Nat.testBit_eq_decide_div_mod_eq]; simp [h]
  · simp [e]
theorem u64_and (x : Int) (i : Nat) (h0 : 0 ≤ x) (h1 : x < 18446744073709551616) (hi : i < 64) : Go.bits .and .u64 x ((2 ^ i : Nat) : Int) = x / ((2 ^ i : Nat) : Int) % 2 * ((2 ^ i : Nat) : Int) := by
  obtain ⟨a, rfl⟩ := Int.eq_ofNat_of_zero_le h0
  have hp : 2 ^ i < 2 ^ 64 := Nat.pow_lt_pow_right (by decide) hi
  rw [(bits_nat .u64 64 (by decide) wraps_u64 a (2 ^ i) (by omega) hp).1, nat_and_pow]
  push_cast; rfl
theorem u64_mask (x : Int) (i : Nat) (h0 : 0 ≤ x) (h1 : x < 18446744073709551616) (hi : i ≤ 64) : Go.bits .and .u64 x (2 ^ i - 1) = x % 2 ^ i :=
  Go.bits_mask .u64 64 (by decide) wraps_u64 i hi x h0 (by omega)
theorem u64_or (x : Int) (i : Nat) (h0 : 0 ≤ x) (h1 : x < 18446744073709551616) (hi : i < 64) : Go.bits .or .u64 x ((2 ^ i : Nat) : Int) = if x / ((2 ^ i : Nat) : Int) % 2 = 1 then x else x + ((2 ^ i : Nat) : Int) := by
  obtain ⟨a, rfl⟩ := Int.eq_ofNat_of_zero_le h0
  have hp : 2 ^ i < 2 ^ 64 := Nat.pow_lt_pow_right (by decide) hi
  rw [(bits_nat .u64 64 (by decide) wraps_u64 a (2 ^ i) (by omega) hp).2]
  by_cases h : a / 2 ^ i % 2 = 1
  · rw [nat_or_pow' a i h, if_pos (by exact_mod_cast h)]
  · rw [nat_or_pow a i (by omega), if_neg (by exact_mod_cast h)]; push_cast; rfl
theorem u64_andNot (x : Int) (i : Nat) (h0 : 0 ≤ x) (h1 : x < 18446744073709551616) (hi : i < 64) : Go.bits .andNot .u64 x ((2 ^ i : Nat) : Int) = if x / ((2 ^ i : Nat) : Int) % 2 = 1 then x - ((2 ^ i : Nat) : Int) else x := by
  obtain ⟨a, rfl⟩ := Int.eq_ofNat_of_zero_le h0
  have hp : 2 ^ i < 2 ^ 64 := Nat.pow_lt_pow_right (by decide) hi
  have ha : a < 2 ^ 64 := by omega
  -- in numbers: what is left is a without the bit
  have hb : ∀ b : Nat, b < 2 ^ 64 → b ||| 2 ^ i = a ∨ (b = a ∧ a / 2 ^ i % 2 = 0) → b / 2 ^ i % 2 = 0 → Go.bits .andNot .u64 (a : Int) ((2 ^ i : Nat) : Int) = b := by
    intro b hb he hc
    have hv : (BitVec.ofNat 64 a &&& ~~~ BitVec.ofNat 64 (2 ^ i)).toNat = b := by
      apply Nat.eq_of_testBit_eq
      intro j
      rw [BitVec.testBit_toNat, BitVec.getLsbD_and, BitVec.getLsbD_not, BitVec.getLsbD_ofNat, BitVec.getLsbD_ofNat, Nat.testBit_two_pow]
      by_cases hj : j < 64
      · by_cases e : i = j
        · subst e
          have : b.testBit i = false := by rw [Nat.testBit_eq_decide_div_mod_eq]; simp [hc]
          simp [this]
        · have : b.testBit j = a.testBit j := by
            rcases he with he | ⟨he, _⟩
            · rw [← he, Nat.testBit_or, Nat.testBit_two_pow]; simp [e]
            · rw [he]
          simp [hj, e, this]
      · have h2 : b < 2 ^ j := Nat.lt_of_lt_of_le hb (Nat.pow_le_pow_right (by decide) (by omega))
        rw [Nat.testBit_lt_two_pow h2]
        simp [hj]
    have := wraps_u64 (b : Int) (Int.natCast_nonneg _) (by exact_mod_cast hb)
    simp only [Go.bits, BitVec.ofInt_natCast]
    show IntKind.u64.wrap ((BitVec.ofNat 64 a &&& ~~~ BitVec.ofNat 64 (2 ^ i)).toNat : Int) = b
    rw [hv]; exact this
  by_cases h : a / 2 ^ i % 2 = 1
  · rw [if_pos (by exact_mod_cast h)]
    have hle : 2 ^ i ≤ a := by
      rcases Nat.lt_or_ge a (2 ^ i) with hl | hl
      · rw [Nat.div_eq_of_lt hl] at h; omega
      · exact hl
    have hd : (a - 2 ^ i) / 2 ^ i = a / 2 ^ i - 1 := by
      have := Nat.sub_mul_div a (2 ^ i) 1
      rw [Nat.mul_one] at this; exact this
    have hz : (a - 2 ^ i) / 2 ^ i % 2 = 0 := by rw [hd]; omega
    rw [hb (a - 2 ^ i) (Nat.lt_of_le_of_lt (Nat.sub_le _ _) ha) (.inl (by rw [nat_or_pow _ _ hz]; omega)) hz, Int.natCast_sub hle]
  · rw [if_neg (by exact_mod_cast h), hb a ha (.inr ⟨rfl, by omega⟩) (by omega)]
theorem b_ok (x : Int) (h0 : 0 ≤ x) (h1 : x < 18446744073709551616) : bits_Unpack.f 20 [2, 24, 1, 1] x = some (if x < 268435456 then ([x % 4, x / 4 % 16777216, x / 67108864 % 2, x / 134217728 % 2], 0) else ([], 1)) := by
  have e2 := fun y h0 h1 => u64_mask y 2 h0 h1 (by decide)
  have e24 := fun y h0 h1 => u64_mask y 24 h0 h1 (by decide)
  have e1 := fun y h0 h1 => u64_mask y 1 h0 h1 (by decide)
  simp only [Int.reducePow, Int.reduceSub] at e2 e24 e1
  simp [bits_Unpack.f, bits_right.f, bits_right.l0, rd, wrap64, bits_Unpack.j0, bits_Unpack.l0, bits_mask.f, shl, shr, u64_wrap, IntKind.bits]
  rw [e2 x h0 h1, e24 _ (by omega) (by omega), e1 _ (by omega) (by omega), e1 _ (by omega) (by omega)]
  by_cases h : x < 268435456
  · rw [if_pos h, if_pos (by omega)]
    have q1 : (x % 4 + 9223372036854775808) % 18446744073709551616 - 9223372036854775808 = x % 4 := by omega
    have q2 : (x / 4 % 16777216 + 9223372036854775808) % 18446744073709551616 - 9223372036854775808 = x / 4 % 16777216 := by omega
    have q3 : (x / 4 / 16777216 % 2 + 9223372036854775808) % 18446744073709551616 - 9223372036854775808 = x / 67108864 % 2 := by omega
    have q4 : (x / 4 / 16777216 / 2 % 2 + 9223372036854775808) % 18446744073709551616 - 9223372036854775808 = x / 134217728 % 2 := by omega
    rw [q1, q2, q3, q4]
  · rw [if_neg h, if_neg (by omega)]

/-- The page, or ErrArg: what the document says of a word. -/
def okW (x : Int) : Bool := decide (x < 268435456) && decide (x % 4 ≤ 2) && (decide (x % 4 ≠ 0) || decide (x = 0))
def unp (x : Int) : Int × Int × Bool × Bool × Int := if okW x = true then (x % 4, x / 4 % 16777216, decide (x / 67108864 % 2 = 1), decide (x / 134217728 % 2 = 1), 0) else (0, 0, false, false, 1)
theorem and26 (x : Int) (h0 : 0 ≤ x) (h1 : x < 18446744073709551616) : (Go.bits .and .u64 x 67108864 != 0) = decide (x / 67108864 % 2 = 1) := by
  have := u64_and x 26 h0 h1 (by decide)
  simp only [Nat.reducePow] at this
  rw [show (67108864 : Int) = ((67108864 : Nat) : Int) from rfl, this, Bool.eq_iff_iff]
  simp only [bne_iff_ne, decide_eq_true_eq]
  omega
theorem and27 (x : Int) (h0 : 0 ≤ x) (h1 : x < 18446744073709551616) : (Go.bits .and .u64 x 134217728 != 0) = decide (x / 134217728 % 2 = 1) := by
  have := u64_and x 27 h0 h1 (by decide)
  simp only [Nat.reducePow] at this
  rw [show (134217728 : Int) = ((134217728 : Nat) : Int) from rfl, this, Bool.eq_iff_iff]
  simp only [bne_iff_ne, decide_eq_true_eq]
  omega

def rightB (k p : Int) (w t : Bool) : Bool := (decide (k = 0) && decide (p = 0) && !w && !t) || decide (k = 1) || decide (k = 2)
theorem right_is (k p : Int) (w t : Bool) : entry_right.f k p w t = some (rightB k p w t) := by
  unfold entry_right.f rightB
  by_cases c0 : k = 0
  · subst c0
    by_cases hp : p = 0 <;> cases w <;> cases t <;> simp [hp]
  · by_cases c1 : k = 1
    · subst c1; simp
    · rw [if_neg c0, if_neg c1]
      simp [c0, c1]
      rfl
theorem right_unp (x : Int) (h0 : 0 ≤ x) (h : x < 268435456) : rightB (x % 4) (x / 4 % 16777216) (decide (x / 67108864 % 2 = 1)) (decide (x / 134217728 % 2 = 1)) = okW x := by
  rw [Bool.eq_iff_iff]
  simp only [rightB, okW, Bool.or_eq_true, Bool.and_eq_true, decide_eq_true_eq, Bool.not_eq_true', decide_eq_false_iff_not]
  omega
theorem unpack20 (x : Int) (h0 : 0 ≤ x) (h1 : x < 18446744073709551616) : entry_Unpack.f 20 x = some (unp x) := by
  unfold entry_Unpack.f
  simp only [entry_widths.f, Option.bind_some, b_ok x h0 h1, and26 x h0 h1, and27 x h0 h1]
  by_cases h : x < 268435456
  · simp only [if_pos h, if_true, rd, right_is]
    simp only [List.length_cons, List.length_nil, Int.toNat_zero, Int.toNat_one, List.getD_cons_zero, List.getD_cons_succ, right_unp x h0 h, Option.bind_some, unp]
    simp
    split <;> rfl
  · simp only [if_neg h]
    simp [unp, okW, h]
theorem unpack_is (x : Int) (h0 : 0 ≤ x) (h1 : x < 18446744073709551616) (k : Nat) (hk : 20 ≤ k) : entry_Unpack.f k x = some (unp x) :=
  at_rounds (entry_Unpack.mono x) hk (unpack20 x h0 h1)
theorem some_is (x : Int) (h0 : 0 ≤ x) (h1 : x < 18446744073709551616) (k : Nat) (hk : 20 ≤ k) : entry_some.f k x = some (okW x && decide (x ≠ 0)) := by
  unfold entry_some.f
  rw [unpack_is x h0 h1 k hk, Option.bind_some]
  unfold unp
  by_cases h : okW x = true
  · rw [if_pos h]
    simp only [if_true, h, Bool.true_and]
    have := h
    simp only [okW, Bool.or_eq_true, Bool.and_eq_true, decide_eq_true_eq] at this
    congr 1
    rw [Bool.eq_iff_iff]
    simp only [bne_iff_ne, decide_eq_true_eq]
    omega
  · rw [if_neg h]
    have : okW x = false := by simpa using h
    simp [this]
/-- A word of an entry. -/
def wrd (k p : Int) (w t : Bool) : Int := k + 4 * p + (if w = true then 67108864 else 0) + (if t = true then 134217728 else 0)
def pk (k p : Int) (w t : Bool) : Int × Int := if (rightB k p w t && decide (0 ≤ p) && decide (p < 16777216)) = true then (wrd k p w t, 0) else (0, 1)
theorem bit_is (b : Bool) : entry_bit.f b = some (if b = true then 1 else 0) := by cases b <;> rfl
theorem or_join (i : Nat) (x y : Int) (hx0 : 0 ≤ x) (hx : x < (2 ^ i : Nat)) (hy0 : 0 ≤ y) (hb : (2 ^ i : Nat) * y < 18446744073709551616) (hi : i < 64) : Go.bits .or .u64 x ((2 ^ i : Nat) * y) = x + (2 ^ i : Nat) * y := by
  obtain ⟨a, rfl⟩ := Int.eq_ofNat_of_zero_le hx0
  obtain ⟨b, rfl⟩ := Int.eq_ofNat_of_zero_le hy0
  have ha : a < 2 ^ i := Int.ofNat_lt.mp hx
  have e : (((2 ^ i : Nat) : Int) * (b : Int)) = ((2 ^ i * b : Nat) : Int) := (Int.natCast_mul _ _).symm
  rw [e] at hb ⊢
  have hb' : 2 ^ i * b < 18446744073709551616 := Int.ofNat_lt.mp hb
  have hp : 2 ^ i < 2 ^ 64 := Nat.pow_lt_pow_right (by decide) hi
  rw [(bits_nat .u64 64 (by decide) wraps_u64 a (2 ^ i * b) (by omega) (by omega)).2, Nat.or_comm, ← Nat.two_pow_add_eq_or_of_lt ha]
  omega
theorem pack4 (k p w t : Int) (hk : 0 ≤ k ∧ k ≤ 2) (hw : 0 ≤ w ∧ w ≤ 1) (ht : 0 ≤ t ∧ t ≤ 1) (hp : -9223372036854775808 ≤ p ∧ p ≤ 9223372036854775807) :
    bits_Pack.f 20 [2, 24, 1, 1] [k, p, w, t] = some (if 0 ≤ p ∧ p < 16777216 then (k + 4 * p + 67108864 * w + 134217728 * t, 0) else (0, 1)) := by
  have w1 : k % 18446744073709551616 = k := by omega
  have w2 : w % 18446744073709551616 = w := by omega
  have w3 : t % 18446744073709551616 = t := by omega
  have z0 : Go.bits .or .u64 0 k = k := by have := or_join 0 0 k (by omega) (by decide) (by omega) (by simp; omega) (by decide); simpa using this
  have x1 : ¬ k < 0 := by omega
  have x2 : ¬ 3 < k := by omega
  have x3 : ¬ w < 0 := by omega
  have x4 : ¬ 1 < w := by omega
  have x5 : ¬ t < 0 := by omega
  have x6 : ¬ 1 < t := by omega
  by_cases p0 : p < 0
  · have g : ¬ (0 ≤ p ∧ p < 16777216) := by omega
    rw [if_neg g]
    simp [bits_Pack.f, bits_right.f, bits_right.l0, rd, wrap64, bits_Pack.j0, bits_Pack.l0, bits_mask.f, shl, u64_wrap, IntKind.bits, w1, x1, p0]
  · have w4 : p % 18446744073709551616 = p := by omega
    by_cases p1 : 16777215 < p
    · have g : ¬ (0 ≤ p ∧ p < 16777216) := by omega
      rw [if_neg g]
      simp [bits_Pack.f, bits_right.f, bits_right.l0, rd, wrap64, bits_Pack.j0, bits_Pack.l0, bits_mask.f, shl, u64_wrap, IntKind.bits, w1, x1, p0, w4, p1]
    · have g : 0 ≤ p ∧ p < 16777216 := by omega
      rw [if_pos g]
      have w5 : p * 4 % 18446744073709551616 = 4 * p := by omega
      have w6 : w * 67108864 % 18446744073709551616 = 67108864 * w := by omega
      have w7 : t * 134217728 % 18446744073709551616 = 134217728 * t := by omega
      have j1 : Go.bits .or .u64 k (4 * p) = k + 4 * p := or_join 2 k p hk.1 (by simp; omega) (by omega) (by simp; omega) (by decide)
      have j2 : Go.bits .or .u64 (k + 4 * p) (67108864 * w) = k + 4 * p + 67108864 * w := or_join 26 _ w (by omega) (by simp; omega) (by omega) (by simp; omega) (by decide)
      have j3 : Go.bits .or .u64 (k + 4 * p + 67108864 * w) (134217728 * t) = k + 4 * p + 67108864 * w + 134217728 * t := or_join 27 _ t (by omega) (by simp; omega) (by omega) (by simp; omega) (by decide)
      simp [bits_Pack.f, bits_right.f, bits_right.l0, rd, wrap64, bits_Pack.j0, bits_Pack.l0, bits_mask.f, shl, u64_wrap, IntKind.bits, w1, w2, w3, w4, w5, w6, w7, z0, j1, j2, j3, x1, x2, x3, x4, x5, x6, p0, p1]
theorem pack20 (k p : Int) (w t : Bool) (hk : -9223372036854775808 ≤ k ∧ k ≤ 9223372036854775807) (hp : -9223372036854775808 ≤ p ∧ p ≤ 9223372036854775807) : entry_Pack.f 20 k p w t = some (pk k p w t) := by
  unfold entry_Pack.f pk
  rw [right_is, Option.bind_some]
  by_cases hr : rightB k p w t = true
  · rw [if_pos hr]
    have hr' := hr
    simp only [rightB, Bool.or_eq_true, Bool.and_eq_true, decide_eq_true_eq, Bool.not_eq_true'] at hr'
    have hk0 : 0 ≤ k ∧ k ≤ 2 := by omega
    simp only [entry_widths.f, bit_is, Option.bind_some, hr, Bool.true_and]
    rw [pack4 k p _ _ hk0 (by split <;> omega) (by split <;> omega) hp]
    simp only [Option.bind_some, Bool.and_eq_true, decide_eq_true_eq]
    by_cases hq : 0 ≤ p ∧ p < 16777216
    · rw [if_pos hq, if_pos hq]
      cases w <;> cases t <;> simp [wrd]
    · rw [if_neg hq, if_neg hq]
  · rw [if_neg hr]
    have : rightB k p w t = false := by simpa using hr
    simp [this]
theorem pack_is (k p : Int) (w t : Bool) (hk : -9223372036854775808 ≤ k ∧ k ≤ 9223372036854775807) (hp : -9223372036854775808 ≤ p ∧ p ≤ 9223372036854775807) (n : Nat) (hn : 20 ≤ n) : entry_Pack.f n k p w t = some (pk k p w t) :=
  at_rounds (entry_Pack.mono k p w t) hn (pack20 k p w t hk hp)
theorem wrd_unp (x : Int) (h0 : 0 ≤ x) (h : x < 268435456) : wrd (x % 4) (x / 4 % 16777216) (decide (x / 67108864 % 2 = 1)) (decide (x / 134217728 % 2 = 1)) = x := by
  simp only [wrd, decide_eq_true_eq]
  split <;> split <;> omega
theorem okW_lt {x : Int} (h : okW x = true) : x < 268435456 := by
  simp only [okW, Bool.and_eq_true, decide_eq_true_eq] at h; exact h.1.1
theorem pk_unp (x : Int) (h0 : 0 ≤ x) (h : okW x = true) : pk (x % 4) (x / 4 % 16777216) (decide (x / 67108864 % 2 = 1)) (decide (x / 134217728 % 2 = 1)) = (x, 0) := by
  have hl := okW_lt h
  unfold pk
  rw [right_unp x h0 hl, h, wrd_unp x h0 hl, if_pos (by simp only [Bool.true_and, Bool.and_eq_true, decide_eq_true_eq]; omega)]
theorem pk_not (x : Int) (h0 : 0 ≤ x) (h : okW x = false) (hl : x < 268435456) : pk (x % 4) (x / 4 % 16777216) (decide (x / 67108864 % 2 = 1)) (decide (x / 134217728 % 2 = 1)) = (0, 1) := by
  unfold pk
  rw [right_unp x h0 hl, h]; rfl
/-- Whether a word is an entry that leads somewhere. -/
def leads (x : Int) : Bool := okW x && decide (x ≠ 0)
def tch (x : Int) : Int := if leads x = true ∧ x / 134217728 % 2 ≠ 1 then x + 134217728 else x
def rst (x : Int) : Int := if leads x = true ∧ x / 134217728 % 2 = 1 then x - 134217728 else x
def was (x : Int) : Bool := leads x && decide (x / 134217728 % 2 = 1)
def wrt (x : Int) (on : Bool) : Int := if leads x = true then (if on = true then (if x / 67108864 % 2 = 1 then x else x + 67108864) else (if x / 67108864 % 2 = 1 then x - 67108864 else x)) else x
theorem or27 (x : Int) (h0 : 0 ≤ x) (h1 : x < 18446744073709551616) : Go.bits .or .u64 x 134217728 = if x / 134217728 % 2 = 1 then x else x + 134217728 := u64_or x 27 h0 h1 (by decide)
theorem or26 (x : Int) (h0 : 0 ≤ x) (h1 : x < 18446744073709551616) : Go.bits .or .u64 x 67108864 = if x / 67108864 % 2 = 1 then x else x + 67108864 := u64_or x 26 h0 h1 (by decide)
theorem not27 (x : Int) (h0 : 0 ≤ x) (h1 : x < 18446744073709551616) : Go.bits .andNot .u64 x 134217728 = if x / 134217728 % 2 = 1 then x - 134217728 else x := u64_andNot x 27 h0 h1 (by decide)
theorem not26 (x : Int) (h0 : 0 ≤ x) (h1 : x < 18446744073709551616) : Go.bits .andNot .u64 x 67108864 = if x / 67108864 % 2 = 1 then x - 67108864 else x := u64_andNot x 26 h0 h1 (by decide)
section
variable (x : Int) (h0 : 0 ≤ x) (h1 : x < 18446744073709551616) (n : Nat)
include h0 h1
theorem touch_is (hn : 20 ≤ n) : entry_Touch.f n x = some (tch x) := by
  unfold entry_Touch.f
  rw [some_is x h0 h1 n hn, Option.bind_some, or27 x h0 h1]
  unfold tch leads
  by_cases h : (okW x && decide (x ≠ 0)) = true
  · rw [if_pos h]; by_cases hb : x / 134217728 % 2 = 1
    · rw [if_pos hb, if_neg (by simp [hb])]
    · rw [if_neg hb, if_pos ⟨h, hb⟩]
  · rw [if_neg h, if_neg (fun hh => h hh.1)]
theorem rest_is (hn : 20 ≤ n) : entry_Rest.f n x = some (rst x, was x) := by
  unfold entry_Rest.f
  rw [some_is x h0 h1 n hn, Option.bind_some, not27 x h0 h1, and27 x h0 h1]
  unfold rst was leads
  by_cases h : (okW x && decide (x ≠ 0)) = true
  · rw [if_pos h, h]; by_cases hb : x / 134217728 % 2 = 1
    · rw [if_pos hb, if_pos ⟨rfl, hb⟩, Bool.true_and]
    · rw [if_neg hb, if_neg (fun hh => hb hh.2), Bool.true_and]
  · have h' : (okW x && decide (x ≠ 0)) = false := by simpa using h
    rw [if_neg h, if_neg (fun hh => h hh.1), h', Bool.false_and]
theorem write_is (on : Bool) (hn : 20 ≤ n) : entry_Write.f n x on = some (wrt x on) := by
  unfold entry_Write.f
  rw [some_is x h0 h1 n hn, Option.bind_some, or26 x h0 h1, not26 x h0 h1]
  unfold wrt leads
  by_cases h : (okW x && decide (x ≠ 0)) = true
  · rw [if_pos h, if_pos h]; cases on <;> simp
  · rw [if_neg h, if_neg h]
theorem leads_kind (h : leads x = true) : x < 268435456 ∧ (x % 4 = 1 ∨ x % 4 = 2) := by
  simp only [leads, okW, Bool.or_eq_true, Bool.and_eq_true, decide_eq_true_eq] at h
  omega
theorem unp_touched : (unp x).2.2.2.1 = was x := by
  unfold unp was leads
  by_cases ho : okW x = true
  · rw [if_pos ho, ho]
    by_cases hz : x = 0
    · subst hz; decide
    · simp [hz]
  · have ho' : okW x = false := by simpa using ho
    rw [if_neg ho, ho']; rfl
theorem wrd_with (w t : Bool) (h : leads x = true) : wrd (x % 4) (x / 4 % 16777216) w t = x - 67108864 * (x / 67108864 % 2) - 134217728 * (x / 134217728 % 2) + (if w = true then 67108864 else 0) + (if t = true then 134217728 else 0) := by
  have := leads_kind x h0 h1 h
  unfold wrd; omega
end
theorem works_is (n : Nat) (hn : 70 ≤ n) : millpondlaw06_works.f n = some true := by
  unfold millpondlaw06_works.f
  have e : pk 1 5 true false = (67108885, 0) := by decide
  rw [pack_is 1 5 true false (by decide) (by decide) n (by omega), e, Option.bind_some]
  rw [unpack_is 67108885 (by decide) (by decide) n (by omega), Option.bind_some, touch_is 67108885 (by decide) (by decide) n (by omega), Option.bind_some]
  have e2 : tch 67108885 = 201326613 := by decide
  have e3 : unp 67108885 = (1, 5, true, false, 0) := by decide
  have e4 : rst 201326613 = 67108885 := by decide
  have e5 : was 201326613 = true := by decide
  have e6 : wrt 67108885 false = 21 := by decide
  rw [e2, rest_is 201326613 (by decide) (by decide) n (by omega), Option.bind_some, write_is 67108885 (by decide) (by decide) n _ (by omega), e3, e4, e5, e6]
  rfl

end Go.Proofs.Ytjcibcnphdnfbaa.Pure
