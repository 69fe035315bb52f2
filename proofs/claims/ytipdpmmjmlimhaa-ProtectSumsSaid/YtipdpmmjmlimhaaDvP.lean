/- Products of two words, and their division by one: plain Lean. -/
namespace Go.Proofs.DvP
set_option linter.unusedVariables false
set_option linter.unusedSimpArgs false
theorem mul_bd {a b A B : Int} (ha : 0 ≤ a) (hA : a ≤ A) (hb : 0 ≤ b) (hB : b ≤ B) : 0 ≤ a * b ∧ a * b ≤ A * B :=
  ⟨Int.mul_nonneg ha hb, Int.mul_le_mul hA hB hb (by omega)⟩
/-- The four products. -/
theorem mul_four {x0 x1 y0 y1 : Int} : (x1 * 4294967296 + x0) * (y1 * 4294967296 + y0) = x1 * y1 * 18446744073709551616 + (x1 * y0 + x0 * y1) * 4294967296 + x0 * y0 := by
  have e1 : (x1 * 4294967296 + x0) * (y1 * 4294967296 + y0) = x1 * 4294967296 * (y1 * 4294967296) + x1 * 4294967296 * y0 + (x0 * (y1 * 4294967296) + x0 * y0) := by rw [Int.add_mul, Int.mul_add, Int.mul_add]
  have e2 : x1 * 4294967296 * (y1 * 4294967296) = x1 * y1 * 18446744073709551616 := by rw [Int.mul_assoc, Int.mul_comm 4294967296, Int.mul_assoc, ← Int.mul_assoc]; rfl
  have e3 : x1 * 4294967296 * y0 = x1 * y0 * 4294967296 := by rw [Int.mul_assoc, Int.mul_comm 4294967296, ← Int.mul_assoc]
  have e4 : x0 * (y1 * 4294967296) = x0 * y1 * 4294967296 := by rw [← Int.mul_assoc]
  rw [e1, e2, e3, e4, Int.add_mul]; omega
/-- Where the search for a digit stands: N = u · 2^32 + d, Y = y1 · 2^32 + y0. -/
structure Dig (u d y1 y0 q r : Int) : Prop where
  q0 : 0 ≤ q
  q1 : q ≤ 4294967297
  r0 : 0 ≤ r
  eq : u = q * y1 + r
  up : u * 4294967296 + d < (q + 1) * (y1 * 4294967296 + y0)
structure DigP (u d y1 y0 : Int) : Prop where
  u0 : 0 ≤ u
  d0 : 0 ≤ d
  d1 : d < 4294967296
  y10 : 2147483648 ≤ y1
  y11 : y1 < 4294967296
  y00 : 0 ≤ y0
  y01 : y0 < 4294967296
  lt : u < y1 * 4294967296 + y0
section
variable {u d y1 y0 q r : Int} (p : DigP u d y1 y0)
include p
theorem DigP.start : Dig u d y1 y0 (u / y1) (u - u / y1 * y1) ∧ u - u / y1 * y1 < y1 := by
  have h1 := p.u0; have h2 := p.d1; have h3 := p.y10; have h4 := p.y11; have h5 := p.y00; have h6 := p.y01; have h7 := p.lt
  have hq0 : 0 ≤ u / y1 := Int.ediv_nonneg h1 (by omega)
  have hm := Int.mul_ediv_add_emod u y1
  have hr0 := Int.emod_nonneg u (show y1 ≠ 0 by omega)
  have hr1 := Int.emod_lt_of_pos u (show 0 < y1 by omega)
  rw [Int.mul_comm] at hm
  have hq1 : u / y1 ≤ 4294967297 := by
    have : u / y1 * y1 < 4294967298 * y1 := by omega
    have := Int.lt_of_mul_lt_mul_right this (by omega)
    omega
  refine ⟨⟨hq0, hq1, by omega, by omega, ?_⟩, by omega⟩
  have e : (u / y1 + 1) * (y1 * 4294967296 + y0) = (u / y1 * y1 + y1) * 4294967296 + (u / y1 + 1) * y0 := by
    rw [Int.mul_add, ← Int.mul_assoc, Int.add_mul (u / y1) 1 y1, Int.one_mul]
  have e2 : 0 ≤ (u / y1 + 1) * y0 := Int.mul_nonneg (by omega) h5
  rw [e]
  omega
omit p in
theorem DigP.val (h : Dig u d y1 y0 q r) : q * (y1 * 4294967296 + y0) = (u - r) * 4294967296 + q * y0 := by
  rw [Int.mul_add, ← Int.mul_assoc]
  have := h.eq
  have : q * y1 = u - r := by omega
  rw [this]
theorem DigP.step (h : Dig u d y1 y0 q r) (hc : 4294967296 ≤ q ∨ 4294967296 * r + d < q * y0) : Dig u d y1 y0 (q - 1) (r + y1) ∧ 1 ≤ q := by
  have h1 := p.u0; have h2 := p.d1; have h3 := p.y10; have h4 := p.y11; have h5 := p.y00; have h6 := p.y01; have h7 := p.lt; have h8 := p.d0
  have hv := DigP.val h
  have hq0 := h.q0; have hr0 := h.r0
  have hq1 : 1 ≤ q := by
    rcases hc with hc | hc
    · omega
    · rcases Int.lt_or_eq_of_le hq0 with e | e
      · omega
      · rw [← e, Int.zero_mul] at hc; omega
  refine ⟨⟨by omega, by have := h.q1; omega, by omega, ?_, ?_⟩, hq1⟩
  · have := h.eq; rw [Int.sub_mul, Int.one_mul]; omega
  · rw [show q - 1 + 1 = q by omega]
    rcases hc with hc | hc
    · have : 4294967296 * (y1 * 4294967296 + y0) ≤ q * (y1 * 4294967296 + y0) := Int.mul_le_mul_of_nonneg_right hc (by omega)
      omega
    · omega
/-- It stops: because nothing is too much, or because the rest is beyond a word. -/
theorem DigP.done (h : Dig u d y1 y0 q r) (hc : (q < 4294967296 ∧ q * y0 ≤ 4294967296 * r + d) ∨ (q ≤ 4294967296 ∧ 4294967296 ≤ r)) : q < 4294967296 ∧ q * (y1 * 4294967296 + y0) ≤ u * 4294967296 + d ∧ u * 4294967296 + d - q * (y1 * 4294967296 + y0) < y1 * 4294967296 + y0 := by
  have h1 := p.u0; have h2 := p.d1; have h3 := p.y10; have h4 := p.y11; have h5 := p.y00; have h6 := p.y01; have h7 := p.lt; have h8 := p.d0
  have hv := DigP.val h
  have hup := h.up
  rw [Int.add_mul, Int.one_mul] at hup
  have hle : q * (y1 * 4294967296 + y0) ≤ u * 4294967296 + d := by
    rcases hc with hc | ⟨hc1, hc2⟩
    · omega
    · have : q * y0 ≤ 4294967296 * y0 := Int.mul_le_mul_of_nonneg_right hc1 h5
      omega
  refine ⟨?_, hle, by omega⟩
  by_cases e : q < 4294967296
  · exact e
  · exfalso
    have : 4294967296 * (y1 * 4294967296 + y0) ≤ q * (y1 * 4294967296 + y0) := Int.mul_le_mul_of_nonneg_right (by omega) (by omega)
    omega
end
/-- Two digits make the quotient. -/
theorem two_dig {h lo0 lo1 Y q1 q0 u2 : Int} (hY : 0 < Y) (e1 : u2 = h * 4294967296 + lo1 - q1 * Y) (h0 : 0 ≤ u2 * 4294967296 + lo0 - q0 * Y) (h1 : u2 * 4294967296 + lo0 - q0 * Y < Y) : (h * 18446744073709551616 + lo1 * 4294967296 + lo0) / Y = q1 * 4294967296 + q0 := by
  have e : h * 18446744073709551616 + lo1 * 4294967296 + lo0 = (q1 * 4294967296 + q0) * Y + (u2 * 4294967296 + lo0 - q0 * Y) := by
    rw [e1, Int.add_mul, Int.mul_assoc, Int.mul_comm 4294967296 Y, ← Int.mul_assoc]
    omega
  rw [e, Int.add_comm, Int.add_mul_ediv_right _ _ (by omega), Int.ediv_eq_zero_of_lt h0 h1, Int.zero_add]
/-- The same shifted. -/
theorem shift_div {x y k : Int} (hk : 0 < k) : (x * k) / (y * k) = x / y := Int.mul_ediv_mul_of_pos_left x y hk
theorem pow_split {k s : Nat} (h : k + s = 64) : (2 : Int) ^ k * 2 ^ s = 18446744073709551616 := by rw [← Int.pow_add, h]; rfl
/-- What is shifted so that the divisor's highest bit is on. -/
structure Nrm (hi lo y : Int) (s : Nat) : Prop where
  K0 : (0 : Int) < 2 ^ s
  y0 : 9223372036854775808 ≤ y * 2 ^ s
  y1 : y * 2 ^ s < 18446744073709551616
  h0 : 0 ≤ hi * 2 ^ s
  h1 : hi * 2 ^ s < 18446744073709551616
  sh : lo / 2 ^ (64 - s) = lo * 2 ^ s / 18446744073709551616
  sl : lo * 2 ^ s / 18446744073709551616 < 2 ^ s
  s0 : 0 ≤ lo * 2 ^ s / 18446744073709551616
  u1 : hi * 2 ^ s + lo * 2 ^ s / 18446744073709551616 < y * 2 ^ s
  eq : (hi * 2 ^ s + lo * 2 ^ s / 18446744073709551616) * 18446744073709551616 + lo * 2 ^ s % 18446744073709551616 = (hi * 18446744073709551616 + lo) * 2 ^ s
theorem nrm {hi lo y : Int} {k s : Nat} (hh : 0 ≤ hi) (hl : 0 ≤ lo) (hl1 : lo < 18446744073709551616) (hy : hi < y) (hs : k + s = 64) (up : y < 2 ^ k) (low : 2 ^ (k - 1) ≤ y) (hk : 0 < k) : Nrm hi lo y s := by
  have hK0 : (0 : Int) < 2 ^ s := Int.pow_pos (by decide)
  have e1 := pow_split hs
  have e2 : (2 : Int) ^ (k - 1) * 2 ^ s = 9223372036854775808 := by
    rw [← Int.pow_add, show k - 1 + s = 63 by omega]; rfl
  have a1 : y * 2 ^ s < 2 ^ k * 2 ^ s := Int.mul_lt_mul_of_pos_right up hK0
  have a2 : 2 ^ (k - 1) * 2 ^ s ≤ y * 2 ^ s := Int.mul_le_mul_of_nonneg_right low (by omega)
  have a3 : hi * 2 ^ s < y * 2 ^ s := Int.mul_lt_mul_of_pos_right hy hK0
  have a4 : 0 ≤ hi * 2 ^ s := Int.mul_nonneg hh (by omega)
  have a5 : 0 ≤ lo * 2 ^ s := Int.mul_nonneg hl (by omega)
  have a6 : lo * 2 ^ s < 18446744073709551616 * 2 ^ s := Int.mul_lt_mul_of_pos_right hl1 hK0
  have a7 : (hi + 1) * 2 ^ s ≤ y * 2 ^ s := Int.mul_le_mul_of_nonneg_right (by omega) (by omega)
  rw [Int.add_mul, Int.one_mul] at a7
  have b1 : lo * 2 ^ s / 18446744073709551616 < 2 ^ s := Int.ediv_lt_of_lt_mul (by decide) (by omega)
  have b2 : 0 ≤ lo * 2 ^ s / 18446744073709551616 := Int.ediv_nonneg a5 (by decide)
  have b3 : lo / 2 ^ (64 - s) = lo * 2 ^ s / 18446744073709551616 := by
    rw [← e1, show 64 - s = k by omega, Int.mul_ediv_mul_of_pos_left _ _ hK0]
  refine ⟨hK0, by omega, by omega, a4, by omega, b3, b1, b2, by omega, ?_⟩
  rw [Int.add_mul (hi * 18446744073709551616) lo, Int.mul_assoc hi 18446744073709551616, Int.mul_comm 18446744073709551616 (2 ^ s), ← Int.mul_assoc]
  omega
end Go.Proofs.DvP
