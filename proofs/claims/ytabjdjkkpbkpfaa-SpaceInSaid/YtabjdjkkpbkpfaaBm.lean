/- Words of bits, fields of a word, digits: numbers and lists alone. -/
import Derived.WalkKit
import Derived.RowKit3
import Derived.Laws.BitsLemmas
namespace Go.Proofs.Ytabjdjkkpbkpfaa.BM
open Go
set_option linter.unusedVariables false
set_option linter.unusedSimpArgs false

/-! ## Words of bits -/
def wdN (f : Nat → Bool) : Nat → Nat
  | 0 => 0
  | k + 1 => wdN f k + (if f k then 2 ^ k else 0)
theorem wdN_lt (f : Nat → Bool) : ∀ k, wdN f k < 2 ^ k
  | 0 => by simp [wdN]
  | k + 1 => by
    have := wdN_lt f k
    unfold wdN
    rw [Nat.pow_succ]
    split <;> omega
theorem wdN_testBit (f : Nat → Bool) : ∀ k i, (wdN f k).testBit i = (decide (i < k) && f i)
  | 0, i => by simp [wdN]
  | k + 1, i => by
    have hl := wdN_lt f k
    have ih := wdN_testBit f k i
    unfold wdN
    by_cases hf : f k = true
    · rw [if_pos hf, Nat.add_comm, ← Nat.mul_one (2 ^ k), Nat.two_pow_add_eq_or_of_lt hl 1, Nat.mul_one, Nat.testBit_or, Nat.testBit_two_pow, ih]
      by_cases h1 : i < k
      · have : k ≠ i := by omega
        simp [h1, this]; omega
      · by_cases h2 : k = i
        · subst h2; simp [hf]
        · have : ¬ i < k + 1 := by omega
          simp [h1, h2, this]
    · rw [if_neg hf, Nat.add_zero, ih]
      by_cases h1 : i < k
      · have : i < k + 1 := by omega
        simp [h1, this]
      · by_cases h2 : i = k
        · subst h2; simp; simpa using hf
        · have : ¬ i < k + 1 := by omega
          simp [h1, this]
theorem eq_wdN {x : Nat} {f : Nat → Bool} (hx : x < 2 ^ 64) (h : ∀ i, i < 64 → x.testBit i = f i) : x = wdN f 64 := by
  apply Nat.eq_of_testBit_eq
  intro i
  rw [wdN_testBit]
  by_cases hi : i < 64
  · simp [hi, h i hi]
  · have : x < 2 ^ i := Nat.lt_of_lt_of_le hx (Nat.pow_le_pow_right (by decide) (by omega))
    rw [Nat.testBit_lt_two_pow this]; simp [hi]
def setB (f : Nat → Bool) (i : Nat) (v : Bool) : Nat → Bool := fun k => if k = i then v else f k
theorem wdN_congr {f g : Nat → Bool} : ∀ k, (∀ i, i < k → f i = g i) → wdN f k = wdN g k
  | 0, _ => rfl
  | k + 1, h => by
    unfold wdN
    rw [wdN_congr k (fun i hi => h i (by omega)), h k (by omega)]
theorem wdN_xor (f : Nat → Bool) (i : Nat) (hi : i < 64) : wdN f 64 ^^^ 2 ^ i = wdN (setB f i (!f i)) 64 := by
  apply eq_wdN
  · exact Nat.xor_lt_two_pow (wdN_lt _ _) (Nat.pow_lt_pow_right (by decide) hi)
  · intro j hj
    rw [Nat.testBit_xor, wdN_testBit, Nat.testBit_two_pow]
    unfold setB
    by_cases e : j = i
    · subst e; simp [hj]
    · have : i ≠ j := fun h => e h.symm
      simp [hj, e, this]
/-! ## How many bits are on -/
def cntB (f : Nat → Bool) : Nat → Nat
  | 0 => 0
  | k + 1 => cntB f k + (if f k then 1 else 0)
theorem cntB_le (f : Nat → Bool) : ∀ k, cntB f k ≤ k
  | 0 => Nat.le_refl _
  | k + 1 => by have := cntB_le f k; unfold cntB; split <;> omega
theorem cntB_congr {f g : Nat → Bool} : ∀ k, (∀ i, i < k → f i = g i) → cntB f k = cntB g k
  | 0, _ => rfl
  | k + 1, h => by
    unfold cntB
    rw [cntB_congr k (fun i hi => h i (by omega)), h k (by omega)]
theorem cntB_add (f : Nat → Bool) (a : Nat) : ∀ b, cntB f (a + b) = cntB f a + cntB (fun i => f (a + i)) b
  | 0 => rfl
  | b + 1 => by
    show cntB f (a + b) + (if f (a + b) then 1 else 0) = cntB f a + (cntB (fun i => f (a + i)) b + (if f (a + b) then 1 else 0))
    rw [cntB_add f a b, Nat.add_assoc]
theorem cntB_false (f : Nat → Bool) : ∀ b, (∀ i, i < b → f i = false) → cntB f b = 0
  | 0, _ => rfl
  | b + 1, h => by
    unfold cntB
    rw [cntB_false f b (fun i hi => h i (by omega)), h b (by omega)]; rfl
theorem cntB_shut (f : Nat → Bool) (n m : Nat) (hm : n ≤ m) (h : ∀ i, n ≤ i → f i = false) : cntB f m = cntB f n := by
  obtain ⟨b, rfl⟩ := Nat.exists_eq_add_of_le hm
  rw [cntB_add, cntB_false _ b (fun i _ => h _ (by omega))]; rfl
theorem cntB_set (f : Nat → Bool) (i : Nat) (v : Bool) : ∀ n, i < n → (cntB (setB f i v) n : Int) = cntB f n + (if v then 1 else 0) - (if f i then 1 else 0)
  | 0, h => by omega
  | n + 1, h => by
    have e1 : cntB (setB f i v) (n + 1) = cntB (setB f i v) n + (if setB f i v n then 1 else 0) := rfl
    have e2 : cntB f (n + 1) = cntB f n + (if f n then 1 else 0) := rfl
    rw [e1, e2]
    by_cases e : i = n
    · subst e
      rw [cntB_congr (f := setB f i v) (g := f) i (fun j hj => by unfold setB; rw [if_neg (by omega)])]
      have : setB f i v i = v := by unfold setB; rw [if_pos rfl]
      rw [this]
      generalize f i = b
      cases v <;> cases b <;> simp <;> omega
    · have ih := cntB_set f i v n (by omega)
      have : setB f i v n = f n := by unfold setB; rw [if_neg (by omega)]
      rw [this]
      generalize f n = b
      generalize f i = c at *
      cases v <;> cases b <;> cases c <;> simp at ih ⊢ <;> omega
/-! ### The count, byte by byte -/
def rep (c : Nat) : Nat → Nat
  | 0 => 0
  | k + 1 => c + 256 * rep c k
def by8 (g : Nat → Nat) : Nat → Nat → Nat
  | 0, _ => 0
  | k + 1, x => g (x % 256) + 256 * by8 g k (x / 256)
theorem and_split (x y : Nat) : x &&& y = (x % 256 &&& y % 256) + 256 * (x / 256 &&& y / 256) := by
  have h1 : (x &&& y) % 2 ^ 8 = x % 2 ^ 8 &&& y % 2 ^ 8 := Nat.and_mod_two_pow
  have h2 : (x &&& y) / 2 ^ 8 = x / 2 ^ 8 &&& y / 2 ^ 8 := Nat.and_div_two_pow
  have h3 := Nat.mod_add_div (x &&& y) (2 ^ 8)
  rw [h1, h2] at h3
  exact h3.symm
theorem and_rep (c : Nat) (hc : c < 256) : ∀ k x, x &&& rep c k = by8 (fun a => a &&& c) k x
  | 0, x => by simp [rep, by8]
  | k + 1, x => by
    unfold rep by8
    rw [and_split, show (c + 256 * rep c k) % 256 = c by omega, show (c + 256 * rep c k) / 256 = rep c k by omega, and_rep c hc k]
theorem shift_byte (x s c : Nat) (hs : s ≤ 8) (hc : c < 2 ^ (8 - s)) : x / 2 ^ s % 256 &&& c = x % 256 / 2 ^ s &&& c := by
  apply Nat.eq_of_testBit_eq
  intro i
  rw [Nat.testBit_and, Nat.testBit_and]
  by_cases hi : i < 8 - s
  · congr 1
    rw [show (256 : Nat) = 2 ^ 8 from rfl, Nat.testBit_mod_two_pow, Nat.testBit_div_two_pow, Nat.testBit_div_two_pow, Nat.testBit_mod_two_pow]
    have : i < 8 := by omega
    have : i + s < 8 := by omega
    simp [*]
  · have : c < 2 ^ i := Nat.lt_of_lt_of_le hc (Nat.pow_le_pow_right (by decide) (by omega))
    rw [Nat.testBit_lt_two_pow this]; simp
theorem shift_rep (s c : Nat) (hs : s ≤ 8) (hc : c < 2 ^ (8 - s)) : ∀ k x, x / 2 ^ s &&& rep c k = by8 (fun a => a / 2 ^ s &&& c) k x
  | 0, x => by simp [rep, by8]
  | k + 1, x => by
    have hc2 : c < 256 := Nat.lt_of_lt_of_le hc (by simpa using Nat.pow_le_pow_right (n := 2) (i := 8 - s) (j := 8) (by decide) (by omega))
    unfold rep by8
    rw [and_split, show (c + 256 * rep c k) % 256 = c by omega, show (c + 256 * rep c k) / 256 = rep c k by omega, shift_byte x s c hs hc,
      show x / 2 ^ s / 256 = x / 256 / 2 ^ s by rw [Nat.div_div_eq_div_mul, Nat.div_div_eq_div_mul, Nat.mul_comm], shift_rep s c hs hc k]
theorem by8_add (g h : Nat → Nat) : ∀ k x, by8 g k x + by8 h k x = by8 (fun a => g a + h a) k x
  | 0, x => rfl
  | k + 1, x => by
    unfold by8
    rw [← by8_add g h k]; omega
theorem by8_comp (g h : Nat → Nat) (hh : ∀ a, a < 256 → h a < 256) : ∀ k x, by8 g k (by8 h k x) = by8 (fun a => g (h a)) k x
  | 0, x => rfl
  | k + 1, x => by
    have e : by8 h (k + 1) x = h (x % 256) + 256 * by8 h k (x / 256) := rfl
    have e2 : ∀ (g : Nat → Nat) (y : Nat), by8 g (k + 1) y = g (y % 256) + 256 * by8 g k (y / 256) := fun _ _ => rfl
    have := hh (x % 256) (Nat.mod_lt _ (by decide))
    rw [e2 g, e, e2 (fun a => g (h a)), show (h (x % 256) + 256 * by8 h k (x / 256)) % 256 = h (x % 256) by omega, show (h (x % 256) + 256 * by8 h k (x / 256)) / 256 = by8 h k (x / 256) by omega, by8_comp g h hh k]
theorem by8_congr {g h : Nat → Nat} (e : ∀ a, a < 256 → g a = h a) : ∀ k x, by8 g k x = by8 h k x
  | 0, x => rfl
  | k + 1, x => by unfold by8; rw [e _ (Nat.mod_lt _ (by decide)), by8_congr e k]
def p1 (a : Nat) : Nat := (a / 2 &&& 85) + (a &&& 85)
def p2 (a : Nat) : Nat := (a / 4 &&& 51) + (a &&& 51)
def pop8 (a : Nat) : Nat := a % 2 + a / 2 % 2 + a / 4 % 2 + a / 8 % 2 + a / 16 % 2 + a / 32 % 2 + a / 64 % 2 + a / 128 % 2
theorem p_all : ∀ a : Fin 256, p1 a < 256 ∧ p2 (p1 a) < 256 ∧ p2 (p1 a) % 16 + p2 (p1 a) / 16 = pop8 a ∧ pop8 a ≤ 8 ∧ p2 (p1 a) % 16 ≤ 4 ∧ p2 (p1 a) / 16 ≤ 4 := by decide +kernel
theorem p_at (a : Nat) (h : a < 256) : p1 a < 256 ∧ p2 (p1 a) < 256 ∧ p2 (p1 a) % 16 + p2 (p1 a) / 16 = pop8 a ∧ pop8 a ≤ 8 ∧ p2 (p1 a) % 16 ≤ 4 ∧ p2 (p1 a) / 16 ≤ 4 := p_all ⟨a, h⟩
theorem nib_step (g : Nat → Nat) (hg : ∀ a, a < 256 → g a < 256 ∧ g a % 16 ≤ 4 ∧ g a / 16 ≤ 4) : ∀ k z, (by8 g k z / 16 + by8 g k z) &&& rep 15 k = by8 (fun a => g a % 16 + g a / 16) k z
  | 0, z => by simp [rep, by8]
  | k + 1, z => by
    have h1 := hg (z % 256) (Nat.mod_lt _ (by decide))
    have hq : by8 g k (z / 256) % 16 ≤ 4 := by
      cases k with
      | zero => simp [by8]
      | succ k =>
        unfold by8
        have h2 := hg (z / 256 % 256) (Nat.mod_lt _ (by decide))
        omega
    have ih := nib_step g hg k (z / 256)
    unfold rep by8
    generalize by8 g k (z / 256) = q at *
    generalize g (z % 256) = a at *
    rw [and_split, show (15 + 256 * rep 15 k) % 256 = 15 by omega, show (15 + 256 * rep 15 k) / 256 = rep 15 k by omega]
    rw [show ((a + 256 * q) / 16 + (a + 256 * q)) / 256 = q / 16 + q by omega, ih]
    have h3 : ∀ y : Nat, y &&& 15 = y % 16 := fun y => Nat.and_two_pow_sub_one_eq_mod y 4
    rw [h3]
    omega
/-- All bytes' sum. -/
def sum8 (h : Nat → Nat) : Nat → Nat → Nat
  | 0, _ => 0
  | k + 1, x => h (x % 256) + sum8 h k (x / 256)
theorem fold_num (h0 h1 h2 h3 h4 h5 h6 h7 t x1 x2 x3 : Nat) (b0 : h0 ≤ 8) (b1 : h1 ≤ 8) (b2 : h2 ≤ 8) (b3 : h3 ≤ 8) (b4 : h4 ≤ 8) (b5 : h5 ≤ 8) (b6 : h6 ≤ 8) (b7 : h7 ≤ 8)
    (ht : t = h0 + 256 * h1 + 65536 * h2 + 16777216 * h3 + 4294967296 * h4 + 1099511627776 * h5 + 281474976710656 * h6 + 72057594037927936 * h7)
    (e1 : x1 = t + t / 256) (e2 : x2 = x1 + x1 / 65536) (e3 : x3 = x2 + x2 / 4294967296) :
    t < 1152921504606846976 ∧ x1 < 2305843009213693952 ∧ x2 < 4611686018427387904 ∧ x3 < 9223372036854775808 ∧ x3 % 128 = h0 + h1 + h2 + h3 + h4 + h5 + h6 + h7 := by
  have z1 : t < 1152921504606846976 := by omega
  have q1 : t / 256 = h1 + 256 * h2 + 65536 * h3 + 16777216 * h4 + 4294967296 * h5 + 1099511627776 * h6 + 281474976710656 * h7 := by omega
  rw [q1, ht] at e1
  have z2 : x1 < 2305843009213693952 := by omega
  have q2 : x1 / 65536 = (h2 + h3) + 256 * (h3 + h4) + 65536 * (h4 + h5) + 16777216 * (h5 + h6) + 4294967296 * (h6 + h7) + 1099511627776 * h7 := by omega
  rw [q2, e1] at e2
  have z3 : x2 < 4611686018427387904 := by omega
  have q3 : x2 / 4294967296 = (h4 + h5 + h6 + h7) + 256 * (h5 + h6 + h7) + 65536 * (h6 + h7) + 16777216 * h7 := by omega
  rw [q3, e2] at e3
  refine ⟨z1, z2, z3, ?_, ?_⟩ <;> clear ht z1 q1 e1 z2 q2 e2 z3 q3 <;> omega
theorem fold_sum (h : Nat → Nat) (hh : ∀ a, a < 256 → h a ≤ 8) (x t x1 x2 x3 : Nat) (ht : t = by8 h 8 x) (e1 : x1 = t + t / 256) (e2 : x2 = x1 + x1 / 65536) (e3 : x3 = x2 + x2 / 4294967296) :
    t < 1152921504606846976 ∧ x1 < 2305843009213693952 ∧ x2 < 4611686018427387904 ∧ x3 < 9223372036854775808 ∧ x3 % 128 = sum8 h 8 x := by
  have b := fun y : Nat => hh (y % 256) (Nat.mod_lt _ (by decide))
  have r := fold_num _ _ _ _ _ _ _ _ t x1 x2 x3 (b x) (b (x / 256)) (b (x / 256 / 256)) (b (x / 256 / 256 / 256)) (b (x / 256 / 256 / 256 / 256)) (b (x / 256 / 256 / 256 / 256 / 256)) (b (x / 256 / 256 / 256 / 256 / 256 / 256)) (b (x / 256 / 256 / 256 / 256 / 256 / 256 / 256)) (by rw [ht]; simp only [by8]; omega) e1 e2 e3
  refine ⟨r.1, r.2.1, r.2.2.1, r.2.2.2.1, ?_⟩
  rw [r.2.2.2.2]
  simp only [sum8]; omega
theorem sum8_cnt : ∀ k x, sum8 pop8 k x = cntB x.testBit (8 * k)
  | 0, x => rfl
  | k + 1, x => by
    have e : 8 * (k + 1) = 8 + 8 * k := by omega
    rw [e, cntB_add]
    unfold sum8
    rw [sum8_cnt k (x / 256)]
    have h1 : cntB x.testBit 8 = pop8 (x % 256) := by
      have hb : ∀ i, (if x.testBit i = true then 1 else 0) = x / 2 ^ i % 2 := fun i => by
        rw [Nat.testBit_eq_decide_div_mod_eq]
        have := Nat.mod_two_eq_zero_or_one (x / 2 ^ i)
        rcases this with h | h <;> simp [h]
      simp only [cntB, hb, pop8]
      omega
    have h2 : (fun i => x.testBit (8 + i)) = (x / 256).testBit := by
      funext i
      rw [show (256 : Nat) = 2 ^ 8 from rfl, Nat.testBit_div_two_pow, Nat.add_comm]
    rw [h1, h2]
def oc1 (x : Nat) : Nat := (x / 2 &&& rep 85 8) + (x &&& rep 85 8)
def oc2 (x : Nat) : Nat := (x / 4 &&& rep 51 8) + (x &&& rep 51 8)
def oc3 (x : Nat) : Nat := (x / 16 + x) &&& rep 15 8
theorem oc1_eq (x : Nat) : oc1 x = by8 p1 8 x := by
  unfold oc1
  have e := shift_rep 1 85 (by decide) (by decide) 8 x
  rw [Nat.pow_one] at e
  rw [e, and_rep 85 (by decide), by8_add]; rfl
theorem oc2_eq (x : Nat) : oc2 x = by8 p2 8 x := by
  unfold oc2
  have e := shift_rep 2 51 (by decide) (by decide) 8 x
  rw [show (2 : Nat) ^ 2 = 4 from rfl] at e
  rw [e, and_rep 51 (by decide), by8_add]; rfl
theorem oc_all (x : Nat) : oc3 (oc2 (oc1 x)) = by8 pop8 8 x := by
  unfold oc3
  rw [oc1_eq, oc2_eq, by8_comp p2 p1 (fun a h => (p_at a h).1), nib_step _ (fun a h => ⟨(p_at a h).2.1, (p_at a h).2.2.2.2.1, (p_at a h).2.2.2.2.2⟩)]
  exact by8_congr (fun a h => (p_at a h).2.2.1) 8 x
/-- What the library counts. -/
theorem ones_is (x t x1 x2 x3 : Nat) (ht : t = oc3 (oc2 (oc1 x))) (e1 : x1 = t + t / 256) (e2 : x2 = x1 + x1 / 65536) (e3 : x3 = x2 + x2 / 4294967296) :
    t < 1152921504606846976 ∧ x1 < 2305843009213693952 ∧ x2 < 4611686018427387904 ∧ x3 < 9223372036854775808 ∧ x3 % 128 = cntB x.testBit 64 := by
  have h := fold_sum pop8 (fun a h => (p_at a h).2.2.2.1) x t x1 x2 x3 (ht.trans (oc_all x)) e1 e2 e3
  rw [sum8_cnt] at h
  exact h
theorem oc_lt (x : Nat) (h : x < 2 ^ 64) : x / 2 &&& rep 85 8 < 2 ^ 63 ∧ x &&& rep 85 8 < 2 ^ 63 ∧ oc1 x < 2 ^ 64 ∧ (oc1 x / 4 &&& rep 51 8) < 2 ^ 62 ∧ (oc1 x &&& rep 51 8) < 2 ^ 62 ∧ oc2 (oc1 x) < 2 ^ 63 ∧ oc2 (oc1 x) / 16 + oc2 (oc1 x) < 2 ^ 64 := by
  have r1 : rep 85 8 = 6148914691236517205 := by decide
  have r2 : rep 51 8 = 3689348814741910323 := by decide
  have h1 : x / 2 &&& rep 85 8 ≤ 6148914691236517205 := r1 ▸ Nat.and_le_right
  have h2 : x &&& rep 85 8 ≤ 6148914691236517205 := r1 ▸ Nat.and_le_right
  have h3 : oc1 x / 4 &&& rep 51 8 ≤ 3689348814741910323 := r2 ▸ Nat.and_le_right
  have h4 : oc1 x &&& rep 51 8 ≤ 3689348814741910323 := r2 ▸ Nat.and_le_right
  have h5 : oc1 x = (x / 2 &&& rep 85 8) + (x &&& rep 85 8) := rfl
  have h6 : oc2 (oc1 x) = (oc1 x / 4 &&& rep 51 8) + (oc1 x &&& rep 51 8) := rfl
  omega
/-! ## The lowest bit -/
theorem low_compl (k m : Nat) (h : m < 2 ^ k) : m &&& (2 ^ k - (m + 1)) = 0 := by
  apply Nat.eq_of_testBit_eq
  intro i
  rw [Nat.testBit_and, Nat.testBit_two_pow_sub_succ h]
  cases m.testBit i <;> simp
theorem and_two (x y : Nat) : x &&& y = (x % 2 &&& y % 2) + 2 * (x / 2 &&& y / 2) := by
  have h1 : (x &&& y) % 2 ^ 1 = x % 2 ^ 1 &&& y % 2 ^ 1 := Nat.and_mod_two_pow
  have h2 : (x &&& y) / 2 ^ 1 = x / 2 ^ 1 &&& y / 2 ^ 1 := Nat.and_div_two_pow
  have h3 := Nat.mod_add_div (x &&& y) (2 ^ 1)
  rw [h1, h2] at h3
  exact h3.symm
theorem low_bit : ∀ (t W m : Nat), 2 ^ t * (2 * m + 1) < 2 ^ W → 2 ^ t * (2 * m + 1) &&& (2 ^ W - 2 ^ t * (2 * m + 1)) = 2 ^ t
  | 0, W, m, h => by
    cases W with
    | zero => simp at h
    | succ W =>
      rw [Nat.pow_zero, Nat.one_mul] at h ⊢
      rw [Nat.pow_succ] at h ⊢
      rw [and_two, show (2 * m + 1) % 2 = 1 by omega, show (2 ^ W * 2 - (2 * m + 1)) % 2 = 1 by omega, show (2 * m + 1) / 2 = m by omega, show (2 ^ W * 2 - (2 * m + 1)) / 2 = 2 ^ W - (m + 1) by omega, low_compl W m (by omega)]; rfl
  | t + 1, W, m, h => by
    cases W with
    | zero =>
      have : 0 < 2 ^ (t + 1) * (2 * m + 1) := Nat.mul_pos (Nat.two_pow_pos _) (by omega)
      rw [Nat.pow_zero] at h; omega
    | succ W =>
      have ih := low_bit t W m
      rw [Nat.pow_succ, Nat.pow_succ] at h ⊢
      rw [show 2 ^ t * 2 * (2 * m + 1) = 2 * (2 ^ t * (2 * m + 1)) by rw [Nat.mul_comm (2 ^ t) 2, Nat.mul_assoc]] at h ⊢
      generalize 2 ^ t * (2 * m + 1) = y at *
      rw [and_two, show 2 * y % 2 = 0 by omega, show 2 * y / 2 = y by omega, show (2 ^ W * 2 - 2 * y) / 2 = 2 ^ W - y by omega, ih (by omega)]
      simp; omega
theorem low_of : ∀ (W x : Nat), x ≠ 0 → x < 2 ^ W → ∃ t m, x = 2 ^ t * (2 * m + 1) ∧ t < W ∧ x.testBit t = true ∧ ∀ i, i < t → x.testBit i = false
  | 0, x, h, hx => by simp at hx; omega
  | W + 1, x, h, hx => by
    rcases Nat.mod_two_eq_zero_or_one x with e | e
    · obtain ⟨t, m, h1, h2, h3, h4⟩ := low_of W (x / 2) (by omega) (by rw [Nat.pow_succ] at hx; omega)
      refine ⟨t + 1, m, ?_, by omega, ?_, ?_⟩
      · rw [Nat.pow_succ, Nat.mul_comm (2 ^ t) 2, Nat.mul_assoc, ← h1]; omega
      · rw [Nat.testBit_succ]; exact h3
      · intro i hi
        cases i with
        | zero => rw [Nat.testBit_zero]; simp [e]
        | succ i => rw [Nat.testBit_succ]; exact h4 i (by omega)
    · exact ⟨0, x / 2, by omega, by omega, by rw [Nat.testBit_zero]; simp [e], fun i hi => by omega⟩

/-! ## Fields of a word -/
def okW : List Int → Int → Bool
  | [], _ => true
  | w :: ws, n => decide (0 ≤ w) && (decide (w ≤ 62) && (decide (n + w ≤ 64) && okW ws (n + w)))
def sumW : List Int → Int
  | [] => 0
  | w :: ws => w + sumW ws
theorem sumW_append (a b : List Int) : sumW (a ++ b) = sumW a + sumW b := by
  induction a with
  | nil => simp [sumW]
  | cons x a ih => simp only [List.cons_append, sumW, ih]; omega
theorem okW_cons {w : Int} {ws : List Int} {n : Int} (h : okW (w :: ws) n = true) : 0 ≤ w ∧ w ≤ 62 ∧ n + w ≤ 64 ∧ okW ws (n + w) = true := by
  simpa [okW] using h
theorem okW_sum : ∀ (ws : List Int) (n : Int), n ≤ 64 → okW ws n = true → 0 ≤ sumW ws ∧ n + sumW ws ≤ 64
  | [], n, hn, h => ⟨Int.le_refl 0, by simpa [sumW] using hn⟩
  | w :: ws, n, hn, h => by
    obtain ⟨h1, h2, h3, h4⟩ := okW_cons h
    have := okW_sum ws (n + w) h3 h4
    simp only [sumW]; omega
def packG : List Int → List Int → Nat → Int → Int × Int
  | [], _, _, x => (x, 0)
  | _ :: _, [], _, _ => (0, 1)
  | w :: ws, v :: vs, low, x => if 0 ≤ v ∧ v < 2 ^ w.toNat then packG ws vs (low + w.toNat) (x + v * 2 ^ low) else (0, 1)
def packS (ws vs : List Int) : Int × Int := if okW ws 0 = true ∧ vs.length = ws.length then packG ws vs 0 0 else (0, 1)
def unG : List Int → Int → List Int
  | [], _ => []
  | w :: ws, x => x % 2 ^ w.toNat :: unG ws (x / 2 ^ w.toNat)
def unR : List Int → Int → Int
  | [], x => x
  | w :: ws, x => unR ws (x / 2 ^ w.toNat)
def unS (ws : List Int) (x : Int) : List Int × Int := if okW ws 0 = true ∧ unR ws x = 0 then (unG ws x, 0) else ([], 1)
theorem unG_length : ∀ (ws : List Int) (x : Int), (unG ws x).length = ws.length
  | [], _ => rfl
  | w :: ws, x => by simp [unG, unG_length ws]
theorem pow_pos (k : Nat) : (0 : Int) < 2 ^ k := Int.pow_pos (by decide)
theorem pow_add (a b : Nat) : (2 : Int) ^ (a + b) = 2 ^ a * 2 ^ b := Int.pow_add 2 a b
theorem unR_is : ∀ (ws : List Int) (n : Int) (x : Int), okW ws n = true → unR ws x = x / 2 ^ (sumW ws).toNat
  | [], n, x, h => by simp [unR, sumW]
  | w :: ws, n, x, h => by
    obtain ⟨h1, h2, h3, h4⟩ := okW_cons h
    have hs := okW_sum ws _ h3 h4
    unfold unR sumW
    rw [unR_is ws _ _ h4, show (w + sumW ws).toNat = w.toNat + (sumW ws).toNat by omega, pow_add, Int.ediv_ediv_of_nonneg (Int.le_of_lt (pow_pos _))]
theorem packG_lt : ∀ (ws vs : List Int) (low : Nat) (x : Int), okW ws low = true → (low : Int) ≤ 64 → 0 ≤ x → x < 2 ^ low → 0 ≤ (packG ws vs low x).1 ∧ (packG ws vs low x).1 < 2 ^ 64 ∧ ((packG ws vs low x).2 = 0 ∨ packG ws vs low x = (0, 1))
  | [], vs, low, x, _, hl, h0, h1 => by
    refine ⟨h0, ?_, .inl rfl⟩
    show x < 2 ^ 64
    have : (2 : Int) ^ low ≤ 2 ^ 64 := by
      have := Nat.pow_le_pow_right (n := 2) (by decide) (show low ≤ 64 by omega)
      exact_mod_cast this
    omega
  | w :: ws, [], low, x, _, hl, h0, h1 => ⟨Int.le_refl 0, (by decide : (0 : Int) < 2 ^ 64), .inr rfl⟩
  | w :: ws, v :: vs, low, x, h, hl, h0, h1 => by
    obtain ⟨a1, a2, a3, a4⟩ := okW_cons h
    unfold packG
    split
    · rename_i hv
      have e : ((low + w.toNat : Nat) : Int) = low + w := by omega
      refine packG_lt ws vs _ _ (by rw [e]; exact a4) (by omega) ?_ ?_
      · have := Int.mul_nonneg hv.1 (Int.le_of_lt (pow_pos low)); omega
      · rw [pow_add]
        have h2 : (v + 1) * 2 ^ low ≤ 2 ^ w.toNat * 2 ^ low := Int.mul_le_mul_of_nonneg_right (by omega) (Int.le_of_lt (pow_pos low))
        rw [Int.add_mul, Int.one_mul] at h2
        rw [Int.mul_comm (2 ^ low)]; omega
    · exact ⟨Int.le_refl 0, (by decide : (0 : Int) < 2 ^ 64), .inr rfl⟩
/-- What is packed is unpacked again. -/
theorem pack_un : ∀ (ws vs : List Int) (low : Nat) (x r : Int), vs.length = ws.length → 0 ≤ x → x < 2 ^ low → packG ws vs low x = (r, 0) → r % 2 ^ low = x ∧ unG ws (r / 2 ^ low) = vs ∧ unR ws (r / 2 ^ low) = 0
  | [], [], low, x, r, _, h0, h1, h => by
    obtain rfl : x = r := by simpa [packG] using h
    exact ⟨Int.emod_eq_of_lt h0 h1, rfl, Int.ediv_eq_zero_of_lt h0 h1⟩
  | w :: ws, v :: vs, low, x, r, hl, h0, h1, h => by
    unfold packG at h
    split at h
    · rename_i hv
      have hp := pow_pos low
      have hm : 0 ≤ v * 2 ^ low := Int.mul_nonneg hv.1 (Int.le_of_lt hp)
      have h2 : (v + 1) * 2 ^ low ≤ 2 ^ w.toNat * 2 ^ low := Int.mul_le_mul_of_nonneg_right (by omega) (Int.le_of_lt hp)
      rw [Int.add_mul, Int.one_mul] at h2
      obtain ⟨i1, i2, i3⟩ := pack_un ws vs (low + w.toNat) _ r (by simpa using hl) (by omega) (by rw [pow_add, Int.mul_comm (2 ^ low)]; omega) h
      have e1 : r % 2 ^ low = x := by
        have : r % 2 ^ (low + w.toNat) % 2 ^ low = r % 2 ^ low := Int.emod_emod_of_dvd _ (by rw [pow_add]; exact Int.dvd_mul_right _ _)
        rw [← this, i1, Int.add_mul_emod_self_right, Int.emod_eq_of_lt h0 h1]
      have e2 : r / 2 ^ low / 2 ^ w.toNat = r / 2 ^ (low + w.toNat) := by rw [Int.ediv_ediv_of_nonneg (Int.le_of_lt hp), pow_add]
      have e3 : r / 2 ^ low % 2 ^ w.toNat = v := by
        have q1 := Int.mul_ediv_add_emod r (2 ^ low)
        have q2 := Int.mul_ediv_add_emod r (2 ^ (low + w.toNat))
        have q3 := Int.mul_ediv_add_emod (r / 2 ^ low) (2 ^ w.toNat)
        rw [e1] at q1
        rw [i1, ← e2, pow_add] at q2
        have q4 : 2 ^ low * (r / 2 ^ low) = 2 ^ low * (2 ^ w.toNat * (r / 2 ^ low / 2 ^ w.toNat) + v) := by
          rw [Int.mul_add, ← Int.mul_assoc, Int.mul_comm _ v]; omega
        have q5 := Int.eq_of_mul_eq_mul_left (Int.ne_of_gt hp) q4
        omega
      refine ⟨e1, ?_, ?_⟩
      · unfold unG; rw [e3, e2, i2]
      · unfold unR; rw [e2, i3]
    · simp at h
/-- What is unpacked is packed to the same word. -/
theorem un_pack : ∀ (ws : List Int) (low : Nat) (x y : Int), 0 ≤ y → unR ws y = 0 → packG ws (unG ws y) low x = (x + y * 2 ^ low, 0)
  | [], low, x, y, h0, h => by
    obtain rfl : y = 0 := h
    simp [packG, unG]
  | w :: ws, low, x, y, h0, h => by
    have hp := pow_pos w.toNat
    unfold unR at h
    unfold unG packG
    rw [if_pos ⟨Int.emod_nonneg _ (Int.ne_of_gt hp), Int.emod_lt_of_pos _ hp⟩, un_pack ws _ _ _ (Int.ediv_nonneg h0 (Int.le_of_lt hp)) h, pow_add]
    have q := Int.mul_ediv_add_emod y (2 ^ w.toNat)
    have : y * 2 ^ low = (2 ^ w.toNat * (y / 2 ^ w.toNat) + y % 2 ^ w.toNat) * 2 ^ low := by rw [q]
    rw [this, Int.add_mul]
    have e : y / 2 ^ w.toNat * (2 ^ low * 2 ^ w.toNat) = 2 ^ w.toNat * (y / 2 ^ w.toNat) * 2 ^ low := by
      rw [Int.mul_comm (2 ^ low), ← Int.mul_assoc, Int.mul_comm (y / 2 ^ w.toNat)]
    rw [e]
    congr 1; omega
theorem back_pack (ws vs : List Int) (h : (packS ws vs).2 = 0) : unS ws (packS ws vs).1 = (vs, 0) ∧ vs.length = ws.length := by
  unfold packS at h ⊢
  split
  · rename_i hc
    rw [if_pos hc] at h
    obtain ⟨h1, h2, h3⟩ := pack_un ws vs 0 0 (packG ws vs 0 0).1 hc.2 (Int.le_refl 0) (by simp) (Prod.ext rfl h)
    simp only [Int.pow_zero, Int.ediv_one] at h2 h3
    unfold unS
    rw [if_pos ⟨hc.1, h3⟩, h2]
    exact ⟨rfl, hc.2⟩
  · rename_i hc
    rw [if_neg hc] at h; simp at h
theorem back_un (ws : List Int) (x : Int) (h0 : 0 ≤ x) (h : (unS ws x).2 = 0) : packS ws (unS ws x).1 = (x, 0) := by
  unfold unS at h ⊢
  split
  · rename_i hc
    unfold packS
    rw [if_pos ⟨hc.1, unG_length _ _⟩, un_pack ws 0 0 x h0 hc.2]
    simp
  · rename_i hc
    rw [if_neg hc] at h; simp at h
theorem unS_bad (ws : List Int) (x : Int) (h : (unS ws x).2 ≠ 0) : (unS ws x).1 = [] ∧ unS ws x = ([], 1) := by
  unfold unS at h ⊢
  split
  · rename_i hc; rw [if_pos hc] at h; simp at h
  · exact ⟨rfl, rfl⟩
/-! ### Another value in one field -/
theorem sumW_take_nonneg : ∀ (ws : List Int) (n : Int) (k : Nat), okW ws n = true → 0 ≤ sumW (ws.take k)
  | [], n, k, _ => by simp [sumW]
  | w :: ws, n, 0, h => by simp [sumW]
  | w :: ws, n, k + 1, h => by
    obtain ⟨a1, a2, a3, a4⟩ := okW_cons h
    have := sumW_take_nonneg ws _ k a4
    simp only [List.take_succ_cons, sumW]; omega
theorem head_same : ∀ (ws : List Int) (at_ : Nat) (n : Int) (x y : Int), okW ws n = true → (∀ j, j < at_ → (unG ws x)[j]? = (unG ws y)[j]?) → at_ ≤ ws.length → x % 2 ^ (sumW (ws.take at_)).toNat = y % 2 ^ (sumW (ws.take at_)).toNat
  | ws, 0, n, x, y, _, _, _ => by simp [sumW, Int.emod_one]
  | [], at_ + 1, n, x, y, _, _, hl => by simp at hl
  | w :: ws, at_ + 1, n, x, y, h, hj, hl => by
    obtain ⟨h1, h2, h3, h4⟩ := okW_cons h
    have hd : x % 2 ^ w.toNat = y % 2 ^ w.toNat := by have := hj 0 (by omega); simpa [unG] using this
    have ih := head_same ws at_ _ (x / 2 ^ w.toNat) (y / 2 ^ w.toNat) h4 (fun j hlt => by have := hj (j + 1) (by omega); simpa [unG] using this) (by simpa using hl)
    have hs := sumW_take_nonneg ws (n + w) at_ h4
    rw [List.take_succ_cons]
    unfold sumW
    rw [show (w + sumW (ws.take at_)).toNat = w.toNat + (sumW (ws.take at_)).toNat by omega, pow_add]
    generalize (sumW (ws.take at_)).toNat = s at *
    have key : ∀ z : Int, z % (2 ^ w.toNat * 2 ^ s) = 2 ^ w.toNat * (z / 2 ^ w.toNat % 2 ^ s) + z % 2 ^ w.toNat := fun z => by
      have p1 := pow_pos w.toNat
      have p2 := pow_pos s
      have q1 := Int.mul_ediv_add_emod z (2 ^ w.toNat)
      have q2 := Int.mul_ediv_add_emod (z / 2 ^ w.toNat) (2 ^ s)
      have b1 := Int.emod_nonneg z (Int.ne_of_gt p1)
      have b2 := Int.emod_lt_of_pos z p1
      have b3 := Int.emod_nonneg (z / 2 ^ w.toNat) (Int.ne_of_gt p2)
      have b4 := Int.emod_lt_of_pos (z / 2 ^ w.toNat) p2
      generalize z / 2 ^ w.toNat / 2 ^ s = c at *
      generalize z / 2 ^ w.toNat % 2 ^ s = r at *
      generalize z % 2 ^ w.toNat = t at *
      generalize z / 2 ^ w.toNat = d at *
      generalize (2 : Int) ^ w.toNat = A at *
      generalize (2 : Int) ^ s = B at *
      have e : z = (A * r + t) + A * B * c := by
        rw [← q1, ← q2, Int.mul_add, Int.mul_assoc]; omega
      have l1 : A * (r + 1) ≤ A * B := Int.mul_le_mul_of_nonneg_left (by omega) (by omega)
      rw [Int.mul_add, Int.mul_one] at l1
      have l2 : 0 ≤ A * r := Int.mul_nonneg (by omega) b3
      rw [e, Int.add_mul_emod_self_left, Int.emod_eq_of_lt (by omega) (by omega)]
    rw [key, key, ih, hd]
theorem tail_same : ∀ (ws : List Int) (at_ : Nat) (n : Int) (x y : Int), okW ws n = true → 0 ≤ x → 0 ≤ y → unR ws x = 0 → unR ws y = 0 → (∀ j, at_ ≤ j → (unG ws x)[j]? = (unG ws y)[j]?) → at_ ≤ ws.length → x / 2 ^ (sumW (ws.take at_)).toNat = y / 2 ^ (sumW (ws.take at_)).toNat
  | [], at_, n, x, y, _, _, _, h1, h2, _, hl => by
    obtain rfl : at_ = 0 := by simpa using hl
    simp only [unR] at h1 h2; rw [h1, h2]
  | w :: ws, 0, n, x, y, h, hx, hy, h1, h2, hj, hl => by
    obtain ⟨a1, a2, a3, a4⟩ := okW_cons h
    have hd : x % 2 ^ w.toNat = y % 2 ^ w.toNat := by have := hj 0 (by omega); simpa [unG] using this
    have p := pow_pos w.toNat
    have ih := tail_same ws 0 _ (x / 2 ^ w.toNat) (y / 2 ^ w.toNat) a4 (Int.ediv_nonneg hx (Int.le_of_lt p)) (Int.ediv_nonneg hy (Int.le_of_lt p)) h1 h2 (fun j hlt => by have := hj (j + 1) (by omega); simpa [unG] using this) (by omega)
    simp only [List.take_zero, sumW, Int.toNat_zero, Int.pow_zero, Int.ediv_one] at ih ⊢
    rw [← Int.mul_ediv_add_emod x (2 ^ w.toNat), ← Int.mul_ediv_add_emod y (2 ^ w.toNat), ih, hd]
  | w :: ws, at_ + 1, n, x, y, h, hx, hy, h1, h2, hj, hl => by
    obtain ⟨a1, a2, a3, a4⟩ := okW_cons h
    have p := pow_pos w.toNat
    have ih := tail_same ws at_ _ (x / 2 ^ w.toNat) (y / 2 ^ w.toNat) a4 (Int.ediv_nonneg hx (Int.le_of_lt p)) (Int.ediv_nonneg hy (Int.le_of_lt p)) h1 h2 (fun j hlt => by have := hj (j + 1) (by omega); simpa [unG] using this) (by simpa using hl)
    have hs := sumW_take_nonneg ws (n + w) at_ a4
    rw [List.take_succ_cons]
    unfold sumW
    rw [show (w + sumW (ws.take at_)).toNat = w.toNat + (sumW (ws.take at_)).toNat by omega, pow_add, ← Int.ediv_ediv_of_nonneg (Int.le_of_lt p), ← Int.ediv_ediv_of_nonneg (Int.le_of_lt p)]
    exact ih

theorem pack_facts (ws vs : List Int) (a : Int) (h : packS ws vs = (a, 0)) : okW ws 0 = true ∧ vs.length = ws.length ∧ unG ws a = vs ∧ unR ws a = 0 ∧ 0 ≤ a ∧ a < 2 ^ 64 := by
  unfold packS at h
  split at h
  · rename_i hc
    obtain ⟨h1, h2, h3⟩ := pack_un ws vs 0 0 a hc.2 (Int.le_refl 0) (by simp) h
    have hl := packG_lt ws vs 0 0 hc.1 (by decide) (Int.le_refl 0) (by simp)
    rw [h] at hl
    simp only [Int.pow_zero, Int.ediv_one] at h2 h3
    exact ⟨hc.1, hc.2, h2, h3, hl.1, hl.2.1⟩
  · simp at h
/-- Another value in one field changes just its bits. -/
theorem fields_ok (ws vs : List Int) (k : Nat) (n a b : Int) (hk : k < vs.length) (ha : packS ws vs = (a, 0)) (hb : packS ws (vs.set k n) = (b, 0)) :
    0 ≤ a ∧ a < 2 ^ 64 ∧ 0 ≤ b ∧ b < 2 ^ 64 ∧ 0 ≤ sumW (ws.take k) ∧ sumW (ws.take k) ≤ 64 ∧ 0 ≤ ws.getD k 0 ∧ ws.getD k 0 ≤ 62 ∧
    ((a.toNat ^^^ b.toNat : Nat) : Int) / 2 ^ (sumW (ws.take k)).toNat * 2 ^ (sumW (ws.take k)).toNat = ((a.toNat ^^^ b.toNat : Nat) : Int) ∧
    ((a.toNat ^^^ b.toNat : Nat) : Int) / 2 ^ (sumW (ws.take k)).toNat < 2 ^ (ws.getD k 0).toNat ∧ ((a = b) ↔ (n = vs.getD k 0)) ∧ (a.toNat ^^^ b.toNat : Nat) < 2 ^ 64 := by
  obtain ⟨ho, hl, hua, hra, ha0, ha1⟩ := pack_facts ws vs a ha
  obtain ⟨_, _, hub, hrb, hb0, hb1⟩ := pack_facts ws _ b hb
  have hkw : k < ws.length := by omega
  have hsum := okW_sum ws 0 (by decide) ho
  have hw : ∀ (ws : List Int) (m : Int) (k : Nat), okW ws m = true → m ≤ 64 → k < ws.length → 0 ≤ sumW (ws.take k) ∧ 0 ≤ ws.getD k 0 ∧ ws.getD k 0 ≤ 62 ∧ m + sumW (ws.take k) ≤ 64 := by
    intro ws
    induction ws with
    | nil => intro m k _ _ h; simp at h
    | cons w ws ih =>
      intro m k h hm hk
      obtain ⟨a1, a2, a3, a4⟩ := okW_cons h
      cases k with
      | zero => simp [sumW]; omega
      | succ k =>
        have := ih _ k a4 a3 (by simpa using hk)
        simp only [List.take_succ_cons, sumW, List.getD_cons_succ]; omega
  obtain ⟨s1, s2, s3, s4⟩ := hw ws 0 k ho (by decide) hkw
  have h1 : a % 2 ^ (sumW (ws.take k)).toNat = b % 2 ^ (sumW (ws.take k)).toNat := by
    refine head_same ws k 0 a b ho (fun j hj => ?_) (by omega)
    rw [hua, hub, List.getElem?_set_ne (by omega)]
  have h2 : a / 2 ^ (sumW (ws.take (k + 1))).toNat = b / 2 ^ (sumW (ws.take (k + 1))).toNat := by
    refine tail_same ws (k + 1) 0 a b ho ha0 hb0 hra hrb (fun j hj => ?_) (by omega)
    rw [hua, hub, List.getElem?_set_ne (by omega)]
  have e2 : (sumW (ws.take (k + 1))).toNat = (sumW (ws.take k)).toNat + (ws.getD k 0).toNat := by
    rw [List.take_succ_eq_append_getElem hkw, sumW_append]
    simp only [sumW, List.getD_eq_getElem?_getD, List.getElem?_eq_getElem hkw, Option.getD_some] at *
    omega
  rw [e2] at h2
  generalize (sumW (ws.take k)).toNat = s at *
  generalize (ws.getD k 0).toNat = q at *
  obtain ⟨A, rfl⟩ := Int.eq_ofNat_of_zero_le ha0
  obtain ⟨B, rfl⟩ := Int.eq_ofNat_of_zero_le hb0
  simp only [Int.toNat_natCast]
  have h1' : A % 2 ^ s = B % 2 ^ s := by exact_mod_cast h1
  have h2' : A / 2 ^ (s + q) = B / 2 ^ (s + q) := by exact_mod_cast h2
  have z1 : (A ^^^ B) % 2 ^ s = 0 := by rw [Nat.xor_mod_two_pow, h1', Nat.xor_self]
  have z2 : (A ^^^ B) / 2 ^ (s + q) = 0 := by rw [Nat.xor_div_two_pow, h2', Nat.xor_self]
  refine ⟨ha0, ha1, hb0, hb1, s1, by omega, s2, s3, ?_, ?_, ?_, ?_⟩
  · have : (A ^^^ B) / 2 ^ s * 2 ^ s = A ^^^ B := by
      have := Nat.div_add_mod (A ^^^ B) (2 ^ s)
      rw [z1, Nat.mul_comm] at this; exact this
    exact_mod_cast this
  · have : (A ^^^ B) / 2 ^ s < 2 ^ q := by
      rw [Nat.pow_add, ← Nat.div_div_eq_div_mul] at z2
      rcases Nat.div_eq_zero_iff.1 z2 with h | h
      · have := Nat.two_pow_pos q; omega
      · exact h
    exact_mod_cast this
  · constructor
    · intro e
      rw [e] at hua
      rw [hua] at hub
      have := congrArg (fun l : List Int => l.getD k 0) hub
      simp only [List.getD_eq_getElem?_getD, List.getElem?_set_self hk, Option.getD_some] at this ⊢
      exact this.symm
    · intro e
      have : vs.set k n = vs := by
        rw [e, List.getD_eq_getElem?_getD, List.getElem?_eq_getElem hk, Option.getD_some, List.set_getElem_self]
      rw [this, ha] at hb
      exact (Prod.mk.inj hb).1
  · exact Nat.xor_lt_two_pow (by exact_mod_cast ha1) (by exact_mod_cast hb1)
/-! ## Digits -/
def digS (x : Int) (w L i : Nat) : Int := x / 2 ^ ((L - 1 - i) * w) % 2 ^ w
def joinF (w : Nat) (acc d : Int) : Int := (acc * 2 ^ w + d % 2 ^ w) % 18446744073709551616
def joinS (w : Nat) (l : List Int) : Int := l.foldl (joinF w) 0
def digN (w : Nat) : Nat := (63 + w) / w
def digL (x : Int) (w : Nat) : List Int := (List.range (digN w)).map (digS x w (digN w))
theorem digN_le (w : Nat) (h : 1 ≤ w) : 64 ≤ digN w * w ∧ digN w ≤ 64 := by
  unfold digN
  have h1 := Nat.div_add_mod (63 + w) w
  have h2 := Nat.mod_lt (63 + w) (show 0 < w by omega)
  constructor
  · rw [Nat.mul_comm]; omega
  · have : (63 + w) / w ≤ 64 := by
      apply Nat.div_le_of_le_mul
      have : 63 * 1 ≤ 63 * w := Nat.mul_le_mul_left 63 h
      omega
    exact this
theorem digS_range (x : Int) (w L i : Nat) : 0 ≤ digS x w L i ∧ digS x w L i < 2 ^ w :=
  ⟨Int.emod_nonneg _ (Int.ne_of_gt (pow_pos w)), Int.emod_lt_of_pos _ (pow_pos w)⟩
theorem join_digs (x : Int) (w : Nat) (h : 1 ≤ w) (h0 : 0 ≤ x) (h1 : x < 2 ^ 64) : joinS w (digL x w) = x := by
  have hN := (digN_le w h).1
  unfold joinS digL
  generalize digN w = L at *
  have key : ∀ i, i ≤ L → ((List.range i).map (digS x w L)).foldl (joinF w) 0 = x / 2 ^ ((L - i) * w) := by
    intro i
    induction i with
    | zero =>
      intro _
      have : x / 2 ^ (L * w) = 0 := by
        apply Int.ediv_eq_zero_of_lt h0
        have := Nat.pow_le_pow_right (n := 2) (by decide) hN
        have : (2 : Int) ^ 64 ≤ 2 ^ (L * w) := by exact_mod_cast this
        omega
      simpa using this.symm
    | succ i ih =>
      intro hi
      rw [List.range_succ, List.map_append, List.foldl_append, ih (by omega)]
      simp only [List.map_cons, List.map_nil, List.foldl_cons, List.foldl_nil, joinF, digS]
      rw [show (L - i) * w = (L - (i + 1)) * w + w by rw [show L - i = (L - (i + 1)) + 1 by omega, Nat.add_mul, Nat.one_mul], pow_add, ← Int.ediv_ediv_of_nonneg (Int.le_of_lt (pow_pos _)), show L - 1 - i = L - (i + 1) by omega]
      have hq : 0 ≤ x / 2 ^ ((L - (i + 1)) * w) := Int.ediv_nonneg h0 (Int.le_of_lt (pow_pos _))
      have hq2 : x / 2 ^ ((L - (i + 1)) * w) ≤ x := Int.ediv_le_self _ h0
      generalize x / 2 ^ ((L - (i + 1)) * w) = y at *
      have := Int.mul_ediv_add_emod y (2 ^ w)
      have hp := pow_pos w
      rw [Int.emod_emod, Int.mul_comm, this]
      exact Int.emod_eq_of_lt hq (by omega)
  have := key L (Nat.le_refl _)
  rw [Nat.sub_self, Nat.zero_mul, Int.pow_zero, Int.ediv_one] at this
  exact this
theorem joinF_range (w : Nat) (a d : Int) : 0 ≤ joinF w a d ∧ joinF w a d < 18446744073709551616 := by unfold joinF; omega
theorem joinS_range (w : Nat) (l : List Int) : 0 ≤ joinS w l ∧ joinS w l < 18446744073709551616 := by
  unfold joinS
  have : ∀ (l : List Int) (a : Int), 0 ≤ a ∧ a < 18446744073709551616 → 0 ≤ l.foldl (joinF w) a ∧ l.foldl (joinF w) a < 18446744073709551616 := by
    intro l
    induction l with
    | nil => intro a h; exact h
    | cons d l ih => intro a _; exact ih _ (joinF_range w a d)
  exact this l 0 (by omega)
theorem join_zeros (w : Nat) (l : List Int) : joinS w (0 :: 0 :: l) = joinS w l := by
  unfold joinS
  simp only [List.foldl_cons]
  congr 1
  simp [joinF]
theorem join_snoc (w : Nat) (l : List Int) (d : Int) : joinS w (l ++ [d]) = (joinS w l * 2 ^ w + d % 2 ^ w) % 18446744073709551616 := by
  unfold joinS
  simp [List.foldl_append, joinF]
theorem u64m (n : Int) : IntKind.u64.wrap n = n % 18446744073709551616 := by simp [IntKind.wrap, IntKind.bits, IntKind.signed]
theorem bits2 (x y : Int) (h0 : 0 ≤ x) (h1 : x < 18446744073709551616) (h2 : 0 ≤ y) (h3 : y < 18446744073709551616) :
    Go.bits .and .u64 x y = ((x.toNat &&& y.toNat : Nat) : Int) ∧ Go.bits .or .u64 x y = ((x.toNat ||| y.toNat : Nat) : Int) ∧ Go.bits .xor .u64 x y = ((x.toNat ^^^ y.toNat : Nat) : Int) := by
  obtain ⟨a, rfl⟩ := Int.eq_ofNat_of_zero_le h0
  obtain ⟨b, rfl⟩ := Int.eq_ofNat_of_zero_le h2
  have ha : a < 2 ^ 64 := by omega
  have hb : b < 2 ^ 64 := by omega
  have hw : ∀ n : Int, 0 ≤ n → n < 2 ^ 64 → IntKind.u64.wrap n = n := fun n h0 h1 => by rw [u64m]; omega
  have h := bits_nat .u64 64 (by decide) hw a b ha hb
  refine ⟨h.1, h.2, ?_⟩
  simp only [Go.bits, BitVec.ofInt_natCast, Int.toNat_natCast]
  show IntKind.u64.wrap ((BitVec.ofNat 64 a ^^^ BitVec.ofNat 64 b).toNat : Int) = _
  have hx : (BitVec.ofNat 64 a ^^^ BitVec.ofNat 64 b).toNat = a ^^^ b := by
    rw [BitVec.toNat_xor, BitVec.toNat_ofNat, BitVec.toNat_ofNat, Nat.mod_eq_of_lt ha, Nat.mod_eq_of_lt hb]
  rw [hx]
  have := Nat.xor_lt_two_pow ha hb
  exact hw _ (by omega) (by exact_mod_cast this)
theorem bitsN (a b : Nat) (ha : a < 2 ^ 64) (hb : b < 2 ^ 64) :
    Go.bits .and .u64 (a : Int) (b : Int) = ((a &&& b : Nat) : Int) ∧ Go.bits .or .u64 (a : Int) (b : Int) = ((a ||| b : Nat) : Int) ∧ Go.bits .xor .u64 (a : Int) (b : Int) = ((a ^^^ b : Nat) : Int) := by
  have h := bits2 (a : Int) (b : Int) (by omega) (by omega) (by omega) (by omega)
  simpa using h
theorem andI64 (x : Int) (i : Nat) (hi : i ≤ 62) (h0 : 0 ≤ x) (h1 : x < 9223372036854775808) : Go.bits .and .i64 x (2 ^ i - 1) = x % 2 ^ i :=
  Go.bits_mask .i64 63 (by decide) (fun n h0 h1 => by rw [IntKind.wrap_i64]; omega) i (by omega) x h0 (by omega)
theorem maskU (x : Int) (i : Nat) (hi : i ≤ 64) (h0 : 0 ≤ x) (h1 : x < 18446744073709551616) : Go.bits .and .u64 x (2 ^ i - 1) = x % 2 ^ i :=
  Go.bits_mask .u64 64 (by decide) (fun n h0 h1 => by rw [u64m]; omega) i hi x h0 (by omega)
/-- Something above what is below. -/
theorem orU (x v : Int) (i : Nat) (h0 : 0 ≤ x) (h1 : x < 2 ^ i) (hx : x < 18446744073709551616) (hv : 0 ≤ v) (hb : v * 2 ^ i < 18446744073709551616) : Go.bits .or .u64 x (v * 2 ^ i) = x + v * 2 ^ i ∧ Go.bits .or .u64 (v * 2 ^ i) x = v * 2 ^ i + x := by
  obtain ⟨a, rfl⟩ := Int.eq_ofNat_of_zero_le h0
  obtain ⟨b, rfl⟩ := Int.eq_ofNat_of_zero_le hv
  have ha : a < 2 ^ i := by exact_mod_cast h1
  have hp := Nat.two_pow_pos i
  have e : ((b : Int) * 2 ^ i) = ((b * 2 ^ i : Nat) : Int) := by push_cast; rfl
  have hb' : b * 2 ^ i < 2 ^ 64 := by rw [e] at hb; omega
  have hk : 2 ^ i * b + a = 2 ^ i * b ||| a := Nat.two_pow_add_eq_or_of_lt ha b
  have hi : a < 2 ^ 64 := by omega
  rw [e, (bitsN a _ hi hb').2.1, (bitsN _ a hb' hi).2.1]
  rw [Nat.mul_comm b] at *
  rw [Nat.or_comm a, ← hk]
  constructor <;> push_cast <;> omega
theorem okW_yes {w : Int} {ws : List Int} {n : Int} (h0 : 0 ≤ w) (h1 : w ≤ 62) (h2 : n + w ≤ 64) : okW (w :: ws) n = okW ws (n + w) := by
  simp [okW, h0, h1, h2]
theorem okW_no {w : Int} {ws : List Int} {n : Int} (h : w < 0 ∨ 62 < w ∨ 64 < n + w) : okW (w :: ws) n = false := by
  rcases h with h | h | h <;> simp [okW] <;> omega
theorem shl_in {v : Int} {w low : Nat} (h0 : 0 ≤ v) (h1 : v < 2 ^ w) (h : low + w ≤ 64) : 0 ≤ v * 2 ^ low ∧ v * 2 ^ low < 18446744073709551616 := by
  have hp := pow_pos low
  refine ⟨Int.mul_nonneg h0 (Int.le_of_lt hp), ?_⟩
  have h2 : v * 2 ^ low < 2 ^ w * 2 ^ low := Int.mul_lt_mul_of_pos_right h1 hp
  rw [← pow_add] at h2
  have h3 := Nat.pow_le_pow_right (n := 2) (by decide) (show w + low ≤ 64 by omega)
  have h4 : (2 : Int) ^ (w + low) ≤ 2 ^ 64 := by exact_mod_cast h3
  have : (2 : Int) ^ 64 = 18446744073709551616 := by decide
  omega
theorem shlU {v : Int} {low : Nat} (hl : low ≤ 64) (h : 0 ≤ v * 2 ^ low ∧ v * 2 ^ low < 18446744073709551616) : IntKind.u64.wrap (v * 2 ^ min (low : Int).toNat IntKind.u64.bits) = v * 2 ^ low := by
  rw [Int.toNat_natCast, show min low IntKind.u64.bits = low from by (have : IntKind.u64.bits = 64 := rfl); omega, u64m]; omega
theorem pack_bd {x v : Int} {w low : Nat} (hx : x < 2 ^ low) (h1 : v < 2 ^ w) : x + v * 2 ^ low < 2 ^ (low + w) := by
  have hp := pow_pos low
  have h2 : (v + 1) * 2 ^ low ≤ 2 ^ w * 2 ^ low := Int.mul_le_mul_of_nonneg_right (by omega) (Int.le_of_lt hp)
  rw [Int.add_mul, Int.one_mul] at h2
  rw [pow_add, Int.mul_comm (2 ^ low)]; omega
theorem lt64 {x : Int} {low : Nat} (h : low ≤ 64) (hx : x < 2 ^ low) : x < 18446744073709551616 := by
  have h3 := Nat.pow_le_pow_right (n := 2) (by decide) h
  have h4 : (2 : Int) ^ low ≤ 2 ^ 64 := by exact_mod_cast h3
  have : (2 : Int) ^ 64 = 18446744073709551616 := by decide
  omega
theorem packG_yes {w v : Int} {ws vs : List Int} {low : Nat} {x : Int} (h0 : 0 ≤ v) (h1 : v < 2 ^ w.toNat) : packG (w :: ws) (v :: vs) low x = packG ws vs (low + w.toNat) (x + v * 2 ^ low) := by
  rw [packG, if_pos ⟨h0, h1⟩]
theorem packG_no {w v : Int} {ws vs : List Int} {low : Nat} {x : Int} (h : v < 0 ∨ 2 ^ w.toNat ≤ v) : packG (w :: ws) (v :: vs) low x = (0, 1) := by
  rw [packG, if_neg (by omega)]
theorem packS_ok {ws vs : List Int} (h1 : okW ws 0 = true) (h2 : vs.length = ws.length) : packS ws vs = packG ws vs 0 0 := if_pos ⟨h1, h2⟩
theorem packS_no {ws vs : List Int} (h : okW ws 0 = false ∨ vs.length ≠ ws.length) : packS ws vs = (0, 1) := by
  unfold packS
  rw [if_neg]
  rintro ⟨h1, h2⟩
  rcases h with h | h
  · rw [h1] at h; cases h
  · exact h h2
/-- v times a power, modulo a word. -/
theorem mulU {v : Int} {w low : Nat} (h0 : 0 ≤ v) (h1 : v < 2 ^ w) (h : low + w ≤ 64) : IntKind.u64.wrap (v * (2 ^ low % 18446744073709551616)) = v * 2 ^ low := by
  have hs := shl_in h0 h1 h
  rw [u64m]
  by_cases hl : low ≤ 63
  · have h3 := Nat.pow_le_pow_right (n := 2) (by decide) hl
    have h4 : (2 : Int) ^ low ≤ 2 ^ 63 := by exact_mod_cast h3
    have h5 : (2 : Int) ^ 63 = 9223372036854775808 := by decide
    have hp := pow_pos low
    rw [Int.emod_eq_of_lt (a := (2 : Int) ^ low) (by omega) (by omega)]; omega
  · obtain rfl : low = 64 := by omega
    obtain rfl : w = 0 := by omega
    have : v = 0 := by simp at h1; omega
    subst this; rfl
/-- What is on a slice that is read from i on. -/
theorem unG_step {ws : List Int} {i : Nat} (h : i < ws.length) (x : Int) : unG (ws.drop i) x = x % 2 ^ (ws.getD i 0).toNat :: unG (ws.drop (i + 1)) (x / 2 ^ (ws.getD i 0).toNat) := by
  rw [List.drop_eq_getElem_cons h, unG, List.getD_eq_getElem?_getD, List.getElem?_eq_getElem h, Option.getD_some]
theorem unR_step {ws : List Int} {i : Nat} (h : i < ws.length) (x : Int) : unR (ws.drop i) x = unR (ws.drop (i + 1)) (x / 2 ^ (ws.getD i 0).toNat) := by
  rw [List.drop_eq_getElem_cons h, unR, List.getD_eq_getElem?_getD, List.getElem?_eq_getElem h, Option.getD_some]
theorem okW_at {ws : List Int} {i : Nat} {n : Int} (h : i < ws.length) (ho : okW (ws.drop i) n = true) : 0 ≤ ws.getD i 0 ∧ ws.getD i 0 ≤ 62 ∧ n + ws.getD i 0 ≤ 64 ∧ okW (ws.drop (i + 1)) (n + ws.getD i 0) = true := by
  rw [List.drop_eq_getElem_cons h] at ho
  rw [List.getD_eq_getElem?_getD, List.getElem?_eq_getElem h, Option.getD_some]
  exact okW_cons ho
theorem pow62 {w : Int} (h0 : 0 ≤ w) (h1 : w ≤ 62) : (2 : Int) ^ w.toNat % 18446744073709551616 = 2 ^ w.toNat ∧ (0 : Int) < 2 ^ w.toNat ∧ (2 : Int) ^ w.toNat ≤ 4611686018427387904 := by
  have h1 := Nat.pow_le_pow_right (n := 2) (by decide) (show w.toNat ≤ 62 by omega)
  have h2 : (2 : Int) ^ w.toNat ≤ 2 ^ 62 := by exact_mod_cast h1
  have h3 := pow_pos w.toNat
  have : (2 : Int) ^ 62 = 4611686018427387904 := by decide
  omega
def wfI (l : List Int) : Prop := ∀ x ∈ l, -9223372036854775808 ≤ x ∧ x ≤ 9223372036854775807
theorem wfI.at_ {l : List Int} (h : wfI l) {i : Nat} (hi : i < l.length) : -9223372036854775808 ≤ l.getD i 0 ∧ l.getD i 0 ≤ 9223372036854775807 := by
  rw [List.getD_eq_getElem?_getD, List.getElem?_eq_getElem hi, Option.getD_some]
  exact h _ (List.getElem_mem hi)
theorem pow16 {k : Nat} (h : k ≤ 16) : (0 : Int) < 2 ^ k ∧ (2 : Int) ^ k ≤ 65536 ∧ (2 : Int) ^ k % 18446744073709551616 = 2 ^ k := by
  have h1 := Nat.pow_le_pow_right (n := 2) (by decide) h
  have h2 : (2 : Int) ^ k ≤ 2 ^ 16 := by exact_mod_cast h1
  have h3 := pow_pos k
  have : (2 : Int) ^ 16 = 65536 := by decide
  omega
theorem emod64 (d : Int) {k : Nat} (h : k ≤ 16) : d % 18446744073709551616 % 2 ^ k = d % 2 ^ k := by
  have e : (18446744073709551616 : Int) = 2 ^ k * 2 ^ (64 - k) := by rw [← pow_add, show k + (64 - k) = 64 by omega]; decide
  exact Int.emod_emod_of_dvd _ ⟨_, e⟩
theorem high64 (acc : Int) {k : Nat} (h : k ≤ 16) : acc * 2 ^ k % 18446744073709551616 = acc % 2 ^ (64 - k) * 2 ^ k := by
  have e : (18446744073709551616 : Int) = 2 ^ (64 - k) * 2 ^ k := by rw [← pow_add, show 64 - k + k = 64 by omega]; decide
  rw [e, Int.mul_comm acc, Int.mul_comm (2 ^ (64 - k)), Int.mul_emod_mul_of_pos _ _ (pow_pos k), Int.mul_comm]
theorem high_bd (acc d : Int) {k : Nat} (h : k ≤ 16) : 0 ≤ acc % 2 ^ (64 - k) * 2 ^ k ∧ acc % 2 ^ (64 - k) * 2 ^ k + d % 2 ^ k < 18446744073709551616 ∧ 0 ≤ d % 2 ^ k ∧ d % 2 ^ k < 2 ^ k := by
  have p1 := pow_pos (64 - k)
  have p2 := pow_pos k
  have e : (18446744073709551616 : Int) = 2 ^ (64 - k) * 2 ^ k := by rw [← pow_add, show 64 - k + k = 64 by omega]; decide
  have b1 := Int.emod_nonneg acc (Int.ne_of_gt p1)
  have b2 := Int.emod_lt_of_pos acc p1
  have b3 := Int.emod_nonneg d (Int.ne_of_gt p2)
  have b4 := Int.emod_lt_of_pos d p2
  have h2 : (acc % 2 ^ (64 - k) + 1) * 2 ^ k ≤ 2 ^ (64 - k) * 2 ^ k := Int.mul_le_mul_of_nonneg_right (by omega) (Int.le_of_lt p2)
  rw [Int.add_mul, Int.one_mul, ← e] at h2
  exact ⟨Int.mul_nonneg b1 (Int.le_of_lt p2), by omega, b3, b4⟩
theorem joinF_eq (acc d : Int) {k : Nat} (h : k ≤ 16) : joinF k acc d = acc % 2 ^ (64 - k) * 2 ^ k + d % 2 ^ k := by
  have hb := high_bd acc d h
  unfold joinF
  rw [← Int.emod_add_emod, high64 acc h]
  omega
theorem join_or (acc d : Int) {k : Nat} (h : k ≤ 16) : Go.bits .or .u64 (acc * 2 ^ k % 18446744073709551616) (d % 2 ^ k) = joinF k acc d := by
  have hb := high_bd acc d h
  have hp := pow16 h
  rw [high64 acc h, joinF_eq acc d h]
  exact (orU (d % 2 ^ k) (acc % 2 ^ (64 - k)) k hb.2.2.1 hb.2.2.2 (by omega) (Int.emod_nonneg _ (Int.ne_of_gt (pow_pos _))) (by omega)).2
theorem join_add (acc d : Int) {k : Nat} (h : k ≤ 16) : IntKind.u64.wrap (acc * 2 ^ k % 18446744073709551616 + d % 2 ^ k) = joinF k acc d := by
  rw [u64m, high64 acc h, joinF_eq acc d h]
  have hb := high_bd acc d h
  omega
theorem joinS_step {l : List Int} {i k : Nat} {acc : Int} (h : i < l.length) (e : (l.drop i).foldl (joinF k) acc = joinS k l) : (l.drop (i + 1)).foldl (joinF k) (joinF k acc (l.getD i 0)) = joinS k l := by
  rw [List.drop_eq_getElem_cons h, List.foldl_cons] at e
  rw [List.getD_eq_getElem?_getD, List.getElem?_eq_getElem h, Option.getD_some]
  exact e
theorem digN_at {k i : Nat} (h : 1 ≤ k) (hi : i < digN k) : (digN k - 1 - i) * k ≤ 63 := by
  have h1 := Nat.div_mul_le_self (63 + k) k
  have h2 : (digN k - 1 - i) * k ≤ (digN k - 1) * k := Nat.mul_le_mul_right _ (by omega)
  have h3 : (digN k - 1) * k = digN k * k - k := by rw [Nat.sub_mul, Nat.one_mul]
  have h4 : digN k * k ≤ 63 + k := h1
  omega
theorem digN_is {k : Nat} (h : 1 ≤ k) : IntKind.i64.wrap ((64 + (k : Int) - 1).tdiv k) = (digN k : Int) := by
  have e : (64 + (k : Int) - 1) = ((63 + k : Nat) : Int) := by omega
  have h2 := (digN_le k h).2
  rw [e, Int.tdiv_eq_ediv_of_nonneg (by omega), ← Int.natCast_ediv, IntKind.wrap_i64, show (63 + k) / k = digN k from rfl]
  omega
def dS (x w : Int) : List Int := if 1 ≤ w ∧ w ≤ 16 then digL x w.toNat else []
def jS (l : List Int) (w : Int) : Int := if 1 ≤ w ∧ w ≤ 16 then joinS w.toNat l else 0
theorem take_same {a b : List Int} {i : Nat} (h1 : i < a.length) (h2 : i < b.length) (h : a.take i = b.take i) (e : a.getD i 0 = b.getD i 0) : a.take (i + 1) = b.take (i + 1) := by
  rw [List.getD_eq_getElem?_getD, List.getD_eq_getElem?_getD, List.getElem?_eq_getElem h1, List.getElem?_eq_getElem h2] at e
  have e2 : a[i] = b[i] := by simpa using e
  have t1 := List.take_succ_eq_append_getElem h1
  have t2 := List.take_succ_eq_append_getElem h2
  rw [t1, t2, h, e2]
theorem fill_up {α : Type} (h : Nat → α) (z : α) (i : Nat) : (fun j => if j = i then h i else if j < i then h j else z) = fun j => if j < i + 1 then h j else z := by
  funext j
  by_cases e : j = i
  · subst e; rw [if_pos rfl, if_pos (by omega)]
  · rw [if_neg e]
    by_cases h2 : j < i
    · rw [if_pos h2, if_pos (by omega)]
    · rw [if_neg h2, if_neg (by omega)]
theorem fill_down {α : Type} (h : Nat → α) (z : α) (i : Nat) : (fun j => if j = i then h i else if i < j then h j else z) = fun j => if i ≤ j then h j else z := by
  funext j
  by_cases e : j = i
  · subst e; rw [if_pos rfl, if_pos (by omega)]
  · rw [if_neg e]
    by_cases h2 : i < j
    · rw [if_pos h2, if_pos (by omega)]
    · rw [if_neg h2, if_neg (by omega)]
/-! ## The words of a map of bits -/
def wordN (f : Nat → Bool) (j : Nat) : Nat := wdN (fun b => f (64 * j + b)) 64
theorem wordN_lt (f : Nat → Bool) (j : Nat) : wordN f j < 2 ^ 64 := wdN_lt _ 64
theorem wordN_bit (f : Nat → Bool) (j b : Nat) (hb : b < 64) : (wordN f j).testBit b = f (64 * j + b) := by
  unfold wordN; rw [wdN_testBit]; simp [hb]
theorem wordN_false (j : Nat) : wordN (fun _ => false) j = 0 := by
  symm; apply eq_wdN (by decide); intro i hi; simp
theorem word_get (f : Nat → Bool) (p : Nat) : (Go.bits .and .u64 (wordN f (p / 64) : Int) ((2 ^ (p % 64) : Nat) : Int) != 0) = f p := by
  have hp : 2 ^ (p % 64) < 2 ^ 64 := Nat.pow_lt_pow_right (by decide) (by omega)
  rw [(bitsN _ _ (wordN_lt f (p / 64)) hp).1]
  have hb := wordN_bit f (p / 64) (p % 64) (by omega)
  rw [show 64 * (p / 64) + p % 64 = p by omega] at hb
  cases hf : f p
  · rw [hf] at hb
    have : wordN f (p / 64) &&& 2 ^ (p % 64) = 0 := by
      apply Nat.eq_of_testBit_eq
      intro i
      rw [Nat.testBit_and, Nat.testBit_two_pow, Nat.zero_testBit]
      by_cases e : p % 64 = i
      · subst e; simp [hb]
      · simp [e]
    rw [this]; rfl
  · rw [hf] at hb
    rw [bne_iff_ne]
    intro h0
    have h0' : wordN f (p / 64) &&& 2 ^ (p % 64) = 0 := by exact_mod_cast h0
    have := congrArg (fun x : Nat => x.testBit (p % 64)) h0'
    simp [hb] at this
theorem word_set (f : Nat → Bool) (p : Nat) (on : Bool) (h : f p ≠ on) : Go.bits .xor .u64 (wordN f (p / 64) : Int) ((2 ^ (p % 64) : Nat) : Int) = (wordN (setB f p on) (p / 64) : Int) := by
  have hp : 2 ^ (p % 64) < 2 ^ 64 := Nat.pow_lt_pow_right (by decide) (by omega)
  rw [(bitsN _ _ (wordN_lt f (p / 64)) hp).2.2]
  congr 1
  apply eq_wdN
  · exact Nat.xor_lt_two_pow (wordN_lt _ _) hp
  · intro i hi
    rw [Nat.testBit_xor, wordN_bit f _ _ hi, Nat.testBit_two_pow]
    unfold setB
    by_cases e : p % 64 = i
    · subst e
      rw [show 64 * (p / 64) + p % 64 = p by omega, if_pos rfl]
      cases hf : f p <;> cases on <;> simp_all
    · rw [if_neg (by omega)]; simp [e]
theorem word_other (f : Nat → Bool) (p j : Nat) (on : Bool) (h : j ≠ p / 64) : wordN (setB f p on) j = wordN f j := by
  unfold wordN
  apply wdN_congr
  intro i hi
  unfold setB
  rw [if_neg (by omega)]
theorem word_cnt (f : Nat → Bool) (j : Nat) : cntB (wordN f j).testBit 64 = cntB (fun b => f (64 * j + b)) 64 :=
  cntB_congr 64 (fun i hi => wordN_bit f j i hi)
def newN (n : Int) : Nat := (min (max n 0) 65536).toNat
theorem newN_le (n : Int) : newN n ≤ 65536 := by unfold newN; omega
def getB (f : Nat → Bool) (n : Nat) (i : Int) : Bool := decide (0 ≤ i ∧ i < n) && f i.toNat
theorem getB_out {f : Nat → Bool} {n : Nat} {i : Int} (h : i < 0 ∨ (n : Int) ≤ i) : getB f n i = false := by
  unfold getB; rw [decide_eq_false (by omega)]; rfl
theorem getB_in {f : Nat → Bool} {n j : Nat} (h : j < n) : getB f n (j : Int) = f j := by
  unfold getB; rw [decide_eq_true (by omega), Int.toNat_natCast]; rfl
def setOK (f : Nat → Bool) (n : Nat) (i : Int) (on : Bool) : Bool := decide (0 ≤ i ∧ i < n) && (f i.toNat != on)
def setF (f : Nat → Bool) (n : Nat) (i : Int) (on : Bool) : Nat → Bool := if setOK f n i on = true then setB f i.toNat on else f
theorem set_out {f : Nat → Bool} {n : Nat} {i : Int} {on : Bool} (h : i < 0 ∨ (n : Int) ≤ i) : setOK f n i on = false ∧ setF f n i on = f := by
  have : setOK f n i on = false := by unfold setOK; rw [decide_eq_false (by omega)]; rfl
  exact ⟨this, by unfold setF; rw [this]; rfl⟩
theorem set_same {f : Nat → Bool} {n j : Nat} {on : Bool} (h : f j = on) : setOK f n (j : Int) on = false ∧ setF f n (j : Int) on = f := by
  have : setOK f n (j : Int) on = false := by unfold setOK; rw [Int.toNat_natCast, h]; simp
  exact ⟨this, by unfold setF; rw [this]; rfl⟩
theorem set_in {f : Nat → Bool} {n j : Nat} {on : Bool} (h : j < n) (hf : f j ≠ on) : setOK f n (j : Int) on = true ∧ setF f n (j : Int) on = setB f j on := by
  have : setOK f n (j : Int) on = true := by unfold setOK; rw [decide_eq_true (by omega), Int.toNat_natCast]; simpa using hf
  exact ⟨this, by unfold setF; rw [this]; rfl⟩
theorem setB_shut {f : Nat → Bool} {n j : Nat} {on : Bool} (h : j < n) (hz : ∀ p, n ≤ p → f p = false) : ∀ p, n ≤ p → setB f j on p = false := fun p hp => by
  unfold setB; rw [if_neg (by omega)]; exact hz p hp
theorem setF_shut {f : Nat → Bool} {n : Nat} {i : Int} {on : Bool} (hz : ∀ p, n ≤ p → f p = false) : ∀ p, n ≤ p → setF f n i on p = false := by
  unfold setF
  split
  · rename_i h
    unfold setOK at h
    simp only [Bool.and_eq_true, decide_eq_true_eq] at h
    exact setB_shut (by omega) hz
  · exact hz
def nx (f : Nat → Bool) (on : Bool) : Nat → Nat → Int
  | 0, _ => -1
  | k + 1, i => if f i = on then (i : Int) else nx f on k (i + 1)
theorem nx_none (f : Nat → Bool) (on : Bool) : ∀ k i, (∀ p, i ≤ p → p < i + k → f p ≠ on) → nx f on k i = -1
  | 0, _, _ => rfl
  | k + 1, i, h => by
    unfold nx
    rw [if_neg (h i (by omega) (by omega))]
    exact nx_none f on k (i + 1) (fun p h1 h2 => h p (by omega) (by omega))
theorem nx_found (f : Nat → Bool) (on : Bool) (q : Nat) : ∀ k i, i ≤ q → q < i + k → f q = on → (∀ p, i ≤ p → p < q → f p ≠ on) → nx f on k i = q
  | 0, i, h1, h2, _, _ => by omega
  | k + 1, i, h1, h2, hq, h => by
    unfold nx
    by_cases e : f i = on
    · rw [if_pos e]
      by_cases e2 : i = q
      · rw [e2]
      · exact absurd e (h i (by omega) (by omega))
    · rw [if_neg e]
      have : i ≠ q := fun e2 => e (e2 ▸ hq)
      exact nx_found f on q k (i + 1) (by omega) (by omega) hq (fun p h1 h2 => h p (by omega) h2)
def nextV (f : Nat → Bool) (n : Nat) (from_ : Int) (on : Bool) : Int := nx f on (n - (max from_ 0).toNat) (max from_ 0).toNat
theorem nextV_none {f : Nat → Bool} {n : Nat} {from_ : Int} {on : Bool} (h : ∀ p, (max from_ 0).toNat ≤ p → p < n → f p ≠ on) : nextV f n from_ on = -1 :=
  nx_none f on _ _ (fun p h1 h2 => h p h1 (by omega))
theorem nextV_found {f : Nat → Bool} {n : Nat} {from_ : Int} {on : Bool} (q : Nat) (h1 : (max from_ 0).toNat ≤ q) (h2 : q < n) (h3 : f q = on) (h : ∀ p, (max from_ 0).toNat ≤ p → p < q → f p ≠ on) : nextV f n from_ on = q :=
  nx_found f on q _ _ h1 (by omega) h3 h
/-- What a search has come to. -/
theorem nextV_cases (f : Nat → Bool) (n : Nat) (from_ : Int) (on : Bool) : (nextV f n from_ on = -1 ∧ ∀ p, (max from_ 0).toNat ≤ p → p < n → f p ≠ on) ∨ ∃ q : Nat, nextV f n from_ on = q ∧ (max from_ 0).toNat ≤ q ∧ q < n ∧ f q = on ∧ ∀ p, (max from_ 0).toNat ≤ p → p < q → f p ≠ on := by
  unfold nextV
  generalize (max from_ 0).toNat = a
  have key : ∀ k i, (nx f on k i = -1 ∧ ∀ p, i ≤ p → p < i + k → f p ≠ on) ∨ ∃ q : Nat, nx f on k i = q ∧ i ≤ q ∧ q < i + k ∧ f q = on ∧ ∀ p, i ≤ p → p < q → f p ≠ on := by
    intro k
    induction k with
    | zero => intro i; exact .inl ⟨rfl, fun p h1 h2 => by omega⟩
    | succ k ih =>
      intro i
      unfold nx
      by_cases e : f i = on
      · rw [if_pos e]; exact .inr ⟨i, rfl, by omega, by omega, e, fun p h1 h2 => by omega⟩
      · rw [if_neg e]
        rcases ih (i + 1) with ⟨h1, h2⟩ | ⟨q, h1, h2, h3, h4, h5⟩
        · refine .inl ⟨h1, fun p hp1 hp2 => ?_⟩
          by_cases e2 : p = i
          · rw [e2]; exact e
          · exact h2 p (by omega) (by omega)
        · refine .inr ⟨q, h1, by omega, by omega, h4, fun p hp1 hp2 => ?_⟩
          by_cases e2 : p = i
          · rw [e2]; exact e
          · exact h5 p (by omega) hp2
  rcases key (n - a) a with ⟨h1, h2⟩ | ⟨q, h1, h2, h3, h4, h5⟩
  · exact .inl ⟨h1, fun p hp1 hp2 => h2 p hp1 (by omega)⟩
  · exact .inr ⟨q, h1, h2, by omega, h4, h5⟩
theorem compl_bit (x : Nat) (hx : x < 2 ^ 64) : ∃ y : Nat, Go.bits .xor .u64 18446744073709551615 (x : Int) = (y : Int) ∧ y < 2 ^ 64 ∧ ∀ b, b < 64 → y.testBit b = !x.testBit b := by
  refine ⟨18446744073709551615 ^^^ x, (bitsN 18446744073709551615 x (by decide) hx).2.2, Nat.xor_lt_two_pow (by decide) hx, fun b hb => ?_⟩
  rw [Nat.testBit_xor, show (18446744073709551615 : Nat) = 2 ^ 64 - 1 from by decide, Nat.testBit_two_pow_sub_one]
  simp [hb]
theorem clear_low (x L : Nat) (hx : x < 2 ^ 64) (hL : L < 64) : x / 2 ^ L * 2 ^ L < 2 ^ 64 ∧ ∀ b, b < 64 → (x / 2 ^ L * 2 ^ L).testBit b = (decide (L ≤ b) && x.testBit b) := by
  have h1 := Nat.div_mul_le_self x (2 ^ L)
  refine ⟨by omega, fun b hb => ?_⟩
  rw [Nat.testBit_mul_two_pow, Nat.testBit_div_two_pow]
  by_cases h : L ≤ b
  · rw [show b - L + L = b by omega]
  · simp [h]
def tabT : List Nat := [0, 1, 56, 2, 57, 49, 28, 3, 61, 58, 42, 50, 38, 29, 17, 4, 62, 47, 59, 36, 45, 43, 51, 22, 53, 39, 33, 30, 24, 18, 12, 5, 63, 55, 48, 27, 60, 41, 37, 16, 46, 35, 44, 21, 52, 32, 23, 11, 54, 26, 40, 15, 34, 20, 31, 10, 25, 14, 19, 9, 13, 8, 7, 6]
theorem tab_all : ∀ t : Fin 64, tabT.getD (2 ^ t.val * 285870213051353865 % 18446744073709551616 / 288230376151711744) 0 = t.val ∧ 2 ^ t.val * 285870213051353865 % 18446744073709551616 / 288230376151711744 < 64 := by decide +kernel
theorem low_and (x t m : Nat) (h : x = 2 ^ t * (2 * m + 1)) (hx : x < 2 ^ 64) : Go.bits .and .u64 (x : Int) (IntKind.u64.wrap (0 - (x : Int))) = ((2 ^ t : Nat) : Int) := by
  have h0 : 0 < x := by rw [h]; exact Nat.mul_pos (Nat.two_pow_pos t) (by omega)
  have e : IntKind.u64.wrap (0 - (x : Int)) = ((2 ^ 64 - x : Nat) : Int) := by rw [u64m]; omega
  rw [e, (bitsN x _ hx (by omega)).1]
  congr 1
  rw [h] at hx ⊢
  exact low_bit t 64 m hx
end Go.Proofs.Ytabjdjkkpbkpfaa.BM
