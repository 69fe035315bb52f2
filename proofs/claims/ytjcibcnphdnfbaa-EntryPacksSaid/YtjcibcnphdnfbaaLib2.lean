/- What the reference's entry functions compute, in plain numbers: the same formulas. -/
import Derived.Test.YtjcibcnphdnfbaaPEntryTurnsx7
import Derived.Test.YtjcibcnphdnfbaaLib1
namespace Go.Proofs.Ytjcibcnphdnfbaa.Pure
open Go.RowKit Go.Proofs.Ytjcibcnphdnfbaa.PEntryTurns Go.Proofs.YtjcibcnphdnfbaaW.PrintWords Go.Proofs.YtjcibcnphdnfbaaW.PrintLast Go.Proofs.YtjcibcnphdnfbaaW.PrintMore
set_option linter.unusedVariables false
set_option linter.unusedSimpArgs false
theorem pw30 (n : Int) (r : Int) (h : millpondref01_power.f 30 n = some r) (k : Nat) (hk : 30 ≤ k) : millpondref01_power.f k n = some r := at_rounds (millpondref01_power.mono n) hk h
theorem pw0 : millpondref01_power.f 30 0 = some 1 := by simp [millpondref01_power.f, millpondref01_power.l0]
theorem pw1 : millpondref01_power.f 30 1 = some 2 := by simp [millpondref01_power.f, millpondref01_power.l0, u64_wrap, wrap64]
theorem pw2 : millpondref01_power.f 30 2 = some 4 := by simp [millpondref01_power.f, millpondref01_power.l0, u64_wrap, wrap64]
theorem pw24 : millpondref01_power.f 30 24 = some 16777216 := by simp [millpondref01_power.f, millpondref01_power.l0, u64_wrap, wrap64]
theorem pw26 : millpondref01_power.f 30 26 = some 67108864 := by simp [millpondref01_power.f, millpondref01_power.l0, u64_wrap, wrap64]
theorem pw27 : millpondref01_power.f 30 27 = some 134217728 := by simp [millpondref01_power.f, millpondref01_power.l0, u64_wrap, wrap64]
theorem rUnp (x : Int) (h0 : 0 ≤ x) (h1 : x < 18446744073709551616) : millpondref01_Unpack.f 50 [2, 24, 1, 1] x = some (if x < 268435456 then ([x % 4, x / 4 % 16777216, x / 67108864 % 2, x / 134217728 % 2], 0) else ([], 1)) := by
  have a1 := pw30 1 2 pw1
  have a2 := pw30 2 4 pw2
  have a24 := pw30 24 16777216 pw24
  have n1 : 0 ≤ x / 4 := by omega
  have d1 : x / 4 % 18446744073709551616 = x / 4 := by omega
  have d2 : (x / 4).tdiv 16777216 % 18446744073709551616 = x / 67108864 := by rw [Int.tdiv_eq_ediv_of_nonneg n1]; omega
  have n2 : 0 ≤ x / 67108864 := by omega
  have d3 : (x / 67108864).tdiv 2 % 18446744073709551616 = x / 134217728 := by rw [Int.tdiv_eq_ediv_of_nonneg n2]; omega
  have n3 : 0 ≤ x / 134217728 := by omega
  have d4 : (x / 134217728).tdiv 2 % 18446744073709551616 = x / 268435456 := by rw [Int.tdiv_eq_ediv_of_nonneg n3]; omega
  have m1 : (x % 4 + 9223372036854775808) % 18446744073709551616 - 9223372036854775808 = x % 4 := by omega
  have m2 : ((x / 4).tmod 16777216 + 9223372036854775808) % 18446744073709551616 - 9223372036854775808 = x / 4 % 16777216 := by rw [Int.tmod_eq_emod_of_nonneg n1]; omega
  have m3 : ((x / 67108864).tmod 2 + 9223372036854775808) % 18446744073709551616 - 9223372036854775808 = x / 67108864 % 2 := by rw [Int.tmod_eq_emod_of_nonneg n2]; omega
  have m4 : ((x / 134217728).tmod 2 + 9223372036854775808) % 18446744073709551616 - 9223372036854775808 = x / 134217728 % 2 := by rw [Int.tmod_eq_emod_of_nonneg n3]; omega
  simp [millpondref01_Unpack.f, millpondref01_widths.f, millpondref01_widths.l0, millpondref01_widths.j1, millpondref01_Unpack.l0, rd, wrap64, u64_wrap, a1, a2, a24]
  rw [Int.tdiv_eq_ediv_of_nonneg h0, Int.tmod_eq_emod_of_nonneg h0]
  rw [d1, d2, d3, d4, m1, m2, m3, m4]
  by_cases h : x < 268435456
  · rw [if_pos h, if_neg (by omega)]
  · rw [if_neg h, if_pos (by omega)]
theorem rPack4 (k p w t : Int) (hk : 0 ≤ k ∧ k ≤ 2) (hw : 0 ≤ w ∧ w ≤ 1) (ht : 0 ≤ t ∧ t ≤ 1) (hp : -9223372036854775808 ≤ p ∧ p ≤ 9223372036854775807) :
    millpondref01_Pack.f 50 [2, 24, 1, 1] [k, p, w, t] = some (if 0 ≤ p ∧ p < 16777216 then (k + 4 * p + 67108864 * w + 134217728 * t, 0) else (0, 1)) := by
  have a0 := pw30 0 1 pw0
  have a1 := pw30 1 2 pw1
  have a2 := pw30 2 4 pw2
  have a24 := pw30 24 16777216 pw24
  have a26 := pw30 26 67108864 pw26
  have a27 := pw30 27 134217728 pw27
  have w1 : k % 18446744073709551616 = k := by omega
  have w2 : w % 18446744073709551616 = w := by omega
  have w3 : t % 18446744073709551616 = t := by omega
  have x1 : ¬ k < 0 := by omega
  have x2 : ¬ 4 ≤ k := by omega
  have x3 : ¬ w < 0 := by omega
  have x4 : ¬ 2 ≤ w := by omega
  have x5 : ¬ t < 0 := by omega
  have x6 : ¬ 2 ≤ t := by omega
  by_cases p0 : p < 0
  · have g : ¬ (0 ≤ p ∧ p < 16777216) := by omega
    rw [if_neg g]
    simp [millpondref01_Pack.f, millpondref01_widths.f, millpondref01_widths.l0, millpondref01_widths.j1, millpondref01_Pack.j0, millpondref01_Pack.l0, rd, wrap64, u64_wrap, a0, a1, a2, a24, a26, a27, w1, x1, x2, p0]
  · have w4 : p % 18446744073709551616 = p := by omega
    by_cases p1 : 16777216 ≤ p
    · have g : ¬ (0 ≤ p ∧ p < 16777216) := by omega
      rw [if_neg g]
      simp [millpondref01_Pack.f, millpondref01_widths.f, millpondref01_widths.l0, millpondref01_widths.j1, millpondref01_Pack.j0, millpondref01_Pack.l0, rd, wrap64, u64_wrap, a0, a1, a2, a24, a26, a27, w1, x1, x2, p0, w4, p1]
    · have g : 0 ≤ p ∧ p < 16777216 := by omega
      rw [if_pos g]
      have w5 : (k + p * 4 % 18446744073709551616) % 18446744073709551616 = k + 4 * p := by omega
      have w6 : (k + 4 * p + w * 67108864 % 18446744073709551616) % 18446744073709551616 = k + 4 * p + 67108864 * w := by omega
      have w7 : (k + 4 * p + 67108864 * w + t * 134217728 % 18446744073709551616) % 18446744073709551616 = k + 4 * p + 67108864 * w + 134217728 * t := by omega
      have w8 : (k + 4 * p + 67108864 * w) % 18446744073709551616 = k + 4 * p + 67108864 * w := by omega
      have w5' : (k + 4 * p) % 18446744073709551616 = k + 4 * p := by omega
      have w5 : (k + p * 4) % 18446744073709551616 = k + 4 * p := by omega
      have w6 : (k + 4 * p + w * 67108864) % 18446744073709551616 = k + 4 * p + 67108864 * w := by omega
      have w7 : (k + 4 * p + 67108864 * w + t * 134217728) % 18446744073709551616 = k + 4 * p + 67108864 * w + 134217728 * t := by omega
      simp [millpondref01_Pack.f, millpondref01_widths.f, millpondref01_widths.l0, millpondref01_widths.j1, millpondref01_Pack.j0, millpondref01_Pack.l0, rd, wrap64, u64_wrap, a0, a1, a2, a24, a26, a27, w1, w2, w3, w4, x1, x2, x3, x4, x5, x6, p0, p1]
      omega
theorem rBit (b : Bool) : millpondref06_bit.f b = some (if b = true then 1 else 0) := by cases b <;> rfl
theorem rPack_is (k p : Int) (w t : Bool) (hk : -9223372036854775808 ≤ k ∧ k ≤ 9223372036854775807) (hp : -9223372036854775808 ≤ p ∧ p ≤ 9223372036854775807) (n : Nat) (hn : 60 ≤ n) : millpondref06_Pack.f n k p w t = some (pk k p w t) := by
  have e : ∀ m : Nat, 59 ≤ m → ∀ c : Bool, millpondref06_Pack.j0 (m + 1) c k p w t = if c = true then some (0, 1) else (millpondref01_Pack.f m [2, 24, 1, 1] [k, p, if w = true then 1 else 0, if t = true then 1 else 0]).bind fun z => some (z.1, z.2) := by
    intro m _ c
    simp only [millpondref06_Pack.j0, rBit, Option.bind_some]
  obtain ⟨m, rfl⟩ : ∃ m, n = m + 1 := ⟨n - 1, by omega⟩
  have e' := e m (by omega)
  unfold millpondref06_Pack.f pk
  rw [e', e', e']
  by_cases hr : rightB k p w t = true
  · have hr' := hr
    simp only [rightB, Bool.or_eq_true, Bool.and_eq_true, decide_eq_true_eq, Bool.not_eq_true'] at hr'
    have hk0 : 0 ≤ k ∧ k ≤ 2 := by omega
    have hf := at_rounds (millpondref01_Pack.mono [2, 24, 1, 1] [k, p, if w = true then 1 else 0, if t = true then 1 else 0]) (show 50 ≤ m by omega) (rPack4 k p _ _ hk0 (by split <;> omega) (by split <;> omega) hp)
    have hc : (!(k == 0) || (!(p == 0) || (w || t))) = false ∨ ¬ k = 0 := by
      rcases hr' with (h | h) | h
      · left; simp [h]
      · right; omega
      · right; omega
    rw [if_neg (by omega), if_neg (by omega), hf, hr, Bool.true_and]
    simp only [Bool.and_eq_true, decide_eq_true_eq]
    have fin : ((some (if 0 ≤ p ∧ p < 16777216 then (k + 4 * p + 67108864 * (if w = true then 1 else 0) + 134217728 * (if t = true then 1 else 0), 0) else (0, 1))).bind fun z => some (z.1, z.2) : Option (Int × Int)) = some (if 0 ≤ p ∧ p < 16777216 then (wrd k p w t, 0) else (0, 1)) := by
      by_cases hq : 0 ≤ p ∧ p < 16777216
      · rw [if_pos hq, if_pos hq]
        cases w <;> cases t <;> simp [wrd]
      · rw [if_neg hq, if_neg hq]; rfl
    by_cases k0 : k = 0
    · have : (!(k == 0) || (!(p == 0) || (w || t))) = false := by rcases hc with h | h; exact h; exact absurd k0 h
      rw [if_pos k0, this, if_neg (by simp), fin]
    · rw [if_neg k0]
      simpa using fin
  · have hr0 : rightB k p w t = false := by simpa using hr
    rw [hr0, Bool.false_and, Bool.false_and]
    show _ = some ((0, 1) : Int × Int)
    by_cases k0 : k < 0
    · rw [if_pos k0]; simp
    · rw [if_neg k0]
      by_cases k2 : k > 2
      · rw [if_pos k2]; simp
      · have : k = 0 := by
          simp only [rightB, Bool.or_eq_false_iff, decide_eq_false_iff_not] at hr0
          omega
        subst this
        have hx : (!((0 : Int) == 0) || (!(p == 0) || (w || t))) = true := by
          simp only [rightB] at hr0
          by_cases hp0 : p = 0 <;> cases w <;> cases t <;> simp_all
        rw [if_neg (by omega), if_pos rfl, hx, if_pos rfl]

theorem rUnpack_is (x : Int) (h0 : 0 ≤ x) (h1 : x < 18446744073709551616) (n : Nat) (hn : 60 ≤ n) : millpondref06_Unpack.f n x = some (unp x) := by
  unfold millpondref06_Unpack.f
  have hf := at_rounds (millpondref01_Unpack.mono [2, 24, 1, 1] x) (show 50 ≤ n by omega) (rUnp x h0 h1)
  rw [hf, Option.bind_some]
  by_cases h : x < 268435456
  · simp only [if_pos h, if_true, rd]
    have b1 : (x / 67108864 % 2 == 1) = decide (x / 67108864 % 2 = 1) := rfl
    have b2 : (x / 134217728 % 2 == 1) = decide (x / 134217728 % 2 = 1) := rfl
    have t2 : (2 : Int).toNat = 2 := rfl
    have t3 : (3 : Int).toNat = 3 := rfl
    simp only [List.length_cons, List.length_nil, Int.toNat_zero, Int.toNat_one, t2, t3, List.getD_cons_zero, List.getD_cons_succ, b1, b2]
    rw [rPack_is _ _ _ _ (by omega) (by omega) n hn, Option.bind_some]
    by_cases ho : okW x = true
    · rw [pk_unp x h0 ho]
      simp [unp, ho]
    · have ho' : okW x = false := by simpa using ho
      rw [pk_not x h0 ho' h]
      simp [unp, ho']
  · simp only [if_neg h]
    simp [unp, okW, h]
section
variable (x : Int) (h0 : 0 ≤ x) (h1 : x < 18446744073709551616) (n : Nat)
include h0 h1
theorem with_is (a b : Int) (hn : 70 ≤ n) : millpondref06_with.f n x a b = some (if leads x = true then wrd (x % 4) (x / 4 % 16777216) (if a ≥ 0 then decide (a = 1) else decide (x / 67108864 % 2 = 1)) (if b ≥ 0 then decide (b = 1) else decide (x / 134217728 % 2 = 1)) else x) := by
  obtain ⟨m, rfl⟩ : ∃ m, n = m + 1 := ⟨n - 1, by omega⟩
  unfold millpondref06_with.f
  rw [rUnpack_is x h0 h1 (m + 1) (by omega), Option.bind_some]
  have hp : ∀ w t, leads x = true → millpondref06_Pack.f m (x % 4) (x / 4 % 16777216) w t = some (wrd (x % 4) (x / 4 % 16777216) w t, 0) := by
    intro w t hl
    have := leads_kind x h0 h1 hl
    rw [rPack_is _ _ _ _ (by omega) (by omega) m (by omega)]
    unfold pk
    have hr : rightB (x % 4) (x / 4 % 16777216) w t = true := by
      simp only [rightB, Bool.or_eq_true, decide_eq_true_eq]; omega
    rw [hr, if_pos (by simp only [Bool.true_and, Bool.and_eq_true, decide_eq_true_eq]; omega)]
  have q1 : (a == 1) = decide (a = 1) := rfl
  have q2 : (b == 1) = decide (b = 1) := rfl
  unfold unp
  by_cases ho : okW x = true
  · rw [if_pos ho, if_pos rfl]
    by_cases hz : x = 0
    · have : leads x = false := by simp [leads, hz]
      rw [this]
      subst hz
      simp [millpondref06_with.j0]
    · have hl : leads x = true := by simp [leads, ho, hz]
      have hk := leads_kind x h0 h1 hl
      have e0 : (x % 4 == 0) = false := by rw [beq_eq_false_iff_ne]; omega
      rw [hl, if_pos rfl]
      simp only [millpondref06_with.j0, e0, hp _ _ hl, Option.bind_some, q1, q2]
      by_cases ha : a ≥ 0 <;> by_cases hb : b ≥ 0 <;> simp [ha, hb]
  · have hl : leads x = false := by simp [leads]; intro h; exact absurd h ho
    rw [if_neg ho, hl, if_neg (by decide)]
    simp [millpondref06_with.j0]
theorem rTouch_is (hn : 70 ≤ n) : millpondref06_Touch.f n x = some (tch x) := by
  unfold millpondref06_Touch.f
  rw [with_is x h0 h1 n _ _ hn, Option.bind_some]
  unfold tch
  by_cases h : leads x = true
  · rw [if_pos h, wrd_with x h0 h1 _ _ h]
    by_cases hb : x / 134217728 % 2 = 1 <;> by_cases hw : x / 67108864 % 2 = 1 <;> simp [h, hb, hw] <;> omega
  · simp [h]
theorem rRest_is (hn : 70 ≤ n) : millpondref06_Rest.f n x = some (rst x, was x) := by
  unfold millpondref06_Rest.f
  rw [rUnpack_is x h0 h1 n (by omega), Option.bind_some, with_is x h0 h1 n _ _ hn, Option.bind_some, unp_touched x h0 h1]
  unfold rst
  by_cases h : leads x = true
  · rw [if_pos h, wrd_with x h0 h1 _ _ h]
    by_cases hb : x / 134217728 % 2 = 1 <;> by_cases hw : x / 67108864 % 2 = 1 <;> simp [h, hb, hw] <;> omega
  · simp [h]
theorem rWrite_is (on : Bool) (hn : 70 ≤ n) : millpondref06_Write.f n x on = some (wrt x on) := by
  unfold millpondref06_Write.f
  rw [rBit, Option.bind_some, with_is x h0 h1 n _ _ hn, Option.bind_some]
  unfold wrt
  by_cases h : leads x = true
  · rw [if_pos h, wrd_with x h0 h1 _ _ h]
    by_cases hb : x / 134217728 % 2 = 1 <;> by_cases hw : x / 67108864 % 2 = 1 <;> cases on <;> simp [h, hb, hw] <;> omega
  · simp [h]
end
end Go.Proofs.Ytjcibcnphdnfbaa.Pure
