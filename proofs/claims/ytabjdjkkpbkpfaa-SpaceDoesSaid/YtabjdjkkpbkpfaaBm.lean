/- Words of bits, fields of a word, digits: numbers and lists alone. -/
import Derived.WalkKit
import Derived.RowKit3
import Derived.Laws.BitsLemmas
namespace Go.Proofs.Ytabjdjkkpbkpfaa.BM
open Go
set_option linter.unusedVariables false
set_option linter.unusedSimpArgs false

/-! ## Fields of a word -/
def okW : List Int → Int → Bool
  | [], _ => true
  | w :: ws, n => decide (0 ≤ w) && (decide (w ≤ 62) && (decide (n + w ≤ 64) && okW ws (n + w)))
def sumW : List Int → Int
  | [] => 0
  | w :: ws => w + sumW ws
theorem okW_cons {w : Int} {ws : List Int} {n : Int} (h : okW (w :: ws) n = true) : 0 ≤ w ∧ w ≤ 62 ∧ n + w ≤ 64 ∧ okW ws (n + w) = true := by
  simpa [okW] using h
theorem okW_sum : ∀ (ws : List Int) (n : Int), n ≤ 64 → okW ws n = true → 0 ≤ sumW ws ∧ n + sumW ws ≤ 64
  | [], n, hn, h => ⟨Int.le_refl 0, by simpa [sumW] using hn⟩
  | w :: ws, n, hn, h => by
    obtain ⟨h1, h2, h3, h4⟩ := okW_cons h
    have := okW_sum ws (n + w) h3 h4
    simp only [sumW]; omega
def packG : List Int → List Int → Nat → Int → Int × Int
  | [], _, _, x => (x, 0)
  | _ :: _, [], _, _ => (0, 1)
  | w :: ws, v :: vs, low, x => if 0 ≤ v ∧ v < 2 ^ w.toNat then packG ws vs (low + w.toNat) (x + v * 2 ^ low) else (0, 1)
def packS (ws vs : List Int) : Int × Int := if okW ws 0 = true ∧ vs.length = ws.length then packG ws vs 0 0 else (0, 1)
def unG : List Int → Int → List Int
  | [], _ => []
  | w :: ws, x => x % 2 ^ w.toNat :: unG ws (x / 2 ^ w.toNat)
def unR : List Int → Int → Int
  | [], x => x
  | w :: ws, x => unR ws (x / 2 ^ w.toNat)
def unS (ws : List Int) (x : Int) : List Int × Int := if okW ws 0 = true ∧ unR ws x = 0 then (unG ws x, 0) else ([], 1)
theorem pow_pos (k : Nat) : (0 : Int) < 2 ^ k := Int.pow_pos (by decide)
theorem pow_add (a b : Nat) : (2 : Int) ^ (a + b) = 2 ^ a * 2 ^ b := Int.pow_add 2 a b
theorem unR_is : ∀ (ws : List Int) (n : Int) (x : Int), okW ws n = true → unR ws x = x / 2 ^ (sumW ws).toNat
  | [], n, x, h => by simp [unR, sumW]
  | w :: ws, n, x, h => by
    obtain ⟨h1, h2, h3, h4⟩ := okW_cons h
    have hs := okW_sum ws _ h3 h4
    unfold unR sumW
    rw [unR_is ws _ _ h4, show (w + sumW ws).toNat = w.toNat + (sumW ws).toNat by omega, pow_add, Int.ediv_ediv_of_nonneg (Int.le_of_lt (pow_pos _))]
theorem u64m (n : Int) : IntKind.u64.wrap n = n % 18446744073709551616 := by simp [IntKind.wrap, IntKind.bits, IntKind.signed]
theorem bits2 (x y : Int) (h0 : 0 ≤ x) (h1 : x < 18446744073709551616) (h2 : 0 ≤ y) (h3 : y < 18446744073709551616) :
    Go.bits .and .u64 x y = ((x.toNat &&& y.toNat : Nat) : Int) ∧ Go.bits .or .u64 x y = ((x.toNat ||| y.toNat : Nat) : Int) ∧ Go.bits .xor .u64 x y = ((x.toNat ^^^ y.toNat : Nat) : Int) := by
  obtain ⟨a, rfl⟩ := Int.eq_ofNat_of_zero_le h0
  obtain ⟨b, rfl⟩ := Int.eq_ofNat_of_zero_le h2
  have ha : a < 2 ^ 64 := by omega
  have hb : b < 2 ^ 64 := by omega
  have hw : ∀ n : Int, 0 ≤ n → n < 2 ^ 64 → IntKind.u64.wrap n = n := fun n h0 h1 => by rw [u64m]; omega
  have h := bits_nat .u64 64 (by decide) hw a b ha hb
  refine ⟨h.1, h.2, ?_⟩
  simp only [Go.bits, BitVec.ofInt_natCast, Int.toNat_natCast]
  show IntKind.u64.wrap ((BitVec.ofNat 64 a ^^^ BitVec.ofNat 64 b).toNat : Int) = _
  have hx : (BitVec.ofNat 64 a ^^^ BitVec.ofNat 64 b).toNat = a ^^^ b := by
    rw [BitVec.toNat_xor, BitVec.toNat_ofNat, BitVec.toNat_ofNat, Nat.mod_eq_of_lt ha, Nat.mod_eq_of_lt hb]
  rw [hx]
  have := Nat.xor_lt_two_pow ha hb
  exact hw _ (by omega) (by exact_mod_cast this)
theorem bitsN (a b : Nat) (ha : a < 2 ^ 64) (hb : b < 2 ^ 64) :
    Go.bits .and .u64 (a : Int) (b : Int) = ((a &&& b : Nat) : Int) ∧ Go.bits .or .u64 (a : Int) (b : Int) = ((a ||| b : Nat) : Int) ∧ Go.bits .xor .u64 (a : Int) (b : Int) = ((a ^^^ b : Nat) : Int) := by
  have h := bits2 (a : Int) (b : Int) (by omega) (by omega) (by omega) (by omega)
  simpa using h
theorem maskU (x : Int) (i : Nat) (hi : i ≤ 64) (h0 : 0 ≤ x) (h1 : x < 18446744073709551616) : Go.bits .and .u64 x (2 ^ i - 1) = x % 2 ^ i :=
  Go.bits_mask .u64 64 (by decide) (fun n h0 h1 => by rw [u64m]; omega) i hi x h0 (by omega)
/-- Something above what is below. -/
theorem orU (x v : Int) (i : Nat) (h0 : 0 ≤ x) (h1 : x < 2 ^ i) (hx : x < 18446744073709551616) (hv : 0 ≤ v) (hb : v * 2 ^ i < 18446744073709551616) : Go.bits .or .u64 x (v * 2 ^ i) = x + v * 2 ^ i ∧ Go.bits .or .u64 (v * 2 ^ i) x = v * 2 ^ i + x := by
  obtain ⟨a, rfl⟩ := Int.eq_ofNat_of_zero_le h0
  obtain ⟨b, rfl⟩ := Int.eq_ofNat_of_zero_le hv
  have ha : a < 2 ^ i := by exact_mod_cast h1
  have hp := Nat.two_pow_pos i
  have e : ((b : Int) * 2 ^ i) = ((b * 2 ^ i : Nat) : Int) := by push_cast; rfl
  have hb' : b * 2 ^ i < 2 ^ 64 := by rw [e] at hb; omega
  have hk : 2 ^ i * b + a = 2 ^ i * b ||| a := Nat.two_pow_add_eq_or_of_lt ha b
  have hi : a < 2 ^ 64 := by omega
  rw [e, (bitsN a _ hi hb').2.1, (bitsN _ a hb' hi).2.1]
  rw [Nat.mul_comm b] at *
  rw [Nat.or_comm a, ← hk]
  constructor <;> push_cast <;> omega
theorem okW_yes {w : Int} {ws : List Int} {n : Int} (h0 : 0 ≤ w) (h1 : w ≤ 62) (h2 : n + w ≤ 64) : okW (w :: ws) n = okW ws (n + w) := by
  simp [okW, h0, h1, h2]
theorem okW_no {w : Int} {ws : List Int} {n : Int} (h : w < 0 ∨ 62 < w ∨ 64 < n + w) : okW (w :: ws) n = false := by
  rcases h with h | h | h <;> simp [okW] <;> omega
theorem shl_in {v : Int} {w low : Nat} (h0 : 0 ≤ v) (h1 : v < 2 ^ w) (h : low + w ≤ 64) : 0 ≤ v * 2 ^ low ∧ v * 2 ^ low < 18446744073709551616 := by
  have hp := pow_pos low
  refine ⟨Int.mul_nonneg h0 (Int.le_of_lt hp), ?_⟩
  have h2 : v * 2 ^ low < 2 ^ w * 2 ^ low := Int.mul_lt_mul_of_pos_right h1 hp
  rw [← pow_add] at h2
  have h3 := Nat.pow_le_pow_right (n := 2) (by decide) (show w + low ≤ 64 by omega)
  have h4 : (2 : Int) ^ (w + low) ≤ 2 ^ 64 := by exact_mod_cast h3
  have : (2 : Int) ^ 64 = 18446744073709551616 := by decide
  omega
theorem shlU {v : Int} {low : Nat} (hl : low ≤ 64) (h : 0 ≤ v * 2 ^ low ∧ v * 2 ^ low < 18446744073709551616) : IntKind.u64.wrap (v * 2 ^ min (low : Int).toNat IntKind.u64.bits) = v * 2 ^ low := by
  rw [Int.toNat_natCast, show min low IntKind.u64.bits = low from by (have : IntKind.u64.bits = 64 := rfl); omega, u64m]; omega
theorem pack_bd {x v : Int} {w low : Nat} (hx : x < 2 ^ low) (h1 : v < 2 ^ w) : x + v * 2 ^ low < 2 ^ (low + w) := by
  have hp := pow_pos low
  have h2 : (v + 1) * 2 ^ low ≤ 2 ^ w * 2 ^ low := Int.mul_le_mul_of_nonneg_right (by omega) (Int.le_of_lt hp)
  rw [Int.add_mul, Int.one_mul] at h2
  rw [pow_add, Int.mul_comm (2 ^ low)]; omega
theorem lt64 {x : Int} {low : Nat} (h : low ≤ 64) (hx : x < 2 ^ low) : x < 18446744073709551616 := by
  have h3 := Nat.pow_le_pow_right (n := 2) (by decide) h
  have h4 : (2 : Int) ^ low ≤ 2 ^ 64 := by exact_mod_cast h3
  have : (2 : Int) ^ 64 = 18446744073709551616 := by decide
  omega
theorem packG_yes {w v : Int} {ws vs : List Int} {low : Nat} {x : Int} (h0 : 0 ≤ v) (h1 : v < 2 ^ w.toNat) : packG (w :: ws) (v :: vs) low x = packG ws vs (low + w.toNat) (x + v * 2 ^ low) := by
  rw [packG, if_pos ⟨h0, h1⟩]
theorem packG_no {w v : Int} {ws vs : List Int} {low : Nat} {x : Int} (h : v < 0 ∨ 2 ^ w.toNat ≤ v) : packG (w :: ws) (v :: vs) low x = (0, 1) := by
  rw [packG, if_neg (by omega)]
theorem packS_ok {ws vs : List Int} (h1 : okW ws 0 = true) (h2 : vs.length = ws.length) : packS ws vs = packG ws vs 0 0 := if_pos ⟨h1, h2⟩
theorem packS_no {ws vs : List Int} (h : okW ws 0 = false ∨ vs.length ≠ ws.length) : packS ws vs = (0, 1) := by
  unfold packS
  rw [if_neg]
  rintro ⟨h1, h2⟩
  rcases h with h | h
  · rw [h1] at h; cases h
  · exact h h2
/-- v times a power, modulo a word. -/
theorem mulU {v : Int} {w low : Nat} (h0 : 0 ≤ v) (h1 : v < 2 ^ w) (h : low + w ≤ 64) : IntKind.u64.wrap (v * (2 ^ low % 18446744073709551616)) = v * 2 ^ low := by
  have hs := shl_in h0 h1 h
  rw [u64m]
  by_cases hl : low ≤ 63
  · have h3 := Nat.pow_le_pow_right (n := 2) (by decide) hl
    have h4 : (2 : Int) ^ low ≤ 2 ^ 63 := by exact_mod_cast h3
    have h5 : (2 : Int) ^ 63 = 9223372036854775808 := by decide
    have hp := pow_pos low
    rw [Int.emod_eq_of_lt (a := (2 : Int) ^ low) (by omega) (by omega)]; omega
  · obtain rfl : low = 64 := by omega
    obtain rfl : w = 0 := by omega
    have : v = 0 := by simp at h1; omega
    subst this; rfl
/-- What is on a slice that is read from i on. -/
theorem unG_step {ws : List Int} {i : Nat} (h : i < ws.length) (x : Int) : unG (ws.drop i) x = x % 2 ^ (ws.getD i 0).toNat :: unG (ws.drop (i + 1)) (x / 2 ^ (ws.getD i 0).toNat) := by
  rw [List.drop_eq_getElem_cons h, unG, List.getD_eq_getElem?_getD, List.getElem?_eq_getElem h, Option.getD_some]
theorem unR_step {ws : List Int} {i : Nat} (h : i < ws.length) (x : Int) : unR (ws.drop i) x = unR (ws.drop (i + 1)) (x / 2 ^ (ws.getD i 0).toNat) := by
  rw [List.drop_eq_getElem_cons h, unR, List.getD_eq_getElem?_getD, List.getElem?_eq_getElem h, Option.getD_some]
theorem okW_at {ws : List Int} {i : Nat} {n : Int} (h : i < ws.length) (ho : okW (ws.drop i) n = true) : 0 ≤ ws.getD i 0 ∧ ws.getD i 0 ≤ 62 ∧ n + ws.getD i 0 ≤ 64 ∧ okW (ws.drop (i + 1)) (n + ws.getD i 0) = true := by
  rw [List.drop_eq_getElem_cons h] at ho
  rw [List.getD_eq_getElem?_getD, List.getElem?_eq_getElem h, Option.getD_some]
  exact okW_cons ho
theorem pow62 {w : Int} (h0 : 0 ≤ w) (h1 : w ≤ 62) : (2 : Int) ^ w.toNat % 18446744073709551616 = 2 ^ w.toNat ∧ (0 : Int) < 2 ^ w.toNat ∧ (2 : Int) ^ w.toNat ≤ 4611686018427387904 := by
  have h1 := Nat.pow_le_pow_right (n := 2) (by decide) (show w.toNat ≤ 62 by omega)
  have h2 : (2 : Int) ^ w.toNat ≤ 2 ^ 62 := by exact_mod_cast h1
  have h3 := pow_pos w.toNat
  have : (2 : Int) ^ 62 = 4611686018427387904 := by decide
  omega
def wfI (l : List Int) : Prop := ∀ x ∈ l, -9223372036854775808 ≤ x ∧ x ≤ 9223372036854775807
theorem wfI.at_ {l : List Int} (h : wfI l) {i : Nat} (hi : i < l.length) : -9223372036854775808 ≤ l.getD i 0 ∧ l.getD i 0 ≤ 9223372036854775807 := by
  rw [List.getD_eq_getElem?_getD, List.getElem?_eq_getElem hi, Option.getD_some]
  exact h _ (List.getElem_mem hi)
end Go.Proofs.Ytabjdjkkpbkpfaa.BM
