/- Entries as words. -/
import Derived.Test.YtabjdjkkpbkpfaaSpQ
import Derived.Test.YtabjdjkkpbkpfaaBitsB
import Derived.Test.YtabjdjkkpbkpfaaHT
import Derived.Test.YtabjdjkkpbkpfaaProg
import Derived.RowKit3
namespace Go.Proofs.Ytabjdjkkpbkpfaa.Pk
open Go Go.RowKit Go.Proofs.Ytabjdjkkpbkpfaa.HL Go.Proofs.Ytabjdjkkpbkpfaa.Ev Go.Proofs.YtabjdjkkpbkpfaaW.PrintWords Go.Proofs.Ytabjdjkkpbkpfaa.BM
set_option linter.unusedVariables false
set_option linter.unusedSimpArgs false
/-- An entry. -/
structure En where
  k : Int
  pg : Int
  w : Bool
  t : Bool
def bI (b : Bool) : Int := if b then 1 else 0
theorem bI_cases (b : Bool) : (b = false ∧ bI b = 0) ∨ (b = true ∧ bI b = 1) := by cases b <;> simp [bI]
def okE (e : En) : Prop := (e.k = 1 ∨ e.k = 2) ∧ 0 ≤ e.pg ∧ e.pg < 16777216
def rE (e : En) : Bool := decide (e.k = 1 ∨ e.k = 2 ∨ (e.k = 0 ∧ e.pg = 0 ∧ e.w = false ∧ e.t = false))
theorem rE_ok {e : En} (h : okE e) : rE e = true := decide_eq_true (by rcases h.1 with h | h; exact .inl h; exact .inr (.inl h))
def encE (e : En) : Int := e.k + 4 * e.pg + 67108864 * bI e.w + 134217728 * bI e.t
theorem encE_bd {e : En} (h : okE e) : 0 < encE e ∧ encE e < 268435456 := by
  obtain ⟨h1, h2, h3⟩ := h
  unfold encE
  rcases bI_cases e.w with ⟨_, hw⟩ | ⟨_, hw⟩ <;> rcases bI_cases e.t with ⟨_, ht⟩ | ⟨_, ht⟩ <;> rw [hw, ht] <;> omega
def wsE : List Int := [2, 24, 1, 1]
def vsE (e : En) : List Int := [e.k, e.pg, bI e.w, bI e.t]
def pkE (e : En) : Int × Int := if rE e = true then packS wsE (vsE e) else (0, 1)
theorem okW_E : okW wsE 0 = true := by decide
theorem pkE_is (e : En) : pkE e = if (e.k = 1 ∨ e.k = 2) ∧ 0 ≤ e.pg ∧ e.pg < 16777216 then (encE e, 0) else if e.k = 0 ∧ e.pg = 0 ∧ e.w = false ∧ e.t = false then (0, 0) else (0, 1) := by
  unfold pkE
  have hp : packS wsE (vsE e) = if (0 ≤ e.k ∧ e.k < 4) ∧ 0 ≤ e.pg ∧ e.pg < 16777216 then (encE e, 0) else (0, 1) := by
    unfold packS
    rw [if_pos ⟨okW_E, rfl⟩]
    unfold wsE vsE encE
    have hw := bI_cases e.w; have ht := bI_cases e.t
    simp only [packG]
    by_cases h1 : 0 ≤ e.k ∧ e.k < 4
    · rw [if_pos (show 0 ≤ e.k ∧ e.k < 2 ^ (2 : Int).toNat from h1)]
      by_cases h2 : 0 ≤ e.pg ∧ e.pg < 16777216
      · rw [if_pos (show 0 ≤ e.pg ∧ e.pg < 2 ^ (24 : Int).toNat from h2), if_pos (show 0 ≤ bI e.w ∧ bI e.w < 2 ^ (1 : Int).toNat by show 0 ≤ bI e.w ∧ bI e.w < 2; omega), if_pos (show 0 ≤ bI e.t ∧ bI e.t < 2 ^ (1 : Int).toNat by show 0 ≤ bI e.t ∧ bI e.t < 2; omega), if_pos ⟨h1, h2⟩]
        refine Prod.ext ?_ rfl
        show 0 + e.k * 1 + e.pg * 4 + bI e.w * 67108864 + bI e.t * 134217728 = _
        omega
      · rw [if_neg (show ¬ (0 ≤ e.pg ∧ e.pg < 2 ^ (24 : Int).toNat) from h2), if_neg (fun h => h2 h.2)]
    · rw [if_neg (show ¬ (0 ≤ e.k ∧ e.k < 2 ^ (2 : Int).toNat) from h1), if_neg (fun h => h1 h.1)]
  rw [hp]
  by_cases h1 : (e.k = 1 ∨ e.k = 2) ∧ 0 ≤ e.pg ∧ e.pg < 16777216
  · rw [if_pos h1, if_pos (rE_ok h1), if_pos ⟨by omega, h1.2⟩]
  · rw [if_neg h1]
    by_cases h2 : e.k = 0 ∧ e.pg = 0 ∧ e.w = false ∧ e.t = false
    · rw [if_pos h2, if_pos (show rE e = true from decide_eq_true (.inr (.inr h2))), if_pos ⟨by omega, by omega⟩]
      refine Prod.ext ?_ rfl
      unfold encE bI; rw [h2.1, h2.2.1, h2.2.2.1, h2.2.2.2]; rfl
    · rw [if_neg h2]
      split
      · rename_i h3
        have h3 := of_decide_eq_true h3
        rw [if_neg]
        rintro ⟨h4, h5⟩
        rcases h3 with h3 | h3 | h3
        · exact h1 ⟨.inl h3, h5⟩
        · exact h1 ⟨.inr h3, h5⟩
        · exact h2 h3
      · rfl
theorem unE_is {e : En} (h : okE e) : unS wsE (encE e) = (vsE e, 0) := by
  have hb := encE_bd h
  obtain ⟨h1, h2, h3⟩ := h
  have hw := bI_cases e.w; have ht := bI_cases e.t
  unfold unS
  have e1 : unR wsE (encE e) = encE e / 4 / 16777216 / 2 / 2 := rfl
  have e2 : unG wsE (encE e) = [encE e % 4, encE e / 4 % 16777216, encE e / 4 / 16777216 % 2, encE e / 4 / 16777216 / 2 % 2] := rfl
  rw [if_pos ⟨okW_E, by rw [e1]; omega⟩, e2]
  unfold vsE
  have hd : encE e = e.k + 4 * e.pg + 67108864 * bI e.w + 134217728 * bI e.t := rfl
  rw [show encE e % 4 = e.k by omega, show encE e / 4 % 16777216 = e.pg by omega, show encE e / 4 / 16777216 % 2 = bI e.w by omega, show encE e / 4 / 16777216 / 2 % 2 = bI e.t by omega]
/-! ### Its bits -/
theorem and_two_pow' (a i : Nat) : a &&& 2 ^ i = if a.testBit i = true then 2 ^ i else 0 := by
  apply Nat.eq_of_testBit_eq
  intro j
  rw [Nat.testBit_and, Nat.testBit_two_pow]
  by_cases h : i = j
  · subst h
    cases a.testBit i <;> simp [Nat.testBit_two_pow]
  · rw [decide_eq_false h, Bool.and_false]
    split
    · rw [Nat.testBit_two_pow, decide_eq_false h]
    · simp
theorem and_pow (x : Int) (i : Nat) (hi : i < 64) (h0 : 0 ≤ x) (h1 : x < 18446744073709551616) : (Go.bits .and .u64 x ((2 ^ i : Nat) : Int) != 0) = decide (x / 2 ^ i % 2 = 1) := by
  obtain ⟨a, rfl⟩ := Int.eq_ofNat_of_zero_le h0
  have hp : 2 ^ i < 2 ^ 64 := Nat.pow_lt_pow_right (by decide) hi
  rw [(bitsN a (2 ^ i) (by omega) hp).1, and_two_pow', Nat.testBit_eq_decide_div_mod_eq]
  have hpos := Nat.two_pow_pos i
  have e1 : ((a : Int) / 2 ^ i % 2 = 1) ↔ (a / 2 ^ i % 2 = 1) := by
    have : ((a : Int) / 2 ^ i % 2) = ((a / 2 ^ i % 2 : Nat) : Int) := by push_cast; rfl
    omega
  by_cases h : a / 2 ^ i % 2 = 1
  · rw [decide_eq_true h, decide_eq_true (e1.2 h), if_pos rfl]
    exact bne_iff_ne.2 (by omega)
  · rw [decide_eq_false h, decide_eq_false (fun h2 => h (e1.1 h2))]
    simp
theorem wbit {e : En} (h : okE e) : (Go.bits .and .u64 (encE e) 67108864 != 0) = e.w := by
  have hb := encE_bd h
  have := and_pow (encE e) 26 (by decide) (by omega) (by omega)
  rw [show ((2 ^ 26 : Nat) : Int) = 67108864 from rfl, show ((2 : Int) ^ 26) = 67108864 from rfl] at this
  rw [this]
  obtain ⟨h1, h2, h3⟩ := h
  have hd : encE e = e.k + 4 * e.pg + 67108864 * bI e.w + 134217728 * bI e.t := rfl
  rcases bI_cases e.w with ⟨a1, hw⟩ | ⟨a1, hw⟩
  · rw [a1]; exact decide_eq_false (by rcases bI_cases e.t with ⟨_, ht⟩ | ⟨_, ht⟩ <;> omega)
  · rw [a1]; exact decide_eq_true (by rcases bI_cases e.t with ⟨_, ht⟩ | ⟨_, ht⟩ <;> omega)
theorem tbit {e : En} (h : okE e) : (Go.bits .and .u64 (encE e) 134217728 != 0) = e.t := by
  have hb := encE_bd h
  have := and_pow (encE e) 27 (by decide) (by omega) (by omega)
  rw [show ((2 ^ 27 : Nat) : Int) = 134217728 from rfl, show ((2 : Int) ^ 27) = 134217728 from rfl] at this
  rw [this]
  obtain ⟨h1, h2, h3⟩ := h
  have hd : encE e = e.k + 4 * e.pg + 67108864 * bI e.w + 134217728 * bI e.t := rfl
  rcases bI_cases e.t with ⟨a1, ht⟩ | ⟨a1, ht⟩
  · rw [a1]; exact decide_eq_false (by rcases bI_cases e.w with ⟨_, hw⟩ | ⟨_, hw⟩ <;> omega)
  · rw [a1]; exact decide_eq_true (by rcases bI_cases e.w with ⟨_, hw⟩ | ⟨_, hw⟩ <;> omega)
def tch (e : En) (b : Bool) : En := { e with t := b }
theorem tch_ok {e : En} (h : okE e) (b : Bool) : okE (tch e b) := h
/-- The word without its highest bit, and the bit. -/
theorem enc_split {e : En} (h : okE e) : ∃ y : Nat, y < 2 ^ 27 ∧ encE (tch e false) = (y : Int) ∧ encE (tch e true) = ((y + 2 ^ 27 : Nat) : Int) ∧ (e.t = false → encE e = (y : Int)) ∧ (e.t = true → encE e = ((y + 2 ^ 27 : Nat) : Int)) := by
  have hb := encE_bd (tch_ok h false)
  obtain ⟨y, hy⟩ := Int.eq_ofNat_of_zero_le (Int.le_of_lt hb.1)
  have hd : encE (tch e false) = e.k + 4 * e.pg + 67108864 * bI e.w + 134217728 * 0 := rfl
  have hd2 : encE (tch e true) = e.k + 4 * e.pg + 67108864 * bI e.w + 134217728 * 1 := rfl
  have hd3 : encE e = e.k + 4 * e.pg + 67108864 * bI e.w + 134217728 * bI e.t := rfl
  obtain ⟨h1, h2, h3⟩ := h
  have hw := bI_cases e.w
  refine ⟨y, by omega, hy, by omega, fun ht => ?_, fun ht => ?_⟩
  · rw [hd3, ht, show bI false = 0 from rfl]; omega
  · rw [hd3, ht, show bI true = 1 from rfl]; omega
theorem touch_is {e : En} (h : okE e) : Go.bits .or .u64 (encE e) 134217728 = encE (tch e true) := by
  obtain ⟨y, hy, h1, h2, h3, h4⟩ := enc_split h
  have hk : y + 2 ^ 27 = y ||| 2 ^ 27 := by
    have := Nat.two_pow_add_eq_or_of_lt hy 1
    rw [Nat.mul_one] at this
    rw [Nat.or_comm, ← this, Nat.add_comm]
  rw [h2, show (134217728 : Int) = ((2 ^ 27 : Nat) : Int) from rfl]
  cases ht : e.t
  · rw [h3 ht, (bitsN y (2 ^ 27) (by omega) (by decide)).2.1, hk]
  · rw [h4 ht, (bitsN (y + 2 ^ 27) (2 ^ 27) (by omega) (by decide)).2.1, hk, Nat.or_assoc, Nat.or_self]
theorem rest_is {e : En} (h : okE e) : Go.bits .andNot .u64 (encE e) 134217728 = encE (tch e false) := by
  obtain ⟨y, hy, h1, h2, h3, h4⟩ := enc_split h
  have hk : y + 2 ^ 27 = y ||| 2 ^ 27 := by
    have := Nat.two_pow_add_eq_or_of_lt hy 1
    rw [Nat.mul_one] at this
    rw [Nat.or_comm, ← this, Nat.add_comm]
  have key : ∀ a : Nat, a < 2 ^ 64 → Go.bits .andNot .u64 (a : Int) 134217728 = ((a &&& ((2 ^ 64 - 1) ^^^ 2 ^ 27) : Nat) : Int) := fun a ha => by
    have e1 : (BitVec.ofNat 64 a &&& ~~~ BitVec.ofNat 64 134217728).toNat = a &&& ((2 ^ 64 - 1) ^^^ 2 ^ 27) := by
      rw [BitVec.toNat_and, BitVec.toNat_not, BitVec.toNat_ofNat, BitVec.toNat_ofNat, Nat.mod_eq_of_lt ha]
      rw [show 2 ^ 64 - 1 - 134217728 % 2 ^ 64 = (2 ^ 64 - 1) ^^^ 2 ^ 27 by decide]
    have hle : a &&& ((2 ^ 64 - 1) ^^^ 2 ^ 27) ≤ a := Nat.and_le_left
    rw [show (134217728 : Int) = ((134217728 : Nat) : Int) from rfl]
    simp only [Go.bits, BitVec.ofInt_natCast, Int.toNat_natCast]
    show IntKind.u64.wrap ((BitVec.ofNat 64 a &&& ~~~ BitVec.ofNat 64 134217728).toNat : Int) = _
    rw [e1, u64m]; omega
  have hm : ∀ j, ((2 ^ 64 - 1) ^^^ 2 ^ 27 : Nat).testBit j = (decide (j < 64) && !decide (27 = j)) := fun j => by
    rw [Nat.testBit_xor, Nat.testBit_two_pow_sub_one, Nat.testBit_two_pow]
    by_cases h : 27 = j
    · subst h; decide
    · simp [h]
  have hya : y &&& ((2 ^ 64 - 1) ^^^ 2 ^ 27) = y := by
    apply Nat.eq_of_testBit_eq
    intro j
    rw [Nat.testBit_and, hm]
    by_cases hj : j < 27
    · have e1 : j < 64 := by omega
      have e2 : ¬ 27 = j := by omega
      simp [e1, e2]
    · rw [Nat.testBit_lt_two_pow (Nat.lt_of_lt_of_le hy (Nat.pow_le_pow_right (by decide) (by omega)))]; rfl
  rw [h1]
  cases ht : e.t
  · rw [h3 ht, key y (by omega), hya]
  · rw [h4 ht, key _ (by omega), hk, Nat.and_or_distrib_right, hya, show 2 ^ 27 &&& ((2 ^ 64 - 1) ^^^ 2 ^ 27) = 0 by decide, Nat.or_zero]
set_option maxRecDepth 100000 in
set_option maxHeartbeats 2000000 in
theorem k_ewidths (W : World) : Calls Try.prog 68 #[] W fun e w' => ∃ b : Nat, e = .returned (.slice (some ⟨b, 0, none⟩) 4 4) ∧ (blk b (.cells #[.int .i64 2, .int .i64 24, .int .i64 1, .int .i64 1] 3 (0, 0))).holds w' ∧ Below W.heap.size W w' ∧ ∀ j, (blk b (.cells #[.int .i64 2, .int .i64 24, .int .i64 1, .int .i64 1] 3 (0, 0))).foot j → W.heap.size ≤ j := by
  have hM : Hp W (fun _ => False) [] W := Hp.start
  refine TC.enter (n := 2) Try.func68 rfl rfl rfl hM ?_
  refine TC.seq ?_
  refine TC.region ?_
  refine' TL.y rfl rfl rfl ?hy1 ?_
  case hy1 => exact Yl.assign rfl rfl
  refine TL.nil ?_
  refine TE.next ?_
  refine TC.seq ?_
  refine TC.region ?_
  refine' TL.mx rfl rfl rfl ?hy2 ?_
  case hy2 => exact Ym.buildSlice (cells := #[.int .i64 2, .int .i64 24, .int .i64 1, .int .i64 1]) (z := .int .i64 0) (size := 1) #[.int .i64 0, .int .i64 0, .int .i64 0, .int .i64 0] rfl Try.underlying36 (by kernel_rfl) (by decide) (by decide) (by kernel_rfl) rfl rfl
  intro b1
  refine' TL.y rfl rfl rfl ?hy3 ?_
  case hy3 => exact Yl.assign rfl rfl
  refine TL.nil ?_
  refine TE.next ?_
  refine TC.ret ?_
  refine TE.ret1 rfl rfl ?_
  exact fun w h => ⟨b1, rfl, h.leaveNew⟩
set_option maxRecDepth 100000 in
set_option maxHeartbeats 2000000 in
theorem k_ebit (W : World) (b : Bool) : Calls Try.prog 69 #[.bool b] W fun e w' => e = .returned (.int .i64 (bI b)) ∧ Below W.heap.size W w' := by
  have hM : Hp W (fun _ => False) [] W := Hp.start
  refine TC.enter (n := 4) Try.func69 rfl rfl rfl hM ?_
  refine TC.seq ?_
  refine TC.region ?_
  refine' TL.y rfl rfl rfl ?hy1 ?_
  case hy1 => exact Yl.assign rfl rfl
  refine TL.nil ?_
  refine TE.next ?_
  refine TC.seq ?_
  refine TC.seq ?_
  refine TC.region ?_
  refine' TL.y rfl rfl rfl ?hy2 ?_
  case hy2 => exact Yl.move rfl rfl
  refine TL.nil ?_
  refine TE.next ?_
  refine TC.cond rfl (fun hs3 => ?_) (fun hs3 => ?_)
  · skip
    (try simp only [nrm] at hs3)
    refine TC.seq ?_
    refine TC.region ?_
    refine' TL.y rfl rfl rfl ?hy3 ?_
    case hy3 => exact Yl.assign rfl rfl
    refine TL.nil ?_
    refine TE.next ?_
    refine TC.ret ?_
    refine TE.thenRet ?_
    refine TE.ret1 rfl rfl ?_
    have hb : bI b = 1 := by rw [show b = true from by first | exact hs3 | simpa using hs3]; rfl
    exact fun w h => ⟨by rw [hb], h.below⟩
  · skip
    (try simp only [nrm] at hs3)
    refine TC.skip ?_
    refine TE.next ?_
    refine TC.seq ?_
    refine TC.region ?_
    refine' TL.y rfl rfl rfl ?hy4 ?_
    case hy4 => exact Yl.assign rfl rfl
    refine TL.nil ?_
    refine TE.next ?_
    refine TC.ret ?_
    refine TE.ret1 rfl rfl ?_
    have hb : bI b = 0 := by rw [show b = false from by first | exact hs3 | simpa using hs3]; rfl
    exact fun w h => ⟨by rw [hb], h.below⟩
set_option maxRecDepth 100000 in
set_option maxHeartbeats 2000000 in
theorem k_eright (W : World) (en : En) : Calls Try.prog 66 #[.agg #[.int .i64 (en).k, .int .i64 (en).pg, .bool (en).w, .bool (en).t]] W fun e w' => e = .returned (.bool (rE en)) ∧ Below W.heap.size W w' := by
  have hM : Hp W (fun _ => False) [] W := Hp.start
  refine TC.enter (n := 21) Try.func66 rfl rfl rfl hM ?_
  refine TC.seq ?_
  refine TC.region ?_
  refine' TL.mx rfl rfl rfl ?hy1 ?_
  case hy1 => exact Ym.box rfl rfl
  intro b1
  refine' TL.y rfl rfl rfl ?hy2 ?_
  case hy2 => exact Yl.assign rfl rfl
  refine TL.nil ?_
  refine TE.next ?_
  refine TC.seq ?_
  refine TC.region ?_
  refine' TL.y rfl rfl rfl ?hy3 ?_
  case hy3 => first | exact Yl.field0 (k := 0) 0 rfl rfl Try.underlying30 rfl (by kernel_rfl) rfl | exact Yl.field (k := 0) 0 rfl rfl Try.underlying30 rfl (by kernel_rfl) rfl
  refine' TL.y rfl rfl rfl ?hy4 ?_
  case hy4 => exact Yl.load rfl rfl (by kernel_rfl) (by first | exact Hp.cell mem0 rfl | exact Hp.cell mem1 rfl | exact Hp.cell mem2 rfl | exact Hp.cell mem3 rfl | exact Hp.cell mem4 rfl | exact Hp.rowAt mem0 (by omega) rfl | exact Hp.rowAt mem1 (by omega) rfl | exact Hp.rowAt mem2 (by omega) rfl | exact Hp.rowAt mem3 (by omega) rfl | exact Hp.rowAt mem4 (by omega) rfl)
  refine' TL.y rfl rfl rfl ?hy5 ?_
  case hy5 => exact Yl.bin rfl rfl rfl (Bin.eql _ _ _ _)
  refine' TL.y rfl rfl rfl ?hy6 ?_
  case hy6 => exact Yl.move rfl rfl
  refine TL.split (i := 6) rfl (fun hs6 => ?_) (fun hs6 => ?_)
  · skip
    (try simp only [nrm] at hs6)
    refine' TL.y rfl rfl rfl ?hy7 ?_
    case hy7 => exact Yl.loads (cs := [.int .i64 (en).k, .int .i64 (en).pg, .bool (en).w, .bool (en).t]) rfl rfl (by kernel_rfl) (by kernel_rfl) (Hp.cells mem0 (fun j v hj => by simpa [Value.cells] using hj))
    refine' TL.y rfl rfl rfl ?hy8 ?_
    case hy8 => exact Yl.build (z := .agg #[.int .i64 0, .int .i64 0, .bool false, .bool false]) [(0, 1), (1, 1), (2, 1), (3, 1)] rfl (by kernel_rfl) Try.underlying30 (by kernel_rfl) rfl rfl
    refine' TL.y rfl rfl rfl ?hy9 ?_
    case hy9 => exact Yl.bin rfl rfl rfl (Bin.eqlE _ _ _ _ _ _ _ _)
    refine' TL.y rfl rfl rfl ?hy10 ?_
    case hy10 => exact Yl.pickT rfl rfl rfl
    refine' TL.y rfl rfl rfl ?hy11 ?_
    case hy11 => exact Yl.move rfl rfl
    refine TL.split (i := 11) rfl (fun hs11 => ?_) (fun hs11 => ?_)
    · skip
      (try simp only [nrm] at hs11)
      refine TL.skip rfl rfl rfl ?_
      refine TL.skip rfl rfl rfl ?_
      refine TL.skip rfl rfl rfl ?_
      refine' TL.y rfl rfl rfl ?hy12 ?_
      case hy12 => exact Yl.pickT rfl rfl rfl
      refine' TL.y rfl rfl rfl ?hy13 ?_
      case hy13 => exact Yl.move rfl rfl
      refine TL.skip rfl rfl rfl ?_
      refine TL.skip rfl rfl rfl ?_
      refine TL.skip rfl rfl rfl ?_
      refine' TL.y rfl rfl rfl ?hy14 ?_
      case hy14 => exact Yl.pickT rfl rfl rfl
      refine' TL.y rfl rfl rfl ?hy15 ?_
      case hy15 => exact Yl.assign rfl rfl
      refine TL.nil ?_
      refine TE.next ?_
      refine TC.ret ?_
      refine TE.ret1 rfl rfl ?_
      simp only [Bool.and_eq_true, beq_iff_eq] at hs11
      have hr : rE en = true := decide_eq_true (.inr (.inr ⟨hs11.1, hs11.2.1, hs11.2.2.1, hs11.2.2.2⟩))
      exact fun w h => ⟨by rw [hr], (h.sub (List.nil_sublist _)).below⟩
    · skip
      (try simp only [nrm] at hs11)
      refine' TL.y rfl rfl rfl ?hy16 ?_
      case hy16 => first | exact Yl.field0 (k := 0) 0 rfl rfl Try.underlying30 rfl (by kernel_rfl) rfl | exact Yl.field (k := 0) 0 rfl rfl Try.underlying30 rfl (by kernel_rfl) rfl
      refine' TL.y rfl rfl rfl ?hy17 ?_
      case hy17 => exact Yl.load rfl rfl (by kernel_rfl) (by first | exact Hp.cell mem0 rfl | exact Hp.cell mem1 rfl | exact Hp.cell mem2 rfl | exact Hp.cell mem3 rfl | exact Hp.cell mem4 rfl | exact Hp.rowAt mem0 (by omega) rfl | exact Hp.rowAt mem1 (by omega) rfl | exact Hp.rowAt mem2 (by omega) rfl | exact Hp.rowAt mem3 (by omega) rfl | exact Hp.rowAt mem4 (by omega) rfl)
      refine' TL.y rfl rfl rfl ?hy18 ?_
      case hy18 => exact Yl.bin rfl rfl rfl (Bin.eql _ _ _ _)
      refine' TL.y rfl rfl rfl ?hy19 ?_
      case hy19 => exact Yl.pickF rfl rfl rfl
      refine' TL.y rfl rfl rfl ?hy20 ?_
      case hy20 => exact Yl.move rfl rfl
      refine TL.split (i := 16) rfl (fun hs16 => ?_) (fun hs16 => ?_)
      · skip
        (try simp only [nrm] at hs16)
        refine TL.skip rfl rfl rfl ?_
        refine TL.skip rfl rfl rfl ?_
        refine TL.skip rfl rfl rfl ?_
        refine' TL.y rfl rfl rfl ?hy21 ?_
        case hy21 => exact Yl.pickT rfl rfl rfl
        refine' TL.y rfl rfl rfl ?hy22 ?_
        case hy22 => exact Yl.assign rfl rfl
        refine TL.nil ?_
        refine TE.next ?_
        refine TC.ret ?_
        refine TE.ret1 rfl rfl ?_
        have hr : rE en = true := decide_eq_true (.inl (by omega))
        exact fun w h => ⟨by rw [hr], (h.sub (List.nil_sublist _)).below⟩
      · skip
        (try simp only [nrm] at hs16)
        refine' TL.y rfl rfl rfl ?hy23 ?_
        case hy23 => first | exact Yl.field0 (k := 0) 0 rfl rfl Try.underlying30 rfl (by kernel_rfl) rfl | exact Yl.field (k := 0) 0 rfl rfl Try.underlying30 rfl (by kernel_rfl) rfl
        refine' TL.y rfl rfl rfl ?hy24 ?_
        case hy24 => exact Yl.load rfl rfl (by kernel_rfl) (by first | exact Hp.cell mem0 rfl | exact Hp.cell mem1 rfl | exact Hp.cell mem2 rfl | exact Hp.cell mem3 rfl | exact Hp.cell mem4 rfl | exact Hp.rowAt mem0 (by omega) rfl | exact Hp.rowAt mem1 (by omega) rfl | exact Hp.rowAt mem2 (by omega) rfl | exact Hp.rowAt mem3 (by omega) rfl | exact Hp.rowAt mem4 (by omega) rfl)
        refine' TL.y rfl rfl rfl ?hy25 ?_
        case hy25 => exact Yl.bin rfl rfl rfl (Bin.eql _ _ _ _)
        refine' TL.y rfl rfl rfl ?hy26 ?_
        case hy26 => exact Yl.pickF rfl rfl rfl
        refine' TL.y rfl rfl rfl ?hy27 ?_
        case hy27 => exact Yl.assign rfl rfl
        refine TL.nil ?_
        refine TE.next ?_
        refine TC.ret ?_
        refine TE.ret1 rfl rfl ?_
        have hz : ¬ (en.k = 0 ∧ en.pg = 0 ∧ en.w = false ∧ en.t = false) := fun h => by rw [h.1, h.2.1, h.2.2.1, h.2.2.2] at hs11; simp at hs11
        have hr : rE en = (en.k == 2) := by
          unfold rE
          rw [Bool.eq_iff_iff, decide_eq_true_iff, beq_iff_eq]
          exact ⟨fun h => by rcases h with h | h | h; omega; exact h; exact absurd h hz, fun h => .inr (.inl h)⟩
        exact fun w h => ⟨by rw [hr], (h.sub (List.nil_sublist _)).below⟩
  · skip
    (try simp only [nrm] at hs6)
    refine TL.skip rfl rfl rfl ?_
    refine TL.skip rfl rfl rfl ?_
    refine TL.skip rfl rfl rfl ?_
    refine' TL.y rfl rfl rfl ?hy28 ?_
    case hy28 => exact Yl.pickF rfl rfl rfl
    refine' TL.y rfl rfl rfl ?hy29 ?_
    case hy29 => exact Yl.move rfl rfl
    refine' TL.y rfl rfl rfl ?hy30 ?_
    case hy30 => first | exact Yl.field0 (k := 0) 0 rfl rfl Try.underlying30 rfl (by kernel_rfl) rfl | exact Yl.field (k := 0) 0 rfl rfl Try.underlying30 rfl (by kernel_rfl) rfl
    refine' TL.y rfl rfl rfl ?hy31 ?_
    case hy31 => exact Yl.load rfl rfl (by kernel_rfl) (by first | exact Hp.cell mem0 rfl | exact Hp.cell mem1 rfl | exact Hp.cell mem2 rfl | exact Hp.cell mem3 rfl | exact Hp.cell mem4 rfl | exact Hp.rowAt mem0 (by omega) rfl | exact Hp.rowAt mem1 (by omega) rfl | exact Hp.rowAt mem2 (by omega) rfl | exact Hp.rowAt mem3 (by omega) rfl | exact Hp.rowAt mem4 (by omega) rfl)
    refine' TL.y rfl rfl rfl ?hy32 ?_
    case hy32 => exact Yl.bin rfl rfl rfl (Bin.eql _ _ _ _)
    refine' TL.y rfl rfl rfl ?hy33 ?_
    case hy33 => exact Yl.pickF rfl rfl rfl
    refine' TL.y rfl rfl rfl ?hy34 ?_
    case hy34 => exact Yl.move rfl rfl
    refine TL.split (i := 16) rfl (fun hs16 => ?_) (fun hs16 => ?_)
    · skip
      (try simp only [nrm] at hs16)
      refine TL.skip rfl rfl rfl ?_
      refine TL.skip rfl rfl rfl ?_
      refine TL.skip rfl rfl rfl ?_
      refine' TL.y rfl rfl rfl ?hy35 ?_
      case hy35 => exact Yl.pickT rfl rfl rfl
      refine' TL.y rfl rfl rfl ?hy36 ?_
      case hy36 => exact Yl.assign rfl rfl
      refine TL.nil ?_
      refine TE.next ?_
      refine TC.ret ?_
      refine TE.ret1 rfl rfl ?_
      have hr : rE en = true := decide_eq_true (.inl (by omega))
      exact fun w h => ⟨by rw [hr], (h.sub (List.nil_sublist _)).below⟩
    · skip
      (try simp only [nrm] at hs16)
      refine' TL.y rfl rfl rfl ?hy37 ?_
      case hy37 => first | exact Yl.field0 (k := 0) 0 rfl rfl Try.underlying30 rfl (by kernel_rfl) rfl | exact Yl.field (k := 0) 0 rfl rfl Try.underlying30 rfl (by kernel_rfl) rfl
      refine' TL.y rfl rfl rfl ?hy38 ?_
      case hy38 => exact Yl.load rfl rfl (by kernel_rfl) (by first | exact Hp.cell mem0 rfl | exact Hp.cell mem1 rfl | exact Hp.cell mem2 rfl | exact Hp.cell mem3 rfl | exact Hp.cell mem4 rfl | exact Hp.rowAt mem0 (by omega) rfl | exact Hp.rowAt mem1 (by omega) rfl | exact Hp.rowAt mem2 (by omega) rfl | exact Hp.rowAt mem3 (by omega) rfl | exact Hp.rowAt mem4 (by omega) rfl)
      refine' TL.y rfl rfl rfl ?hy39 ?_
      case hy39 => exact Yl.bin rfl rfl rfl (Bin.eql _ _ _ _)
      refine' TL.y rfl rfl rfl ?hy40 ?_
      case hy40 => exact Yl.pickF rfl rfl rfl
      refine' TL.y rfl rfl rfl ?hy41 ?_
      case hy41 => exact Yl.assign rfl rfl
      refine TL.nil ?_
      refine TE.next ?_
      refine TC.ret ?_
      refine TE.ret1 rfl rfl ?_
      have hz : ¬ (en.k = 0 ∧ en.pg = 0 ∧ en.w = false ∧ en.t = false) := fun h => by omega
      have hr : rE en = (en.k == 2) := by
        unfold rE
        rw [Bool.eq_iff_iff, decide_eq_true_iff, beq_iff_eq]
        exact ⟨fun h => by rcases h with h | h | h; omega; exact h; exact absurd h hz, fun h => .inr (.inl h)⟩
      exact fun w h => ⟨by rw [hr], (h.sub (List.nil_sublist _)).below⟩
set_option maxRecDepth 100000 in
set_option maxHeartbeats 2000000 in
theorem k_epack (W : World) (en : En) (hwf : wfI (vsE en)) : Calls Try.prog 36 #[.agg #[.int .i64 (en).k, .int .i64 (en).pg, .bool (en).w, .bool (en).t]] W fun e w' => e = .returned (.tuple #[.int .u64 (pkE en).1, .int .i64 (pkE en).2]) ∧ Below W.heap.size W w' := by
  have hM : Hp W (fun _ => False) [] W := Hp.start
  refine TC.enter (n := 22) Try.func36 rfl rfl rfl hM ?_
  refine TC.seq ?_
  refine TC.region ?_
  refine' TL.mx rfl rfl rfl ?hy1 ?_
  case hy1 => exact Ym.box rfl rfl
  intro b1
  refine' TL.y rfl rfl rfl ?hy2 ?_
  case hy2 => exact Yl.assign rfl rfl
  refine' TL.y rfl rfl rfl ?hy3 ?_
  case hy3 => exact Yl.assign rfl rfl
  refine TL.nil ?_
  refine TE.next ?_
  refine TC.seq ?_
  refine TC.seq ?_
  refine TC.region ?_
  refine' TL.y rfl rfl rfl ?hy4 ?_
  case hy4 => exact Yl.loads (cs := [.int .i64 (en).k, .int .i64 (en).pg, .bool (en).w, .bool (en).t]) rfl rfl (by kernel_rfl) (by kernel_rfl) (Hp.cells mem0 (fun j v hj => by simpa [Value.cells] using hj))
  refine' TL.c rfl rfl rfl ?hy5 ?_
  case hy5 => exact Yc.call rfl Try.func66 (by kernel_rfl) rfl rfl (Hp.calls (fun w h => k_eright w en))
  intro _
  refine' TL.y rfl rfl rfl ?hy6 ?_
  case hy6 => exact Yl.not rfl rfl
  refine TL.nil ?_
  refine TE.next ?_
  refine TC.cond rfl (fun hs6 => ?_) (fun hs6 => ?_)
  · skip
    (try simp only [nrm] at hs6)
    refine TC.seq ?_
    refine TC.region ?_
    refine' TL.y rfl rfl rfl ?hy7 ?_
    case hy7 => exact Yl.assign rfl rfl
    refine' TL.y rfl rfl rfl ?hy8 ?_
    case hy8 => exact Yl.assign rfl rfl
    refine TL.nil ?_
    refine TE.next ?_
    refine TC.ret ?_
    refine TE.thenRet ?_
    refine TE.ret2 rfl rfl rfl ?_
    exact fun w h => ⟨by rw [show pkE en = (0, 1) from if_neg (by simpa using hs6)], (h.sub (List.nil_sublist _)).below⟩
  · skip
    (try simp only [nrm] at hs6)
    refine TC.skip ?_
    refine TE.next ?_
    refine TC.seq ?_
    refine TC.draw (k := 17) (Hp W (fun _ => False) [blk b1 (.cells #[.int .i64 (en).k, .int .i64 (en).pg, .bool (en).w, .bool (en).t] 30 (0, 0))]) [] #[false, false, false, false, false, false, false, false, false, false, false, false, false, false, false, false, false] (by kernel_rfl) rfl rfl (fun _ h => h.drew) (fun _ h => by exact Hp.sub h (by repeat (first | exact sR _ | exact sN _ | apply sK | apply sC))) ?_
    refine' TA.y (i := 1) #[false, true, false, false, false, false, false, false, false, false, false, false, false, false, false, false, false] rfl rfl rfl (by kernel_rfl) (fun _ _ _ h => h) (fun _ h => by exact Hp.sub h (by repeat (first | exact sR _ | exact sN _ | apply sK | apply sC))) rfl ?hy9 ?_
    case hy9 => first | exact Yl.field0 (k := 0) 0 rfl rfl Try.underlying30 rfl (by kernel_rfl) rfl | exact Yl.field (k := 0) 0 rfl rfl Try.underlying30 rfl (by kernel_rfl) rfl
    refine' TA.y (i := 2) #[false, true, true, false, false, false, false, false, false, false, false, false, false, false, false, false, false] rfl rfl rfl (by kernel_rfl) (fun _ _ _ h => h) (fun _ h => by exact Hp.sub h (by repeat (first | exact sR _ | exact sN _ | apply sK | apply sC))) rfl ?hy10 ?_
    case hy10 => exact Yl.load rfl rfl (by kernel_rfl) (by first | exact Hp.cell mem0 rfl | exact Hp.cell mem1 rfl | exact Hp.cell mem2 rfl | exact Hp.cell mem3 rfl | exact Hp.cell mem4 rfl | exact Hp.rowAt mem0 (by omega) rfl | exact Hp.rowAt mem1 (by omega) rfl | exact Hp.rowAt mem2 (by omega) rfl | exact Hp.rowAt mem3 (by omega) rfl | exact Hp.rowAt mem4 (by omega) rfl)
    refine' TA.y (i := 3) #[false, true, true, true, false, false, false, false, false, false, false, false, false, false, false, false, false] rfl rfl rfl (by kernel_rfl) (fun _ _ _ h => h) (fun _ h => by exact Hp.sub h (by repeat (first | exact sR _ | exact sN _ | apply sK | apply sC))) rfl ?hy11 ?_
    case hy11 => first | exact Yl.field0 (k := 0) 1 rfl rfl Try.underlying30 rfl (by kernel_rfl) rfl | exact Yl.field (k := 0) 1 rfl rfl Try.underlying30 rfl (by kernel_rfl) rfl
    refine' TA.y (i := 4) #[false, true, true, true, true, false, false, false, false, false, false, false, false, false, false, false, false] rfl rfl rfl (by kernel_rfl) (fun _ _ _ h => h) (fun _ h => by exact Hp.sub h (by repeat (first | exact sR _ | exact sN _ | apply sK | apply sC))) rfl ?hy12 ?_
    case hy12 => exact Yl.load rfl rfl (by kernel_rfl) (by first | exact Hp.cell mem0 rfl | exact Hp.cell mem1 rfl | exact Hp.cell mem2 rfl | exact Hp.cell mem3 rfl | exact Hp.cell mem4 rfl | exact Hp.rowAt mem0 (by omega) rfl | exact Hp.rowAt mem1 (by omega) rfl | exact Hp.rowAt mem2 (by omega) rfl | exact Hp.rowAt mem3 (by omega) rfl | exact Hp.rowAt mem4 (by omega) rfl)
    refine' TA.y (i := 5) #[false, true, true, true, true, true, false, false, false, false, false, false, false, false, false, false, false] rfl rfl rfl (by kernel_rfl) (fun _ _ _ h => h) (fun _ h => by exact Hp.sub h (by repeat (first | exact sR _ | exact sN _ | apply sK | apply sC))) rfl ?hy13 ?_
    case hy13 => first | exact Yl.field0 (k := 0) 2 rfl rfl Try.underlying30 rfl (by kernel_rfl) rfl | exact Yl.field (k := 0) 2 rfl rfl Try.underlying30 rfl (by kernel_rfl) rfl
    refine' TA.y (i := 6) #[false, true, true, true, true, true, true, false, false, false, false, false, false, false, false, false, false] rfl rfl rfl (by kernel_rfl) (fun _ _ _ h => h) (fun _ h => by exact Hp.sub h (by repeat (first | exact sR _ | exact sN _ | apply sK | apply sC))) rfl ?hy14 ?_
    case hy14 => exact Yl.load rfl rfl (by kernel_rfl) (by first | exact Hp.cell mem0 rfl | exact Hp.cell mem1 rfl | exact Hp.cell mem2 rfl | exact Hp.cell mem3 rfl | exact Hp.cell mem4 rfl | exact Hp.rowAt mem0 (by omega) rfl | exact Hp.rowAt mem1 (by omega) rfl | exact Hp.rowAt mem2 (by omega) rfl | exact Hp.rowAt mem3 (by omega) rfl | exact Hp.rowAt mem4 (by omega) rfl)
    refine' TA.y (i := 8) #[false, true, true, true, true, true, true, false, true, false, false, false, false, false, false, false, false] rfl rfl rfl (by kernel_rfl) (fun _ _ _ h => h) (fun _ h => by exact Hp.sub h (by repeat (first | exact sR _ | exact sN _ | apply sK | apply sC))) rfl ?hy15 ?_
    case hy15 => first | exact Yl.field0 (k := 0) 3 rfl rfl Try.underlying30 rfl (by kernel_rfl) rfl | exact Yl.field (k := 0) 3 rfl rfl Try.underlying30 rfl (by kernel_rfl) rfl
    refine' TA.y (i := 9) #[false, true, true, true, true, true, true, false, true, true, false, false, false, false, false, false, false] rfl rfl rfl (by kernel_rfl) (fun _ _ _ h => h) (fun _ h => by exact Hp.sub h (by repeat (first | exact sR _ | exact sN _ | apply sK | apply sC))) rfl ?hy16 ?_
    case hy16 => exact Yl.load rfl rfl (by kernel_rfl) (by first | exact Hp.cell mem0 rfl | exact Hp.cell mem1 rfl | exact Hp.cell mem2 rfl | exact Hp.cell mem3 rfl | exact Hp.cell mem4 rfl | exact Hp.rowAt mem0 (by omega) rfl | exact Hp.rowAt mem1 (by omega) rfl | exact Hp.rowAt mem2 (by omega) rfl | exact Hp.rowAt mem3 (by omega) rfl | exact Hp.rowAt mem4 (by omega) rfl)
    refine' TA.c (i := 0) #[true, true, true, true, true, true, true, false, true, true, false, false, false, false, false, false, false] rfl rfl rfl (by kernel_rfl) (by decide) rfl ?hy17 ?hz17 ?_
    case hy17 => exact Yc.call rfl Try.func68 (by kernel_rfl) rfl rfl (Hp.news (fun w h => k_ewidths w))
    case hz17 => exact (fun _ _ h => by exact Hp.sub h (by repeat (first | exact sR _ | apply sC)))
    intro b7
    refine' TA.c (i := 7) #[true, true, true, true, true, true, true, true, true, true, false, false, false, false, false, false, false] rfl rfl rfl (by kernel_rfl) (by decide) rfl ?hy18 ?hz18 ?_
    case hy18 => exact Yc.call rfl Try.func69 (by kernel_rfl) rfl rfl (Hp.calls (fun w h => k_ebit w en.w))
    case hz18 => exact (fun _ _ h => by exact Hp.sub h (by repeat (first | exact sR _ | apply sC)))
    intro _
    refine' TA.c (i := 10) #[true, true, true, true, true, true, true, true, true, true, true, false, false, false, false, false, false] rfl rfl rfl (by kernel_rfl) (by decide) rfl ?hy19 ?hz19 ?_
    case hy19 => exact Yc.call rfl Try.func69 (by kernel_rfl) rfl rfl (Hp.calls (fun w h => k_ebit w en.t))
    case hz19 => exact (fun _ _ h => by exact Hp.sub h (by repeat (first | exact sR _ | apply sC)))
    intro _
    refine' TA.mx (i := 11) #[true, true, true, true, true, true, true, true, true, true, true, true, false, false, false, false, false] rfl rfl rfl (by kernel_rfl) (by decide) rfl ?hy20 ?hz20 ?_
    case hy20 => exact Ym.buildSlice (cells := #[.int .i64 en.k, .int .i64 en.pg, .int .i64 (bI en.w), .int .i64 (bI en.t)]) (z := .int .i64 0) (size := 1) #[.int .i64 0, .int .i64 0, .int .i64 0, .int .i64 0] rfl Try.underlying36 (by kernel_rfl) (by decide) (by decide) (by kernel_rfl) rfl rfl
    case hz20 => exact (fun _ _ h => by exact Hp.sub h (by repeat (first | exact sR _ | apply sC)))
    intro b18
    refine' TA.c (i := 12) #[true, true, true, true, true, true, true, true, true, true, true, true, true, false, false, false, false] rfl rfl rfl (by kernel_rfl) (by decide) rfl ?hy21 ?hz21 ?_
    case hy21 => exact Yc.call rfl Try.func67 (by kernel_rfl) rfl rfl (Hp.calls (fun w h => q_pack w wsE (vsE en) _ _ 4 4 (Sl.ofBlk (h.all _ mem1) rfl) (Sl.ofBlk (h.all _ mem0) rfl) (by decide) (by simp [vsE]) hwf))
    case hz21 => exact (fun _ _ h => by exact Hp.sub h (by repeat (first | exact sR _ | apply sC)))
    intro _
    refine' TA.y (i := 13) #[true, true, true, true, true, true, true, true, true, true, true, true, true, true, false, false, false] rfl rfl rfl (by kernel_rfl) (fun _ _ _ h => h) (fun _ h => by exact Hp.sub h (by repeat (first | exact sR _ | exact sN _ | apply sK | apply sC))) rfl ?hy22 ?_
    case hy22 => exact Yl.extract rfl rfl rfl
    refine' TA.y (i := 14) #[true, true, true, true, true, true, true, true, true, true, true, true, true, true, true, false, false] rfl rfl rfl (by kernel_rfl) (fun _ _ _ h => h) (fun _ h => by exact Hp.sub h (by repeat (first | exact sR _ | exact sN _ | apply sK | apply sC))) rfl ?hy23 ?_
    case hy23 => exact Yl.extract rfl rfl rfl
    refine' TA.y (i := 15) #[true, true, true, true, true, true, true, true, true, true, true, true, true, true, true, true, false] rfl rfl rfl (by kernel_rfl) (fun _ _ _ h => h) (fun _ h => by exact Hp.sub h (by repeat (first | exact sR _ | exact sN _ | apply sK | apply sC))) rfl ?hy24 ?_
    case hy24 => exact Yl.assign rfl rfl
    refine' TA.y (i := 16) #[true, true, true, true, true, true, true, true, true, true, true, true, true, true, true, true, true] rfl rfl rfl (by kernel_rfl) (fun _ _ _ h => h) (fun _ h => by exact Hp.sub h (by repeat (first | exact sR _ | exact sN _ | apply sK | apply sC))) rfl ?hy25 ?_
    case hy25 => exact Yl.assign rfl rfl
    refine TA.done (by kernel_rfl) ?_
    refine TE.next ?_
    refine TC.ret ?_
    refine TE.ret2 rfl rfl rfl ?_
    exact fun w h => ⟨by rw [show pkE en = packS wsE (vsE en) from if_pos (by simpa using hs6)]; rfl, (h.sub (List.nil_sublist _)).below⟩
set_option maxRecDepth 100000 in
set_option maxHeartbeats 2000000 in
theorem k_eunpack (W : World) {en : En} (hE : okE en) : Calls Try.prog 43 #[.int .u64 (encE en)] W fun e w' => e = .returned (.tuple #[.agg #[.int .i64 (en).k, .int .i64 (en).pg, .bool (en).w, .bool (en).t], .int .i64 0]) ∧ Below W.heap.size W w' := by
  have hb := encE_bd hE
  have hM : Hp W (fun _ => False) [] W := Hp.start
  refine TC.enter (n := 35) Try.func43 rfl rfl rfl hM ?_
  refine TC.seq ?_
  refine TC.region ?_
  refine' TL.mx rfl rfl rfl ?hy1 ?_
  case hy1 => exact Ym.alloc (z := .agg #[.int .i64 0, .int .i64 0, .bool false, .bool false]) rfl (by kernel_rfl)
  intro b2
  refine' TL.y rfl rfl rfl ?hy2 ?_
  case hy2 => exact Yl.assign rfl rfl
  refine TL.nil ?_
  refine TE.next ?_
  refine TC.seq ?_
  refine TC.region ?_
  refine' TL.c rfl rfl rfl ?hy3 ?_
  case hy3 => exact Yc.call rfl Try.func68 (by kernel_rfl) rfl rfl (Hp.news (fun w h => k_ewidths w))
  intro b8
  refine' TL.y rfl rfl rfl ?hy4 ?_
  case hy4 => exact Yl.move rfl rfl
  refine' TL.c rfl rfl rfl ?hy5 ?_
  case hy5 => exact Yc.call rfl Try.func76 (by kernel_rfl) rfl rfl (Hp.news (fun w h => q_un_ok w wsE (encE en) _ 4 (Sl.ofBlk (h.all _ mem0) rfl) (by decide) (by omega) (by omega) okW_E))
  intro v10
  rw [unE_is hE]
  refine TL.fact (fun w h => h.ownSl (e := 3) (size := 1) (m := 4) (xs := (vsE en).map (Value.int .i64)) mem0) ?_
  rintro ⟨A10, c11, rfl⟩
  refine TL.fact (fun w h => h.ownSome' (e := 3) (size := 1) (m := 4) (xs := (vsE en).map (Value.int .i64)) mem0 (by decide)) ?_
  rintro ⟨g11, rfl⟩
  refine' TL.y rfl rfl rfl ?hy6 ?_
  case hy6 => exact Yl.move rfl rfl
  refine' TL.y rfl rfl rfl ?hy7 ?_
  case hy7 => exact Yl.extract rfl rfl rfl
  refine' TL.y rfl rfl rfl ?hy8 ?_
  case hy8 => exact Yl.extract rfl rfl rfl
  refine' TL.y rfl rfl rfl ?hy9 ?_
  case hy9 => exact Yl.assign rfl rfl
  refine' TL.y rfl rfl rfl ?hy10 ?_
  case hy10 => exact Yl.assign rfl rfl
  refine TL.nil ?_
  refine TE.next ?_
  refine TC.seq ?_
  refine TC.seq ?_
  refine TC.region ?_
  refine' TL.y rfl rfl rfl ?hy11 ?_
  case hy11 => exact Yl.move rfl rfl
  refine' TL.y rfl rfl rfl ?hy12 ?_
  case hy12 => exact Yl.bin rfl rfl rfl (Bin.neq _ _ _ _)
  refine TL.nil ?_
  refine TE.next ?_
  refine TC.no rfl (rfl) ?_
  refine TC.skip ?_
  refine TE.next ?_
  refine TC.seq ?_
  refine TC.draw (k := 15) (Hp W (fun _ => False) [ownR 3 1 (.slice (some ⟨g11, 0, none⟩) 4 c11) 4 ((vsE en).map (Value.int .i64))]) [14] #[false, false, false, false, false, false, false, false, false, false, false, false, false, false, false] (by kernel_rfl) rfl rfl (fun _ h => h.drew) (fun _ h => by exact Hp.sub h (by repeat (first | exact sR _ | exact sN _ | apply sK | apply sC))) ?_
  refine' TA.p (i := 0) #[true, false, false, false, false, false, false, false, false, false, false, false, false, false, false] rfl rfl rfl (by kernel_rfl) (fun _ _ _ h => h) rfl ?hy13 ?_
  case hy13 => exact Yl.move rfl rfl
  refine' TA.p (i := 1) #[true, true, false, false, false, false, false, false, false, false, false, false, false, false, false] rfl rfl rfl (by kernel_rfl) (fun _ _ _ h => h) rfl ?hy14 ?_
  case hy14 => exact Yl.ixz rfl rfl rfl Try.underlying36 (by kernel_rfl) (by decide) (by decide)
  refine' TA.y (i := 2) #[true, true, true, false, false, false, false, false, false, false, false, false, false, false, false] rfl rfl rfl (by kernel_rfl) (fun _ _ _ h => h) (fun _ h => by exact Hp.sub h (by repeat (first | exact sR _ | exact sN _ | apply sK | apply sC))) rfl ?hy15 ?_
  case hy15 => exact Yl.load rfl rfl (by kernel_rfl) (Hp.ownCell (e := 3) (size := 1) (m := 4) (xs := (vsE en).map (Value.int .i64)) (u := .int .i64 en.k) mem0 rfl)
  refine TA.re (i := 19) (v' := .int .i64 en.k) rfl rfl ?_
  refine' TA.p (i := 3) #[true, true, true, true, false, false, false, false, false, false, false, false, false, false, false] rfl rfl rfl (by kernel_rfl) (fun _ _ _ h => h) rfl ?hy16 ?_
  case hy16 => exact Yl.move rfl rfl
  refine' TA.p (i := 4) #[true, true, true, true, true, false, false, false, false, false, false, false, false, false, false] rfl rfl rfl (by kernel_rfl) (fun _ _ _ h => h) rfl ?hy17 ?_
  case hy17 => exact Yl.ixz rfl rfl rfl Try.underlying36 (by kernel_rfl) (by decide) (by decide)
  refine' TA.y (i := 5) #[true, true, true, true, true, true, false, false, false, false, false, false, false, false, false] rfl rfl rfl (by kernel_rfl) (fun _ _ _ h => h) (fun _ h => by exact Hp.sub h (by repeat (first | exact sR _ | exact sN _ | apply sK | apply sC))) rfl ?hy18 ?_
  case hy18 => exact Yl.load rfl rfl (by kernel_rfl) (Hp.ownCell (e := 3) (size := 1) (m := 4) (xs := (vsE en).map (Value.int .i64)) (u := .int .i64 en.pg) mem0 rfl)
  refine TA.re (i := 22) (v' := .int .i64 en.pg) rfl rfl ?_
  refine' TA.p (i := 6) #[true, true, true, true, true, true, true, false, false, false, false, false, false, false, false] rfl rfl rfl (by kernel_rfl) (fun _ _ _ h => h) rfl ?hy19 ?_
  case hy19 => exact Yl.move rfl rfl
  refine' TA.p (i := 7) #[true, true, true, true, true, true, true, true, false, false, false, false, false, false, false] rfl rfl rfl (by kernel_rfl) (fun _ _ _ h => h) rfl ?hy20 ?_
  case hy20 => exact Yl.bin rfl rfl rfl (Bin.and _ _ _ _)
  refine' TA.p (i := 8) #[true, true, true, true, true, true, true, true, true, false, false, false, false, false, false] rfl rfl rfl (by kernel_rfl) (fun _ _ _ h => h) rfl ?hy21 ?_
  case hy21 => exact Yl.bin rfl rfl rfl (Bin.neq _ _ _ _)
  refine TA.re (i := 25) (v' := .bool en.w) rfl (congrArg Value.bool (wbit hE)) ?_
  refine' TA.p (i := 9) #[true, true, true, true, true, true, true, true, true, true, false, false, false, false, false] rfl rfl rfl (by kernel_rfl) (fun _ _ _ h => h) rfl ?hy22 ?_
  case hy22 => exact Yl.move rfl rfl
  refine' TA.p (i := 10) #[true, true, true, true, true, true, true, true, true, true, true, false, false, false, false] rfl rfl rfl (by kernel_rfl) (fun _ _ _ h => h) rfl ?hy23 ?_
  case hy23 => exact Yl.bin rfl rfl rfl (Bin.and _ _ _ _)
  refine' TA.p (i := 11) #[true, true, true, true, true, true, true, true, true, true, true, true, false, false, false] rfl rfl rfl (by kernel_rfl) (fun _ _ _ h => h) rfl ?hy24 ?_
  case hy24 => exact Yl.bin rfl rfl rfl (Bin.neq _ _ _ _)
  refine TA.re (i := 28) (v' := .bool en.t) rfl (congrArg Value.bool (tbit hE)) ?_
  refine' TA.p (i := 12) #[true, true, true, true, true, true, true, true, true, true, true, true, true, false, false] rfl rfl rfl (by kernel_rfl) (fun _ _ _ h => h) rfl ?hy25 ?_
  case hy25 => exact Yl.build (z := .agg #[.int .i64 0, .int .i64 0, .bool false, .bool false]) [(0, 1), (1, 1), (2, 1), (3, 1)] rfl (by kernel_rfl) Try.underlying30 (by kernel_rfl) rfl rfl
  refine' TA.mx (i := 13) #[true, true, true, true, true, true, true, true, true, true, true, true, true, true, false] rfl rfl rfl (by kernel_rfl) (by decide) rfl ?hy26 ?hz26 ?_
  case hy26 => exact Ym.alloc (z := .agg #[.int .i64 0, .int .i64 0, .bool false, .bool false]) rfl (by kernel_rfl)
  case hz26 => exact (fun _ _ h => by exact Hp.sub h (by repeat (first | exact sR _ | exact sN _ | apply sK | apply sC)))
  intro b6
  refine' TA.sl (i := 14) #[true, true, true, true, true, true, true, true, true, true, true, true, true, true, true] rfl rfl (by kernel_rfl) (by decide) rfl ?hy27 ?_
  case hy27 => exact Ys.store (seg := [.int .i64 (en).k, .int .i64 (en).pg, .bool (en).w, .bool (en).t]) (c' := #[.int .i64 (en).k, .int .i64 (en).pg, .bool (en).w, .bool (en).t]) rfl rfl rfl (by simp [Value.cells]) (by kernel_rfl) (by simp [Value.oneCell']) foc0 (by simp [Value.cells]) rfl
  refine TA.done (by kernel_rfl) ?_
  refine TE.next ?_
  refine TC.seq ?_
  refine TC.seq ?_
  refine TC.region ?_
  refine' TL.y rfl rfl rfl ?hy28 ?_
  case hy28 => exact Yl.loads (cs := [.int .i64 (en).k, .int .i64 (en).pg, .bool (en).w, .bool (en).t]) rfl rfl (by kernel_rfl) (by kernel_rfl) (Hp.cells mem0 (fun j v hj => by simpa [Value.cells] using hj))
  refine' TL.c rfl rfl rfl ?hy29 ?_
  case hy29 => exact Yc.call rfl Try.func66 (by kernel_rfl) rfl rfl (Hp.calls (fun w h => k_eright w en))
  intro _
  rw [rE_ok hE]
  refine' TL.y rfl rfl rfl ?hy30 ?_
  case hy30 => exact Yl.not rfl rfl
  refine TL.nil ?_
  refine TE.next ?_
  refine TC.no rfl rfl ?_
  refine TC.skip ?_
  refine TE.next ?_
  refine TC.seq ?_
  refine TC.region ?_
  refine' TL.y rfl rfl rfl ?hy31 ?_
  case hy31 => exact Yl.loads (cs := [.int .i64 (en).k, .int .i64 (en).pg, .bool (en).w, .bool (en).t]) rfl rfl (by kernel_rfl) (by kernel_rfl) (Hp.cells mem0 (fun j v hj => by simpa [Value.cells] using hj))
  refine' TL.s rfl rfl ?hy32 ?_
  case hy32 => exact Ys.store (seg := [.int .i64 (en).k, .int .i64 (en).pg, .bool (en).w, .bool (en).t]) (c' := #[.int .i64 (en).k, .int .i64 (en).pg, .bool (en).w, .bool (en).t]) rfl rfl rfl (by simp [Value.cells]) (by kernel_rfl) (by simp [Value.oneCell']) foc3 (by simp [Value.cells]) rfl
  refine' TL.y rfl rfl rfl ?hy33 ?_
  case hy33 => exact Yl.assign rfl rfl
  refine TL.nil ?_
  refine TE.next ?_
  refine TC.ret ?_
  refine TE.retCAT [.int .i64 (en).k, .int .i64 (en).pg, .bool (en).w, .bool (en).t] rfl rfl rfl (by kernel_rfl) (by kernel_rfl) (Hp.cells mem3 (fun j v hj => by simpa [Value.cells] using hj)) ?_
  exact fun w h => ⟨rfl, (h.sub (List.nil_sublist _)).below⟩
set_option maxRecDepth 100000 in
set_option maxHeartbeats 2000000 in
theorem k_esome (W : World) {en : En} (hE : okE en) : Calls Try.prog 79 #[.int .u64 (encE en)] W fun e w' => e = .returned (.bool true) ∧ Below W.heap.size W w' := by
  have hM : Hp W (fun _ => False) [] W := Hp.start
  refine TC.enter (n := 17) Try.func79 rfl rfl rfl hM ?_
  refine TC.seq ?_
  refine TC.region ?_
  refine' TL.y rfl rfl rfl ?hy1 ?_
  case hy1 => exact Yl.assign rfl rfl
  refine TL.nil ?_
  refine TE.next ?_
  refine TC.seq ?_
  refine TC.region ?_
  refine' TL.y rfl rfl rfl ?hy2 ?_
  case hy2 => exact Yl.move rfl rfl
  refine' TL.c rfl rfl rfl ?hy3 ?_
  case hy3 => exact Yc.call rfl Try.func43 (by kernel_rfl) rfl rfl (Hp.calls (fun w h => k_eunpack w hE))
  intro _
  refine' TL.y rfl rfl rfl ?hy4 ?_
  case hy4 => exact Yl.move rfl rfl
  refine' TL.y rfl rfl rfl ?hy5 ?_
  case hy5 => exact Yl.extract rfl rfl rfl
  refine' TL.y rfl rfl rfl ?hy6 ?_
  case hy6 => exact Yl.extract rfl rfl rfl
  refine' TL.mx rfl rfl rfl ?hy7 ?_
  case hy7 => exact Ym.alloc (z := .agg #[.int .i64 0, .int .i64 0, .bool false, .bool false]) rfl (by kernel_rfl)
  intro b3
  refine' TL.s rfl rfl ?hy8 ?_
  case hy8 => exact Ys.store (seg := [.int .i64 (en).k, .int .i64 (en).pg, .bool (en).w, .bool (en).t]) (c' := #[.int .i64 (en).k, .int .i64 (en).pg, .bool (en).w, .bool (en).t]) rfl rfl rfl (by simp [Value.cells]) (by kernel_rfl) (by simp [Value.oneCell']) foc0 (by simp [Value.cells]) rfl
  refine' TL.y rfl rfl rfl ?hy9 ?_
  case hy9 => exact Yl.assign rfl rfl
  refine TL.nil ?_
  refine TE.next ?_
  refine TC.seq ?_
  refine TC.region ?_
  refine' TL.y rfl rfl rfl ?hy10 ?_
  case hy10 => exact Yl.move rfl rfl
  refine' TL.y rfl rfl rfl ?hy11 ?_
  case hy11 => exact Yl.bin rfl rfl rfl (Bin.eql _ _ _ _)
  refine' TL.y rfl rfl rfl ?hy12 ?_
  case hy12 => exact Yl.move rfl rfl
  refine TL.re (i := 12) (v' := .bool true) rfl (congrArg Value.bool (rfl)) ?_
  refine' TL.y rfl rfl rfl ?hy13 ?_
  case hy13 => first | exact Yl.field0 (k := 0) 0 rfl rfl Try.underlying30 rfl (by kernel_rfl) rfl | exact Yl.field (k := 0) 0 rfl rfl Try.underlying30 rfl (by kernel_rfl) rfl
  refine' TL.y rfl rfl rfl ?hy14 ?_
  case hy14 => exact Yl.load rfl rfl (by kernel_rfl) (by first | exact Hp.cell mem0 rfl | exact Hp.cell mem1 rfl | exact Hp.cell mem2 rfl | exact Hp.cell mem3 rfl | exact Hp.cell mem4 rfl | exact Hp.rowAt mem0 (by omega) rfl | exact Hp.rowAt mem1 (by omega) rfl | exact Hp.rowAt mem2 (by omega) rfl | exact Hp.rowAt mem3 (by omega) rfl | exact Hp.rowAt mem4 (by omega) rfl)
  refine' TL.y rfl rfl rfl ?hy15 ?_
  case hy15 => exact Yl.bin rfl rfl rfl (Bin.neq _ _ _ _)
  refine' TL.y rfl rfl rfl ?hy16 ?_
  case hy16 => exact Yl.pickT rfl rfl rfl
  refine' TL.y rfl rfl rfl ?hy17 ?_
  case hy17 => exact Yl.assign rfl rfl
  refine TL.nil ?_
  refine TE.next ?_
  refine TC.ret ?_
  refine TE.ret1 rfl rfl ?_
  have hk : (en.k != 0) = true := by rw [bne_iff_ne]; rcases hE.1 with h | h <;> omega
  exact fun w h => ⟨by rw [hk], (h.sub (List.nil_sublist _)).below⟩
set_option maxRecDepth 100000 in
set_option maxHeartbeats 2000000 in
theorem k_etouch (W : World) {en : En} (hE : okE en) : Calls Try.prog 48 #[.int .u64 (encE en)] W fun e w' => e = .returned (.int .u64 (encE (tch en true))) ∧ Below W.heap.size W w' := by
  have hM : Hp W (fun _ => False) [] W := Hp.start
  refine TC.enter (n := 8) Try.func48 rfl rfl rfl hM ?_
  refine TC.seq ?_
  refine TC.region ?_
  refine' TL.y rfl rfl rfl ?hy1 ?_
  case hy1 => exact Yl.assign rfl rfl
  refine TL.nil ?_
  refine TE.next ?_
  refine TC.seq ?_
  refine TC.seq ?_
  refine TC.region ?_
  refine' TL.y rfl rfl rfl ?hy2 ?_
  case hy2 => exact Yl.move rfl rfl
  refine' TL.c rfl rfl rfl ?hy3 ?_
  case hy3 => exact Yc.call rfl Try.func79 (by kernel_rfl) rfl rfl (Hp.calls (fun w h => k_esome w hE))
  intro _
  refine TL.nil ?_
  refine TE.next ?_
  refine TC.yes rfl rfl ?_
  refine TC.region ?_
  refine' TL.y rfl rfl rfl ?hy4 ?_
  case hy4 => exact Yl.move rfl rfl
  refine' TL.y rfl rfl rfl ?hy5 ?_
  case hy5 => exact Yl.val (Yl.bin rfl rfl rfl (Bin.or _ _ _ _)) (congrArg (Value.int .u64) (touch_is hE))
  refine' TL.y rfl rfl rfl ?hy6 ?_
  case hy6 => exact Yl.assign rfl rfl
  refine TL.nil ?_
  refine TE.next ?_
  refine TC.seq ?_
  refine TC.region ?_
  refine' TL.y rfl rfl rfl ?hy7 ?_
  case hy7 => exact Yl.move rfl rfl
  refine' TL.y rfl rfl rfl ?hy8 ?_
  case hy8 => exact Yl.assign rfl rfl
  refine TL.nil ?_
  refine TE.next ?_
  refine TC.ret ?_
  refine TE.ret1 rfl rfl ?_
  exact fun w h => ⟨rfl, h.below⟩
set_option maxRecDepth 100000 in
set_option maxHeartbeats 2000000 in
theorem k_erest (W : World) {en : En} (hE : okE en) : Calls Try.prog 49 #[.int .u64 (encE en)] W fun e w' => e = .returned (.tuple #[.int .u64 (encE (tch en false)), .bool en.t]) ∧ Below W.heap.size W w' := by
  have hM : Hp W (fun _ => False) [] W := Hp.start
  refine TC.enter (n := 13) Try.func49 rfl rfl rfl hM ?_
  refine TC.seq ?_
  refine TC.region ?_
  refine' TL.y rfl rfl rfl ?hy1 ?_
  case hy1 => exact Yl.assign rfl rfl
  refine' TL.y rfl rfl rfl ?hy2 ?_
  case hy2 => exact Yl.assign rfl rfl
  refine TL.nil ?_
  refine TE.next ?_
  refine TC.seq ?_
  refine TC.seq ?_
  refine TC.region ?_
  refine' TL.y rfl rfl rfl ?hy3 ?_
  case hy3 => exact Yl.move rfl rfl
  refine' TL.c rfl rfl rfl ?hy4 ?_
  case hy4 => exact Yc.call rfl Try.func79 (by kernel_rfl) rfl rfl (Hp.calls (fun w h => k_esome w hE))
  intro _
  refine' TL.y rfl rfl rfl ?hy5 ?_
  case hy5 => exact Yl.not rfl rfl
  refine TL.nil ?_
  refine TE.next ?_
  refine TC.no rfl rfl ?_
  refine TC.skip ?_
  refine TE.next ?_
  refine TC.seq ?_
  refine TC.region ?_
  refine' TL.y rfl rfl rfl ?hy6 ?_
  case hy6 => exact Yl.move rfl rfl
  refine' TL.y rfl rfl rfl ?hy7 ?_
  case hy7 => exact Yl.val (Yl.bin rfl rfl rfl (Bin.andNot _ _ _ _)) (congrArg (Value.int .u64) (rest_is hE))
  refine' TL.y rfl rfl rfl ?hy8 ?_
  case hy8 => exact Yl.move rfl rfl
  refine' TL.y rfl rfl rfl ?hy9 ?_
  case hy9 => exact Yl.bin rfl rfl rfl (Bin.and _ _ _ _)
  refine' TL.y rfl rfl rfl ?hy10 ?_
  case hy10 => exact Yl.bin rfl rfl rfl (Bin.neq _ _ _ _)
  refine TL.re (i := 12) (v' := .bool en.t) rfl (congrArg Value.bool (tbit hE)) ?_
  refine' TL.y rfl rfl rfl ?hy11 ?_
  case hy11 => exact Yl.assign rfl rfl
  refine' TL.y rfl rfl rfl ?hy12 ?_
  case hy12 => exact Yl.assign rfl rfl
  refine TL.nil ?_
  refine TE.next ?_
  refine TC.ret ?_
  refine TE.ret2 rfl rfl rfl ?_
  exact fun w h => ⟨rfl, h.below⟩
end Go.Proofs.Ytabjdjkkpbkpfaa.Pk
