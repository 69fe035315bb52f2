/- Groups with parents: what is computed: plain Lean. -/
namespace Go.Proofs.PrP
set_option linter.unusedVariables false
set_option linter.unusedSimpArgs false
abbrev Nd := Int × Int × Int
structure Vld (m : Nat) (f : Nat → Nd) : Prop where
  m1 : m ≤ 64
  root : 0 < m → (f 0).1 = -1
  up : ∀ i, 0 < i → i < m → 0 ≤ (f i).1 ∧ (f i).1 < i
  us : ∀ i, i < m → 0 ≤ (f i).2.1 ∧ (f i).2.1 ≤ 1099511627776
  ow : ∀ i, i < m → 0 ≤ (f i).2.2 ∧ (f i).2.2 ≤ 1099511627776
theorem Vld.par {m : Nat} {f : Nat → Nd} (h : Vld m f) {i : Nat} (hi : i < m) : -1 ≤ (f i).1 ∧ (f i).1 < i := by
  rcases Nat.eq_zero_or_pos i with e | e
  · subst e; have := h.root (by omega); omega
  · have := h.up i e hi; omega
def okN (i : Nat) (x : Nd) : Prop := (i = 0 → x.1 = -1) ∧ (0 < i → 0 ≤ x.1 ∧ x.1 < i) ∧ (0 ≤ x.2.1 ∧ x.2.1 ≤ 1099511627776) ∧ 0 ≤ x.2.2 ∧ x.2.2 ≤ 1099511627776
theorem vld_iff {m : Nat} {f : Nat → Nd} : Vld m f ↔ m ≤ 64 ∧ ∀ i, i < m → okN i (f i) :=
  ⟨fun h => ⟨h.m1, fun i hi => ⟨fun e => by subst e; exact h.root hi, fun e => h.up i e hi, h.us i hi, h.ow i hi⟩⟩, fun h => ⟨h.1, fun hm => (h.2 0 hm).1 rfl, fun i e hi => (h.2 i hi).2.1 e, fun i hi => (h.2 i hi).2.2.1, fun i hi => (h.2 i hi).2.2.2⟩⟩
instance (i : Nat) (x : Nd) : Decidable (okN i x) := by unfold okN; exact inferInstance
instance (m : Nat) (f : Nat → Nd) : Decidable (Vld m f) := decidable_of_iff _ vld_iff.symm
def nxt (f : Nat → Nd) (x : Int) : Int := if x < 0 then x else (f x.toNat).1
def sq (f : Nat → Nd) (g : Int) : Nat → Int
  | 0 => g
  | i + 1 => nxt f (sq f g i)
theorem sq_next {f : Nat → Nd} {g : Int} {i : Nat} (h : 0 ≤ sq f g i) : sq f g (i + 1) = (f (sq f g i).toNat).1 := by show nxt f _ = _; unfold nxt; rw [if_neg (by omega)]
theorem sq_same {f : Nat → Nd} {g : Int} {i : Nat} (h : sq f g i < 0) : sq f g (i + 1) = sq f g i := by show nxt f _ = _; unfold nxt; rw [if_pos h]
/-- How many are told on the way up. -/
def nU (f : Nat → Nd) (t : Int) : Nat → Int → Nat
  | 0, _ => 0
  | k + 1, x => if x = t then 0 else if x < 0 then 1 else 1 + nU f t k (f x.toNat).1
def blV (f : Nat → Nd) (t : Int) : Nat → Int → Bool
  | 0, _ => false
  | k + 1, x => if x = t then true else if x < 0 then false else blV f t k (f x.toNat).1
def hdV (f : Nat → Nd) (e : Nat → Int) (t : Int) : Nat → Int → Bool
  | 0, _ => false
  | k + 1, x => if x = t then false else if x < 0 then false else if (f x.toNat).2.1 ≤ e x.toNat then true else hdV f e t k (f x.toNat).1
/-- Where the way up stands. -/
structure WayUp (m : Nat) (f : Nat → Nd) (t g : Int) (i k : Nat) : Prop where
  lo : -1 ≤ sq f g i
  hi : sq f g i < m
  fu : sq f g i + 2 ≤ k
  nu : i + nU f t k (sq f g i) = nU f t (m + 1) g
theorem WayUp.start {m : Nat} {f : Nat → Nd} {t g : Int} (h0 : 0 ≤ g) (h1 : g < m) : WayUp m f t g 0 (m + 1) := ⟨by show -1 ≤ g; omega, by show g < m; exact h1, by show g + 2 ≤ _; omega, by show 0 + nU f t (m + 1) g = _; omega⟩
theorem WayUp.next {m : Nat} {f : Nat → Nd} {t g : Int} {i k : Nat} (hv : Vld m f) (h : WayUp m f t g i k) (ht : sq f g i ≠ t) (h0 : 0 ≤ sq f g i) : WayUp m f t g (i + 1) (k - 1) ∧ i < nU f t (m + 1) g ∧ 0 < k := by
  have h1 := h.hi; have h2 := h.fu; have h3 := h.nu
  have hp := hv.par (i := (sq f g i).toNat) (by omega)
  have e : sq f g (i + 1) = (f (sq f g i).toNat).1 := by show nxt f _ = _; unfold nxt; rw [if_neg (by omega)]
  obtain ⟨k', rfl⟩ : ∃ k', k = k' + 1 := ⟨k - 1, by omega⟩
  have h4 : nU f t (k' + 1) (sq f g i) = 1 + nU f t k' (f (sq f g i).toNat).1 := by rw [nU, if_neg ht, if_neg (by omega)]
  exact ⟨⟨by rw [e]; omega, by rw [e]; omega, by rw [e]; omega, by rw [e]; show i + 1 + nU f t (k' + 1 - 1) _ = _; rw [Nat.add_sub_cancel]; omega⟩, by omega, by omega⟩
theorem WayUp.last {m : Nat} {f : Nat → Nd} {t g : Int} {i k : Nat} (h : WayUp m f t g i k) (ht : sq f g i ≠ t) (h0 : sq f g i < 0) : nU f t (m + 1) g = i + 1 := by
  have h1 := h.lo; have h2 := h.fu; have h3 := h.nu
  obtain ⟨k', rfl⟩ : ∃ k', k = k' + 1 := ⟨k - 1, by omega⟩
  rw [nU, if_neg ht, if_pos h0] at h3; omega
theorem WayUp.stop {m : Nat} {f : Nat → Nd} {t g : Int} {i k : Nat} (h : WayUp m f t g i k) (ht : sq f g i = t) : nU f t (m + 1) g = i := by
  have h1 := h.lo; have h2 := h.fu; have h3 := h.nu
  obtain ⟨k', rfl⟩ : ∃ k', k = k' + 1 := ⟨k - 1, by omega⟩
  rw [nU, if_pos ht] at h3; omega
/-- Below the target: none of those told is -1. -/
theorem bl_iff {f : Nat → Nd} {t : Int} {m : Nat} (hv : Vld m f) (ht : 0 ≤ t) : ∀ (k : Nat) (x : Int), -1 ≤ x → x < m → x + 2 ≤ k → (blV f t k x = true ↔ ∀ j, j < nU f t k x → 0 ≤ sq f x j)
  | 0, x, h0, _, h1 => by omega
  | k + 1, x, h0, h1, h2 => by
    rw [blV, nU]
    by_cases e : x = t
    · rw [if_pos e, if_pos e]; exact ⟨fun _ j hj => by omega, fun _ => rfl⟩
    · rw [if_neg e, if_neg e]
      by_cases e2 : x < 0
      · rw [if_pos e2, if_pos e2]
        exact ⟨fun h => by (cases h), fun h => by have := h 0 (by omega); have : 0 ≤ x := this; omega⟩
      · rw [if_neg e2, if_neg e2]
        have hp := hv.par (i := x.toNat) (by omega)
        rw [bl_iff hv ht k _ hp.1 (by omega) (by omega)]
        have hs : ∀ j, sq f x (j + 1) = sq f (f x.toNat).1 j := by
          intro j
          induction j with
          | zero => show nxt f x = _; unfold nxt; rw [if_neg e2]; rfl
          | succ j ih => show nxt f (sq f x (j + 1)) = nxt f _; rw [ih]
        constructor
        · intro h j hj
          cases j with
          | zero => show 0 ≤ x; omega
          | succ j => rw [hs]; exact h j (by omega)
        · intro h j hj
          have := h (j + 1) (by omega)
          rw [hs] at this; exact this
/-! ## A product, divided digit by digit -/
theorem part_step {a p s : Int} {c : Nat} (ha : 0 ≤ a) (hp : 0 ≤ p) (hs : 0 < s) : (p / 2 ^ c % 2 = 0 ∨ p / 2 ^ c % 2 = 1) ∧ a * (p / 2 ^ c) / s = 2 * (a * (p / 2 ^ (c + 1)) / s) + (2 * (a * (p / 2 ^ (c + 1)) % s) + p / 2 ^ c % 2 * a) / s ∧ a * (p / 2 ^ c) % s = (2 * (a * (p / 2 ^ (c + 1)) % s) + p / 2 ^ c % 2 * a) % s := by
  have hk : (0 : Int) < 2 ^ c := Int.pow_pos (by decide)
  have e1 : p / 2 ^ (c + 1) = p / 2 ^ c / 2 := by rw [Int.pow_succ, Int.ediv_ediv_of_nonneg (by omega)]
  obtain ⟨P, hP⟩ : ∃ P, p / 2 ^ c = P := ⟨_, rfl⟩
  rw [e1, hP]
  have hd : P % 2 = 0 ∨ P % 2 = 1 := by omega
  have e2 : a * P = 2 * (a * (P / 2)) + P % 2 * a := by
    have h3 : a * P = a * (2 * (P / 2) + P % 2) := by rw [show 2 * (P / 2) + P % 2 = P by omega]
    rw [h3, Int.mul_add, Int.mul_comm a (P % 2), ← Int.mul_assoc, Int.mul_comm a 2, Int.mul_assoc]
  obtain ⟨z, hz⟩ : ∃ z, a * (P / 2) = z := ⟨_, rfl⟩
  have e3 := Int.mul_ediv_add_emod z s
  rw [hz] at e2
  rw [hz]
  have e4 : a * P = (2 * (z % s) + P % 2 * a) + s * (2 * (z / s)) := by
    rw [e2]
    have : s * (2 * (z / s)) = 2 * (s * (z / s)) := by rw [Int.mul_left_comm]
    rw [this]; omega
  refine ⟨hd, ?_, ?_⟩
  · rw [e4, Int.add_mul_ediv_left _ _ (by omega)]; omega
  · rw [e4, Int.add_mul_emod_self_left]
theorem part_le {a p s : Int} (ha : 0 ≤ a) (hp : 0 ≤ p) (hs : 0 < s) (h : a ≤ s) : 0 ≤ a * p / s ∧ a * p / s ≤ p := by
  have h1 : 0 ≤ a * p := Int.mul_nonneg ha hp
  have h2 : a * p ≤ s * p := Int.mul_le_mul_of_nonneg_right h hp
  exact ⟨Int.ediv_nonneg h1 (by omega), Int.ediv_le_of_le_mul hs (by rw [Int.mul_comm p s]; exact h2)⟩
theorem sq_tail {f : Nat → Nd} {x : Int} (h : 0 ≤ x) : ∀ j, sq f x (j + 1) = sq f (f x.toNat).1 j
  | 0 => by show nxt f x = _; unfold nxt; rw [if_neg (by omega)]; rfl
  | j + 1 => by show nxt f (sq f x (j + 1)) = nxt f _; rw [sq_tail h j]
theorem hd_iff {f : Nat → Nd} {e : Nat → Int} {t : Int} {m : Nat} (hv : Vld m f) (ht : 0 ≤ t) : ∀ (k : Nat) (x : Int), -1 ≤ x → x < m → x + 2 ≤ k → (∀ j, j < nU f t k x → 0 ≤ sq f x j) → (hdV f e t k x = true ↔ ∃ j, j < nU f t k x ∧ (f (sq f x j).toNat).2.1 ≤ e (sq f x j).toNat)
  | 0, x, h0, _, h1, _ => by omega
  | k + 1, x, h0, h1, h2, hall => by
    rw [nU] at hall ⊢
    rw [hdV]
    by_cases e1 : x = t
    · rw [if_pos e1, if_pos e1]
      exact ⟨fun h => by (cases h), fun ⟨j, hj, _⟩ => by omega⟩
    · rw [if_neg e1] at hall ⊢
      rw [if_neg e1]
      by_cases e2 : x < 0
      · rw [if_pos e2] at hall
        have : 0 ≤ x := hall 0 (by omega)
        omega
      · rw [if_neg e2] at hall ⊢
        rw [if_neg e2]
        have hp := hv.par (i := x.toNat) (by omega)
        have hs := sq_tail (f := f) (show 0 ≤ x by omega)
        have ih := hd_iff (e := e) hv ht k (f x.toNat).1 hp.1 (by omega) (by omega) (fun j hj => by have := hall (j + 1) (by omega); rw [hs] at this; exact this)
        by_cases e3 : (f x.toNat).2.1 ≤ e x.toNat
        · rw [if_pos e3]
          exact ⟨fun _ => ⟨0, by omega, e3⟩, fun _ => rfl⟩
        · rw [if_neg e3, ih]
          constructor
          · rintro ⟨j, hj, h⟩; exact ⟨j + 1, by omega, by rw [hs]; exact h⟩
          · rintro ⟨j, hj, h⟩
            cases j with
            | zero => exact absurd h e3
            | succ j => exact ⟨j, by omega, by rw [hs] at h; exact h⟩
structure Rgt (m : Nat) (f : Nat → Nd) (k : Nat) (t : Int) : Prop where
  v : Vld m f
  k : k = m
  t0 : 0 ≤ t
  t1 : t < m
instance (m : Nat) (f : Nat → Nd) (k : Nat) (t : Int) : Decidable (Rgt m f k t) :=
  decidable_of_iff (Vld m f ∧ k = m ∧ 0 ≤ t ∧ t < m) ⟨fun ⟨a, b, c, d⟩ => ⟨a, b, c, d⟩, fun h => ⟨h.v, h.k, h.t0, h.t1⟩⟩
theorem rgt_iff {m : Nat} {f : Nat → Nd} {k : Nat} {t : Int} : Rgt m f k t ↔ Vld m f ∧ k = m ∧ 0 ≤ t ∧ t < m := ⟨fun h => ⟨h.v, h.k, h.t0, h.t1⟩, fun ⟨a, b, c, d⟩ => ⟨a, b, c, d⟩⟩
def heldV (m : Nat) (f : Nat → Nd) (k : Nat) (e : Nat → Int) (t g : Int) : Bool := decide (Rgt m f k t ∧ 0 ≤ g ∧ g < m) && (blV f t (m + 1) g && hdV f e t (m + 1) g)
theorem held_no1 {m : Nat} {f : Nat → Nd} {k : Nat} {e : Nat → Int} {t g : Int} (h : ¬ (Rgt m f k t ∧ 0 ≤ g ∧ g < m)) : heldV m f k e t g = false := by unfold heldV; rw [decide_eq_false h]; rfl
theorem held_no2 {m : Nat} {f : Nat → Nd} {k : Nat} {e : Nat → Int} {t g : Int} (h : blV f t (m + 1) g = false) : heldV m f k e t g = false := by unfold heldV; rw [h]; simp
theorem held_is {m : Nat} {f : Nat → Nd} {k : Nat} {e : Nat → Int} {t g : Int} (hr : Rgt m f k t) (h0 : 0 ≤ g) (h1 : g < m) (h : blV f t (m + 1) g = true) : heldV m f k e t g = hdV f e t (m + 1) g := by unfold heldV; rw [h, decide_eq_true ⟨hr, h0, h1⟩]; simp
theorem sq_in {m : Nat} {f : Nat → Nd} {g : Int} (hv : Vld m f) (h0 : 0 ≤ g) (h1 : g < m) : ∀ i, -1 ≤ sq f g i ∧ sq f g i < m
  | 0 => ⟨by show -1 ≤ g; omega, h1⟩
  | i + 1 => by
    have ih := sq_in hv h0 h1 i
    by_cases e : sq f g i < 0
    · rw [sq_same e]; exact ih
    · rw [sq_next (by omega)]
      have hp := hv.par (i := (sq f g i).toNat) (by omega)
      omega
/-- How much is above. -/
def ovV (m : Nat) (f : Nat → Nd) (k : Nat) (ef : Nat → Int) (t : Int) (j : Nat) : Int :=
  if blV f t (m + 1) j && !heldV m f k ef t j then (if 0 > (f j).2.1 - ef j then 0 else (f j).2.1 - ef j) else 0
def lenO (m : Nat) (f : Nat → Nd) (k : Nat) (t : Int) : Nat := if Rgt m f k t then m else 0
/-! ## How much is protected -/
def ownV (f : Nat → Nd) (j : Nat) : Int := if (f j).2.1 < (f j).2.2 then (f j).2.1 else (f j).2.2
def sumC (f : Nat → Nd) (q : Int) : Nat → Int
  | 0 => 0
  | n + 1 => sumC f q n + (if (f n).1 = q then ownV f n else 0)
theorem own_bd {m : Nat} {f : Nat → Nd} (hv : Vld m f) {j : Nat} (hj : j < m) : 0 ≤ ownV f j ∧ ownV f j ≤ 1099511627776 := by
  have h1 := hv.us j hj; have h2 := hv.ow j hj
  unfold ownV; split <;> omega
theorem sumC_bd {m : Nat} {f : Nat → Nd} (hv : Vld m f) (q : Int) : ∀ n, n ≤ m → 0 ≤ sumC f q n ∧ sumC f q n ≤ n * 1099511627776
  | 0, _ => by show 0 ≤ (0 : Int) ∧ (0 : Int) ≤ _; omega
  | n + 1, h => by
    have ih := sumC_bd hv q n (by omega)
    have := own_bd hv (j := n) (by omega)
    rw [sumC]; split <;> omega
theorem sumC_part {m : Nat} {f : Nat → Nd} (hv : Vld m f) (q : Int) {j : Nat} (hq : (f j).1 = q) : ∀ n, n ≤ m → j < n → ownV f j ≤ sumC f q n
  | 0, _, h => by omega
  | n + 1, h, hj => by
    have h0 := sumC_bd hv q n (by omega)
    have := own_bd hv (j := n) (by omega)
    rw [sumC]
    by_cases e : j = n
    · subst e; rw [if_pos hq]; omega
    · have := sumC_part hv q hq n (by omega) (by omega)
      split <;> omega
def effV (m : Nat) (f : Nat → Nd) (t : Int) (j : Nat) : Int :=
  if (j : Int) = t ∨ blV f t (m + 1) j = false then 0
  else if (f j).1 = t then ownV f j
  else if h : (f j).1.toNat < j then (if effV m f t (f j).1.toNat < sumC f (f j).1 m then ownV f j * effV m f t (f j).1.toNat / sumC f (f j).1 m else ownV f j)
  else 0
termination_by j
theorem effV_no {m : Nat} {f : Nat → Nd} {t : Int} {j : Nat} (h : (j : Int) = t ∨ blV f t (m + 1) j = false) : effV m f t j = 0 := by rw [effV, if_pos h]
theorem effV_top {m : Nat} {f : Nat → Nd} {t : Int} {j : Nat} (h : ¬ ((j : Int) = t ∨ blV f t (m + 1) j = false)) (ht : (f j).1 = t) : effV m f t j = ownV f j := by rw [effV, if_neg h, if_pos ht]
theorem effV_part {m : Nat} {f : Nat → Nd} {t : Int} {j : Nat} (h : ¬ ((j : Int) = t ∨ blV f t (m + 1) j = false)) (ht : (f j).1 ≠ t) (hp : (f j).1.toNat < j) : effV m f t j = if effV m f t (f j).1.toNat < sumC f (f j).1 m then ownV f j * effV m f t (f j).1.toNat / sumC f (f j).1 m else ownV f j := by rw [effV, if_neg h, if_neg ht, dif_pos hp]
/-- Who is below the target, and not it, has a parent. -/
theorem par_in {m : Nat} {f : Nat → Nd} (hv : Vld m f) {t : Int} (ht : 0 ≤ t) {j : Nat} (hj : j < m) (h : ¬ ((j : Int) = t ∨ blV f t (m + 1) j = false)) : 0 ≤ (f j).1 ∧ (f j).1 < j := by
  have hp := hv.par hj
  refine ⟨?_, hp.2⟩
  by_cases e : 0 ≤ (f j).1
  · exact e
  · exfalso
    apply h
    by_cases e2 : (j : Int) = t
    · exact .inl e2
    · right
      obtain ⟨k, rfl⟩ : ∃ k, m = k + 1 := ⟨m - 1, by omega⟩
      rw [blV, if_neg e2, if_neg (by omega), Int.toNat_natCast, blV, if_neg (by omega), if_pos (by omega)]
theorem effV_bd {m : Nat} {f : Nat → Nd} (hv : Vld m f) {t : Int} (ht : 0 ≤ t) (j : Nat) (hj : j < m) : 0 ≤ effV m f t j ∧ effV m f t j ≤ ownV f j := by
  induction j using Nat.strongRecOn with
  | _ j ih =>
    have ho := own_bd hv hj
    by_cases h : (j : Int) = t ∨ blV f t (m + 1) j = false
    · rw [effV_no h]; omega
    · by_cases h2 : (f j).1 = t
      · rw [effV_top h h2]; omega
      · have hp := par_in hv ht hj h
        rw [effV_part h h2 (by omega)]
        have ihp := ih (f j).1.toNat (by omega) (by omega)
        split
        · rename_i hlt
          have hs : 0 < sumC f (f j).1 m := by omega
          refine ⟨Int.ediv_nonneg (Int.mul_nonneg ho.1 ihp.1) (by omega), Int.ediv_le_of_le_mul hs ?_⟩
          exact Int.mul_le_mul_of_nonneg_left (by omega) ho.1
        · omega
end Go.Proofs.PrP
