/- The split by parts: what is computed, and what holds of it: plain Lean. -/
namespace Go.Proofs.ShP
set_option linter.unusedVariables false
set_option linter.unusedSimpArgs false
/-! ## Sums and counts over the places below m -/
def sumF (f : Nat → Int) : Nat → Int
  | 0 => 0
  | m + 1 => sumF f m + f m
def cntF (p : Nat → Bool) : Nat → Nat
  | 0 => 0
  | m + 1 => cntF p m + (if p m then 1 else 0)
theorem sumF_congr {f g : Nat → Int} : ∀ {m : Nat}, (∀ j, j < m → f j = g j) → sumF f m = sumF g m
  | 0, _ => rfl
  | m + 1, h => by rw [sumF, sumF, sumF_congr (fun j hj => h j (by omega)), h m (by omega)]
theorem sumF_add (f g : Nat → Int) : ∀ m, sumF (fun j => f j + g j) m = sumF f m + sumF g m
  | 0 => rfl
  | m + 1 => by rw [sumF, sumF, sumF, sumF_add f g m]; omega
theorem sumF_nonneg {f : Nat → Int} : ∀ {m : Nat}, (∀ j, j < m → 0 ≤ f j) → 0 ≤ sumF f m
  | 0, _ => Int.le_refl _
  | m + 1, h => by have := sumF_nonneg (fun j hj => h j (by omega) : ∀ j, j < m → 0 ≤ f j); have := h m (by omega); rw [sumF]; omega
theorem sumF_le {f g : Nat → Int} : ∀ {m : Nat}, (∀ j, j < m → f j ≤ g j) → sumF f m ≤ sumF g m
  | 0, _ => Int.le_refl _
  | m + 1, h => by have := sumF_le (fun j hj => h j (by omega) : ∀ j, j < m → f j ≤ g j); have := h m (by omega); rw [sumF, sumF]; omega
theorem sumF_part {f : Nat → Int} : ∀ {m : Nat}, (∀ j, j < m → 0 ≤ f j) → ∀ {i : Nat}, i < m → f i ≤ sumF f m
  | 0, _, i, hi => by omega
  | m + 1, h, i, hi => by
    have h0 := sumF_nonneg (fun j hj => h j (by omega) : ∀ j, j < m → 0 ≤ f j)
    have hm := h m (by omega)
    rw [sumF]
    by_cases e : i = m
    · subst e; omega
    · have := sumF_part (fun j hj => h j (by omega) : ∀ j, j < m → 0 ≤ f j) (i := i) (by omega); omega
theorem sumF_mono {f : Nat → Int} (h : ∀ j, 0 ≤ f j) : ∀ {i m : Nat}, i ≤ m → sumF f i ≤ sumF f m := by
  intro i m hm
  induction m with
  | zero => obtain rfl : i = 0 := by omega
            exact Int.le_refl _
  | succ m ih =>
    by_cases e : i = m + 1
    · subst e; exact Int.le_refl _
    · have := ih (by omega); have := h m; rw [sumF]; omega
theorem sumF_mono' {f : Nat → Int} : ∀ {m : Nat}, (∀ j, j < m → 0 ≤ f j) → ∀ {i : Nat}, i ≤ m → sumF f i ≤ sumF f m
  | 0, _, i, hi => by obtain rfl : i = 0 := by omega
                      exact Int.le_refl _
  | m + 1, h, i, hi => by
    by_cases e : i = m + 1
    · subst e; exact Int.le_refl _
    · have := sumF_mono' (fun j hj => h j (by omega) : ∀ j, j < m → 0 ≤ f j) (i := i) (by omega); have := h m (by omega); rw [sumF]; omega
theorem sumF_sub (f g : Nat → Int) : ∀ m, sumF (fun j => f j - g j) m = sumF f m - sumF g m
  | 0 => rfl
  | m + 1 => by rw [sumF, sumF, sumF, sumF_sub f g m]; omega
theorem sumF_const (c : Int) : ∀ m : Nat, sumF (fun _ => c) m = m * c
  | 0 => by simp [sumF]
  | m + 1 => by rw [sumF, sumF_const c m]; rw [Int.natCast_succ, Int.add_mul]; omega
theorem sumF_mul (c : Int) (f : Nat → Int) : ∀ m, sumF (fun j => c * f j) m = c * sumF f m
  | 0 => by simp [sumF]
  | m + 1 => by rw [sumF, sumF, sumF_mul c f m, Int.mul_add]
theorem sumF_pos {f : Nat → Int} : ∀ {m : Nat}, 0 < sumF f m → ∃ j, j < m ∧ 0 < f j
  | 0, h => by rw [sumF] at h; omega
  | m + 1, h => by
    rw [sumF] at h
    by_cases h2 : 0 < f m
    · exact ⟨m, by omega, h2⟩
    · obtain ⟨j, h3, h4⟩ := sumF_pos (show 0 < sumF f m by omega); exact ⟨j, by omega, h4⟩
theorem sumF_zero {f : Nat → Int} {m : Nat} (hn : ∀ j, j < m → 0 ≤ f j) (h : sumF f m = 0) {j : Nat} (hj : j < m) : f j = 0 := by
  have := sumF_part hn hj; have := hn j hj; omega
theorem cntF_le (p : Nat → Bool) : ∀ m, cntF p m ≤ m
  | 0 => Nat.le_refl _
  | m + 1 => by have := cntF_le p m; rw [cntF]; split <;> omega
theorem cntF_congr {p q : Nat → Bool} : ∀ {m : Nat}, (∀ j, j < m → p j = q j) → cntF p m = cntF q m
  | 0, _ => rfl
  | m + 1, h => by rw [cntF, cntF, cntF_congr (fun j hj => h j (by omega)), h m (by omega)]
theorem cntF_mono {p q : Nat → Bool} : ∀ {m : Nat}, (∀ j, j < m → p j = true → q j = true) → cntF p m ≤ cntF q m
  | 0, _ => Nat.le_refl _
  | m + 1, h => by
    have := cntF_mono (fun j hj => h j (by omega) : ∀ j, j < m → p j = true → q j = true)
    have h2 := h m (by omega)
    rw [cntF, cntF]
    split
    · rename_i h3; rw [if_pos (h2 h3)]; omega
    · split <;> omega
theorem cntF_lt {p q : Nat → Bool} : ∀ {m : Nat}, (∀ j, j < m → p j = true → q j = true) → ∀ {i : Nat}, i < m → p i = false → q i = true → cntF p m < cntF q m
  | 0, _, i, hi, _, _ => by omega
  | m + 1, h, i, hi, hp, hq => by
    have h1 := cntF_mono (fun j hj => h j (by omega) : ∀ j, j < m → p j = true → q j = true)
    have h2 := h m (by omega)
    rw [cntF, cntF]
    by_cases e : i = m
    · subst e; rw [hp, hq]; simp; omega
    · have h3 := cntF_lt (fun j hj => h j (by omega) : ∀ j, j < m → p j = true → q j = true) (i := i) (by omega) hp hq
      split
      · rename_i h4; rw [if_pos (h2 h4)]; omega
      · split <;> omega
theorem cntF_none {p : Nat → Bool} : ∀ {m : Nat}, (∀ j, j < m → p j = false) → cntF p m = 0
  | 0, _ => rfl
  | m + 1, h => by rw [cntF, cntF_none (fun j hj => h j (by omega)), h m (by omega)]; simp
theorem cntF_all {p : Nat → Bool} : ∀ {m : Nat}, (∀ j, j < m → p j = true) → cntF p m = m
  | 0, _ => rfl
  | m + 1, h => by rw [cntF, cntF_all (fun j hj => h j (by omega)), h m (by omega)]; simp
theorem cntF_one {p : Nat → Bool} : ∀ {m : Nat}, (∀ i j, i < m → j < m → p i = true → p j = true → i = j) → cntF p m ≤ 1
  | 0, _ => by simp [cntF]
  | m + 1, h => by
    rw [cntF]
    by_cases e : p m = true
    · rw [if_pos e, cntF_none (fun j hj => by
      cases e2 : p j
      · rfl
      · have := h j m (by omega) (by omega) e2 e; omega)]
      exact Nat.le_refl _
    · rw [if_neg e]
      exact cntF_one (fun i j hi hj => h i j (by omega) (by omega))
theorem cntF_or (p q : Nat → Bool) : ∀ m, cntF (fun j => p j || q j) m ≤ cntF p m + cntF q m
  | 0 => by simp [cntF]
  | m + 1 => by
    have := cntF_or p q m
    rw [cntF, cntF, cntF]
    cases p m <;> cases q m <;> simp <;> omega
theorem cntF_some {p : Nat → Bool} : ∀ {m : Nat}, 0 < cntF p m → ∃ j, j < m ∧ p j = true
  | 0, h => by rw [cntF] at h; omega
  | m + 1, h => by
    rw [cntF] at h
    by_cases e : p m = true
    · exact ⟨m, by omega, e⟩
    · rw [if_neg e] at h
      obtain ⟨j, h3, h4⟩ := cntF_some (show 0 < cntF p m by omega); exact ⟨j, by omega, h4⟩
theorem sumF_cnt (p : Nat → Bool) : ∀ m, sumF (fun j => if p j then 1 else 0) m = cntF p m
  | 0 => rfl
  | m + 1 => by rw [sumF, cntF, sumF_cnt p m]; split <;> simp
/-- What never meets keeps each interval thin. -/
theorem cnt_range {g : Nat → Nat} {m : Nat} (hg : ∀ i j, i < m → j < m → g i = g j → i = j) (a : Nat) : ∀ b, cntF (fun i => decide (a ≤ g i ∧ g i < a + b)) m ≤ b
  | 0 => by rw [cntF_none (fun j hj => by rw [decide_eq_false_iff_not]; omega)]; exact Nat.le_refl _
  | b + 1 => by
    have h1 := cnt_range hg a b
    have h2 : cntF (fun i => decide (g i = a + b)) m ≤ 1 := cntF_one (fun i j hi hj h3 h4 => hg i j hi hj (by simp at h3 h4; omega))
    have h3 := cntF_or (fun i => decide (a ≤ g i ∧ g i < a + b)) (fun i => decide (g i = a + b)) m
    have h4 : cntF (fun i => decide (a ≤ g i ∧ g i < a + (b + 1))) m ≤ cntF (fun j => (decide (a ≤ g j ∧ g j < a + b) || decide (g j = a + b))) m := cntF_mono (fun j hj h => by simp at h ⊢; omega)
    omega
/-- Places that never meet, below m: just k of them are below k. -/
theorem cnt_below {g : Nat → Nat} {m : Nat} (hg : ∀ i j, i < m → j < m → g i = g j → i = j) (hm : ∀ i, i < m → g i < m) {k : Nat} (hk : k ≤ m) : cntF (fun i => decide (g i < k)) m = k := by
  have h1 := cnt_range hg 0 k
  have h2 := cnt_range hg k (m - k)
  have h3 := cntF_or (fun i => decide (0 ≤ g i ∧ g i < 0 + k)) (fun i => decide (k ≤ g i ∧ g i < k + (m - k))) m
  have h4 : cntF (fun j => (decide (0 ≤ g j ∧ g j < 0 + k) || decide (k ≤ g j ∧ g j < k + (m - k)))) m = m := cntF_all (fun j hj => by have := hm j hj; simp; omega)
  have h5 : cntF (fun i => decide (0 ≤ g i ∧ g i < 0 + k)) m = cntF (fun i => decide (g i < k)) m := cntF_congr (fun j hj => by simp)
  omega
theorem cnt_hit {g : Nat → Nat} {m : Nat} (hg : ∀ i j, i < m → j < m → g i = g j → i = j) (hm : ∀ i, i < m → g i < m) {k : Nat} (hk : k < m) : ∃ i, i < m ∧ g i = k := by
  have h1 := cnt_below hg hm (k := k) (by omega)
  have h2 := cnt_below hg hm (k := k + 1) (by omega)
  have h3 : cntF (fun i => decide (g i < k + 1)) m ≤ cntF (fun i => decide (g i < k)) m + cntF (fun i => decide (g i = k)) m := Nat.le_trans (cntF_mono (q := fun i => (decide (g i < k) || decide (g i = k))) (fun j hj h => by simp at h ⊢; omega)) (cntF_or _ _ m)
  obtain ⟨j, h4, h5⟩ := cntF_some (show 0 < cntF (fun i => decide (g i = k)) m by omega)
  exact ⟨j, h4, by simpa using h5⟩
/-! ## Who comes first: more left, or the same and an earlier place -/
def LT (x y : Int × Int) : Prop := y.2 < x.2 ∨ (x.2 = y.2 ∧ x.1 < y.1)
instance (x y : Int × Int) : Decidable (LT x y) := by unfold LT; exact inferInstance
theorem LT.trans {x y z : Int × Int} (h : LT x y) (h2 : LT y z) : LT x z := by unfold LT at *; omega
theorem LT.irr {x : Int × Int} : ¬ LT x x := by unfold LT; omega
def pairs (r : Nat → Int) : Nat → Int × Int := fun j => ((j : Int), r j)
def rank (r : Nat → Int) (m i : Nat) : Nat := cntF (fun j => decide (LT (pairs r j) (pairs r i))) m
theorem rank_lt {r : Nat → Int} {m i : Nat} (hi : i < m) : rank r m i < m := by
  have := cntF_lt (p := fun j => decide (LT (pairs r j) (pairs r i))) (q := fun _ => true) (m := m) (fun _ _ _ => rfl) hi (by simpa using LT.irr) rfl
  rw [cntF_all (p := fun _ => true) (fun _ _ => rfl)] at this
  exact this
theorem rank_mono {r : Nat → Int} {m i j : Nat} (hi : i < m) (h : LT (pairs r i) (pairs r j)) : rank r m i < rank r m j :=
  cntF_lt (fun k _ hk => by simp at hk ⊢; exact hk.trans h) hi (by simpa using LT.irr) (by simpa using h)
theorem LT_total (r : Nat → Int) (i j : Nat) : LT (pairs r i) (pairs r j) ∨ i = j ∨ LT (pairs r j) (pairs r i) := by unfold LT pairs; simp only; omega
theorem rank_inj {r : Nat → Int} {m i j : Nat} (hi : i < m) (hj : j < m) (h : rank r m i = rank r m j) : i = j := by
  rcases LT_total r i j with h1 | h1 | h1
  · have := rank_mono hi h1; omega
  · exact h1
  · have := rank_mono hj h1; omega
/-- What goes up by itself, within m, stands still. -/
theorem up_id {g : Nat → Nat} {m : Nat} (h : ∀ p q, p < q → q < m → g p < g q) (hm : ∀ p, p < m → g p < m) : ∀ p, p < m → g p = p := by
  have h1 : ∀ p, p < m → p ≤ g p := by
    intro p
    induction p with
    | zero => intro _; omega
    | succ p ih => intro hp; have := ih (by omega); have := h p (p + 1) (by omega) hp; omega
  have h2 : ∀ k p, p + k + 1 = m → g p + k < m := by
    intro k
    induction k with
    | zero => intro p hp; have := hm p (by omega); omega
    | succ k ih => intro p hp; have := ih (p + 1) (by omega); have := h p (p + 1) (by omega) (by omega); omega
  intro p hp
  have := h1 p hp; have := h2 (m - 1 - p) p (by omega)
  omega
/-- Sorted: who stands before L is just who is of the first L. -/
theorem sorted_rank {r : Nat → Int} {m L : Nat} {f : Nat → Int × Int} (hf : ∀ p, p < m → ∃ i, i < m ∧ f p = pairs r i) (hs : ∀ p q, p < q → q < m → LT (f p) (f q)) (hL : L ≤ m) {i : Nat} (hi : i < m) : (∃ p, p < L ∧ (f p).1 = (i : Int)) ↔ rank r m i < L := by
  have hat : ∀ p, p < m → f p = pairs r (f p).1.toNat ∧ (f p).1.toNat < m := fun p hp => by
    obtain ⟨i, h1, h2⟩ := hf p hp
    rw [h2]; simp [pairs, h1]
  have hid := up_id (g := fun p => rank r m (f p).1.toNat) (m := m) (fun p q hpq hq => by
    have h1 := hat p (by omega); have h2 := hat q hq; have h3 := hs p q hpq hq
    rw [h1.1, h2.1] at h3
    exact rank_mono h1.2 h3) (fun p hp => rank_lt (hat p hp).2)
  constructor
  · rintro ⟨p, h1, h2⟩
    have := hid p (by omega)
    simp only [h2, Int.toNat_natCast] at this
    omega
  · intro h
    refine ⟨rank r m i, h, ?_⟩
    have h1 := hid (rank r m i) (by omega)
    have h2 := hat (rank r m i) (by omega)
    have h3 := rank_inj h2.2 hi h1
    rw [h2.1]; show ((_ : Nat) : Int) = i; rw [h3]
/-! ## The split -/
structure Ok (n : Int) (m : Nat) (w : Nat → Int) : Prop where
  n0 : 0 ≤ n
  n1 : n ≤ 1048576
  m1 : m ≤ 64
  w0 : ∀ j, j < m → 0 ≤ w j
  w1 : ∀ j, j < m → w j ≤ 1099511627776
instance (n : Int) (m : Nat) (w : Nat → Int) : Decidable (Ok n m w) :=
  decidable_of_iff (0 ≤ n ∧ n ≤ 1048576 ∧ m ≤ 64 ∧ (∀ j, j < m → 0 ≤ w j) ∧ ∀ j, j < m → w j ≤ 1099511627776) ⟨fun ⟨a, b, c, d, e⟩ => ⟨a, b, c, d, e⟩, fun h => ⟨h.n0, h.n1, h.m1, h.w0, h.w1⟩⟩
def qF (n s : Int) (w : Nat → Int) (j : Nat) : Int := n * w j / s
def rF (n s : Int) (w : Nat → Int) (j : Nat) : Int := n * w j % s
def leftV (n : Int) (m : Nat) (w : Nat → Int) : Int := n - sumF (qF n (sumF w m) w) m
def splitF (n : Int) (m : Nat) (w : Nat → Int) (j : Nat) : Int :=
  if sumF w m = 0 then 0 else qF n (sumF w m) w j + (if rank (rF n (sumF w m) w) m j < (leftV n m w).toNat then 1 else 0)
def lenR (n : Int) (m : Nat) (w : Nat → Int) : Nat := if Ok n m w then m else 0
theorem lenR_ok {n : Int} {m : Nat} {w : Nat → Int} (h : Ok n m w) : lenR n m w = m := if_pos h
theorem lenR_no {n : Int} {m : Nat} {w : Nat → Int} (h : ¬ Ok n m w) : lenR n m w = 0 := if_neg h
section
variable {n : Int} {m : Nat} {w : Nat → Int} (h : Ok n m w)
include h
theorem Ok.s0 : 0 ≤ sumF w m := sumF_nonneg h.w0
theorem Ok.s1 : sumF w m ≤ 70368744177664 := by
  have h1 := sumF_le h.w1
  rw [sumF_const] at h1
  have := h.m1; omega
theorem Ok.part (i : Nat) (hi : i ≤ m) : 0 ≤ sumF w i ∧ sumF w i ≤ 70368744177664 := by
  have h0 : 0 ≤ sumF w i := sumF_nonneg (fun j hj => h.w0 j (by omega))
  have h1 := sumF_le (fun j hj => h.w1 j (by omega) : ∀ j, j < i → w j ≤ 1099511627776)
  rw [sumF_const] at h1
  have := h.m1; omega
theorem Ok.mul {j : Nat} (hj : j < m) : 0 ≤ n * w j ∧ n * w j ≤ 1152921504606846976 := by
  have h1 := h.n0; have h2 := h.n1; have h3 := h.w0 j hj; have h4 := h.w1 j hj
  refine ⟨Int.mul_nonneg h1 h3, ?_⟩
  have h5 : n * w j ≤ 1048576 * w j := Int.mul_le_mul_of_nonneg_right h2 h3
  omega
theorem Ok.qr (hs : 0 < sumF w m) {j : Nat} (hj : j < m) : 0 ≤ qF n (sumF w m) w j ∧ qF n (sumF w m) w j ≤ n * w j ∧ qF n (sumF w m) w j ≤ n ∧ 0 ≤ rF n (sumF w m) w j ∧ rF n (sumF w m) w j < sumF w m ∧ sumF w m * qF n (sumF w m) w j + rF n (sumF w m) w j = n * w j := by
  have h1 := h.mul hj
  unfold qF rF
  refine ⟨Int.ediv_nonneg h1.1 (by omega), Int.ediv_le_self _ h1.1, ?_, Int.emod_nonneg _ (by omega), Int.emod_lt_of_pos _ hs, Int.mul_ediv_add_emod _ _⟩
  have h2 : n * w j ≤ n * sumF w m := Int.mul_le_mul_of_nonneg_left (sumF_part h.w0 hj) h.n0
  exact Int.ediv_le_of_le_mul hs h2
theorem Ok.rsum (hs : 0 < sumF w m) : sumF (rF n (sumF w m) w) m = sumF w m * leftV n m w := by
  have h1 : sumF (fun j => sumF w m * qF n (sumF w m) w j + rF n (sumF w m) w j) m = sumF (fun j => n * w j) m := sumF_congr (fun j hj => (h.qr hs hj).2.2.2.2.2)
  rw [sumF_add, sumF_mul, sumF_mul] at h1
  unfold leftV
  rw [Int.mul_sub, Int.mul_comm (sumF w m) n]
  omega
theorem Ok.left (hs : 0 < sumF w m) : 0 ≤ leftV n m w ∧ leftV n m w < m := by
  have h1 := h.rsum hs
  have h0 : 0 ≤ sumF (rF n (sumF w m) w) m := sumF_nonneg (fun j hj => (h.qr hs hj).2.2.2.1)
  have h2 : sumF (rF n (sumF w m) w) m ≤ m * (sumF w m - 1) := by
    rw [← sumF_const]; exact sumF_le (fun j hj => by have := (h.qr hs hj).2.2.2.2.1; omega)
  have hm : 0 < m := by
    rcases Nat.eq_zero_or_pos m with e | e
    · subst e; rw [sumF] at hs; omega
    · exact e
  have hm2 : (0 : Int) < m := by omega
  constructor
  · by_cases hl : 0 ≤ leftV n m w
    · exact hl
    · exfalso
      have : sumF w m * leftV n m w ≤ sumF w m * (-1) := Int.mul_le_mul_of_nonneg_left (by omega) (by omega)
      omega
  · by_cases hl : leftV n m w < m
    · exact hl
    · exfalso
      have h3 : sumF w m * m ≤ sumF w m * leftV n m w := Int.mul_le_mul_of_nonneg_left (by omega) (by omega)
      rw [Int.mul_sub, Int.mul_comm (m : Int) (sumF w m)] at h2
      omega
end
section
variable {n : Int} {m : Nat} {w : Nat → Int}
theorem split_sum (h : Ok n m w) (hs : 0 < sumF w m) : sumF (splitF n m w) m = n := by
  have hl := h.left hs
  have h1 : sumF (splitF n m w) m = sumF (fun j => qF n (sumF w m) w j + (if decide (rank (rF n (sumF w m) w) m j < (leftV n m w).toNat) = true then 1 else 0)) m := sumF_congr (fun j hj => by
    unfold splitF; rw [if_neg (by omega)]; simp)
  rw [h1, sumF_add, sumF_cnt, cnt_below (fun i j hi hj => rank_inj hi hj) (fun i hi => rank_lt hi) (by omega)]
  unfold leftV at *
  omega
theorem split_zero (h : sumF w m = 0) (j : Nat) : splitF n m w j = 0 := if_pos h
theorem split_near (hs : 0 < sumF w m) (j : Nat) : qF n (sumF w m) w j ≤ splitF n m w j ∧ splitF n m w j ≤ qF n (sumF w m) w j + 1 := by
  unfold splitF; rw [if_neg (by omega)]; split <;> omega
theorem split_nonneg (h : Ok n m w) {j : Nat} (hj : j < m) : 0 ≤ splitF n m w j := by
  by_cases hs : sumF w m = 0
  · rw [split_zero hs]; exact Int.le_refl _
  · have h0 := h.s0
    have := split_near (n := n) (show 0 < sumF w m by omega) j
    have := (h.qr (by omega) hj).1; omega
theorem Ok.rank0 (h : Ok n m w) (hs : 0 < sumF w m) {j : Nat} (hj : j < m) (h0 : rF n (sumF w m) w j = 0) : (leftV n m w).toNat ≤ rank (rF n (sumF w m) w) m j := by
  have hl := h.left hs
  have h1 := h.rsum hs
  have h2 : cntF (fun i => decide (0 < rF n (sumF w m) w i)) m ≤ rank (rF n (sumF w m) w) m j := cntF_mono (fun i hi hp => by
    simp only [decide_eq_true_eq] at hp ⊢
    left; show rF n (sumF w m) w j < rF n (sumF w m) w i; omega)
  have h3 : sumF (rF n (sumF w m) w) m ≤ sumF (fun i => sumF w m * (if decide (0 < rF n (sumF w m) w i) = true then 1 else 0)) m := sumF_le (fun i hi => by
    have := h.qr hs hi
    split
    · omega
    · rename_i hn; simp only [decide_eq_true_eq] at hn; omega)
  rw [sumF_mul, sumF_cnt, h1] at h3
  have h4 := Int.le_of_mul_le_mul_left h3 hs
  omega
theorem split_nothing (h : Ok n m w) {j : Nat} (hj : j < m) (h0 : w j = 0) : splitF n m w j = 0 := by
  by_cases hs : sumF w m = 0
  · exact split_zero hs j
  · have h1 := h.s0
    have hr : rF n (sumF w m) w j = 0 := by unfold rF; rw [h0]; simp
    have := h.rank0 (by omega) hj hr
    unfold splitF
    rw [if_neg hs, if_neg (by omega)]
    unfold qF; rw [h0]; simp
theorem split_order (h : Ok n m w) (hs : 0 < sumF w m) {i k : Nat} (hi : i < m) (hk : k < m) (hw : w i < w k) : splitF n m w i - 1 ≤ splitF n m w k := by
  have h1 := split_near (n := n) hs i
  have h2 := split_near (n := n) hs k
  have h3 : qF n (sumF w m) w i ≤ qF n (sumF w m) w k := Int.ediv_le_ediv hs (Int.mul_le_mul_of_nonneg_left (by omega) h.n0)
  omega
theorem split_congr {w' : Nat → Int} (h : ∀ j, j < m → w j = w' j) {j : Nat} (hj : j < m) : splitF n m w j = splitF n m w' j := by
  have hs : sumF w m = sumF w' m := sumF_congr h
  have hq : ∀ i, i < m → qF n (sumF w m) w i = qF n (sumF w' m) w' i := fun i hi => by unfold qF; rw [hs, h i hi]
  have hr : ∀ i, i < m → rF n (sumF w m) w i = rF n (sumF w' m) w' i := fun i hi => by unfold rF; rw [hs, h i hi]
  have hl : leftV n m w = leftV n m w' := by unfold leftV; rw [sumF_congr hq]
  have hk : rank (rF n (sumF w m) w) m j = rank (rF n (sumF w' m) w') m j := cntF_congr (fun i hi => by unfold pairs; rw [hr i hi, hr j hj])
  unfold splitF
  rw [hs, hl, ← hs, hq j hj, hk, hs]
end
/-! ## Capped -/
def kkF (n : Int) (m : Nat) (l : Nat → Int) (j : Nat) : Int := if l j < splitF n m l j then l j else splitF n m l j
def capM (m : Nat) : Nat → Int → (Nat → Int) → (Nat → Int) → Nat → Int
  | 0, _, _, out => out
  | k + 1, n, l, out => if 0 < n ∧ 0 < sumF l m then capM m k (n - sumF (kkF n m l) m) (fun j => l j - kkF n m l j) (fun j => out j + kkF n m l j) else out
def capF (n : Int) (m : Nat) (w : Nat → Int) : Nat → Int := capM m n.toNat n w (fun _ => 0)
section
variable {n : Int} {m : Nat} {l out : Nat → Int}
theorem capM_done (h : ¬ (0 < n ∧ 0 < sumF l m)) : ∀ k, capM m k n l out = out
  | 0 => rfl
  | k + 1 => if_neg h
theorem kk_facts (h : Ok n m l) {j : Nat} (hj : j < m) : 0 ≤ kkF n m l j ∧ kkF n m l j ≤ l j ∧ kkF n m l j ≤ splitF n m l j := by
  have h1 := split_nonneg h hj; have h2 := h.w0 j hj
  unfold kkF; split <;> omega
theorem kk_sum (h : Ok n m l) (hs : 0 < sumF l m) : 0 ≤ sumF (kkF n m l) m ∧ sumF (kkF n m l) m ≤ n :=
  ⟨sumF_nonneg (fun j hj => (kk_facts h hj).1), by have := sumF_le (fun j hj => (kk_facts h hj).2.2); rw [split_sum h hs] at this; exact this⟩
theorem kk_part (h : Ok n m l) (hs : 0 < sumF l m) {i : Nat} (hi : i ≤ m) : 0 ≤ sumF (kkF n m l) i ∧ sumF (kkF n m l) i ≤ n :=
  ⟨sumF_nonneg (fun j hj => (kk_facts h (by omega)).1), Int.le_trans (sumF_mono' (fun j hj => (kk_facts h hj).1) hi) (kk_sum h hs).2⟩
theorem kk_pos (h : Ok n m l) (hn : 0 < n) (hs : 0 < sumF l m) : 0 < sumF (kkF n m l) m := by
  obtain ⟨j, hj, hp⟩ := sumF_pos (show 0 < sumF (splitF n m l) m by rw [split_sum h hs]; exact hn)
  have h1 : 0 < kkF n m l j := by
    have h2 := h.w0 j hj
    have h3 : l j ≠ 0 := fun e => by have := split_nothing h hj e; omega
    unfold kkF; split <;> omega
  have := sumF_part (fun j hj => (kk_facts h hj).1) hj
  omega
theorem Ok.next (h : Ok n m l) (hs : 0 < sumF l m) : Ok (n - sumF (kkF n m l) m) m (fun j => l j - kkF n m l j) := by
  have h1 := kk_sum h hs; have h2 := h.n1
  exact ⟨by omega, by omega, h.m1, fun j hj => by have := kk_facts h hj; omega, fun j hj => by have := kk_facts h hj; have := h.w1 j hj; omega⟩
theorem cap_facts (h : Ok n m l) (k : Nat) (hk : n.toNat ≤ k) : (∀ j, j < m → out j ≤ capM m k n l out j ∧ capM m k n l out j ≤ out j + l j) ∧ sumF (capM m k n l out) m = sumF out m + min n (sumF l m) := by
  induction k generalizing n l out with
  | zero =>
    have := h.n0; have := h.s0
    refine ⟨fun j hj => ⟨Int.le_refl _, by show out j ≤ _; have := h.w0 j hj; omega⟩, ?_⟩
    show sumF out m = _
    omega
  | succ k ih =>
    have h0 := h.n0; have h1 := h.s0
    by_cases hc : 0 < n ∧ 0 < sumF l m
    · have e : capM m (k + 1) n l out = capM m k (n - sumF (kkF n m l) m) (fun j => l j - kkF n m l j) (fun j => out j + kkF n m l j) := if_pos hc
      have h2 := kk_sum h hc.2; have h3 := kk_pos h hc.1 hc.2
      obtain ⟨h4, h5⟩ := ih (out := fun j => out j + kkF n m l j) (h.next hc.2) (by omega)
      rw [e]
      refine ⟨fun j hj => ?_, ?_⟩
      · have h6 := h4 j hj; have h7 := kk_facts h hj
        omega
      · rw [h5, sumF_add, sumF_sub]
        omega
    · rw [capM_done hc]
      refine ⟨fun j hj => ⟨Int.le_refl _, by have := h.w0 j hj; omega⟩, ?_⟩
      omega
end
/-! ## One of no weight put in -/
def sh (p j : Nat) : Nat := if j < p then j else j + 1
def Ins (p m : Nat) (f f' : Nat → Int) : Prop := f' p = 0 ∧ ∀ j, j < m → f' (sh p j) = f j
theorem sum_sh (p : Nat) (f : Nat → Int) : ∀ m, p ≤ m → sumF f (m + 1) = sumF (fun j => f (sh p j)) m + f p
  | m, hp => by
    by_cases e : p = m
    · subst e
      rw [sumF, sumF_congr (f := f) (g := fun j => f (sh p j)) (fun j hj => by unfold sh; rw [if_pos hj])]
    · match m, hp, e with
      | 0, hp, e => omega
      | m + 1, hp, e =>
        have h1 := sum_sh p f m (by omega)
        rw [sumF, h1, sumF, show sh p m = m + 1 by unfold sh; rw [if_neg (by omega)]]
        omega
theorem cnt_sh (p : Nat) (f : Nat → Bool) : ∀ m, p ≤ m → cntF f (m + 1) = cntF (fun j => f (sh p j)) m + (if f p then 1 else 0)
  | m, hp => by
    by_cases e : p = m
    · subst e
      rw [cntF, cntF_congr (p := f) (q := fun j => f (sh p j)) (fun j hj => by unfold sh; rw [if_pos hj])]
    · match m, hp, e with
      | 0, hp, e => omega
      | m + 1, hp, e =>
        have h1 := cnt_sh p f m (by omega)
        rw [cntF, h1, cntF, show sh p m = m + 1 by unfold sh; rw [if_neg (by omega)]]
        omega
theorem Ins.sum {p m : Nat} {f f' : Nat → Int} (h : Ins p m f f') (hp : p ≤ m) : sumF f' (m + 1) = sumF f m := by
  rw [sum_sh p f' m hp, h.1, sumF_congr h.2]; omega
theorem sh_of {p m i : Nat} (hi : i < m + 1) (hp : p ≤ m) : i = p ∨ ∃ j, j < m ∧ i = sh p j := by
  by_cases e : i = p
  · exact .inl e
  · right
    by_cases h : i < p
    · exact ⟨i, by omega, by unfold sh; rw [if_pos h]⟩
    · exact ⟨i - 1, by omega, by unfold sh; rw [if_neg (by omega)]; omega⟩
section
variable {n : Int} {m p : Nat} {w w' : Nat → Int}
theorem Ok.ins (h : Ok n m w) (hi : Ins p m w w') (hm : m < 64) (hp : p ≤ m) : Ok n (m + 1) w' := by
  refine ⟨h.n0, h.n1, by omega, fun i hi' => ?_, fun i hi' => ?_⟩
  · rcases sh_of hi' hp with rfl | ⟨j, hj, rfl⟩
    · rw [hi.1]; exact Int.le_refl _
    · rw [hi.2 j hj]; exact h.w0 j hj
  · rcases sh_of hi' hp with rfl | ⟨j, hj, rfl⟩
    · rw [hi.1]; decide
    · rw [hi.2 j hj]; exact h.w1 j hj
theorem split_ins (h : Ok n m w) (hi : Ins p m w w') (hm : m < 64) (hp : p ≤ m) : Ins p m (splitF n m w) (splitF n (m + 1) w') := by
  have hs := hi.sum hp
  have h' := h.ins hi hm hp
  refine ⟨split_nothing h' (by omega) hi.1, fun j hj => ?_⟩
  by_cases h0 : sumF w m = 0
  · rw [split_zero h0, split_zero (by rw [hs]; exact h0)]
  · have hs0 := h.s0
    have hq : Ins p m (qF n (sumF w m) w) (qF n (sumF w' (m + 1)) w') := ⟨by unfold qF; rw [hi.1]; simp, fun i h2 => by unfold qF; rw [hi.2 i h2, hs]⟩
    have hr : Ins p m (rF n (sumF w m) w) (rF n (sumF w' (m + 1)) w') := ⟨by unfold rF; rw [hi.1]; simp, fun i h2 => by unfold rF; rw [hi.2 i h2, hs]⟩
    have hl : leftV n (m + 1) w' = leftV n m w := by unfold leftV; rw [hq.sum hp]
    have hk : rank (rF n (sumF w' (m + 1)) w') (m + 1) (sh p j) = rank (rF n (sumF w m) w) m j + (if decide (LT (pairs (rF n (sumF w' (m + 1)) w') p) (pairs (rF n (sumF w' (m + 1)) w') (sh p j))) = true then 1 else 0) := by
      unfold rank
      rw [cnt_sh p _ m hp]
      congr 1
      refine cntF_congr (fun i h2 => ?_)
      rw [decide_eq_decide]
      unfold LT pairs
      simp only
      rw [hr.2 i h2, hr.2 j hj]
      unfold sh
      split <;> split <;> omega
    have h3 := (h.qr (show 0 < sumF w m by omega) hj).2.2.2.1
    have h4 : rank (rF n (sumF w' (m + 1)) w') (m + 1) (sh p j) < (leftV n m w).toNat ↔ rank (rF n (sumF w m) w) m j < (leftV n m w).toNat := by
      rw [hk]
      by_cases e : rF n (sumF w m) w j = 0
      · have := h.rank0 (by omega) hj e
        constructor <;> intro h5 <;> omega
      · rw [if_neg (by
          simp only [decide_eq_true_eq]
          unfold LT pairs
          simp only
          rw [hr.1, hr.2 j hj]; omega)]
        exact Iff.rfl
    unfold splitF
    rw [if_neg (by omega), if_neg h0, hl, hq.2 j hj]
    by_cases e : rank (rF n (sumF w m) w) m j < (leftV n m w).toNat
    · rw [if_pos e, if_pos (h4.2 e)]
    · rw [if_neg e, if_neg (fun h5 => e (h4.1 h5))]
theorem kk_ins (h : Ok n m w) (hi : Ins p m w w') (hm : m < 64) (hp : p ≤ m) : Ins p m (kkF n m w) (kkF n (m + 1) w') := by
  have h1 := split_ins h hi hm hp
  refine ⟨?_, fun j hj => ?_⟩
  · unfold kkF; rw [h1.1, hi.1]; simp
  · unfold kkF; rw [h1.2 j hj, hi.2 j hj]
theorem cap_ins {out out' : Nat → Int} (h : Ok n m w) (hi : Ins p m w w') (ho : Ins p m out out') (hm : m < 64) (hp : p ≤ m) (k : Nat) : Ins p m (capM m k n w out) (capM (m + 1) k n w' out') := by
  induction k generalizing n w w' out out' with
  | zero => exact ho
  | succ k ih =>
    have hs := hi.sum hp
    by_cases hc : 0 < n ∧ 0 < sumF w m
    · have e : capM m (k + 1) n w out = capM m k (n - sumF (kkF n m w) m) (fun j => w j - kkF n m w j) (fun j => out j + kkF n m w j) := if_pos hc
      have e' : capM (m + 1) (k + 1) n w' out' = capM (m + 1) k (n - sumF (kkF n (m + 1) w') (m + 1)) (fun j => w' j - kkF n (m + 1) w' j) (fun j => out' j + kkF n (m + 1) w' j) := if_pos (by rw [hs]; exact hc)
      have hk := kk_ins h hi hm hp
      rw [e, e', hk.sum hp]
      exact ih (h.next hc.2) ⟨by simp only; rw [hi.1, hk.1]; rfl, fun j hj => by simp only; rw [hi.2 j hj, hk.2 j hj]⟩ ⟨by simp only; rw [ho.1, hk.1]; rfl, fun j hj => by simp only; rw [ho.2 j hj, hk.2 j hj]⟩
    · rw [capM_done hc, capM_done (by rw [hs]; exact hc)]
      exact ho
end
/-! ## One alone -/
theorem split_one {n : Int} {w : Nat → Int} (h : Ok n 1 w) : splitF n 1 w 0 = if w 0 = 0 then 0 else n := by
  by_cases e : w 0 = 0
  · rw [if_pos e]; exact split_zero (by simp [sumF, e]) 0
  · rw [if_neg e]
    have h0 := h.w0 0 (by omega)
    have := split_sum h (by simp only [sumF]; omega)
    simpa [sumF] using this
theorem cap_one {n : Int} {w : Nat → Int} (h : Ok n 1 w) : capF n 1 w 0 = min n (w 0) := by
  have := (cap_facts (out := fun _ => 0) h n.toNat (Nat.le_refl _)).2
  simpa [sumF, capF] using this
/-! ## What the picking, and what the sorting leave -/
def restK (r : Nat → Int) (m k : Nat) (j : Nat) : Int := if rank r m j < k then -1 else r j
theorem ref_pick {r : Nat → Int} {m k p : Nat} (hr : ∀ j, j < m → 0 ≤ r j) (hk : k < m) (hp : p < m) (h1 : ∀ j, j < m → restK r m k j ≤ restK r m k p) (h2 : ∀ j, j < p → restK r m k j < restK r m k p) : rank r m p = k := by
  obtain ⟨i, hi, hri⟩ := cnt_hit (fun i j hi hj => rank_inj (r := r) hi hj) (fun i hi => rank_lt hi) hk
  by_cases e : p = i
  · rw [e]; exact hri
  · exfalso
    have a1 := h1 i hi
    have a2 := hr i hi
    have a3 : restK r m k i = r i := if_neg (by omega)
    have a4 : ¬ rank r m p < k := fun h => by
      have : restK r m k p = -1 := if_pos h
      omega
    have a5 : restK r m k p = r p := if_neg a4
    rcases LT_total r i p with h3 | h3 | h3
    · have h4 : r p < r i ∨ (r i = r p ∧ (i : Int) < p) := h3
      rcases h4 with h4 | ⟨h4, h5⟩
      · omega
      · have := h2 i (by omega); omega
    · exact e h3.symm
    · have := rank_mono (m := m) hp h3; omega
theorem restK_succ {r : Nat → Int} {m k p : Nat} (hp : p < m) (h : rank r m p = k) {j : Nat} (hj : j < m) : (if j = p then -1 else restK r m k j) = restK r m (k + 1) j := by
  unfold restK
  by_cases e : j = p
  · rw [if_pos e, e, h, if_pos (by omega)]
  · rw [if_neg e]
    have : rank r m j ≠ k := fun h2 => e (rank_inj hj hp (h2.trans h.symm))
    by_cases h3 : rank r m j < k
    · rw [if_pos h3, if_pos (by omega)]
    · rw [if_neg h3, if_neg (by omega)]
def outK (n : Int) (m : Nat) (w : Nat → Int) (k : Nat) (j : Nat) : Int := qF n (sumF w m) w j + (if rank (rF n (sumF w m) w) m j < k then 1 else 0)
theorem outK_succ {n : Int} {m : Nat} {w : Nat → Int} {k p : Nat} (hp : p < m) (h : rank (rF n (sumF w m) w) m p = k) {j : Nat} (hj : j < m) : (if j = p then outK n m w k p + 1 else outK n m w k j) = outK n m w (k + 1) j := by
  unfold outK
  by_cases e : j = p
  · rw [if_pos e, e, h, if_neg (by omega), if_pos (by omega)]; omega
  · rw [if_neg e]
    have : rank (rF n (sumF w m) w) m j ≠ k := fun h2 => e (rank_inj hj hp (h2.trans h.symm))
    by_cases h3 : rank (rF n (sumF w m) w) m j < k
    · rw [if_pos h3, if_pos (by omega)]
    · rw [if_neg h3, if_neg (by omega)]
theorem outK_zero {n : Int} {m : Nat} {w : Nat → Int} (j : Nat) : outK n m w 0 j = qF n (sumF w m) w j := by unfold outK; rw [if_neg (by omega)]; omega
theorem outK_done {n : Int} {m : Nat} {w : Nat → Int} (hs : sumF w m ≠ 0) (j : Nat) : outK n m w (leftV n m w).toNat j = splitF n m w j := by unfold outK splitF; rw [if_neg hs]
theorem restK_zero (r : Nat → Int) (m j : Nat) : restK r m 0 j = r j := if_neg (by omega)
/-- What the loop over the first of the sorted leaves. -/
structure Hit (n : Int) (m : Nat) (w : Nat → Int) (f : Nat → Int × Int) (p : Nat) (o : Nat → Int) : Prop where
  hit : ∀ q j, q < p → (f q).1 = ((j : Nat) : Int) → o j = qF n (sumF w m) w j + 1
  no : ∀ j, j < m → (∀ q, q < p → (f q).1 ≠ (j : Int)) → o j = qF n (sumF w m) w j
theorem Hit.start {n : Int} {m : Nat} {w : Nat → Int} {f : Nat → Int × Int} {o : Nat → Int} (h : ∀ j, j < m → o j = qF n (sumF w m) w j) : Hit n m w f 0 o := ⟨fun q j hq => by omega, fun j hj _ => h j hj⟩
theorem Hit.step {n : Int} {m : Nat} {w : Nat → Int} {f : Nat → Int × Int} {p i : Nat} {o : Nat → Int} (h : Hit n m w f p o) (hd : ∀ q, q < p → (f q).1 ≠ (f p).1) (hi : i < m) (hp : (f p).1 = i) : o i = qF n (sumF w m) w i ∧ Hit n m w f (p + 1) (fun q => if q = i then o i + 1 else o q) := by
  have h0 : o i = qF n (sumF w m) w i := h.no i hi (fun q hq e => hd q hq (by rw [e, hp]))
  refine ⟨h0, fun q j hq e => ?_, fun j hj hn => ?_⟩
  · by_cases e2 : j = i
    · rw [if_pos e2, h0, e2]
    · rw [if_neg e2]
      have : q ≠ p := fun e3 => e2 (by rw [e3, hp] at e; omega)
      exact h.hit q j (by omega) e
  · have : j ≠ i := fun e => hn p (by omega) (by rw [hp, e])
    rw [if_neg this]
    exact h.no j hj (fun q hq => hn q (by omega))
theorem Hit.done {n : Int} {m : Nat} {w : Nat → Int} {f : Nat → Int × Int} {o : Nat → Int} (hs : sumF w m ≠ 0) (hf : ∀ p, p < m → ∃ i, i < m ∧ f p = pairs (rF n (sumF w m) w) i) (hso : ∀ p q, p < q → q < m → LT (f p) (f q)) (hL : (leftV n m w).toNat ≤ m) (h : Hit n m w f (leftV n m w).toNat o) {j : Nat} (hj : j < m) : o j = splitF n m w j := by
  have h1 := sorted_rank hf hso hL hj
  unfold splitF
  rw [if_neg hs]
  by_cases e : rank (rF n (sumF w m) w) m j < (leftV n m w).toNat
  · obtain ⟨p, h2, h3⟩ := h1.2 e
    rw [if_pos e, h.hit p j h2 h3]
  · rw [if_neg e, h.no j hj (fun q hq e2 => e (h1.1 ⟨q, hq, e2⟩))]; omega
end Go.Proofs.ShP
