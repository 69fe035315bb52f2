/- Groups with parents: what follows: plain Lean. -/
import Derived.Test.YtipdpmmjmlimhaaPrP
namespace Go.Proofs.PrP
set_option linter.unusedVariables false
set_option linter.unusedSimpArgs false
theorem blV_par {f f' : Nat → Nd} (h : ∀ j, (f' j).1 = (f j).1) (t : Int) : ∀ (k : Nat) (x : Int), blV f' t k x = blV f t k x
  | 0, _ => rfl
  | k + 1, x => by rw [blV, blV, h, blV_par h t k]
theorem blV_fuel {m : Nat} {f : Nat → Nd} (hv : Vld m f) (t : Int) : ∀ (k : Nat) (x : Int), -1 ≤ x → x < m → x + 2 ≤ k → blV f t (k + 1) x = blV f t k x
  | 0, x, h0, _, h => by omega
  | k + 1, x, h0, h1, h2 => by
    rw [blV]
    by_cases e : x = t
    · rw [if_pos e, blV, if_pos e]
    · by_cases e2 : x < 0
      · rw [if_neg e, if_pos e2, blV, if_neg e, if_pos e2]
      · have hp := hv.par (i := x.toNat) (by omega)
        rw [if_neg e, if_neg e2, blV_fuel hv t k _ hp.1 (by omega) (by omega), blV, if_neg e, if_neg e2]
/-- A group with another group's word in its place. -/
def updG (f : Nat → Nd) (g : Nat) (x : Nd) : Nat → Nd := fun j => if j = g then x else f j
theorem updG_at (f : Nat → Nd) (g : Nat) (x : Nd) : updG f g x g = x := if_pos rfl
theorem updG_ne {f : Nat → Nd} {g : Nat} {x : Nd} {j : Nat} (h : j ≠ g) : updG f g x j = f j := if_neg h
theorem updG_par {f : Nat → Nd} {g : Nat} {a b : Int} (j : Nat) : (updG f g ((f g).1, a, b) j).1 = (f j).1 := by
  unfold updG; split
  · rename_i h; rw [h]
  · rfl
theorem Vld.upd {m : Nat} {f : Nat → Nd} (hv : Vld m f) (g : Nat) {a b : Int} (ha : 0 ≤ a ∧ a ≤ 1099511627776) (hb : 0 ≤ b ∧ b ≤ 1099511627776) : Vld m (updG f g ((f g).1, a, b)) :=
  ⟨hv.m1, fun h => by rw [updG_par]; exact hv.root h, fun i h1 h2 => by rw [updG_par]; exact hv.up i h1 h2,
   fun i hi => by unfold updG; split; exact ha; exact hv.us i hi, fun i hi => by unfold updG; split; exact hb; exact hv.ow i hi⟩
theorem sumC_upd {f : Nat → Nd} {g : Nat} {a b q : Int} (hq : (f g).1 ≠ q) : ∀ n, sumC (updG f g ((f g).1, a, b)) q n = sumC f q n
  | 0 => rfl
  | n + 1 => by
    rw [sumC, sumC, sumC_upd hq n]
    by_cases e : n = g
    · subst e; rw [if_neg hq, if_neg (by rw [updG_par]; exact hq)]
    · unfold ownV; rw [updG_ne e]
/-! ## Together: no more than the parent -/
def sumK (f : Nat → Nd) (u : Nat → Int) (q : Int) : Nat → Int
  | 0 => 0
  | n + 1 => sumK f u q n + (if (f n).1 = q then u n else 0)
theorem sumK_bd {f : Nat → Nd} {u : Nat → Int} {m : Nat} (h : ∀ j, j < m → 0 ≤ u j ∧ u j ≤ 1099511627776) (q : Int) : ∀ n, n ≤ m → 0 ≤ sumK f u q n ∧ sumK f u q n ≤ n * 1099511627776
  | 0, _ => by show 0 ≤ (0 : Int) ∧ (0 : Int) ≤ _; omega
  | n + 1, hn => by
    have ih := sumK_bd (f := f) h q n (by omega)
    have := h n (by omega)
    rw [sumK]; split <;> omega
theorem sumK_le {f : Nat → Nd} {u : Nat → Int} {m : Nat} {q : Int} (h : ∀ j, j < m → (f j).1 = q → u j ≤ ownV f j) : ∀ n, n ≤ m → sumK f u q n ≤ sumC f q n
  | 0, _ => Int.le_refl _
  | n + 1, hn => by
    have ih := sumK_le h n (by omega)
    rw [sumK, sumC]
    by_cases e : (f n).1 = q
    · have := h n (by omega) e; rw [if_pos e, if_pos e]; omega
    · rw [if_neg e, if_neg e]; omega
theorem sumK_mul {f : Nat → Nd} {u : Nat → Int} {m : Nat} {q S E : Int} (h : ∀ j, j < m → (f j).1 = q → u j * S ≤ ownV f j * E) : ∀ n, n ≤ m → sumK f u q n * S ≤ sumC f q n * E
  | 0, _ => by show (0 : Int) * S ≤ 0 * E; omega
  | n + 1, hn => by
    have ih := sumK_mul h n (by omega)
    rw [sumK, sumC, Int.add_mul, Int.add_mul]
    by_cases e : (f n).1 = q
    · have := h n (by omega) e; rw [if_pos e, if_pos e]; omega
    · rw [if_neg e, if_neg e]; omega
theorem sumK_zero {f : Nat → Nd} {u : Nat → Int} {m : Nat} {q : Int} (h : ∀ j, j < m → (f j).1 = q → u j = 0) : ∀ n, n ≤ m → sumK f u q n = 0
  | 0, _ => rfl
  | n + 1, hn => by
    rw [sumK, sumK_zero h n (by omega)]
    by_cases e : (f n).1 = q
    · rw [if_pos e, h n (by omega) e]; rfl
    · rw [if_neg e]; rfl
theorem bl_child {m : Nat} {f : Nat → Nd} (hv : Vld m f) {t : Int} {k : Nat} {i : Nat} (hk : k < m) (hp : (f k).1 = (i : Int)) (hne : (k : Int) ≠ t) : blV f t (m + 1) (k : Int) = blV f t (m + 1) (i : Int) := by
  have h := hv.par hk
  rw [blV, if_neg hne, if_neg (by omega), Int.toNat_natCast, hp, ← blV_fuel hv t m i (by omega) (by omega) (by omega)]
theorem sums_law {m : Nat} {f : Nat → Nd} (hv : Vld m f) {t : Int} (ht : 0 ≤ t) {i : Nat} (hi : i < m) (hne : (i : Int) ≠ t) : sumK f (effV m f t) (i : Int) m ≤ effV m f t i := by
  have hE := effV_bd hv ht i hi
  by_cases hb : blV f t (m + 1) (i : Int) = true
  · have hle := sumK_le (f := f) (q := (i : Int)) (fun j hj _ => (effV_bd hv ht j hj).2) m (Nat.le_refl _)
    by_cases hs : effV m f t i < sumC f (i : Int) m
    · have hmul := sumK_mul (f := f) (u := effV m f t) (m := m) (q := (i : Int)) (S := sumC f (i : Int) m) (E := effV m f t i) (fun j hj hp => by
        have hob := own_bd hv hj
        by_cases hn : (j : Int) = t ∨ blV f t (m + 1) j = false
        · rw [effV_no hn, Int.zero_mul]; exact Int.mul_nonneg hob.1 hE.1
        · have hpp := hv.par hj
          rw [effV_part hn (by omega) (by omega), hp, Int.toNat_natCast, if_pos hs]
          exact Int.ediv_mul_le _ (by omega)) m (Nat.le_refl _)
      rw [Int.mul_comm] at hmul
      exact Int.le_of_mul_le_mul_left hmul (by omega)
    · omega
  · rw [sumK_zero (m := m) (fun j hj hp => effV_no (by
      by_cases e : (j : Int) = t
      · exact .inl e
      · right; rw [bl_child hv hj hp e]; simpa using hb)) m (Nat.le_refl _)]
    exact hE.1
/-! ## Who asks for more -/
theorem bl_top {m : Nat} {f : Nat → Nd} (hv : Vld m f) {t : Int} (ht : 0 ≤ t) {g : Nat} (hg : g < m) (hp : (f g).1 = t) : ¬ ((g : Int) = t ∨ blV f t (m + 1) g = false) := by
  have h := hv.par hg
  obtain ⟨k, rfl⟩ : ∃ k, m = k + 1 := ⟨m - 1, by omega⟩
  rintro (h2 | h2)
  · omega
  · rw [blV, if_neg (by omega), if_neg (by omega), Int.toNat_natCast, hp, blV, if_pos rfl] at h2; cases h2
theorem more_le {m : Nat} {f : Nat → Nd} (hv : Vld m f) {t : Int} (ht : 0 ≤ t) {g : Nat} (hg : g < m) (hp : (f g).1 = t) {more : Int} (h0 : (f g).2.2 ≤ more) (h1 : more ≤ 1099511627776) (j : Nat) (hj : j < m) : effV m f t j ≤ effV m (updG f g ((f g).1, (f g).2.1, more)) t j := by
  have how := hv.ow g hg
  have hv' := hv.upd g (hv.us g hg) (b := more) (by omega)
  induction j using Nat.strongRecOn with
  | _ j ih =>
    have hb := effV_bd hv ht j hj
    have hb' := effV_bd hv' ht j hj
    have ho := own_bd hv hj
    by_cases h : (j : Int) = t ∨ blV f t (m + 1) j = false
    · rw [effV_no h]; exact hb'.1
    · have h' : ¬ ((j : Int) = t ∨ blV (updG f g ((f g).1, (f g).2.1, more)) t (m + 1) j = false) := by rw [blV_par updG_par]; exact h
      have hpj := par_in hv ht hj h
      by_cases h2 : (f j).1 = t
      · rw [effV_top h h2, effV_top h' (by rw [updG_par]; exact h2)]
        by_cases e : j = g
        · subst e; unfold ownV; rw [updG_at]; split <;> split <;> dsimp only at * <;> omega
        · unfold ownV; rw [updG_ne e]; exact Int.le_refl _
      · have e : j ≠ g := fun e => h2 (e ▸ hp)
        have ihp := ih (f j).1.toNat (by omega) (by omega)
        have hbp := effV_bd hv ht (f j).1.toNat (by omega)
        rw [effV_part h' (by rw [updG_par]; exact h2) (by rw [updG_par]; omega), sumC_upd (by rw [updG_par, hp]; exact fun e => h2 e.symm), updG_par]
        have eo : ownV (updG f g ((f g).1, (f g).2.1, more)) j = ownV f j := by unfold ownV; rw [updG_ne e]
        rw [eo]
        split
        · rename_i hlt
          rw [effV_part h h2 (by omega), if_pos (by omega)]
          exact Int.ediv_le_ediv (by omega) (Int.mul_le_mul_of_nonneg_left ihp ho.1)
        · exact hb.2
theorem more_is {m : Nat} {f : Nat → Nd} (hv : Vld m f) {t : Int} (ht : 0 ≤ t) {g : Nat} (hg : g < m) (hp : (f g).1 = t) {more : Int} (h0 : (f g).2.2 ≤ more) (h1 : more ≤ 1099511627776) : effV m (updG f g ((f g).1, (f g).2.1, more)) t g = if (f g).2.1 < more then (f g).2.1 else more := by
  have how := hv.ow g hg
  have hv' := hv.upd g (hv.us g hg) (b := more) (by omega)
  rw [effV_top (bl_top hv' ht hg (by rw [updG_par]; exact hp)) (by rw [updG_par]; exact hp)]
  unfold ownV; rw [updG_at]
/-! ## Who is not below the target -/
theorem other_eq {m : Nat} {f : Nat → Nd} (hv : Vld m f) {t : Int} (ht : 0 ≤ t) {g : Nat} (hg : g < m) (hn : blV f t (m + 1) (g : Int) = false) {a b : Int} (j : Nat) (hj : j < m) : effV m (updG f g ((f g).1, a, b)) t j = effV m f t j := by
  induction j using Nat.strongRecOn with
  | _ j ih =>
    by_cases h : (j : Int) = t ∨ blV f t (m + 1) j = false
    · rw [effV_no h, effV_no (by rw [blV_par updG_par]; exact h)]
    · have h' : ¬ ((j : Int) = t ∨ blV (updG f g ((f g).1, a, b)) t (m + 1) j = false) := by rw [blV_par updG_par]; exact h
      have hpj := par_in hv ht hj h
      have e : j ≠ g := fun e => h (.inr (e ▸ hn))
      have eo : ownV (updG f g ((f g).1, a, b)) j = ownV f j := by unfold ownV; rw [updG_ne e]
      by_cases h2 : (f j).1 = t
      · rw [effV_top h h2, effV_top h' (by rw [updG_par]; exact h2), eo]
      · obtain ⟨q, hq⟩ := Int.eq_ofNat_of_zero_le hpj.1
        have hbj : blV f t (m + 1) (j : Int) = true := by
          cases hb : blV f t (m + 1) (j : Int)
          · exact absurd (.inr hb) h
          · rfl
        have hgq : (f g).1 ≠ (q : Int) := by
          intro e2
          have hgt : (g : Int) ≠ t := by
            intro e3; rw [e3, blV, if_pos rfl] at hn; cases hn
          rw [bl_child hv hg e2 hgt] at hn
          rw [bl_child hv hj hq (fun e3 => h (.inl e3)), hn] at hbj; cases hbj
        rw [effV_part h h2 (by omega), effV_part h' (by rw [updG_par]; exact h2) (by rw [updG_par]; omega), updG_par, hq, Int.toNat_natCast, sumC_upd hgq, eo, ih q (by omega) (by omega)]
/-! ## Nobody asks; all ask -/
theorem none_zero {m : Nat} {f : Nat → Nd} (hv : Vld m f) {t : Int} (ht : 0 ≤ t) (h0 : ∀ j, j < m → (f j).2.2 = 0) (j : Nat) (hj : j < m) : effV m f t j = 0 := by
  have h := effV_bd hv ht j hj
  have h2 := hv.us j hj
  have h3 := h0 j hj
  have : ownV f j ≤ 0 := by unfold ownV; split <;> omega
  omega
theorem held_self {m : Nat} {f : Nat → Nd} {k : Nat} {u : Nat → Int} {t : Int} : heldV m f k u t t = false := by
  unfold heldV; rw [hdV, if_pos rfl, Bool.and_false, Bool.and_false]
theorem held_in {m : Nat} {f : Nat → Nd} (hv : Vld m f) {t : Int} (ht : 0 ≤ t) (ht1 : t < m) {u : Nat → Int} (hu : ∀ j, j < m → (f j).2.1 = u j) {i : Nat} (hi : i < m) (hne : (i : Int) ≠ t) {b : Nat → Int} (hb : b i = effV m f t i) (he : effV m f t i = u i) (h0 : 0 < u i) : heldV m f m b t i = true := by
  have hbl : blV f t (m + 1) (i : Int) = true := by
    cases hb : blV f t (m + 1) (i : Int)
    · rw [effV_no (.inr hb)] at he; omega
    · rfl
  rw [held_is ⟨hv, rfl, ht, ht1⟩ (by omega) (by omega) hbl, hdV, if_neg hne, if_neg (by omega), Int.toNat_natCast, if_pos (by rw [hu i hi, hb, he]; exact Int.le_refl _)]
theorem all_top {m : Nat} {f : Nat → Nd} (hv : Vld m f) {t : Int} (ht : 0 ≤ t) {u : Nat → Int} (hu : ∀ j, j < m → (f j).2.1 = u j) (hw : ∀ j, j < m → (f j).2.2 = u j) {i : Nat} (hi : i < m) (hp : (f i).1 = t) : effV m f t i = u i := by
  rw [effV_top (bl_top hv ht hi hp) hp]
  unfold ownV; rw [hu i hi, hw i hi]; split <;> rfl
/-! ## Sums of what is used -/
def smU (u : Nat → Int) : Nat → Int
  | 0 => 0
  | n + 1 => smU u n + u n
theorem smU_le {u : Nat → Int} : ∀ (n : Nat), (∀ j, j < n → 0 ≤ u j) → 0 ≤ smU u n ∧ ∀ j, j < n → u j ≤ smU u n
  | 0, _ => ⟨Int.le_refl _, fun j hj => by omega⟩
  | n + 1, h => by
    have ih := smU_le n (fun j hj => h j (by omega))
    have hn := h n (by omega)
    rw [smU]
    refine ⟨by omega, fun j hj => ?_⟩
    by_cases e : j = n
    · subst e; omega
    · have := ih.2 j (by omega); omega
theorem smU_congr {u v : Nat → Int} : ∀ (n : Nat), (∀ j, j < n → u j = v j) → smU u n = smU v n
  | 0, _ => rfl
  | n + 1, h => by rw [smU, smU, smU_congr n (fun j hj => h j (by omega)), h n (by omega)]
theorem smU_upd {u v : Nat → Int} {i : Nat} {a : Int} (hi : v i = u i + a) (hv : ∀ j, j ≠ i → v j = u j) : ∀ (n : Nat), i < n → smU v n = smU u n + a
  | 0, h => by omega
  | n + 1, h => by
    rw [smU, smU]
    by_cases e : i = n
    · subst e; rw [smU_congr i (fun j hj => hv j (by omega)), hi]; omega
    · rw [smU_upd hi hv n (by omega), hv n (by omega)]; omega
structure UseI (m c : Nat) (u : Nat → Int) : Prop where
  nn : ∀ j, 0 ≤ u j
  sm : smU u c + 999 * c ≤ 999 * m
  le : ∀ j, c ≤ j → u j ≤ 999 * m
theorem UseI.start (m : Nat) : UseI m m (fun _ => 0) :=
  ⟨fun _ => Int.le_refl _, by
    have : ∀ n, smU (fun _ => 0) n = 0 := by
      intro n
      induction n with
      | zero => rfl
      | succ n ih => rw [smU, ih]; rfl
    rw [this]; omega, fun j hj => by show (0 : Int) ≤ _; omega⟩
theorem UseI.one {m c : Nat} {u v : Nat → Int} (h : UseI m (c + 1) u) (hc : c < m) {r : Int} (hr : 0 ≤ r ∧ r ≤ 999) (h1 : v c = u c + r) (h2 : ∀ j, j ≠ c → v j = u j) : UseI m c v ∧ 0 ≤ u c ∧ u c ≤ 63936 * m ∧ 0 ≤ v c ∧ v c ≤ 999 * m ∧ smU v c + v c + 999 * c ≤ 999 * m := by
  have hs := smU_le (u := u) c (fun j _ => h.nn j)
  have hsm := h.sm
  have hcn := h.nn c
  rw [smU] at hsm
  have e : smU v c = smU u c := smU_congr c (fun j hj => h2 j (by omega))
  refine ⟨⟨fun j => ?_, ?_, fun j hj => ?_⟩, hcn, ?_, ?_, ?_, ?_⟩
  · by_cases e : j = c
    · rw [e, h1]; omega
    · rw [h2 j e]; exact h.nn j
  · rw [e]; omega
  · by_cases e2 : j = c
    · rw [e2, h1]; omega
    · rw [h2 j e2]; exact h.le j (by omega)
  all_goals omega
theorem UseI.two {m c : Nat} {u v : Nat → Int} (h : UseI m c u) {a : Int} (ha : 0 ≤ a) (hs : smU u c + a + 999 * c ≤ 999 * m) {p : Nat} (hp : p < c) (h1 : v p = u p + a) (h2 : ∀ j, j ≠ p → v j = u j) : UseI m c v ∧ 0 ≤ u p ∧ u p ≤ 999 * m := by
  have hb := smU_le (u := u) c (fun j _ => h.nn j)
  have hbp := hb.2 p hp
  have hpn := h.nn p
  refine ⟨⟨fun j => ?_, ?_, fun j hj => ?_⟩, hpn, by omega⟩
  · by_cases e : j = p
    · rw [e, h1]; omega
    · rw [h2 j e]; exact h.nn j
  · rw [smU_upd h1 h2 c hp]; omega
  · rw [h2 j (by omega)]; exact h.le j hj
theorem UseI.vld {m : Nat} {u : Nat → Int} {f : Nat → Nd} (h : UseI m 0 u) (hv : Vld m f) : Vld m (fun j => ((f j).1, u j, u j)) := by
  have hm := hv.m1
  have hb : ∀ i, i < m → 0 ≤ u i ∧ u i ≤ 1099511627776 := fun i _ => by
    have h1 := h.nn i; have h2 := h.le i (by omega); omega
  exact ⟨hv.m1, hv.root, hv.up, hb, hb⟩
theorem Vld.asks0 {m : Nat} {f : Nat → Nd} (hv : Vld m f) : Vld m (fun j => ((f j).1, (f j).2.1, 0)) :=
  ⟨hv.m1, hv.root, hv.up, hv.us, fun _ _ => by show 0 ≤ (0 : Int) ∧ (0 : Int) ≤ _; omega⟩
/-! ## The sample -/
def fS : Nat → Nd := fun j => ([(-1, 12, 0), (0, 8, 10), (1, 6, 6), (1, 6, 6)] : List Nd).getD j (0, 0, 0)
theorem es0 : effV 4 fS 0 0 = 0 := effV_no (.inl rfl)
theorem es1 : effV 4 fS 0 1 = 8 := by
  rw [effV_top (by decide) (by decide)]; decide
theorem es2 : effV 4 fS 0 2 = 4 := by
  rw [effV_part (by decide) (by decide) (by decide), show (fS 2).1.toNat = 1 from rfl, es1]; decide
theorem es3 : effV 4 fS 0 3 = 4 := by
  rw [effV_part (by decide) (by decide) (by decide), show (fS 3).1.toNat = 1 from rfl, es1]; decide
theorem vS : Vld 4 fS := by decide
def eS : Nat → Int := fun j => ([0, 8, 4, 4] : List Int).getD j 0
theorem effS (j : Nat) (h : j < 4) : effV 4 fS 0 j = eS j := by
  match j, h with
  | 0, _ => exact es0
  | 1, _ => exact es1
  | 2, _ => exact es2
  | 3, _ => exact es3
theorem hs1 : heldV 4 fS 4 eS 0 2 = true := by decide
theorem hs2 : heldV 4 fS 4 eS 1 2 = false := by decide
theorem os1 : ovV 4 fS 4 eS 0 0 = 12 := by decide
theorem os2 : ovV 4 fS 4 eS 0 2 = 0 := by decide
end Go.Proofs.PrP
