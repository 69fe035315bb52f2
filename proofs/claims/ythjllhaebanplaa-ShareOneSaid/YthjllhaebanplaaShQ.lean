/- The stable sort: what each of its functions leaves, as functions of the place: plain Lean. -/
import Derived.Test.YthjllhaebanplaaShP
namespace Go.Proofs.ShP
set_option linter.unusedVariables false
set_option linter.unusedSimpArgs false
abbrev E := Int × Int
/-- Between a and b only what was there; elsewhere all as it was. -/
structure From (a b : Nat) (f f' : Nat → E) : Prop where
  inn : ∀ q, a ≤ q → q < b → ∃ q', a ≤ q' ∧ q' < b ∧ f' q = f q'
  out : ∀ q, q < a ∨ b ≤ q → f' q = f q
def SrtF (f : Nat → E) (a b : Nat) : Prop := ∀ i j, a ≤ i → i < j → j < b → LT (f i) (f j)
theorem From.refl (a b : Nat) (f : Nat → E) : From a b f f := ⟨fun q h1 h2 => ⟨q, h1, h2, rfl⟩, fun _ _ => rfl⟩
theorem From.trans {a b : Nat} {f g h : Nat → E} (h1 : From a b f g) (h2 : From a b g h) : From a b f h :=
  ⟨fun q ha hb => by
    obtain ⟨q1, a1, b1, e1⟩ := h2.inn q ha hb
    obtain ⟨q2, a2, b2, e2⟩ := h1.inn q1 a1 b1
    exact ⟨q2, a2, b2, e1.trans e2⟩, fun q hq => (h2.out q hq).trans (h1.out q hq)⟩
theorem From.wide {a b c d : Nat} {f g : Nat → E} (h : From a b f g) (hc : c ≤ a) (hd : b ≤ d) : From c d f g :=
  ⟨fun q h1 h2 => by
    by_cases e : a ≤ q ∧ q < b
    · obtain ⟨q', h3, h4, h5⟩ := h.inn q e.1 e.2; exact ⟨q', by omega, by omega, h5⟩
    · exact ⟨q, h1, h2, h.out q (by omega)⟩, fun q hq => h.out q (by omega)⟩
def cmpI (x y : Int) : Int := if y < x then -1 else if x < y then 1 else 0
theorem cmpI_neg {x y : Int} : cmpI x y < 0 ↔ y < x := by unfold cmpI; split <;> (try split) <;> omega
theorem lt_of {x y : E} (h : y.2 < x.2) : LT x y := .inl h
theorem lt_of_not {x y : E} (h : ¬ x.2 < y.2) (ha : x.1 < y.1) : LT x y := by unfold LT; omega
/-! ## swapRange, rotate -/
def swapF (f : Nat → E) (a b n : Nat) : Nat → E := fun q => if a ≤ q ∧ q < a + n then f (q - a + b) else if b ≤ q ∧ q < b + n then f (q - b + a) else f q
def rotF (f : Nat → E) (a m b : Nat) : Nat → E := fun q => if a ≤ q ∧ q < a + (b - m) then f (m + (q - a)) else if a + (b - m) ≤ q ∧ q < b then f (q - (b - m)) else f q
def twoF (f : Nat → E) (i j : Nat) : Nat → E := fun q => if q = j then f i else if q = i then f j else f q
theorem swapF_zero (f : Nat → E) (a b : Nat) : swapF f a b 0 = f := by
  funext q; unfold swapF; rw [if_neg (by omega), if_neg (by omega)]
theorem swapF_succ {f : Nat → E} {a b n i : Nat} (h : a + n ≤ b) (hi : i < n) : twoF (swapF f a b i) (a + i) (b + i) = swapF f a b (i + 1) := by
  funext q; unfold twoF swapF
  repeat' split
  all_goals first | rfl | (exfalso; omega) | (congr 1; omega)
theorem rot_one {f : Nat → E} {m i j : Nat} (him : i ≤ m) (h : j < i) (hj : 0 < j) : rotF (swapF f (m - i) m j) (m - (i - j)) m (m + j) = rotF f (m - i) m (m + j) := by
  funext q; unfold rotF swapF
  repeat' split
  all_goals first | rfl | (exfalso; omega) | (congr 1; omega)
theorem rot_two {f : Nat → E} {m i j : Nat} (him : i ≤ m) (h : i < j) (hi : 0 < i) : rotF (swapF f (m - i) (m + j - i) i) (m - i) m (m + (j - i)) = rotF f (m - i) m (m + j) := by
  funext q; unfold rotF swapF
  repeat' split
  all_goals first | rfl | (exfalso; omega) | (congr 1; omega)
theorem rot_end {f : Nat → E} {m i : Nat} (him : i ≤ m) : swapF f (m - i) m i = rotF f (m - i) m (m + i) := by
  funext q; unfold rotF swapF
  repeat' split
  all_goals first | rfl | (exfalso; omega) | (congr 1; omega)
theorem rot_none {f : Nat → E} {a m b : Nat} (h : ¬ (a < m ∧ m < b)) (ha : a ≤ m) (hb : m ≤ b) : rotF f a m b = f := by
  funext q; unfold rotF
  repeat' split
  all_goals first | rfl | (exfalso; omega) | (congr 1; omega)
/-! ## insertion -/
structure Ins1 (a i j : Nat) (f : Nat → E) : Prop where
  srt : ∀ p q, a ≤ p → p < q → q ≤ i → p ≠ j → q ≠ j → LT (f p) (f q)
  up : ∀ q, j < q → q ≤ i → LT (f j) (f q)
  at_ : ∀ p, a ≤ p → p ≤ i → p ≠ j → (f p).1 < (f j).1
theorem Ins1.step {a i j : Nat} {f : Nat → E} (h : Ins1 a i j f) (ha : a < j) (hi : j ≤ i) (hl : (f (j - 1)).2 < (f j).2) : Ins1 a i (j - 1) (twoF f j (j - 1)) := by
  have hx : LT (f j) (f (j - 1)) := lt_of hl
  refine ⟨fun p q h1 h2 h3 h4 h5 => ?_, fun q h1 h2 => ?_, fun p h1 h2 h3 => ?_⟩
  · unfold twoF
    rw [if_neg h4, if_neg h5]
    by_cases e : p = j
    · rw [if_pos e, if_neg (by omega)]; exact h.srt (j - 1) q (by omega) (by omega) h3 (by omega) (by omega)
    · rw [if_neg e]
      by_cases e2 : q = j
      · rw [if_pos e2]; exact h.srt p (j - 1) h1 (by omega) (by omega) e (by omega)
      · rw [if_neg e2]; exact h.srt p q h1 h2 h3 e e2
  · unfold twoF
    rw [if_pos rfl, if_neg (by omega)]
    by_cases e : q = j
    · rw [if_pos e]; exact hx
    · rw [if_neg e]; exact h.up q (by omega) h2
  · unfold twoF
    rw [if_pos rfl, if_neg h3]
    by_cases e : p = j
    · rw [if_pos e]; exact h.at_ (j - 1) (by omega) (by omega) (by omega)
    · rw [if_neg e]; exact h.at_ p h1 h2 e
theorem Ins1.start {a i : Nat} {f : Nat → E} (hs : SrtF f a i) (hat : ∀ p, a ≤ p → p < i → (f p).1 < (f i).1) : Ins1 a i i f :=
  ⟨fun p q h1 h2 h3 h4 h5 => hs p q h1 h2 (by omega), fun q h1 h2 => by omega, fun p h1 h2 h3 => hat p h1 (by omega)⟩
theorem Ins1.done {a i j : Nat} {f : Nat → E} (h : Ins1 a i j f) (ha : a ≤ j) (hi : j ≤ i) (hl : ¬ (a < j ∧ (f (j - 1)).2 < (f j).2)) : SrtF f a (i + 1) := by
  have hlow : ∀ p, a ≤ p → p < j → LT (f p) (f j) := fun p h1 h2 => by
    have h3 : LT (f (j - 1)) (f j) := lt_of_not (fun e => hl ⟨by omega, by
      exact absurd e (by intro e; exact absurd e (by intro e; omega))⟩) (h.at_ (j - 1) (by omega) (by omega) (by omega))
    by_cases e : p = j - 1
    · rw [e]; exact h3
    · exact (h.srt p (j - 1) h1 (by omega) (by omega) (by omega) (by omega)).trans h3
  intro p q h1 h2 h3
  by_cases e : p = j
  · rw [e]; exact h.up q (by omega) (by omega)
  · by_cases e2 : q = j
    · rw [e2]; exact hlow p h1 (by omega)
    · exact h.srt p q h1 h2 (by omega) e e2
theorem from_two {a b i j : Nat} (f : Nat → E) (hi : a ≤ i ∧ i < b) (hj : a ≤ j ∧ j < b) : From a b f (twoF f i j) := by
  refine ⟨fun q h1 h2 => ?_, fun q h => ?_⟩
  · unfold twoF
    split
    · exact ⟨i, hi.1, hi.2, rfl⟩
    · split
      · exact ⟨j, hj.1, hj.2, rfl⟩
      · exact ⟨q, h1, h2, rfl⟩
  · unfold twoF; rw [if_neg (by omega), if_neg (by omega)]
/-! ## one moved up, or down -/
def upM (f : Nat → E) (a k : Nat) : Nat → E := fun q => if a ≤ q ∧ q < k then f (q + 1) else if q = k then f a else f q
def dnM (f : Nat → E) (m k : Nat) : Nat → E := fun q => if k < q ∧ q ≤ m then f (q - 1) else if q = k then f m else f q
theorem upM_zero (f : Nat → E) (a : Nat) : upM f a a = f := by
  funext q; unfold upM
  repeat' split
  all_goals first | rfl | (exfalso; omega) | (congr 1; omega)
theorem upM_succ {f : Nat → E} {a k : Nat} (h : a ≤ k) : twoF (upM f a k) k (k + 1) = upM f a (k + 1) := by
  funext q; unfold twoF upM
  repeat' split
  all_goals first | rfl | (exfalso; omega) | (congr 1; omega)
theorem dnM_zero (f : Nat → E) (m : Nat) : dnM f m m = f := by
  funext q; unfold dnM
  repeat' split
  all_goals first | rfl | (exfalso; omega) | (congr 1; omega)
theorem dnM_pred {f : Nat → E} {m k : Nat} (h : k ≤ m) (h0 : 0 < k) : twoF (dnM f m k) k (k - 1) = dnM f m (k - 1) := by
  funext q; unfold twoF dnM
  repeat' split
  all_goals first | rfl | (exfalso; omega) | (congr 1; omega)
theorem upM_done {f : Nat → E} {a b i : Nat} (ha : a < i) (hb : i ≤ b) (hs : SrtF f (a + 1) b) (h1 : ∀ q, a + 1 ≤ q → q < i → LT (f q) (f a)) (h2 : ∀ q, i ≤ q → q < b → LT (f a) (f q)) : From a b f (upM f a (i - 1)) ∧ SrtF (upM f a (i - 1)) a b := by
  refine ⟨⟨fun q h3 h4 => ?_, fun q h3 => ?_⟩, fun p q h3 h4 h5 => ?_⟩
  · unfold upM
    repeat' split
    · exact ⟨q + 1, by omega, by omega, rfl⟩
    · exact ⟨a, by omega, by omega, rfl⟩
    · exact ⟨q, h3, h4, rfl⟩
  · unfold upM; rw [if_neg (by omega), if_neg (by omega)]
  · unfold upM
    repeat' split
    all_goals first | (exfalso; omega) | exact hs _ _ (by omega) (by omega) (by omega) | exact h1 _ (by omega) (by omega) | exact h2 _ (by omega) (by omega)
theorem dnM_done {f : Nat → E} {a b i : Nat} (ha : a ≤ i) (hb : i ≤ b) (hs : SrtF f a b) (h1 : ∀ q, a ≤ q → q < i → LT (f q) (f b)) (h2 : ∀ q, i ≤ q → q < b → LT (f b) (f q)) : From a (b + 1) f (dnM f b i) ∧ SrtF (dnM f b i) a (b + 1) := by
  refine ⟨⟨fun q h3 h4 => ?_, fun q h3 => ?_⟩, fun p q h3 h4 h5 => ?_⟩
  · unfold dnM
    repeat' split
    · exact ⟨q - 1, by omega, by omega, rfl⟩
    · exact ⟨b, by omega, by omega, rfl⟩
    · exact ⟨q, h3, h4, rfl⟩
  · unfold dnM; rw [if_neg (by omega), if_neg (by omega)]
  · unfold dnM
    repeat' split
    all_goals first | (exfalso; omega) | exact hs _ _ (by omega) (by omega) (by omega) | exact h1 _ (by omega) (by omega) | exact h2 _ (by omega) (by omega)
/-! ## the merge -/
/-- Where the search stands. -/
structure Srch (f : Nat → E) (n lo hi s r : Nat) : Prop where
  le : lo ≤ s ∧ s ≤ r ∧ r ≤ hi
  low : ∀ c, lo ≤ c → c < s → LT (f c) (f (n - 1 - c))
  high : ∀ c, r ≤ c → c < hi → LT (f (n - 1 - c)) (f c)
structure Mg (f : Nat → E) (a m b lo hi mid : Nat) : Prop where
  s1 : SrtF f a m
  s2 : SrtF f m b
  at_ : ∀ i j, a ≤ i → i < m → m ≤ j → j < b → (f i).1 < (f j).1
  am : a < m
  mb : m < b
  md : mid = (a + b) / 2
  lh : (mid < m ∧ lo = mid + m - b ∧ hi = mid) ∨ (m ≤ mid ∧ lo = a ∧ hi = m)
section
variable {f : Nat → E} {a m b lo hi mid s r : Nat} (g : Mg f a m b lo hi mid)
include g
theorem Mg.start : Srch f (mid + m) lo hi lo hi := ⟨by have := g.md; have := g.am; have := g.mb; have := g.lh; omega, fun c h1 h2 => by omega, fun c h1 h2 => by omega⟩
theorem Mg.low (h : Srch f (mid + m) lo hi s r) (hs : s < r) (hc : ¬ (f ((s + r) / 2)).2 < (f (mid + m - 1 - (s + r) / 2)).2) : Srch f (mid + m) lo hi ((s + r) / 2 + 1) r := by
  have h1 := g.md; have h2 := g.am; have h3 := g.mb; have h4 := g.lh; have h5 := h.le
  have hx : LT (f ((s + r) / 2)) (f (mid + m - 1 - (s + r) / 2)) := lt_of_not hc (g.at_ _ _ (by omega) (by omega) (by omega) (by omega))
  refine ⟨by omega, fun c h6 h7 => ?_, h.high⟩
  by_cases e : c = (s + r) / 2
  · rw [e]; exact hx
  · exact ((g.s1 c _ (by omega) (by omega) (by omega)).trans hx).trans (g.s2 _ _ (by omega) (by omega) (by omega))
theorem Mg.high (h : Srch f (mid + m) lo hi s r) (hs : s < r) (hc : (f ((s + r) / 2)).2 < (f (mid + m - 1 - (s + r) / 2)).2) : Srch f (mid + m) lo hi s ((s + r) / 2) := by
  have h1 := g.md; have h2 := g.am; have h3 := g.mb; have h4 := g.lh; have h5 := h.le
  have hx : LT (f (mid + m - 1 - (s + r) / 2)) (f ((s + r) / 2)) := lt_of hc
  refine ⟨by omega, h.low, fun c h6 h7 => ?_⟩
  by_cases e : c = (s + r) / 2
  · rw [e]; exact hx
  · exact ((g.s2 _ _ (by omega) (by omega) (by omega)).trans hx).trans (g.s1 _ c (by omega) (by omega) (by omega))
/-- Behind the search and the turn. -/
theorem Mg.turned (h : Srch f (mid + m) lo hi s s) : a ≤ s ∧ s ≤ m ∧ s ≤ mid ∧ m ≤ mid + m - s ∧ mid + m - s ≤ b ∧ From a b f (rotF f s m (mid + m - s)) ∧
    (∀ q, a ≤ q → q < s → rotF f s m (mid + m - s) q = f q) ∧ (∀ q, s ≤ q → q < mid → rotF f s m (mid + m - s) q = f (q - s + m)) ∧ (∀ q, mid ≤ q → q < mid + m - s → rotF f s m (mid + m - s) q = f (q - mid + s)) ∧ (∀ q, mid + m - s ≤ q → rotF f s m (mid + m - s) q = f q) := by
  have h1 := g.md; have h2 := g.am; have h3 := g.mb; have h4 := g.lh; have h5 := h.le
  have e1 : ∀ q, q < s → rotF f s m (mid + m - s) q = f q := fun q h6 => by unfold rotF; rw [if_neg (by omega), if_neg (by omega)]
  have e2 : ∀ q, s ≤ q → q < mid → rotF f s m (mid + m - s) q = f (q - s + m) := fun q h6 h7 => by unfold rotF; rw [if_pos (by omega)]; congr 1; omega
  have e3 : ∀ q, mid ≤ q → q < mid + m - s → rotF f s m (mid + m - s) q = f (q - mid + s) := fun q h6 h7 => by unfold rotF; rw [if_neg (by omega), if_pos (by omega)]; congr 1; omega
  have e4 : ∀ q, mid + m - s ≤ q → rotF f s m (mid + m - s) q = f q := fun q h6 => by unfold rotF; rw [if_neg (by omega), if_neg (by omega)]
  refine ⟨by omega, by omega, by omega, by omega, by omega, ⟨fun q h6 h7 => ?_, fun q h6 => ?_⟩, fun q _ h6 => e1 q h6, e2, e3, e4⟩
  · by_cases c1 : q < s
    · exact ⟨q, h6, h7, e1 q c1⟩
    · by_cases c2 : q < mid
      · exact ⟨q - s + m, by omega, by omega, e2 q (by omega) c2⟩
      · by_cases c3 : q < mid + m - s
        · exact ⟨q - mid + s, by omega, by omega, e3 q (by omega) c3⟩
        · exact ⟨q, h6, h7, e4 q (by omega)⟩
  · rcases h6 with h6 | h6
    · exact e1 q (by omega)
    · exact e4 q (by omega)
theorem Mg.cross (h : Srch f (mid + m) lo hi s s) {q q' : Nat} (hq : a ≤ q ∧ q < mid) (hq' : mid ≤ q' ∧ q' < b) : LT (rotF f s m (mid + m - s) q) (rotF f s m (mid + m - s) q') := by
  have h1 := g.md; have h2 := g.am; have h3 := g.mb; have h4 := g.lh; have h5 := h.le
  obtain ⟨t1, t2, t3, t4, t5, _, e1, e2, e3, e4⟩ := g.turned h
  by_cases c1 : q < s
  · rw [e1 q hq.1 c1]
    by_cases c2 : q' < mid + m - s
    · rw [e3 q' hq'.1 c2]; exact g.s1 _ _ (by omega) (by omega) (by omega)
    · rw [e4 q' (by omega)]
      have hx := h.low (s - 1) (by omega) (by omega)
      rw [show mid + m - 1 - (s - 1) = mid + m - s by omega] at hx
      have hy : LT (f q) (f (mid + m - s)) := by
        by_cases e : q = s - 1
        · rw [e]; exact hx
        · exact (g.s1 q (s - 1) (by omega) (by omega) (by omega)).trans hx
      by_cases e : q' = mid + m - s
      · rw [e]; exact hy
      · exact hy.trans (g.s2 _ q' (by omega) (by omega) (by omega))
  · rw [e2 q (by omega) hq.2]
    by_cases c2 : q' < mid + m - s
    · rw [e3 q' hq'.1 c2]
      have hx := h.high s (by omega) (by omega)
      have hy : LT (f (q - s + m)) (f s) := by
        by_cases e : q - s + m = mid + m - 1 - s
        · rw [e]; exact hx
        · exact (g.s2 (q - s + m) (mid + m - 1 - s) (by omega) (by omega) (by omega)).trans hx
      by_cases e : q' - mid + s = s
      · rw [e]; exact hy
      · exact hy.trans (g.s1 s _ (by omega) (by omega) (by omega))
    · rw [e4 q' (by omega)]; exact g.s2 _ _ (by omega) (by omega) (by omega)
end
/-- Two halves, each sorted, all of the first before all of the second. -/
theorem srt_join {f : Nat → E} {a mid b : Nat} (h1 : SrtF f a mid) (h2 : SrtF f mid b) (h3 : ∀ q q', a ≤ q → q < mid → mid ≤ q' → q' < b → LT (f q) (f q')) : SrtF f a b := by
  intro p q h4 h5 h6
  by_cases c1 : q < mid
  · exact h1 p q h4 h5 c1
  · by_cases c2 : p < mid
    · exact h3 p q h4 c2 (by omega) h6
    · exact h2 p q (by omega) h5 h6
section
variable {f : Nat → E} {a m b lo hi mid s : Nat} (g : Mg f a m b lo hi mid)
include g
theorem Mg.first (h : Srch f (mid + m) lo hi s s) : SrtF (rotF f s m (mid + m - s)) a s ∧ SrtF (rotF f s m (mid + m - s)) s mid ∧ ∀ i j, a ≤ i → i < s → s ≤ j → j < mid → (rotF f s m (mid + m - s) i).1 < (rotF f s m (mid + m - s) j).1 := by
  obtain ⟨t1, t2, t3, t4, t5, _, e1, e2, e3, e4⟩ := g.turned h
  refine ⟨fun p q h1 h2 h3 => ?_, fun p q h1 h2 h3 => ?_, fun i j h1 h2 h3 h4 => ?_⟩
  · rw [e1 p h1 (by omega), e1 q (by omega) h3]; exact g.s1 p q h1 h2 (by omega)
  · rw [e2 p h1 (by omega), e2 q (by omega) h3]; exact g.s2 _ _ (by omega) (by omega) (by omega)
  · rw [e1 i h1 h2, e2 j h3 h4]; exact g.at_ _ _ (by omega) (by omega) (by omega) (by omega)
theorem Mg.second (h : Srch f (mid + m) lo hi s s) : SrtF (rotF f s m (mid + m - s)) mid (mid + m - s) ∧ SrtF (rotF f s m (mid + m - s)) (mid + m - s) b ∧ ∀ i j, mid ≤ i → i < mid + m - s → mid + m - s ≤ j → j < b → (rotF f s m (mid + m - s) i).1 < (rotF f s m (mid + m - s) j).1 := by
  have hm := g.md; have ham := g.am; have hmb := g.mb
  obtain ⟨t1, t2, t3, t4, t5, _, e1, e2, e3, e4⟩ := g.turned h
  refine ⟨fun p q h1 h2 h3 => ?_, fun p q h1 h2 h3 => ?_, fun i j h1 h2 h3 h4 => ?_⟩
  · rw [e3 p h1 (by omega), e3 q (by omega) h3]; exact g.s1 _ _ (by omega) (by omega) (by omega)
  · rw [e4 p h1, e4 q (by omega)]; exact g.s2 _ _ (by omega) (by omega) (by omega)
  · rw [e3 i h1 h2, e4 j h3]; exact g.at_ _ _ (by omega) (by omega) (by omega) (by omega)
theorem Mg.fin (h : Srch f (mid + m) lo hi s s) {f2 f3 : Nat → E} (h1 : From a mid (rotF f s m (mid + m - s)) f2) (h2 : SrtF f2 a mid) (h3 : From mid b f2 f3) (h4 : SrtF f3 mid b) : From a b f f3 ∧ SrtF f3 a b := by
  have hm := g.md; have ham := g.am; have hmb := g.mb
  obtain ⟨t1, t2, t3, t4, t5, hf, e1, e2, e3, e4⟩ := g.turned h
  refine ⟨(hf.trans (h1.wide (by omega) (by omega))).trans (h3.wide (by omega) (by omega)), srt_join (fun p q c1 c2 c3 => ?_) h4 (fun q q' c1 c2 c3 c4 => ?_)⟩
  · rw [h3.out p (by omega), h3.out q (by omega)]; exact h2 p q c1 c2 c3
  · obtain ⟨q1, d1, d2, d3⟩ := h1.inn q c1 c2
    obtain ⟨q2, d4, d5, d6⟩ := h3.inn q' c3 c4
    rw [h3.out q (by omega), d3, d6, h1.out q2 (by omega)]
    exact g.cross h ⟨d1, d2⟩ ⟨d4, d5⟩
end
theorem LT.le {x y : E} (h : LT x y) : y.2 ≤ x.2 := by unfold LT at h; omega
/-! ## the blocks -/
structure Full (f0 : Nat → E) (n bs : Nat) (f : Nat → E) : Prop where
  srt : ∀ i j, i < j → j < n → i / bs = j / bs → LT (f i) (f j)
  frm : ∀ q, q < n → ∃ q', q' < n ∧ q' / bs = q / bs ∧ f q = f0 q'
  out : ∀ q, n ≤ q → f q = f0 q
structure StA (f0 : Nat → E) (n a : Nat) (f : Nat → E) : Prop where
  srt : ∀ i j, i < j → j < a → i / 20 = j / 20 → LT (f i) (f j)
  frm : ∀ q, q < n → ∃ q', q' < n ∧ q' / 20 = q / 20 ∧ f q = f0 q'
  rest : ∀ q, a ≤ q → f q = f0 q
theorem StA.start (f0 : Nat → E) (n : Nat) : StA f0 n 0 f0 := ⟨fun i j _ h => by omega, fun q hq => ⟨q, hq, rfl, rfl⟩, fun _ _ => rfl⟩
theorem StA.step {f0 f1 f2 : Nat → E} {n a : Nat} (h : StA f0 n a f1) (ha : a % 20 = 0) (hn : a + 20 ≤ n) (h1 : From a (a + 20) f1 f2) (h2 : SrtF f2 a (a + 20)) : StA f0 n (a + 20) f2 := by
  refine ⟨fun i j c1 c2 c3 => ?_, fun q hq => ?_, fun q hq => ?_⟩
  · by_cases e : j < a
    · rw [h1.out i (by omega), h1.out j (by omega)]; exact h.srt i j c1 e c3
    · exact h2 i j (by omega) c1 c2
  · by_cases e : a ≤ q ∧ q < a + 20
    · obtain ⟨q', d1, d2, d3⟩ := h1.inn q e.1 e.2
      exact ⟨q', by omega, by omega, by rw [d3, h.rest q' d1]⟩
    · rw [h1.out q (by omega)]; exact h.frm q hq
  · rw [h1.out q (by omega)]; exact h.rest q (by omega)
theorem StA.last {f0 f1 f2 : Nat → E} {n a : Nat} (h : StA f0 n a f1) (ha : a % 20 = 0) (hn : a ≤ n) (hn2 : n < a + 20) (h1 : From a n f1 f2) (h2 : SrtF f2 a n) : Full f0 n 20 f2 := by
  refine ⟨fun i j c1 c2 c3 => ?_, fun q hq => ?_, fun q hq => ?_⟩
  · by_cases e : j < a
    · rw [h1.out i (by omega), h1.out j (by omega)]; exact h.srt i j c1 e c3
    · exact h2 i j (by omega) c1 c2
  · by_cases e : a ≤ q
    · obtain ⟨q', d1, d2, d3⟩ := h1.inn q e hq
      exact ⟨q', by omega, by omega, by rw [d3, h.rest q' d1]⟩
    · rw [h1.out q (by omega)]; exact h.frm q hq
  · rw [h1.out q (by omega)]; exact h.rest q (by omega)
structure StB (f0 : Nat → E) (n bs a : Nat) (f : Nat → E) : Prop where
  srt2 : ∀ i j, i < j → j < a → i / (2 * bs) = j / (2 * bs) → LT (f i) (f j)
  srt1 : ∀ i j, a ≤ i → i < j → j < n → i / bs = j / bs → LT (f i) (f j)
  frm2 : ∀ q, q < a → ∃ q', q' < n ∧ q' / (2 * bs) = q / (2 * bs) ∧ f q = f0 q'
  frm1 : ∀ q, a ≤ q → q < n → ∃ q', q' < n ∧ q' / bs = q / bs ∧ f q = f0 q'
  out : ∀ q, n ≤ q → f q = f0 q
section
variable {f0 f1 f2 : Nat → E} {n bs a : Nat}
theorem Full.b (h : Full f0 n bs f1) : StB f0 n bs 0 f1 := ⟨fun i j _ h => by omega, fun i j _ => h.srt i j, fun q hq => by omega, fun q _ => h.frm q, h.out⟩
theorem StB.facts (h : StB f0 n bs a f1) (hb : bs = 20 ∨ bs = 40) (ha : a % (2 * bs) = 0) (hat : ∀ i j, i < j → j < n → (f0 i).1 < (f0 j).1) {b : Nat} (hbn : b ≤ n) (h2b : b ≤ a + 2 * bs) (hab : a + bs ≤ b) : SrtF f1 a (a + bs) ∧ SrtF f1 (a + bs) b ∧ ∀ i j, a ≤ i → i < a + bs → a + bs ≤ j → j < b → (f1 i).1 < (f1 j).1 := by
  refine ⟨fun i j c1 c2 c3 => h.srt1 i j c1 c2 (by omega) (by rcases hb with rfl | rfl <;> omega), fun i j c1 c2 c3 => h.srt1 i j (by omega) c2 (by omega) (by rcases hb with rfl | rfl <;> omega), fun i j c1 c2 c3 c4 => ?_⟩
  obtain ⟨i', d1, d2, d3⟩ := h.frm1 i c1 (by omega)
  obtain ⟨j', d4, d5, d6⟩ := h.frm1 j (by omega) (by omega)
  rw [d3, d6]
  exact hat i' j' (by rcases hb with rfl | rfl <;> omega) d4
theorem StB.step (h : StB f0 n bs a f1) (hb : bs = 20 ∨ bs = 40) (ha : a % (2 * bs) = 0) {b : Nat} (hbn : b ≤ n) (hab : b = a + 2 * bs ∨ (b = n ∧ a ≤ n ∧ n < a + 2 * bs)) (h1 : From a b f1 f2) (h2 : SrtF f2 a b) : StB f0 n bs b f2 := by
  refine ⟨fun i j c1 c2 c3 => ?_, fun i j c1 c2 c3 c4 => ?_, fun q hq => ?_, fun q c1 c2 => ?_, fun q hq => ?_⟩
  · by_cases e : j < a
    · rw [h1.out i (by omega), h1.out j (by omega)]; exact h.srt2 i j c1 e c3
    · exact h2 i j (by rcases hb with rfl | rfl <;> omega) c1 c2
  · rw [h1.out i (by omega), h1.out j (by omega)]; exact h.srt1 i j (by omega) c2 c3 c4
  · by_cases e : q < a
    · rw [h1.out q (by omega)]; exact h.frm2 q e
    · obtain ⟨q', d1, d2, d3⟩ := h1.inn q (by omega) hq
      obtain ⟨q2, d4, d5, d6⟩ := h.frm1 q' d1 (by omega)
      exact ⟨q2, d4, by rcases hb with rfl | rfl <;> omega, by rw [d3, d6]⟩
  · rw [h1.out q (by omega)]; exact h.frm1 q (by omega) c2
  · rw [h1.out q (by omega)]; exact h.out q hq
theorem StB.full (h : StB f0 n bs n f1) : Full f0 n (bs * 2) f1 := by
  rw [Nat.mul_comm]
  exact ⟨h.srt2, h.frm2, h.out⟩
theorem StB.short (h : StB f0 n bs a f1) (hb : bs = 20 ∨ bs = 40) (ha : a % (2 * bs) = 0) (hn : a ≤ n) (hn2 : n ≤ a + bs) : StB f0 n bs n f1 :=
  h.step hb ha (Nat.le_refl n) (.inr ⟨rfl, hn, by rcases hb with rfl | rfl <;> omega⟩) (From.refl _ _ _) (fun i j c1 c2 c3 => h.srt1 i j c1 c2 c3 (by rcases hb with rfl | rfl <;> omega))
theorem Full.done (h : Full f0 n bs f1) (hb : n ≤ bs) : From 0 n f0 f1 ∧ SrtF f1 0 n := by
  refine ⟨⟨fun q _ hq => ?_, fun q hq => h.out q (by omega)⟩, fun i j _ c2 c3 => h.srt i j c2 c3 ?_⟩
  · obtain ⟨q', d1, _, d3⟩ := h.frm q hq; exact ⟨q', by omega, d1, d3⟩
  · rw [Nat.div_eq_of_lt (by omega), Nat.div_eq_of_lt (by omega)]
end
end Go.Proofs.ShP
