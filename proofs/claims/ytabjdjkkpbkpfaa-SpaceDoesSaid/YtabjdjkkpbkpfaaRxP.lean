/- A table by digits: what it has, and where its nodes stand: plain Lean. -/
namespace Go.Proofs.RxP
set_option linter.unusedVariables false
set_option linter.unusedSimpArgs false
/-! ## Bits -/
def wdN (f : Nat → Bool) : Nat → Nat
  | 0 => 0
  | k + 1 => wdN f k + (if f k then 2 ^ k else 0)
theorem wdN_lt (f : Nat → Bool) : ∀ k, wdN f k < 2 ^ k
  | 0 => by simp [wdN]
  | k + 1 => by
    have := wdN_lt f k
    unfold wdN
    rw [Nat.pow_succ]
    split <;> omega
theorem wdN_testBit (f : Nat → Bool) : ∀ k i, (wdN f k).testBit i = (decide (i < k) && f i)
  | 0, i => by simp [wdN]
  | k + 1, i => by
    have hl := wdN_lt f k
    have ih := wdN_testBit f k i
    unfold wdN
    by_cases hf : f k = true
    · rw [if_pos hf, Nat.add_comm, ← Nat.mul_one (2 ^ k), Nat.two_pow_add_eq_or_of_lt hl 1, Nat.mul_one, Nat.testBit_or, Nat.testBit_two_pow, ih]
      by_cases h1 : i < k
      · have : k ≠ i := by omega
        simp [h1, this]; omega
      · by_cases h2 : k = i
        · subst h2; simp [hf]
        · have : ¬ i < k + 1 := by omega
          simp [h1, h2, this]
    · rw [if_neg hf, Nat.add_zero, ih]
      by_cases h1 : i < k
      · have : i < k + 1 := by omega
        simp [h1, this]
      · by_cases h2 : i = k
        · subst h2; simp; simpa using hf
        · have : ¬ i < k + 1 := by omega
          simp [h1, this]
def setB (f : Nat → Bool) (i : Nat) (v : Bool) : Nat → Bool := fun k => if k = i then v else f k
theorem wdN_congr {f g : Nat → Bool} : ∀ k, (∀ i, i < k → f i = g i) → wdN f k = wdN g k
  | 0, _ => rfl
  | k + 1, h => by
    unfold wdN
    rw [wdN_congr k (fun i hi => h i (by omega)), h k (by omega)]
theorem wdN_or (f : Nat → Bool) (i : Nat) (hi : i < 16) : wdN f 16 ||| 2 ^ i = wdN (setB f i true) 16 := by
  apply Nat.eq_of_testBit_eq
  intro j
  rw [Nat.testBit_or, wdN_testBit, wdN_testBit, Nat.testBit_two_pow]
  unfold setB
  by_cases e : j = i
  · subst e; simp [hi]
  · have : i ≠ j := fun h => e h.symm
    simp [e, this]
theorem wdN_off (f : Nat → Bool) (i : Nat) (hi : i < 16) : wdN f 16 &&& (65535 - 2 ^ i) = wdN (setB f i false) 16 := by
  apply Nat.eq_of_testBit_eq
  intro j
  have hm : (65535 - 2 ^ i).testBit j = (decide (j < 16) && !decide (i = j)) := by
    rcases Nat.lt_or_ge j 16 with hj | hj
    · have : ∀ i : Fin 16, ∀ j : Fin 16, (65535 - 2 ^ i.val).testBit j.val = (decide (j.val < 16) && !decide (i.val = j.val)) := by decide
      exact this ⟨i, hi⟩ ⟨j, hj⟩
    · have h2 : 65535 - 2 ^ i < 2 ^ j := Nat.lt_of_le_of_lt (Nat.sub_le _ _) (Nat.lt_of_lt_of_le (by decide) (Nat.pow_le_pow_right (by decide) hj))
      rw [Nat.testBit_lt_two_pow h2]; simp; omega
  rw [Nat.testBit_and, wdN_testBit, wdN_testBit, hm]
  unfold setB
  by_cases e : j = i
  · subst e; simp
  · have : i ≠ j := fun h => e h.symm
    simp [e, this]
    intro h; simp [h]
theorem wdN_bit (f : Nat → Bool) (i : Nat) (hi : i < 16) : wdN f 16 / 2 ^ i % 2 = if f i then 1 else 0 := by
  have h := wdN_testBit f 16 i
  rw [Nat.testBit_eq_decide_div_mod_eq] at h
  have h2 : wdN f 16 / 2 ^ i % 2 = 0 ∨ wdN f 16 / 2 ^ i % 2 = 1 := by omega
  cases e : f i
  · rw [e] at h; simp at h; simp; omega
  · rw [e] at h; simp [hi] at h; simp; omega
theorem wdN_zero (f : Nat → Bool) : wdN f 16 = 0 ↔ ∀ i, i < 16 → f i = false := by
  constructor
  · intro h i hi
    have := wdN_testBit f 16 i
    rw [h] at this; simp [hi] at this; exact this
  · intro h
    rw [wdN_congr (g := fun _ => false) 16 h]; decide
def btw (f : Nat → Bool) : Int := (wdN f 16 : Nat)
theorem btw_congr {f g : Nat → Bool} (h : ∀ i, i < 16 → f i = g i) : btw f = btw g := by unfold btw; rw [wdN_congr 16 h]
theorem btw_bd (f : Nat → Bool) : 0 ≤ btw f ∧ btw f < 65536 := by
  have := wdN_lt f 16
  unfold btw; omega
theorem btw_zero (f : Nat → Bool) : btw f = 0 ↔ ∀ i, i < 16 → f i = false := by
  rw [← wdN_zero]; unfold btw; omega
/-! ## Digits -/
/-- The beginning of a page, down to a level. -/
def pfx (p : Nat) : Nat → Nat
  | 0 => p / 65536
  | 1 => p / 4096
  | 2 => p / 256
  | 3 => p / 16
  | _ => p
def dg (p : Nat) : Nat → Nat
  | 0 => p / 4096 % 16
  | 1 => p / 256 % 16
  | 2 => p / 16 % 16
  | _ => p % 16
theorem dg_lt (p k : Nat) : dg p k < 16 := by
  unfold dg; split <;> omega
theorem pfx_next {p k : Nat} (hp : p < 65536) (hk : k ≤ 3) : pfx p (k + 1) = 16 * pfx p k + dg p k := by
  rcases (by omega : k = 0 ∨ k = 1 ∨ k = 2 ∨ k = 3) with rfl | rfl | rfl | rfl <;> (simp only [pfx, dg]; omega)
theorem pfx_up {p k : Nat} (hp : p < 65536) (hk : k ≤ 3) : pfx p (k + 1) / 16 = pfx p k := by
  have := dg_lt p k; rw [pfx_next hp hk]; omega
theorem pfx_0 {p : Nat} (hp : p < 65536) : pfx p 0 = 0 := by show p / 65536 = 0; omega
/-! ## What a table has -/
abbrev Sf := Nat → Option Int
def updS (S : Sf) (q : Nat) (x : Option Int) : Sf := fun p => if p = q then x else S p
theorem updS_at (S : Sf) (q : Nat) (x : Option Int) : updS S q x q = x := if_pos rfl
theorem updS_ne {S : Sf} {q p : Nat} {x : Option Int} (h : p ≠ q) : updS S q x p = S p := if_neg h
/-- What any number has. -/
def gt (S : Sf) (n : Int) : Option Int := if 0 ≤ n ∧ n < 65536 then S n.toNat else none
theorem gt_nat {S : Sf} {p : Nat} (h : p < 65536) : gt S p = S p := by unfold gt; rw [if_pos (by omega)]; rfl
theorem gt_no {S : Sf} {n : Int} (h : ¬ (0 ≤ n ∧ n < 65536)) : gt S n = none := if_neg h
structure St where
  ex : Nat → Nat → Bool
  ad : Nat → Nat → Nat
  hs : Nat → Nat → Int
  wd : Nat → Int
def kidE (st : St) (k p d : Nat) : Bool := decide (k < 3) && st.ex (k + 1) (16 * p + d)
def wrd (st : St) (k p d : Nat) : Int := if k = 3 then st.wd (16 * p + d) else 0
structure Tree (st : St) (S : Sf) : Prop where
  root : st.ex 0 0 = true
  rng : ∀ k p, st.ex k p = true → k ≤ 3 ∧ p < 16 ^ k
  par : ∀ k q, st.ex (k + 1) q = true → st.ex k (q / 16) = true
  inj : ∀ k p j q, st.ex k p = true → st.ex j q = true → st.ad k p = st.ad j q → k = j ∧ p = q
  hsk : ∀ k p, st.ex k p = true → k < 3 → st.hs k p = btw (fun d => st.ex (k + 1) (16 * p + d))
  hs3 : ∀ p, st.ex 3 p = true → st.hs 3 p = btw (fun d => (S (16 * p + d)).isSome)
  wds : ∀ p, st.ex 3 p = true → ∀ d, d < 16 → st.wd (16 * p + d) = (S (16 * p + d)).getD 0
  has : ∀ q, (S q).isSome = true → st.ex 3 (q / 16) = true
/-- A node has a page's word below it. -/
def Full (S : Sf) (k q : Nat) : Prop := ∃ p, (S p).isSome = true ∧ pfx p k = q
/-- All nodes but the root have one, but for those of a page's path down to a level. -/
def Canon (st : St) (S : Sf) (p j : Nat) : Prop := ∀ k q, st.ex (k + 1) q = true → Full S (k + 1) q ∨ (k + 1 ≤ j ∧ q = pfx p (k + 1))
theorem Tree.page {st : St} {S : Sf} (h : Tree st S) {q : Nat} (hq : (S q).isSome = true) : q < 65536 := by
  have := (h.rng 3 _ (h.has q hq)).2; omega
theorem Tree.out {st : St} {S : Sf} (h : Tree st S) {q : Nat} (hq : 65536 ≤ q) : S q = none := by
  cases e : S q
  · rfl
  · have := h.page (q := q) (by rw [e]; rfl); omega
theorem Tree.path {st : St} {S : Sf} (h : Tree st S) {q : Nat} (hq : (S q).isSome = true) {k : Nat} (hk : k ≤ 3) : st.ex k (pfx q k) = true := by
  have hp := h.page hq
  have h3 : st.ex 3 (pfx q 3) = true := h.has q hq
  have h2 : st.ex 2 (pfx q 2) = true := by have := h.par 2 _ h3; rwa [pfx_up hp (by decide)] at this
  have h1 : st.ex 1 (pfx q 1) = true := by have := h.par 1 _ h2; rwa [pfx_up hp (by decide)] at this
  have h0 : st.ex 0 (pfx q 0) = true := by have := h.par 0 _ h1; rwa [pfx_up hp (by decide)] at this
  rcases (by omega : k = 0 ∨ k = 1 ∨ k = 2 ∨ k = 3) with rfl | rfl | rfl | rfl <;> assumption
/-- An empty table. -/
def st0 (b : Nat) : St := ⟨fun k p => decide (k = 0) && decide (p = 0), fun _ _ => b, fun _ _ => 0, fun _ => 0⟩
theorem tree0 (b : Nat) : Tree (st0 b) (fun _ => none) := by
  refine ⟨rfl, fun k p h => ?_, fun k q h => ?_, fun k p j q h1 h2 _ => ?_, fun k p h h3 => ?_, fun p h => ?_, fun p h => ?_, fun q h => ?_⟩
  · simp [st0] at h; obtain ⟨rfl, rfl⟩ := h; decide
  · simp [st0] at h
  · simp [st0] at h1 h2; omega
  · show (0 : Int) = _; exact ((btw_zero _).2 (fun i _ => by simp [st0])).symm
  · simp [st0] at h
  · simp [st0] at h
  · cases h
theorem canon0 (b p j : Nat) : Canon (st0 b) (fun _ => none) p j := fun k q h => by simp [st0] at h
/-! ## Turning it -/
/-- A node more. -/
def addK (st : St) (k q c : Nat) : St where
  ex := fun j r => if j = k ∧ r = q then true else st.ex j r
  ad := fun j r => if j = k ∧ r = q then c else st.ad j r
  hs := fun j r => if j = k ∧ r = q then 0 else st.hs j r
  wd := fun p => if k = 3 ∧ p / 16 = q then 0 else st.wd p
def setH (st : St) (k q : Nat) (y : Int) : St := { st with hs := fun j r => if j = k ∧ r = q then y else st.hs j r }
def setW (st : St) (p : Nat) (x : Int) : St := { st with wd := fun q => if q = p then x else st.wd q }
def delK (st : St) (k q : Nat) : St := { st with ex := fun j r => if j = k ∧ r = q then false else st.ex j r }
/-- On the way down to set a word: a node is there, but its bit need not be. -/
theorem Tree.down_has {st : St} {S : Sf} {k p : Nat} (h : Tree st S) (hp : p < 65536) (hk : k < 3) (he : st.ex k (pfx p k) = true) (hkid : st.ex (k + 1) (pfx p (k + 1)) = true) :
    setH st k (pfx p k) (btw (setB (fun d => st.ex (k + 1) (16 * pfx p k + d)) (dg p k) true)) = st := by
  have e : btw (setB (fun d => st.ex (k + 1) (16 * pfx p k + d)) (dg p k) true) = st.hs k (pfx p k) := by
    rw [h.hsk k _ he hk]
    apply btw_congr
    intro i hi
    unfold setB
    split
    · rename_i h1; subst h1; rw [← pfx_next hp (by omega)]; exact hkid.symm
    · rfl
  unfold setH
  rw [e]
  have : (fun j r => if j = k ∧ r = pfx p k then st.hs k (pfx p k) else st.hs j r) = st.hs := by
    funext j r
    split
    · rename_i h; rw [h.1, h.2]
    · rfl
  rw [this]
theorem pfx_lt {p k : Nat} (hp : p < 65536) (hk : k ≤ 3) : pfx p k < 16 ^ k := by
  rcases (by omega : k = 0 ∨ k = 1 ∨ k = 2 ∨ k = 3) with rfl | rfl | rfl | rfl <;> simp only [pfx] <;> omega
/-- Nothing is below what isn't there. -/
theorem Tree.below_no {st : St} {S : Sf} (h : Tree st S) {k q : Nat} (hn : st.ex k q = false) (d : Nat) (hd : d < 16) : st.ex (k + 1) (16 * q + d) = false := by
  cases e : st.ex (k + 1) (16 * q + d)
  · rfl
  · have := h.par k _ e
    rw [show (16 * q + d) / 16 = q by omega, hn] at this; cases this
theorem Tree.word_no {st : St} {S : Sf} (h : Tree st S) {q : Nat} (hn : st.ex 3 q = false) (d : Nat) (hd : d < 16) : S (16 * q + d) = none := by
  cases e : S (16 * q + d)
  · rfl
  · have := h.has (16 * q + d) (by rw [e]; rfl)
    rw [show (16 * q + d) / 16 = q by omega, hn] at this; cases this
/-- The node is there, and its bit. -/
theorem Tree.down_new {st : St} {S : Sf} {k p c : Nat} (h : Tree st S) (hp : p < 65536) (hk : k < 3) (he : st.ex k (pfx p k) = true) (hno : st.ex (k + 1) (pfx p (k + 1)) = false) (hc : ∀ j q, st.ex j q = true → st.ad j q ≠ c) :
    Tree (setH (addK st (k + 1) (pfx p (k + 1)) c) k (pfx p k) (btw (setB (fun d => st.ex (k + 1) (16 * pfx p k + d)) (dg p k) true))) S := by
  have hne : ∀ j q, st.ex j q = true → ¬ (j = k + 1 ∧ q = pfx p (k + 1)) := fun j q h1 ⟨h2, h3⟩ => by subst h2; subst h3; rw [hno] at h1; cases h1
  have hq := pfx_next hp (show k ≤ 3 by omega)
  have hdl := dg_lt p k
  have exs : ∀ j q, (setH (addK st (k + 1) (pfx p (k + 1)) c) k (pfx p k) (btw (setB (fun d => st.ex (k + 1) (16 * pfx p k + d)) (dg p k) true))).ex j q = if j = k + 1 ∧ q = pfx p (k + 1) then true else st.ex j q := fun _ _ => rfl
  refine ⟨?_, fun j q h1 => ?_, fun j q h1 => ?_, fun j q j' q' h1 h2 h3 => ?_, fun j q h1 h3 => ?_, fun q h1 => ?_, fun q h1 d hd => ?_, fun q h1 => ?_⟩
  · rw [exs]; split; rfl; exact h.root
  · rw [exs] at h1
    by_cases e : j = k + 1 ∧ q = pfx p (k + 1)
    · obtain ⟨rfl, rfl⟩ := e; exact ⟨by omega, pfx_lt hp (by omega)⟩
    · rw [if_neg e] at h1; exact h.rng j q h1
  · rw [exs] at h1 ⊢
    by_cases e : j + 1 = k + 1 ∧ q = pfx p (k + 1)
    · obtain ⟨e1, rfl⟩ := e
      obtain rfl : j = k := by omega
      rw [if_neg (by omega), pfx_up hp (by omega)]; exact he
    · rw [if_neg e] at h1
      split
      · rfl
      · exact h.par j q h1
  · rw [exs] at h1 h2
    have ads : ∀ j q, (setH (addK st (k + 1) (pfx p (k + 1)) c) k (pfx p k) (btw (setB (fun d => st.ex (k + 1) (16 * pfx p k + d)) (dg p k) true))).ad j q = if j = k + 1 ∧ q = pfx p (k + 1) then c else st.ad j q := fun _ _ => rfl
    rw [ads, ads] at h3
    by_cases e : j = k + 1 ∧ q = pfx p (k + 1)
    · by_cases e2 : j' = k + 1 ∧ q' = pfx p (k + 1)
      · omega
      · rw [if_neg e2] at h2; rw [if_pos e, if_neg e2] at h3; exact absurd h3.symm (hc _ _ h2)
    · rw [if_neg e] at h1
      by_cases e2 : j' = k + 1 ∧ q' = pfx p (k + 1)
      · rw [if_neg e, if_pos e2] at h3; exact absurd h3 (hc _ _ h1)
      · rw [if_neg e2] at h2; rw [if_neg e, if_neg e2] at h3; exact h.inj _ _ _ _ h1 h2 h3
  · rw [exs] at h1
    show (if j = k ∧ q = pfx p k then _ else if j = k + 1 ∧ q = pfx p (k + 1) then 0 else st.hs j q) = _
    by_cases e0 : j = k ∧ q = pfx p k
    · obtain ⟨rfl, rfl⟩ := e0
      rw [if_pos ⟨rfl, rfl⟩]
      apply btw_congr
      intro i hi
      rw [exs]
      unfold setB
      by_cases e : i = dg p j
      · rw [if_pos e, if_pos ⟨rfl, by omega⟩]
      · rw [if_neg e, if_neg (by omega)]
    · rw [if_neg e0]
      by_cases e : j = k + 1 ∧ q = pfx p (k + 1)
      · obtain ⟨rfl, rfl⟩ := e
        rw [if_pos ⟨rfl, rfl⟩]
        refine ((btw_zero _).2 (fun i hi => ?_)).symm
        rw [exs, if_neg (by omega)]
        exact h.below_no hno i hi
      · rw [if_neg e] at h1
        rw [if_neg e, h.hsk j q h1 h3]
        apply btw_congr
        intro i hi
        rw [exs, if_neg]
        rintro ⟨e1, e2⟩
        exact e0 ⟨by omega, by omega⟩
  · rw [exs] at h1
    show (if 3 = k ∧ q = pfx p k then _ else if 3 = k + 1 ∧ q = pfx p (k + 1) then 0 else st.hs 3 q) = _
    rw [if_neg (by omega)]
    by_cases e : 3 = k + 1 ∧ q = pfx p (k + 1)
    · rw [if_pos e]
      refine ((btw_zero _).2 (fun i hi => ?_)).symm
      obtain ⟨e1, rfl⟩ := e
      rw [← e1] at hno ⊢
      rw [h.word_no hno i hi]; rfl
    · rw [if_neg e] at h1; rw [if_neg e]; exact h.hs3 q h1
  · rw [exs] at h1
    show (if k + 1 = 3 ∧ (16 * q + d) / 16 = pfx p (k + 1) then 0 else st.wd (16 * q + d)) = _
    rw [show (16 * q + d) / 16 = q by omega]
    by_cases e : 3 = k + 1 ∧ q = pfx p (k + 1)
    · rw [if_pos ⟨e.1.symm, e.2⟩]
      obtain ⟨e1, rfl⟩ := e
      rw [← e1] at hno ⊢
      rw [h.word_no hno d hd]; rfl
    · rw [if_neg e] at h1; rw [if_neg (fun e2 => e ⟨e2.1.symm, e2.2⟩)]; exact h.wds q h1 d hd
  · rw [exs]; split; rfl; exact h.has q h1
/-- The word, and its bit. -/
theorem Tree.put {st : St} {S : Sf} {p : Nat} (h : Tree st S) (hp : p < 65536) (he : st.ex 3 (pfx p 3) = true) (x : Int) :
    Tree (setH (setW st p x) 3 (pfx p 3) (btw (setB (fun d => (S (16 * pfx p 3 + d)).isSome) (dg p 3) true))) (updS S p (some x)) := by
  have hd : p = 16 * (p / 16) + p % 16 := by omega
  refine ⟨h.root, h.rng, h.par, h.inj, fun j q h1 h3 => ?_, fun q h1 => ?_, fun q h1 d hd2 => ?_, fun q h1 => ?_⟩
  · show (if j = 3 ∧ q = pfx p 3 then _ else st.hs j q) = _
    rw [if_neg (by omega)]; exact h.hsk j q h1 h3
  · show (if 3 = 3 ∧ q = pfx p 3 then _ else st.hs 3 q) = _
    by_cases e : q = pfx p 3
    · rw [if_pos ⟨rfl, e⟩, e]
      apply btw_congr
      intro i hi
      unfold setB updS
      have e2 : dg p 3 = p % 16 := rfl
      have e3 : pfx p 3 = p / 16 := rfl
      by_cases e4 : i = dg p 3
      · rw [if_pos e4, if_pos (by omega)]; rfl
      · rw [if_neg e4, if_neg (by omega)]
    · rw [if_neg (fun e2 => e e2.2), h.hs3 q h1]
      apply btw_congr
      intro i hi
      rw [updS_ne]
      intro e2; apply e; show q = p / 16; omega
  · show (if 16 * q + d = p then x else st.wd (16 * q + d)) = _
    by_cases e : 16 * q + d = p
    · rw [if_pos e, e, updS_at]; rfl
    · rw [if_neg e, updS_ne e]; exact h.wds q h1 d hd2
  · by_cases e : q = p
    · rw [e]; exact he
    · rw [updS_ne e] at h1; exact h.has q h1
theorem Canon.put {st st' : St} {S : Sf} {p : Nat} (h : Canon st S p 3) (hex : ∀ k q, st'.ex k q = st.ex k q) (x : Int) (p' j : Nat) : Canon st' (updS S p (some x)) p' j := fun k q h1 => by
  rw [hex] at h1
  left
  rcases h k q h1 with ⟨r, h2, h3⟩ | ⟨h2, h3⟩
  · refine ⟨r, ?_, h3⟩
    by_cases e : r = p
    · rw [e, updS_at]; rfl
    · rw [updS_ne e]; exact h2
  · exact ⟨p, by rw [updS_at]; rfl, h3.symm⟩
theorem Canon.any {st : St} {S : Sf} {p : Nat} (h : Canon st S p 0) (p' j : Nat) : Canon st S p' j := fun k q h1 => by
  rcases h k q h1 with h2 | h2
  · exact .inl h2
  · omega
theorem Canon.step {st st' : St} {S : Sf} {p k : Nat} (h : Canon st S p k) (hex : ∀ j q, st'.ex j q = true → st.ex j q = true ∨ (j = k + 1 ∧ q = pfx p (k + 1))) : Canon st' S p (k + 1) := fun j q h1 => by
  rcases hex _ _ h1 with h2 | ⟨h2, h3⟩
  · rcases h j q h2 with h4 | h4
    · exact .inl h4
    · exact .inr ⟨by omega, h4.2⟩
  · right; have : j = k := by omega
    subst this; exact ⟨by omega, h3⟩
/-! ## Dropping -/
theorem Tree.off {st : St} {S : Sf} {p : Nat} (h : Tree st S) (hp : p < 65536) (he : st.ex 3 (pfx p 3) = true) :
    Tree (setH (setW st p 0) 3 (pfx p 3) (btw (setB (fun d => (S (16 * pfx p 3 + d)).isSome) (dg p 3) false))) (updS S p none) := by
  have hd : p = 16 * (p / 16) + p % 16 := by omega
  refine ⟨h.root, h.rng, h.par, h.inj, fun j q h1 h3 => ?_, fun q h1 => ?_, fun q h1 d hd2 => ?_, fun q h1 => ?_⟩
  · show (if j = 3 ∧ q = pfx p 3 then _ else st.hs j q) = _
    rw [if_neg (by omega)]; exact h.hsk j q h1 h3
  · show (if 3 = 3 ∧ q = pfx p 3 then _ else st.hs 3 q) = _
    by_cases e : q = pfx p 3
    · rw [if_pos ⟨rfl, e⟩, e]
      apply btw_congr
      intro i hi
      unfold setB updS
      have e2 : dg p 3 = p % 16 := rfl
      have e3 : pfx p 3 = p / 16 := rfl
      by_cases e4 : i = dg p 3
      · rw [if_pos e4, if_pos (by omega)]; rfl
      · rw [if_neg e4, if_neg (by omega)]
    · rw [if_neg (fun e2 => e e2.2), h.hs3 q h1]
      apply btw_congr
      intro i hi
      rw [updS_ne]
      intro e2; apply e; show q = p / 16; omega
  · show (if 16 * q + d = p then 0 else st.wd (16 * q + d)) = _
    by_cases e : 16 * q + d = p
    · rw [if_pos e, e, updS_at]; rfl
    · rw [if_neg e, updS_ne e]; exact h.wds q h1 d hd2
  · by_cases e : q = p
    · rw [e]; exact he
    · rw [updS_ne e] at h1; exact h.has q h1
theorem Canon.off {st st' : St} {S : Sf} {p : Nat} (ht : Tree st S) (h : Canon st S p 3) (hex : ∀ k q, st'.ex k q = st.ex k q) : Canon st' (updS S p none) p 3 := fun k q h1 => by
  rw [hex] at h1
  rcases h k q h1 with ⟨r, h2, h3⟩ | h2
  · by_cases e : r = p
    · exact .inr ⟨(ht.rng _ _ h1).1, by rw [← h3, e]⟩
    · exact .inl ⟨r, by rw [updS_ne e]; exact h2, h3⟩
  · exact .inr h2
/-- A node whose bits are all off has nothing below it. -/
theorem Tree.bare {st : St} {S : Sf} {k q : Nat} (h : Tree st S) (he : st.ex k q = true) (h0 : st.hs k q = 0) : (k < 3 → ∀ d, d < 16 → st.ex (k + 1) (16 * q + d) = false) ∧ (k = 3 → ∀ d, d < 16 → S (16 * q + d) = none) := by
  refine ⟨fun hk d hd => ?_, fun hk d hd => ?_⟩
  · rw [h.hsk k q he hk] at h0
    exact (btw_zero _).1 h0 d hd
  · subst hk
    rw [h.hs3 q he] at h0
    have := (btw_zero _).1 h0 d hd
    cases e : S (16 * q + d)
    · rfl
    · rw [e] at this; cases this
theorem Full.up {S : Sf} {k q : Nat} (hS : ∀ r, 65536 ≤ r → S r = none) (hk : k ≤ 3) (h : Full S (k + 1) q) : Full S k (q / 16) := by
  obtain ⟨r, h1, h2⟩ := h
  refine ⟨r, h1, ?_⟩
  have hr : r < 65536 := by
    rcases Nat.lt_or_ge r 65536 with h | h
    · exact h
    · rw [hS r h] at h1; cases h1
  rw [← h2, pfx_up hr hk]
theorem Canon.stay {st : St} {S : Sf} {p j : Nat} (ht : Tree st S) (hp : p < 65536) (h : Canon st S p (j + 1)) (hj : j < 3) (he : st.ex (j + 1) (pfx p (j + 1)) = true) (h0 : st.hs (j + 1) (pfx p (j + 1)) ≠ 0) : Canon st S p j := fun k q h1 => by
  rcases h k q h1 with h2 | ⟨h2, h3⟩
  · exact .inl h2
  · by_cases e : k + 1 ≤ j
    · exact .inr ⟨e, h3⟩
    · obtain rfl : k = j := by omega
      subst h3
      left
      by_cases hk : k + 1 < 3
      · rw [ht.hsk _ _ he hk] at h0
        have : ∃ d, d < 16 ∧ st.ex (k + 1 + 1) (16 * pfx p (k + 1) + d) = true := by
          apply Classical.byContradiction
          intro hn
          apply h0
          refine (btw_zero _).2 (fun i hi => ?_)
          cases e : st.ex (k + 1 + 1) (16 * pfx p (k + 1) + i)
          · rfl
          · exact absurd ⟨i, hi, e⟩ hn
        obtain ⟨d, hd, hx⟩ := this
        rcases h _ _ hx with h4 | h4
        · have := Full.up (fun r hr => ht.out hr) (by omega) h4
          rwa [show (16 * pfx p (k + 1) + d) / 16 = pfx p (k + 1) by omega] at this
        · omega
      · obtain rfl : k = 2 := by omega
        rw [ht.hs3 _ he] at h0
        have : ∃ d, d < 16 ∧ (S (16 * pfx p 3 + d)).isSome = true := by
          apply Classical.byContradiction
          intro hn
          apply h0
          refine (btw_zero _).2 (fun i hi => ?_)
          cases e : (S (16 * pfx p 3 + i)).isSome
          · rfl
          · exact absurd ⟨i, hi, e⟩ hn
        obtain ⟨d, hd, hx⟩ := this
        exact ⟨_, hx, by show (16 * pfx p 3 + d) / 16 = pfx p 3; omega⟩
/-- The node goes. -/
theorem Tree.cut {st : St} {S : Sf} {p j : Nat} (h : Tree st S) (hp : p < 65536) (hj : j < 3) (hej : st.ex j (pfx p j) = true) (he : st.ex (j + 1) (pfx p (j + 1)) = true) (h0 : st.hs (j + 1) (pfx p (j + 1)) = 0) :
    Tree (setH (delK st (j + 1) (pfx p (j + 1))) j (pfx p j) (btw (setB (fun d => st.ex (j + 1) (16 * pfx p j + d)) (dg p j) false))) S := by
  have hb := h.bare he h0
  have hq := pfx_next hp (show j ≤ 3 by omega)
  have hdl := dg_lt p j
  have exs : ∀ k q, (setH (delK st (j + 1) (pfx p (j + 1))) j (pfx p j) (btw (setB (fun d => st.ex (j + 1) (16 * pfx p j + d)) (dg p j) false))).ex k q = if k = j + 1 ∧ q = pfx p (j + 1) then false else st.ex k q := fun _ _ => rfl
  have old : ∀ k q, (setH (delK st (j + 1) (pfx p (j + 1))) j (pfx p j) (btw (setB (fun d => st.ex (j + 1) (16 * pfx p j + d)) (dg p j) false))).ex k q = true → st.ex k q = true ∧ ¬ (k = j + 1 ∧ q = pfx p (j + 1)) := fun k q h1 => by
    rw [exs] at h1
    split at h1
    · cases h1
    · rename_i e; exact ⟨h1, e⟩
  refine ⟨?_, fun k q h1 => h.rng k q (old k q h1).1, fun k q h1 => ?_, fun k q k' q' h1 h2 h3 => h.inj k q k' q' (old k q h1).1 (old k' q' h2).1 h3, fun k q h1 h3 => ?_, fun q h1 => ?_, fun q h1 d hd => h.wds q (old 3 q h1).1 d hd, fun q h1 => ?_⟩
  · rw [exs, if_neg (by omega)]; exact h.root
  · have h2 := old _ _ h1
    rw [exs, if_neg]
    · exact h.par k q h2.1
    · rintro ⟨rfl, e⟩
      have hk := (h.rng _ _ h2.1).1
      have := hb.1 (by omega) (q % 16) (by omega)
      rw [← e, show 16 * (q / 16) + q % 16 = q by omega, h2.1] at this; cases this
  · have h2 := old _ _ h1
    show (if k = j ∧ q = pfx p j then _ else st.hs k q) = _
    by_cases e : k = j ∧ q = pfx p j
    · obtain ⟨rfl, rfl⟩ := e
      rw [if_pos ⟨rfl, rfl⟩]
      apply btw_congr
      intro i hi
      rw [exs]
      unfold setB
      by_cases e : i = dg p k
      · rw [if_pos e, if_pos ⟨rfl, by omega⟩]
      · rw [if_neg e, if_neg (by omega)]
    · rw [if_neg e, h.hsk k q h2.1 h3]
      apply btw_congr
      intro i hi
      rw [exs, if_neg]
      rintro ⟨e1, e2⟩
      exact e ⟨by omega, by omega⟩
  · have h2 := old _ _ h1
    show (if 3 = j ∧ q = pfx p j then _ else st.hs 3 q) = _
    rw [if_neg (by omega)]; exact h.hs3 q h2.1
  · rw [exs, if_neg]
    · exact h.has q h1
    · rintro ⟨e1, e2⟩
      have := hb.2 e1.symm (q % 16) (by omega)
      rw [← e1] at this e2
      rw [← e2, show 16 * (q / 16) + q % 16 = q by omega] at this
      rw [this] at h1; cases h1
theorem Canon.cut {st : St} {S : Sf} {p j : Nat} (h : Canon st S p (j + 1)) (y : Int) : Canon (setH (delK st (j + 1) (pfx p (j + 1))) j (pfx p j) y) S p j := fun k q h1 => by
  have h1 : (if k + 1 = j + 1 ∧ q = pfx p (j + 1) then false else st.ex (k + 1) q) = true := h1
  split at h1
  · cases h1
  · rename_i e
    rcases h k q h1 with h2 | ⟨h2, h3⟩
    · exact .inl h2
    · right
      have : k ≠ j := fun e2 => by subst e2; exact e ⟨rfl, h3⟩
      exact ⟨by omega, h3⟩
/-! ## All words, rising -/
def entA (S : Sf) (p : Nat) : List (Int × Int) :=
  match S p with
  | some x => [((p : Int), x)]
  | none => []
def ents (S : Sf) : Nat → List (Int × Int)
  | 0 => []
  | n + 1 => ents S n ++ entA S n
def segs (S : Sf) (a : Nat) : Nat → List (Int × Int)
  | 0 => []
  | n + 1 => segs S a n ++ entA S (a + n)
theorem ents_add (S : Sf) (a : Nat) : ∀ n, ents S (a + n) = ents S a ++ segs S a n
  | 0 => by simp [segs]
  | n + 1 => by rw [← Nat.add_assoc, ents, ents_add S a n, segs, List.append_assoc]
theorem entA_yes {S : Sf} {p : Nat} {x : Int} (h : S p = some x) : entA S p = [((p : Int), x)] := by unfold entA; rw [h]
theorem entA_no {S : Sf} {p : Nat} (h : S p = none) : entA S p = [] := by unfold entA; rw [h]
theorem entA_congr {S S' : Sf} {p : Nat} (h : S p = S' p) : entA S p = entA S' p := by unfold entA; rw [h]
theorem ents_congr {S S' : Sf} : ∀ n, (∀ p, p < n → S p = S' p) → ents S n = ents S' n
  | 0, _ => rfl
  | n + 1, h => by rw [ents, ents, ents_congr n (fun p hp => h p (by omega)), entA_congr (h n (by omega))]
theorem segs_congr {S S' : Sf} {a : Nat} : ∀ n, (∀ p, a ≤ p → p < a + n → S p = S' p) → segs S a n = segs S' a n
  | 0, _ => rfl
  | n + 1, h => by rw [segs, segs, segs_congr n (fun p h1 h2 => h p h1 (by omega)), entA_congr (h _ (by omega) (by omega))]
theorem ents_mem {S : Sf} : ∀ n e, e ∈ ents S n ↔ ∃ p, p < n ∧ S p = some e.2 ∧ e.1 = (p : Int)
  | 0, e => by simp [ents]
  | n + 1, e => by
    rw [ents, List.mem_append, ents_mem n e]
    constructor
    · rintro (⟨p, h1, h2⟩ | h)
      · exact ⟨p, by omega, h2⟩
      · cases hs : S n with
        | none => rw [entA_no hs] at h; cases h
        | some x =>
          rw [entA_yes hs] at h
          obtain rfl := List.mem_singleton.1 h
          exact ⟨n, by omega, hs, rfl⟩
    · rintro ⟨p, h1, h2, h3⟩
      by_cases e2 : p = n
      · subst e2
        right
        rw [entA_yes h2]
        exact List.mem_singleton.2 (Prod.ext h3 rfl)
      · exact .inl ⟨p, by omega, h2, h3⟩
def rk (S : Sf) (n : Nat) : Nat := (ents S n).length
theorem rk_le (S : Sf) : ∀ n, rk S n ≤ n
  | 0 => Nat.le_refl _
  | n + 1 => by
    have := rk_le S n
    unfold rk at *
    rw [ents, List.length_append]
    unfold entA
    split <;> simp <;> omega
theorem rk_yes {S : Sf} {n : Nat} {x : Int} (h : S n = some x) : rk S (n + 1) = rk S n + 1 := by unfold rk; rw [ents, entA_yes h, List.length_append]; rfl
theorem rk_no {S : Sf} {n : Nat} (h : S n = none) : rk S (n + 1) = rk S n := by unfold rk; rw [ents, entA_no h, List.append_nil]
theorem rk_mono (S : Sf) (a : Nat) (n : Nat) : rk S a ≤ rk S (a + n) := by unfold rk; rw [ents_add, List.length_append]; omega
theorem rk_lt {S : Sf} {p n : Nat} {x : Int} (h : S p = some x) (hn : p < n) : rk S p < rk S n := by
  have h1 := rk_yes h
  have h2 := rk_mono S (p + 1) (n - (p + 1))
  rw [show p + 1 + (n - (p + 1)) = n by omega] at h2
  omega
/-- The one of a rank. -/
theorem ents_at {S : Sf} {p n : Nat} {x : Int} (h : S p = some x) (hn : p < n) : (ents S n)[rk S p]? = some ((p : Int), x) := by
  have e : n = (p + 1) + (n - (p + 1)) := by omega
  rw [e, ents_add, ents, entA_yes h, List.append_assoc, List.getElem?_append_right (by exact Nat.le_refl _)]
  simp [rk]
def nth (S : Sf) (i : Nat) : Int × Int := ((ents S 65536)[i]?).getD (0, 0)
theorem nth_at {S : Sf} {p : Nat} {x : Int} (h : S p = some x) (hp : p < 65536) : nth S (rk S p) = ((p : Int), x) := by unfold nth; rw [ents_at h hp]; rfl
/-- The words of a stretch. -/
theorem ents_get {S : Sf} : ∀ (n i : Nat), i < rk S n → ∃ p x, p < n ∧ S p = some x ∧ rk S p = i ∧ (ents S n)[i]? = some ((p : Int), x)
  | 0, i, h => by simp [rk, ents] at h
  | n + 1, i, h => by
    cases hs : S n with
    | none =>
      rw [rk_no hs] at h
      obtain ⟨p, x, h1, h2, h3, h4⟩ := ents_get n i h
      exact ⟨p, x, by omega, h2, h3, by rw [ents, entA_no hs, List.append_nil]; exact h4⟩
    | some x =>
      rw [rk_yes hs] at h
      by_cases e : i = rk S n
      · exact ⟨n, x, by omega, hs, e.symm, e ▸ ents_at hs (by omega)⟩
      · obtain ⟨p, y, h1, h2, h3, h4⟩ := ents_get (S := S) n i (by omega)
        refine ⟨p, y, by omega, h2, h3, ?_⟩
        rw [ents, List.getElem?_append_left (show i < rk S n by omega)]; exact h4
/-! ### Without one, and with one more -/
theorem ents_off {S : Sf} {q : Nat} : ∀ n, ents (updS S q none) n = (ents S n).filter (fun e => decide (e.1 ≠ (q : Int)))
  | 0 => rfl
  | n + 1 => by
    rw [ents, ents, List.filter_append, ents_off n]
    congr 1
    by_cases e : n = q
    · subst e
      rw [entA_no (updS_at _ _ _)]
      unfold entA
      split <;> simp
    · rw [entA_congr (updS_ne e)]
      unfold entA
      split
      · have : ¬ ((n : Int) = (q : Int)) := by omega
        simp [this]
      · rfl
/-- What stands below a page, the page, and what stands above. -/
theorem ents_cut (S : Sf) (q : Nat) (hq : q < 65536) : ents S 65536 = ents S q ++ entA S q ++ segs S (q + 1) (65535 - q) := by
  have h := ents_add S (q + 1) (65535 - q)
  rw [show q + 1 + (65535 - q) = 65536 by omega, ents] at h
  exact h
theorem ents_put {S : Sf} {q : Nat} (hq : q < 65536) (hn : S q = none) (x : Int) : ents S 65536 = ents S q ++ segs S (q + 1) (65535 - q) ∧ ents (updS S q (some x)) 65536 = ents S q ++ [((q : Int), x)] ++ segs S (q + 1) (65535 - q) := by
  constructor
  · have := ents_cut S q hq; rw [entA_no hn, List.append_nil] at this; exact this
  · rw [ents_cut _ q hq, entA_yes (updS_at _ _ _), ents_congr (S' := S) q (fun p hp => updS_ne (by omega)), segs_congr (S' := S) _ (fun p h1 _ => updS_ne (by omega))]
theorem updS_same {S : Sf} {q : Nat} (h : S q = none) : updS S q none = S := by
  funext p; unfold updS; split
  · rename_i e; rw [e, h]
  · rfl
theorem updS_twice (S : Sf) (q : Nat) (x y : Option Int) : updS (updS S q x) q y = updS S q y := by
  funext p; unfold updS; split <;> rfl
end Go.Proofs.RxP
