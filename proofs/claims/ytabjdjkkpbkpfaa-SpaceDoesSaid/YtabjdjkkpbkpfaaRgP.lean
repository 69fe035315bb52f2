/- Regions, rising: added, cut, found: plain Lean. -/
namespace Go.Proofs.RgP
set_option linter.unusedVariables false
set_option linter.unusedSimpArgs false
structure S25 where
  f0 : Int
  f1 : Int
  f2 : Int
  f3 : Int
  f4 : Int
  f5 : Bool
def z25 : S25 := ⟨0, 0, 0, 0, 0, false⟩
def validB (x : S25) : Bool := !decide (x.f0 < 0) && !decide (x.f1 ≤ x.f0) && !decide (x.f1 > 65536) && (if x.f2 = 1 then decide (x.f3 = 0) && decide (x.f4 = 0) else decide (x.f2 = 2) && decide (0 ≤ x.f3) && decide (x.f3 ≤ 1048576) && decide (0 ≤ x.f4) && decide (x.f4 ≤ 2097152 - (x.f1 - x.f0)))
/-- May a list be, from a place on? -/
def rightAt : Int → List S25 → Bool
  | _, [] => true
  | at_, x :: xs => validB x && (decide (at_ ≤ x.f0) && rightAt x.f1 xs)
def rightB (l : List S25) : Bool := rightAt 0 l
def afterB (x y : S25) : Bool := decide (y.f1 > x.f0)
def inB (page : Int) (x : S25) : Bool := decide (x.f0 ≤ page) && decide (page < x.f1)
def partS (x : S25) (a b : Int) : S25 := ⟨a, b, x.f2, x.f3, if x.f2 = 2 then x.f4 + (a - x.f0) else x.f4, x.f5⟩
def mnG (a b : Int) : Int := if b < a then b else a
def mxG (a b : Int) : Int := if b > a then b else a
def keepL (x : S25) (a b : Int) : List S25 := if a < b then [partS x a b] else []
def stepC (p q : Int) (x : S25) : List S25 := if p ≥ q then keepL x x.f0 x.f1 else keepL x x.f0 (mnG x.f1 p) ++ keepL x (mxG x.f0 q) x.f1
def cutS (l : List S25) (p q : Int) : List S25 := l.flatMap (stepC p q)
structure GoodG (x : S25) : Prop where
  a : 0 ≤ x.f0
  b : x.f0 < x.f1
  c : x.f1 ≤ 65536
  k : (x.f2 = 1 ∧ x.f3 = 0 ∧ x.f4 = 0) ∨ (x.f2 = 2 ∧ 0 ≤ x.f3 ∧ x.f3 ≤ 1048576 ∧ 0 ≤ x.f4 ∧ x.f4 ≤ 2097152 - (x.f1 - x.f0))
theorem good_iff (x : S25) : validB x = true ↔ GoodG x := by
  constructor
  · intro h
    unfold validB at h
    by_cases h3 : x.f2 = 1
    · simp [h3] at h; exact ⟨by omega, by omega, by omega, .inl ⟨h3, by omega, by omega⟩⟩
    · simp [h3] at h; exact ⟨by omega, by omega, by omega, .inr (by omega)⟩
  · rintro ⟨a, b, c, k⟩
    unfold validB
    by_cases h3 : x.f2 = 1
    · simp [h3]; omega
    · simp [h3]; omega
theorem ext25 {x y : S25} (h0 : x.f0 = y.f0) (h1 : x.f1 = y.f1) (h2 : x.f2 = y.f2) (h3 : x.f3 = y.f3) (h4 : x.f4 = y.f4) (h5 : x.f5 = y.f5) : x = y := by
  cases x; cases y; simp_all
theorem rightAt_cons (a : Int) (x : S25) (xs : List S25) : rightAt a (x :: xs) = true ↔ GoodG x ∧ a ≤ x.f0 ∧ rightAt x.f1 xs = true := by
  simp only [rightAt, Bool.and_eq_true, decide_eq_true_eq, good_iff]
theorem rightAt_mono {a b : Int} (h : b ≤ a) : ∀ {l : List S25}, rightAt a l = true → rightAt b l = true
  | [], _ => rfl
  | x :: xs, hr => by rw [rightAt_cons] at hr ⊢; exact ⟨hr.1, by omega, hr.2.2⟩
theorem right_mem {a : Int} {l : List S25} (h : rightAt a l = true) : ∀ x ∈ l, GoodG x ∧ a ≤ x.f0 := by
  induction l generalizing a with
  | nil => intro x hx; cases hx
  | cons y ys ih =>
    rw [rightAt_cons] at h
    intro x hx
    rcases List.mem_cons.1 hx with rfl | hx
    · exact ⟨h.1, h.2.1⟩
    · have := ih h.2.2 x hx
      exact ⟨this.1, by have := h.1.b; omega⟩
theorem inB_iff (p : Int) (x : S25) : inB p x = true ↔ x.f0 ≤ p ∧ p < x.f1 := by simp [inB]
def ins (x : S25) : List S25 → List S25
  | [] => [x]
  | y :: ys => if y.f1 > x.f0 then x :: y :: ys else y :: ins x ys
/-- Is the first one behind the place in the way? -/
def busy (x : S25) : List S25 → Bool
  | [] => false
  | y :: ys => if y.f1 > x.f0 then decide (y.f0 < x.f1) else busy x ys
def ovB (x y : S25) : Bool := decide (y.f0 < x.f1) && decide (x.f0 < y.f1)
/-- Does any of a list overlap? -/
def ov (x : S25) (l : List S25) : Bool := l.any (ovB x)
theorem ov_none {a : Int} {x : S25} {l : List S25} (h : rightAt a l = true) (hx : x.f1 ≤ a) : ov x l = false := by
  unfold ov
  rw [List.any_eq_false]
  intro y hy
  have := (right_mem h y hy).2
  simp [ovB]; omega
theorem busy_ov {x : S25} : ∀ {l : List S25} {a : Int}, rightAt a l = true → busy x l = ov x l
  | [], _, _ => rfl
  | y :: ys, a, h => by
    rw [rightAt_cons] at h
    have hov : ov x (y :: ys) = (ovB x y || ov x ys) := rfl
    simp only [busy]
    by_cases h1 : y.f1 > x.f0
    · rw [if_pos h1, hov]
      by_cases h2 : y.f0 < x.f1
      · simp [ovB, h1, h2]
      · rw [ov_none h.2.2 (by have := h.1.b; omega)]
        simp [ovB, h2]
    · rw [if_neg h1, hov, busy_ov h.2.2]
      have : ovB x y = false := by simp [ovB]; omega
      rw [this, Bool.false_or]
theorem part_self {x : S25} (h : GoodG x) : partS x x.f0 x.f1 = x := by
  unfold partS
  apply ext25 <;> simp
theorem part_eq {x : S25} {a b : Int} (h : GoodG x) (ha : x.f0 ≤ a) (hb : a ≤ 65536) : partS x a b = ⟨a, b, x.f2, x.f3, if x.f2 = 2 then x.f4 + (a - x.f0) else x.f4, x.f5⟩ := rfl
theorem part_good {x : S25} {a b : Int} (h : GoodG x) (ha : x.f0 ≤ a) (hab : a < b) (hb : b ≤ x.f1) : GoodG (partS x a b) := by
  have h0 := h.a; have h1 := h.b; have h2 := h.c; have hk := h.k
  rw [part_eq h ha (by omega)]
  refine ⟨by simp only; omega, by simp only; omega, by simp only; omega, ?_⟩
  simp only
  rcases hk with hk | hk
  · left; rw [if_neg (by omega)]; exact hk
  · right; rw [if_pos hk.1]; omega
theorem step_id {x : S25} {p q : Int} (h : GoodG x) (ho : q ≤ p ∨ x.f1 ≤ p ∨ q ≤ x.f0) : stepC p q x = [x] := by
  have hb := h.b
  unfold stepC keepL mnG mxG
  by_cases c0 : p ≥ q
  · rw [if_pos c0, if_pos hb, part_self h]
  · rw [if_neg c0]
    by_cases c1 : x.f1 ≤ p
    · rw [if_neg (by omega : ¬ p < x.f1), if_pos hb, part_self h, if_neg (by split <;> omega), List.append_nil]
    · rw [if_pos (by omega : p < x.f1), if_neg (by omega : ¬ x.f0 < p), if_neg (by omega : ¬ x.f0 < q), if_pos hb, part_self h, List.nil_append]
/-- The pieces of one, when something is cut. -/
def lo (p : Int) (x : S25) : List S25 := if x.f0 < (if p < x.f1 then p else x.f1) then [partS x x.f0 (if p < x.f1 then p else x.f1)] else []
def hi (q : Int) (x : S25) : List S25 := if (if x.f0 < q then q else x.f0) < x.f1 then [partS x (if x.f0 < q then q else x.f0) x.f1] else []
theorem step_two {x : S25} {p q : Int} (h : p < q) : stepC p q x = lo p x ++ hi q x := by
  unfold stepC keepL mnG mxG lo hi
  rw [if_neg (by omega)]
theorem lo_cases {x : S25} (h : GoodG x) (p : Int) : (x.f0 < p ∧ ∃ b, b ≤ p ∧ x.f0 < b ∧ b ≤ x.f1 ∧ (b = p ∨ b = x.f1) ∧ lo p x = [partS x x.f0 b]) ∨ (p ≤ x.f0 ∧ lo p x = []) := by
  have hb := h.b
  unfold lo
  by_cases c : x.f0 < p
  · left
    by_cases c1 : p < x.f1
    · rw [if_pos c1, if_pos c]; exact ⟨c, p, by omega, c, by omega, .inl rfl, rfl⟩
    · rw [if_neg c1, if_pos hb]; exact ⟨c, x.f1, by omega, hb, by omega, .inr rfl, rfl⟩
  · right
    by_cases c1 : p < x.f1
    · rw [if_pos c1, if_neg c]; exact ⟨by omega, rfl⟩
    · omega
theorem hi_cases {x : S25} (h : GoodG x) (q : Int) : (q < x.f1 ∧ ∃ a, q ≤ a ∧ x.f0 ≤ a ∧ a < x.f1 ∧ (a = q ∨ a = x.f0) ∧ hi q x = [partS x a x.f1]) ∨ (x.f1 ≤ q ∧ hi q x = []) := by
  have hb := h.b
  unfold hi
  by_cases c : q < x.f1
  · left
    by_cases c1 : x.f0 < q
    · rw [if_pos c1, if_pos c]; exact ⟨c, q, by omega, by omega, c, .inl rfl, rfl⟩
    · rw [if_neg c1, if_pos hb]; exact ⟨c, x.f0, by omega, by omega, hb, .inr rfl, rfl⟩
  · right
    by_cases c1 : x.f0 < q
    · rw [if_pos c1, if_neg c]; exact ⟨by omega, rfl⟩
    · omega
theorem part_f0 (x : S25) (a b : Int) : (partS x a b).f0 = a := rfl
theorem part_f1 (x : S25) (a b : Int) : (partS x a b).f1 = b := rfl
theorem step_right {x : S25} {M : List S25} {a : Int} (h : GoodG x) (ha : a ≤ x.f0) (hM : rightAt x.f1 M = true) (p q : Int) : rightAt a (stepC p q x ++ M) = true := by
  have hb := h.b
  by_cases c0 : q ≤ p
  · rw [step_id h (.inl c0)]
    show rightAt a (x :: M) = true
    rw [rightAt_cons]; exact ⟨h, ha, hM⟩
  · rw [step_two (by omega)]
    have key : ∀ c, c ≤ x.f1 → c ≤ q → x.f0 ≤ c ∨ True → rightAt c (hi q x ++ M) = true := by
      intro c hc hcq _
      rcases hi_cases h q with ⟨h1, d, h2, h3, h4, _, e⟩ | ⟨_, e⟩
      · rw [e]
        show rightAt c (partS x d x.f1 :: M) = true
        rw [rightAt_cons, part_f0, part_f1]
        exact ⟨part_good h h3 h4 (by omega), by omega, hM⟩
      · rw [e]; exact rightAt_mono hc hM
    have key2 : rightAt x.f0 (hi q x ++ M) = true := by
      rcases hi_cases h q with ⟨h1, d, h2, h3, h4, _, e⟩ | ⟨_, e⟩
      · rw [e]
        show rightAt x.f0 (partS x d x.f1 :: M) = true
        rw [rightAt_cons, part_f0, part_f1]
        exact ⟨part_good h h3 h4 (by omega), by omega, hM⟩
      · rw [e]; exact rightAt_mono (by omega) hM
    rcases lo_cases h p with ⟨h1, b, h2, h3, h4, _, e⟩ | ⟨_, e⟩
    · rw [e]
      show rightAt a (partS x x.f0 b :: (hi q x ++ M)) = true
      rw [rightAt_cons, part_f0, part_f1]
      exact ⟨part_good h (by omega) h3 h4, ha, key b h4 (by omega) (.inr trivial)⟩
    · rw [e, List.nil_append]; exact rightAt_mono ha key2
theorem cut_right : ∀ {l : List S25} {a : Int}, rightAt a l = true → ∀ p q, rightAt a (cutS l p q) = true
  | [], _, _, _, _ => rfl
  | x :: xs, a, h, p, q => by
    rw [rightAt_cons] at h
    show rightAt a (stepC p q x ++ cutS xs p q) = true
    exact step_right h.1 h.2.1 (cut_right h.2.2 p q) p q
def Alike (g : Int) (x y : S25) : Prop := y.f2 = x.f2 ∧ y.f5 = x.f5
theorem part_alike {x : S25} {a b g : Int} (h : GoodG x) (ha : x.f0 ≤ a) (hb : a ≤ 65536) (h0 : 0 ≤ g) (h1 : g < 65536) : Alike g x (partS x a b) := ⟨rfl, rfl⟩
theorem find_append {P : S25 → Bool} {l m : List S25} : (l ++ m).find? P = (l.find? P).or (m.find? P) := by rw [List.find?_append]
theorem step_find {x : S25} {p q g : Int} (h : GoodG x) (hg : ¬ (p ≤ g ∧ g < q)) : (inB g x = false ∧ (stepC p q x).find? (inB g) = none) ∨ (inB g x = true ∧ ∃ y, (stepC p q x).find? (inB g) = some y ∧ Alike g x y) := by
  have hb := h.b; have h0 := h.a; have h1 := h.c
  by_cases c0 : q ≤ p
  · rw [step_id h (.inl c0)]
    cases hi : inB g x
    · left; simp [hi]
    · right; exact ⟨rfl, x, by simp [hi], rfl, rfl⟩
  · rw [step_two (by omega), find_append]
    cases hin : inB g x
    · left
      refine ⟨rfl, ?_⟩
      have hn : ¬ (x.f0 ≤ g ∧ g < x.f1) := fun hh => by rw [(inB_iff g x).2 hh] at hin; cases hin
      have e1 : (lo p x).find? (inB g) = none := by
        rw [List.find?_eq_none]; intro y hy
        rcases lo_cases h p with ⟨_, b, h2, h3, h4, _, e⟩ | ⟨_, e⟩
        · rw [e, List.mem_singleton] at hy; subst hy; rw [inB_iff, part_f0, part_f1]; omega
        · rw [e] at hy; cases hy
      have e2 : (hi q x).find? (inB g) = none := by
        rw [List.find?_eq_none]; intro y hy
        rcases hi_cases h q with ⟨_, d, h2, h3, h4, _, e⟩ | ⟨_, e⟩
        · rw [e, List.mem_singleton] at hy; subst hy; rw [inB_iff, part_f0, part_f1]; omega
        · rw [e] at hy; cases hy
      rw [e1, e2]; rfl
    · right
      refine ⟨rfl, ?_⟩
      have hn := (inB_iff g x).1 hin
      by_cases c1 : g < p
      · rcases lo_cases h p with ⟨_, b, h2, h3, h4, hbb, e⟩ | ⟨_, e⟩
        · refine ⟨partS x x.f0 b, ?_, part_alike h (by omega) (by omega) (by omega) (by omega)⟩
          rw [e, List.find?_cons_of_pos (by rw [inB_iff, part_f0, part_f1]; omega)]; rfl
        · omega
      · have e1 : (lo p x).find? (inB g) = none := by
          rw [List.find?_eq_none]; intro y hy
          rcases lo_cases h p with ⟨_, b, h2, h3, h4, _, e⟩ | ⟨_, e⟩
          · rw [e, List.mem_singleton] at hy; subst hy; rw [inB_iff, part_f0, part_f1]; omega
          · rw [e] at hy; cases hy
        rw [e1]
        rcases hi_cases h q with ⟨_, d, h2, h3, h4, hdd, e⟩ | ⟨_, e⟩
        · refine ⟨partS x d x.f1, ?_, part_alike h (by omega) (by omega) (by omega) (by omega)⟩
          rw [e, List.find?_cons_of_pos (by rw [inB_iff, part_f0, part_f1]; omega)]; rfl
        · omega
theorem cut_find_out {p q g : Int} (hg : ¬ (p ≤ g ∧ g < q)) : ∀ {l : List S25} {a : Int}, rightAt a l = true → (l.find? (inB g) = none ∧ (cutS l p q).find? (inB g) = none) ∨ (∃ x y, l.find? (inB g) = some x ∧ (cutS l p q).find? (inB g) = some y ∧ Alike g x y)
  | [], _, _ => .inl ⟨rfl, rfl⟩
  | x :: xs, a, h => by
    rw [rightAt_cons] at h
    have e : cutS (x :: xs) p q = stepC p q x ++ cutS xs p q := rfl
    rw [e, find_append]
    rcases step_find (q := q) (p := p) h.1 hg with ⟨h1, h2⟩ | ⟨h1, y, h2, h3⟩
    · rw [h2, List.find?_cons_of_neg (by rw [h1]; simp)]
      exact cut_find_out hg h.2.2
    · right
      exact ⟨x, y, List.find?_cons_of_pos h1, by rw [h2]; rfl, h3⟩
theorem ovB_false {x y : S25} : ovB x y = false ↔ x.f1 ≤ y.f0 ∨ y.f1 ≤ x.f0 := by simp [ovB]; omega
theorem ins_right {x : S25} (hx : GoodG x) : ∀ {l : List S25} {a : Int}, rightAt a l = true → ov x l = false → a ≤ x.f0 → rightAt a (ins x l) = true
  | [], a, _, _, ha => by show rightAt a [x] = true; rw [rightAt_cons]; exact ⟨hx, ha, rfl⟩
  | y :: ys, a, h, ho, ha => by
    have h' := h
    rw [rightAt_cons] at h
    have hov : ov x (y :: ys) = (ovB x y || ov x ys) := rfl
    rw [hov, Bool.or_eq_false_iff, ovB_false] at ho
    have := hx.b
    have := h.1.b
    simp only [ins]
    by_cases h2 : y.f1 > x.f0
    · rw [if_pos h2, rightAt_cons]
      refine ⟨hx, ha, ?_⟩
      rw [rightAt_cons]; exact ⟨h.1, by omega, h.2.2⟩
    · rw [if_neg h2, rightAt_cons]
      exact ⟨h.1, h.2.1, ins_right hx h.2.2 ho.2 (by omega)⟩
theorem ins_find_in {x : S25} {g : Int} (hg : inB g x = true) : ∀ {l : List S25} {a : Int}, rightAt a l = true → ov x l = false → (ins x l).find? (inB g) = some x ∧ l.find? (inB g) = none
  | [], _, _, _ => ⟨List.find?_cons_of_pos hg, rfl⟩
  | y :: ys, a, h, ho => by
    rw [rightAt_cons] at h
    have hov : ov x (y :: ys) = (ovB x y || ov x ys) := rfl
    rw [hov, Bool.or_eq_false_iff, ovB_false] at ho
    obtain ⟨i1, i2⟩ := ins_find_in hg h.2.2 ho.2
    have hi := (inB_iff g x).1 hg
    have hn : ¬ inB g y = true := by rw [inB_iff]; omega
    refine ⟨?_, by rw [List.find?_cons_of_neg hn]; exact i2⟩
    simp only [ins]
    split
    · exact List.find?_cons_of_pos hg
    · rw [List.find?_cons_of_neg hn]; exact i1
theorem ins_find_out {x : S25} {g : Int} (hg : ¬ inB g x = true) : ∀ {l : List S25}, (ins x l).find? (inB g) = l.find? (inB g)
  | [] => List.find?_cons_of_neg hg
  | y :: ys => by
    simp only [ins]
    split
    · exact List.find?_cons_of_neg hg
    · simp only [List.find?_cons, ins_find_out hg]
end Go.Proofs.RgP
