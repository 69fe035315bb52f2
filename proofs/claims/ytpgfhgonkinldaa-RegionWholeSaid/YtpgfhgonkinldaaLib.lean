/- What the program and the reference compute on regions, in plain lists: the same. -/
import Derived.Test.YtpgfhgonkinldaaAx7
import Derived.Test.YtpgfhgonkinldaaAx3
import Derived.Test.YtpgfhgonkinldaaAx4
import Derived.Test.YtpgfhgonkinldaaAx5
import Derived.Test.YtpgfhgonkinldaaAx6
import Derived.Test.YtpgfhgonkinldaaAx8
import Derived.Test.YtpgfhgonkinldaaAx9
import Derived.Test.YtpgfhgonkinldaaAx11
namespace Go.Proofs.Ytpgfhgonkinldaa.Pure
open Go.RowKit Go.Proofs.Ytpgfhgonkinldaa.A Go.Proofs.YtpgfhgonkinldaaW.PrintWords Go.Proofs.YtpgfhgonkinldaaW.PrintLast Go.Proofs.YtpgfhgonkinldaaW.PrintMore
set_option linter.unusedVariables false
set_option linter.unusedSimpArgs false
/-- What a region that may be is. -/
structure Good (x : S25) : Prop where
  a : 0 ≤ x.f0
  b : x.f0 < x.f1
  c : x.f1 ≤ 65536
  k : (x.f2 = 1 ∧ x.f3 = 0 ∧ x.f4 = 0) ∨ (x.f2 = 2 ∧ 0 ≤ x.f3 ∧ x.f3 ≤ 1048576 ∧ 0 ≤ x.f4 ∧ x.f4 ≤ 2097152 - (x.f1 - x.f0))
theorem good_iff (x : S25) : validB x = true ↔ Good x := by
  constructor
  · intro h
    unfold validB at h
    by_cases h3 : x.f2 = 1
    · simp [h3] at h; exact ⟨by omega, by omega, by omega, .inl ⟨h3, by omega, by omega⟩⟩
    · simp [h3] at h; exact ⟨by omega, by omega, by omega, .inr (by omega)⟩
  · rintro ⟨a, b, c, k⟩
    unfold validB
    by_cases h3 : x.f2 = 1
    · simp [h3]; omega
    · simp [h3]; omega
theorem ext25 {x y : S25} (h0 : x.f0 = y.f0) (h1 : x.f1 = y.f1) (h2 : x.f2 = y.f2) (h3 : x.f3 = y.f3) (h4 : x.f4 = y.f4) (h5 : x.f5 = y.f5) : x = y := by
  cases x; cases y; simp_all
theorem rightAt_cons (a : Int) (x : S25) (xs : List S25) : rightAt a (x :: xs) = true ↔ Good x ∧ a ≤ x.f0 ∧ rightAt x.f1 xs = true := by
  simp only [rightAt, Bool.and_eq_true, decide_eq_true_eq, good_iff]
theorem rightAt_mono {a b : Int} (h : b ≤ a) : ∀ {l : List S25}, rightAt a l = true → rightAt b l = true
  | [], _ => rfl
  | x :: xs, hr => by rw [rightAt_cons] at hr ⊢; exact ⟨hr.1, by omega, hr.2.2⟩
theorem right_mem {a : Int} {l : List S25} (h : rightAt a l = true) : ∀ x ∈ l, Good x ∧ a ≤ x.f0 := by
  induction l generalizing a with
  | nil => intro x hx; cases hx
  | cons y ys ih =>
    rw [rightAt_cons] at h
    intro x hx
    rcases List.mem_cons.1 hx with rfl | hx
    · exact ⟨h.1, h.2.1⟩
    · have := ih h.2.2 x hx
      exact ⟨this.1, by have := h.1.b; omega⟩
theorem inB_iff (p : Int) (x : S25) : inB p x = true ↔ x.f0 ≤ p ∧ p < x.f1 := by simp [inB]
/-- Behind the begin of a list that may be no page ahead is found. -/
theorem find_none_lt {a p : Int} {l : List S25} (h : rightAt a l = true) (hp : p < a) : l.find? (inB p) = none := by
  rw [List.find?_eq_none]
  intro x hx
  have := (right_mem h x hx).2
  rw [inB_iff]; omega
theorem rd_zero (x : S25) (xs : List S25) : rd_T25 (x :: xs) 0 = x := rfl
theorem rd_succ (x : S25) (xs : List S25) (i : Int) (h : 0 ≤ i) : rd_T25 (x :: xs) (i + 1) = rd_T25 xs i := by
  show (x :: xs).getD (i + 1).toNat z25 = xs.getD i.toNat z25
  rw [show (i + 1).toNat = i.toNat + 1 from by omega]; simp
theorem idx_shift (P : S25 → Bool) (l : List S25) : ∀ i : Int, 0 ≤ i → (idxFrom P l i = -1 ∧ l.find? P = none) ∨ (∃ j : Int, 0 ≤ j ∧ j < l.length ∧ idxFrom P l i = i + j ∧ l.find? P = some (rd_T25 l j)) := by
  induction l with
  | nil => intro i _; exact .inl ⟨rfl, rfl⟩
  | cons x xs ih =>
    intro i hi
    simp only [idxFrom, List.length_cons]
    by_cases h : P x = true
    · right; exact ⟨0, by omega, by omega, by rw [if_pos h]; omega, by rw [List.find?_cons_of_pos h]; rfl⟩
    · rw [if_neg h, List.find?_cons_of_neg h]
      rcases ih (i + 1) (by omega) with ⟨h1, h2⟩ | ⟨j, h0, h1, h2, h3⟩
      · exact .inl ⟨h1, h2⟩
      · right; exact ⟨j + 1, by omega, by omega, by omega, by rw [rd_succ x xs j h0]; exact h3⟩
/-- A region that is found, as the call tells it. -/
def tell (o : Option S25) : Int × Int × Int × Int × Int × Bool × Bool := match o with
  | some x => (x.f0, x.f1, x.f2, x.f3, x.f4, x.f5, true)
  | none => (0, 0, 0, 0, 0, false, false)
theorem find7_is (l : List S25) (p : Int) : find7 l p = tell (if rightB l = true then l.find? (inB p) else none) := by
  unfold find7
  rcases idx_shift (inB p) l 0 (by omega) with ⟨h1, h2⟩ | ⟨j, h0, h1, h2, h3⟩
  · rw [h1, h2, if_pos (by omega)]; split <;> rfl
  · rw [h2, h3, if_neg (by omega)]
    have : (0 : Int) + j = j := by omega
    rw [this]
    split <;> rfl
/-- A list with a region put at its place. -/
def ins (x : S25) : List S25 → List S25
  | [] => [x]
  | y :: ys => if y.f1 > x.f0 then x :: y :: ys else y :: ins x ys
/-- Is the first one behind the place in the way? -/
def busy (x : S25) : List S25 → Bool
  | [] => false
  | y :: ys => if y.f1 > x.f0 then decide (y.f0 < x.f1) else busy x ys
theorem add_parts (x : S25) (l : List S25) : (idxFrom (afterB x) l 0 < 0 ∧ busy x l = false ∧ ins x l = l ++ [x]) ∨
    (0 ≤ idxFrom (afterB x) l 0 ∧ busy x l = decide ((rd_T25 l (idxFrom (afterB x) l 0)).f0 < x.f1) ∧ ins x l = l.take (idxFrom (afterB x) l 0).toNat ++ (x :: l.drop (idxFrom (afterB x) l 0).toNat)) := by
  have key : ∀ (l : List S25) (i : Int), 0 ≤ i → (idxFrom (afterB x) l i = -1 ∧ busy x l = false ∧ ins x l = l ++ [x]) ∨ (∃ j : Int, 0 ≤ j ∧ idxFrom (afterB x) l i = i + j ∧ busy x l = decide ((rd_T25 l j).f0 < x.f1) ∧ ins x l = l.take j.toNat ++ (x :: l.drop j.toNat)) := by
    intro l
    induction l with
    | nil => intro i _; exact .inl ⟨rfl, rfl, rfl⟩
    | cons y ys ih =>
      intro i hi
      simp only [idxFrom, busy, ins]
      by_cases h : y.f1 > x.f0
      · have h' : afterB x y = true := by simpa [afterB] using h
        right; refine ⟨0, by omega, by rw [if_pos h']; omega, by rw [if_pos h, rd_zero], by rw [if_pos h]; rfl⟩
      · have h' : ¬ afterB x y = true := by simpa [afterB] using h
        rw [if_neg h', if_neg h, if_neg h]
        rcases ih (i + 1) (by omega) with ⟨h1, h2, h3⟩ | ⟨j, h0, h1, h2, h3⟩
        · exact .inl ⟨h1, h2, by rw [h3]; rfl⟩
        · right
          refine ⟨j + 1, by omega, by omega, by rw [rd_succ y ys j h0]; exact h2, ?_⟩
          rw [show (j + 1).toNat = j.toNat + 1 from by omega, h3]; rfl
  rcases key l 0 (by omega) with ⟨h1, h2, h3⟩ | ⟨j, h0, h1, h2, h3⟩
  · exact .inl ⟨by omega, h2, h3⟩
  · right
    have : (0 : Int) + j = j := by omega
    rw [h1, this]
    exact ⟨h0, h2, h3⟩
theorem add2_is (l : List S25) (x : S25) : add2 l x = if rightB l = true ∧ validB x = true ∧ l.length < 64 then (if busy x l = true then ([], 4) else (ins x l, 0)) else ([], 1) := by
  unfold add2
  by_cases hq : rightB l = true ∧ validB x = true ∧ l.length < 64
  · rw [if_pos hq, if_pos hq]
    rcases add_parts x l with ⟨h1, h2, h3⟩ | ⟨h1, h2, h3⟩
    · rw [if_pos h1, h2, if_neg (by simp), h3]
    · rw [if_neg (by omega), h2, h3]
      by_cases ho : (rd_T25 l (idxFrom (afterB x) l 0)).f0 < x.f1
      · rw [if_pos ho, if_pos (by simpa using ho)]
      · rw [if_neg ho, if_neg (by simpa using ho)]
  · rw [if_neg hq, if_neg hq]
theorem rvalid_is (x : S25) : millpondref07_Valid.f x.f0 x.f1 x.f2 x.f3 x.f4 x.f5 = some (validB x) := by
  unfold millpondref07_Valid.f validB
  by_cases h0 : x.f0 < 0
  · simp [h0]
  · by_cases h1 : x.f1 ≤ x.f0
    · simp [h0, h1]
    · by_cases h2 : x.f1 > 65536
      · simp [h0, h1, h2]
      · by_cases h3 : x.f2 = 1
        · by_cases h4 : x.f3 = 0 <;> simp [h0, h1, h2, h3, h4] <;> rfl
        · by_cases h4 : x.f2 = 2
          · by_cases h5 : 0 ≤ x.f3 <;> by_cases h6 : x.f3 ≤ 1048576 <;> by_cases h7 : 0 ≤ x.f4
            all_goals (by_cases h8 : x.f4 ≤ 2097152)
            all_goals first
              | (have e1 : wrap64 (x.f4 + x.f1) = x.f4 + x.f1 := by unfold wrap64; omega
                 have e2 : wrap64 (x.f4 + x.f1 - x.f0) = x.f4 + x.f1 - x.f0 := by unfold wrap64; omega
                 simp [h0, h1, h2, h3, h4, h5, h6, h7, h8, e1, e2]; done)
              | (have e1 : wrap64 (x.f4 + x.f1) = x.f4 + x.f1 := by unfold wrap64; omega
                 have e2 : wrap64 (x.f4 + x.f1 - x.f0) = x.f4 + x.f1 - x.f0 := by unfold wrap64; omega
                 simp [h0, h1, h2, h3, h4, h5, h6, h7, h8, e1, e2]; rw [Bool.eq_iff_iff]; simp only [decide_eq_true_eq]; omega)
              | (have e1 : wrap64 (x.f4 + x.f1) = x.f4 + x.f1 := by unfold wrap64; omega
                 have e2 : wrap64 (x.f4 + x.f1 - x.f0) = x.f4 + x.f1 - x.f0 := by unfold wrap64; omega
                 simp [h0, h1, h2, h3, h4, h5, h6, h7, h8, e1, e2]; omega)
              | (simp [h0, h1, h2, h3, h4, h5, h6, h7, h8]; done)
              | (simp [h0, h1, h2, h3, h4, h5, h6, h7, h8]; omega)
          · simp [h0, h1, h2, h3, h4]
theorem rd_mem (l : List S25) (i : Int) (h0 : 0 ≤ i) (h : i < l.length) : rd_T25 l i ∈ l := by
  have := rd_drop l i h0 h
  exact List.mem_of_mem_drop (i := i.toNat) (by rw [this]; exact List.mem_cons_self ..)
theorem rright_l (l : List S25) (hl : l.length ≤ 9223372036854775807) (d : Nat) : ∀ (k : Nat) (a i : Int), 0 ≤ i → i ≤ l.length → (l.length : Int) - i = d → d < k → (0 < i → a = (rd_T25 l (i - 1)).f1) → (i = 0 → a = 0) → millpondref07_Right.l0 k l i = some (rightAt a (l.drop i.toNat)) := by
  induction d with
  | zero =>
    intro k a i h0 h1 hd hk _ _
    obtain ⟨k, rfl⟩ : ∃ m, k = m + 1 := ⟨k - 1, by omega⟩
    simp only [millpondref07_Right.l0]
    rw [if_neg (by omega), List.drop_of_length_le (by omega)]; rfl
  | succ d ih =>
    intro k a i h0 h1 hd hk ha hz
    obtain ⟨k, rfl⟩ : ∃ m, k = m + 1 := ⟨k - 1, by omega⟩
    have hw : wrap64 (i + 1) = i + 1 := by unfold wrap64; omega
    have hw2 : wrap64 (i - 1) = i - 1 := by unfold wrap64; omega
    simp only [millpondref07_Right.l0]
    rw [if_pos (by omega), if_pos h0, rvalid_is, Option.bind_some, rd_drop l i h0 (by omega), hw, hw2]
    simp only [rightAt]
    have hnext := ih k (rd_T25 l i).f1 (i + 1) (by omega) (by omega) (by omega) (by omega) (fun _ => by rw [show i + 1 - 1 = i from by omega]) (fun h => by omega)
    cases hv : validB (rd_T25 l i)
    · simp
    · rw [if_pos rfl, hnext]
      by_cases hi : i > 0
      · rw [if_pos hi, if_pos (by omega), if_pos (by omega), ← ha hi]
        by_cases hc : (rd_T25 l i).f0 < a
        · rw [if_pos hc]
          have : ¬ a ≤ (rd_T25 l i).f0 := by omega
          simp [this]
        · rw [if_neg hc]
          have : a ≤ (rd_T25 l i).f0 := by omega
          simp [this]
      · rw [if_neg hi]
        have hg := (good_iff _).1 hv
        have : a ≤ (rd_T25 l i).f0 := by rw [hz (by omega)]; exact hg.a
        simp [this]
theorem rright_is (l : List S25) (hl : l.length ≤ 9223372036854775807) (k : Nat) (hk : l.length < k) : millpondref07_Right.f k l = some (rightB l) :=
  rright_l l hl l.length k 0 0 (by omega) (by omega) (by omega) hk (fun h => by omega) (fun _ => rfl)
theorem same_l (a b : List S25) (hn : a.length = b.length) (hl : a.length < 9223372036854775807) (d : Nat) : ∀ (k : Nat) (i : Int), 0 ≤ i → i ≤ a.length → (a.length : Int) - i = d → d < k → ∃ r, millpondref07_Same.l0 k a b i = some r ∧ (r = true ↔ a.drop i.toNat = b.drop i.toNat) := by
  induction d with
  | zero =>
    intro k i h0 h1 hd hk
    obtain ⟨k, rfl⟩ : ∃ m, k = m + 1 := ⟨k - 1, by omega⟩
    simp only [millpondref07_Same.l0]
    rw [if_neg (by omega), List.drop_of_length_le (by omega), List.drop_of_length_le (by omega)]; exact ⟨true, rfl, by simp⟩
  | succ d ih =>
    intro k i h0 h1 hd hk
    obtain ⟨k, rfl⟩ : ∃ m, k = m + 1 := ⟨k - 1, by omega⟩
    have hw : wrap64 (i + 1) = i + 1 := by unfold wrap64; omega
    simp only [millpondref07_Same.l0]
    rw [if_pos (by omega), if_pos h0, if_pos (by omega), rd_drop a i h0 (by omega), rd_drop b i h0 (by omega), hw]
    obtain ⟨r, hr, hi⟩ := ih k (i + 1) (by omega) (by omega) (by omega) (by omega)
    by_cases hx : rd_T25 a i = rd_T25 b i
    · rw [hx, if_neg (by simp)]
      exact ⟨r, hr, by rw [hi]; simp⟩
    · have : (!((rd_T25 a i).f0 == (rd_T25 b i).f0) || (!((rd_T25 a i).f1 == (rd_T25 b i).f1) || (!((rd_T25 a i).f2 == (rd_T25 b i).f2) || (!((rd_T25 a i).f3 == (rd_T25 b i).f3) || (!((rd_T25 a i).f4 == (rd_T25 b i).f4) || (!((rd_T25 a i).f5 == (rd_T25 b i).f5))))))) = true := by
        rw [← Bool.not_eq_false]
        intro hf
        simp only [Bool.or_eq_false_iff, Bool.not_eq_false', beq_iff_eq] at hf
        exact hx (ext25 hf.1 hf.2.1 hf.2.2.1 hf.2.2.2.1 hf.2.2.2.2.1 hf.2.2.2.2.2)
      rw [if_pos this]
      exact ⟨false, rfl, by simp [hx]⟩
theorem same_is (a b : List S25) (hl : a.length < 9223372036854775807) (k : Nat) (hk : a.length < k) : ∃ r, millpondref07_Same.f k a b = some r ∧ (r = true ↔ a = b) := by
  unfold millpondref07_Same.f
  by_cases hn : a.length = b.length
  · rw [if_pos (by omega)]
    obtain ⟨r, hr, hi⟩ := same_l a b hn hl a.length k 0 (by omega) (by omega) (by omega) hk
    exact ⟨r, hr, by simpa using hi⟩
  · rw [if_neg (by omega)]
    exact ⟨false, rfl, by simp; intro h; exact hn (by rw [h])⟩
theorem same_self (a : List S25) (hl : a.length < 9223372036854775807) (k : Nat) (hk : a.length < k) : millpondref07_Same.f k a a = some true := by
  obtain ⟨r, hr, hi⟩ := same_is a a hl k hk
  rw [hr, hi.2 rfl]
def ovB (x y : S25) : Bool := decide (y.f0 < x.f1) && decide (x.f0 < y.f1)
/-- Does any of a list overlap? -/
def ov (x : S25) (l : List S25) : Bool := l.any (ovB x)
theorem eta25 (x : S25) : (⟨x.f0, x.f1, x.f2, x.f3, x.f4, x.f5⟩ : S25) = x := rfl
theorem ov_none {a : Int} {x : S25} {l : List S25} (h : rightAt a l = true) (hx : x.f1 ≤ a) : ov x l = false := by
  unfold ov
  rw [List.any_eq_false]
  intro y hy
  have := (right_mem h y hy).2
  simp [ovB]; omega
theorem busy_ov {x : S25} : ∀ {l : List S25} {a : Int}, rightAt a l = true → busy x l = ov x l
  | [], _, _ => rfl
  | y :: ys, a, h => by
    rw [rightAt_cons] at h
    have hov : ov x (y :: ys) = (ovB x y || ov x ys) := rfl
    simp only [busy]
    by_cases h1 : y.f1 > x.f0
    · rw [if_pos h1, hov]
      by_cases h2 : y.f0 < x.f1
      · simp [ovB, h1, h2]
      · rw [ov_none h.2.2 (by have := h.1.b; omega)]
        simp [ovB, h2]
    · rw [if_neg h1, hov, busy_ov h.2.2]
      have : ovB x y = false := by simp [ovB]; omega
      rw [this, Bool.false_or]
theorem pages_l (l : List S25) (hr : rightB l = true) (hl : l.length ≤ 200) (d : Nat) : ∀ (k : Nat) (n i : Int), 0 ≤ i → i ≤ l.length → (l.length : Int) - i = d → d + l.length < k → 0 ≤ n → n ≤ 65536 * i → region_Pages.l0 k n l l.length i = some (n + (l.drop i.toNat).foldr (fun x s => (x.f1 - x.f0) + s) 0) ∧ millpondref07_Pages.l0 k l n i = some (n + (l.drop i.toNat).foldr (fun x s => (x.f1 - x.f0) + s) 0) := by
  induction d with
  | zero =>
    intro k n i h0 h1 hd hk hn0 hn
    obtain ⟨k, rfl⟩ : ∃ m, k = m + 1 := ⟨k - 1, by omega⟩
    simp only [region_Pages.l0, millpondref07_Pages.l0]
    rw [if_neg (by omega), if_neg (by omega), List.drop_of_length_le (by omega)]
    simp
  | succ d ih =>
    intro k n i h0 h1 hd hk hn0 hn
    obtain ⟨k, rfl⟩ : ∃ m, k = m + 1 := ⟨k - 1, by omega⟩
    have hw : wrap64 (i + 1) = i + 1 := by unfold wrap64; omega
    have hg := (right_mem hr _ (rd_mem l i h0 (by omega))).1
    have b1 := hg.a; have b2 := hg.b; have b3 := hg.c
    have e1 : wrap64 ((rd_T25 l i).f1 - (rd_T25 l i).f0) = (rd_T25 l i).f1 - (rd_T25 l i).f0 := by unfold wrap64; omega
    have e2 : wrap64 (n + ((rd_T25 l i).f1 - (rd_T25 l i).f0)) = n + ((rd_T25 l i).f1 - (rd_T25 l i).f0) := by unfold wrap64; omega
    have e3 : wrap64 (n + (rd_T25 l i).f1) = n + (rd_T25 l i).f1 := by unfold wrap64; omega
    have e4 : wrap64 (n + (rd_T25 l i).f1 - (rd_T25 l i).f0) = n + ((rd_T25 l i).f1 - (rd_T25 l i).f0) := by unfold wrap64; omega
    obtain ⟨n1, n2⟩ := ih k (n + ((rd_T25 l i).f1 - (rd_T25 l i).f0)) (i + 1) (by omega) (by omega) (by omega) (by omega) (by omega) (by omega)
    simp only [region_Pages.l0, millpondref07_Pages.l0]
    have hlt : i < (l.length : Int) := by omega
    simp only [if_pos hlt, if_pos h0, rright_is l (by omega) k (by omega), Option.bind_some, if_pos hr]
    rw [rd_drop l i h0 (by omega), hw, e1, e2, e3, e4, n1, n2]
    simp only [List.foldr_cons]
    constructor <;> congr 1 <;> omega
/-- How many pages. -/
def pgs (l : List S25) : Int := if rightB l = true then l.foldr (fun x s => (x.f1 - x.f0) + s) 0 else 0
theorem pages_is (l : List S25) (hl : l.length ≤ 200) (k : Nat) (hk : 2 * l.length + 1 < k) : region_Pages.f k l = some (pgs l) ∧ millpondref07_Pages.f k l = some (pgs l) := by
  unfold region_Pages.f millpondref07_Pages.f pgs
  rw [right_is l (by omega) k (by omega), Option.bind_some]
  cases hr : rightB l
  · refine ⟨by simp, ?_⟩
    obtain ⟨k, rfl⟩ : ∃ m, k = m + 1 := ⟨k - 1, by omega⟩
    simp only [millpondref07_Pages.l0]
    by_cases h0 : (0 : Int) < l.length
    · rw [if_pos h0, rright_is l (by omega) k (by omega), Option.bind_some, hr]; simp
    · rw [if_neg h0]; simp
  · obtain ⟨h1, h2⟩ := pages_l l hr hl l.length k 0 0 (by omega) (by omega) (by omega) (by omega) (by omega) (by omega)
    rw [if_pos rfl, if_pos rfl, h1, h2]
    simp
theorem key_is (x : S25) (p : Int) : region_Key.f x.f0 x.f1 x.f2 x.f3 x.f4 x.f5 p = millpondref07_Key.f x.f0 x.f1 x.f2 x.f3 x.f4 x.f5 p := rfl
theorem wrap_in {n : Int} (h0 : -9223372036854775808 ≤ n) (h1 : n ≤ 9223372036854775807) : wrap64 n = n := by unfold wrap64; omega
theorem part_self {x : S25} (h : Good x) : partS x x.f0 x.f1 = x := by
  have hk := h.k
  unfold partS
  apply ext25 <;> simp only
  by_cases h2 : x.f2 = 2
  · have e : wrap64 (x.f0 - x.f0) = 0 := by unfold wrap64; omega
    rw [if_pos h2, e, wrap_in] <;> (have := h.a; have := h.b; omega)
  · rw [if_neg h2]
theorem cut_t : cutS [⟨0, 9, 2, 2, 4, false⟩] 3 5 = [⟨0, 3, 2, 2, 4, false⟩, ⟨5, 9, 2, 2, 9, false⟩] := by
  simp [cutS, stepC, keepL, mn, mx, partS, wrap64]
theorem works_is (k : Nat) (hk : 300 ≤ k) : millpondlaw07_works.f k = some true := by
  have e1 : region_Add.f [] 0 9 2 2 4 false = some ([⟨0, 9, 2, 2, 4, false⟩], 0) := rfl
  have e2 : region_Cut.f [⟨0, 9, 2, 2, 4, false⟩] 3 5 = some [⟨0, 3, 2, 2, 4, false⟩, ⟨5, 9, 2, 2, 9, false⟩] := by
    have h : rightB [⟨0, 9, 2, 2, 4, false⟩] = true := rfl
    unfold region_Cut.f
    rw [if_pos (by simp), h, if_pos rfl, cut_t]
  have e3 : region_Find.f [⟨0, 3, 2, 2, 4, false⟩, ⟨5, 9, 2, 2, 9, false⟩] 6 = some (5, 9, 2, 2, 9, false, true) := rfl
  unfold millpondlaw07_works.f
  rw [e1]
  simp only [Option.bind_some]
  rw [e2]
  simp only [Option.bind_some]
  rw [e3]
  simp only [Option.bind_some]
  have e4 := (pages_is [⟨0, 3, 2, 2, 4, false⟩, ⟨5, 9, 2, 2, 9, false⟩] (by simp) k (by simp; omega)).1
  have e5 : pgs [⟨0, 3, 2, 2, 4, false⟩, ⟨5, 9, 2, 2, 9, false⟩] = 7 := by
    have h : rightB [⟨0, 3, 2, 2, 4, false⟩, ⟨5, 9, 2, 2, 9, false⟩] = true := rfl
    unfold pgs; rw [if_pos h]; rfl
  have e6 := right_is [⟨0, 3, 2, 2, 4, false⟩, ⟨5, 9, 2, 2, 9, false⟩] (by simp) k (by simp; omega)
  have e7 : rightB [⟨0, 3, 2, 2, 4, false⟩, ⟨5, 9, 2, 2, 9, false⟩] = true := rfl
  have e8 : region_Valid.f 0 9 2 2 4 false = some true := by rw [show region_Valid.f 0 9 2 2 4 false = some (validB ⟨0, 9, 2, 2, 4, false⟩) from valid_is ⟨0, 9, 2, 2, 4, false⟩]; rfl
  have e9 : region_Key.f 5 9 2 2 9 false 6 = some (2, 10) := by simp [region_Key.f, wrap64]
  rw [e4, e5, e6, e7, e8, e9]
  rfl
theorem part_eq {x : S25} {a b : Int} (h : Good x) (ha : x.f0 ≤ a) (hb : a ≤ 65536) : partS x a b = ⟨a, b, x.f2, x.f3, if x.f2 = 2 then x.f4 + (a - x.f0) else x.f4, x.f5⟩ := by
  have h0 := h.a; have h1 := h.b; have h2 := h.c; have hk := h.k
  unfold partS
  congr 1
  by_cases h2 : x.f2 = 2
  · rw [if_pos h2, if_pos h2, wrap_in (n := a - x.f0) (by omega) (by omega), wrap_in (by omega) (by omega)]
  · rw [if_neg h2, if_neg h2]
theorem part_good {x : S25} {a b : Int} (h : Good x) (ha : x.f0 ≤ a) (hab : a < b) (hb : b ≤ x.f1) : Good (partS x a b) := by
  have h0 := h.a; have h1 := h.b; have h2 := h.c; have hk := h.k
  rw [part_eq h ha (by omega)]
  refine ⟨by simp only; omega, by simp only; omega, by simp only; omega, ?_⟩
  simp only
  rcases hk with hk | hk
  · left; rw [if_neg (by omega)]; exact hk
  · right; rw [if_pos hk.1]; omega
theorem part_part {x : S25} {a b c d : Int} (h : Good x) (ha : x.f0 ≤ a) (hab : a < b) (hb : b ≤ x.f1) (hac : a ≤ c) (hc : c ≤ x.f1) : partS (partS x a b) c d = partS x c d := by
  have hg := part_good h ha hab hb
  have h2 := h.c
  rw [part_eq hg (by rw [part_eq h ha (by omega)]; exact hac) (by omega), part_eq h ha (by omega), part_eq h (by omega) (by omega)]
  congr 1
  simp only
  split <;> omega
theorem step_id {x : S25} {p q : Int} (h : Good x) (ho : q ≤ p ∨ x.f1 ≤ p ∨ q ≤ x.f0) : stepC p q x = [x] := by
  have hb := h.b
  unfold stepC keepL mn mx
  by_cases c0 : p ≥ q
  · rw [if_pos c0, if_pos hb, part_self h]
  · rw [if_neg c0]
    by_cases c1 : x.f1 ≤ p
    · rw [if_neg (by omega : ¬ p < x.f1), if_pos hb, part_self h, if_neg (by split <;> omega), List.append_nil]
    · rw [if_pos (by omega : p < x.f1), if_neg (by omega : ¬ x.f0 < p), if_neg (by omega : ¬ x.f0 < q), if_pos hb, part_self h, List.nil_append]
/-- The pieces of one, when something is cut. -/
def lo (p : Int) (x : S25) : List S25 := if x.f0 < (if p < x.f1 then p else x.f1) then [partS x x.f0 (if p < x.f1 then p else x.f1)] else []
def hi (q : Int) (x : S25) : List S25 := if (if x.f0 < q then q else x.f0) < x.f1 then [partS x (if x.f0 < q then q else x.f0) x.f1] else []
theorem step_two {x : S25} {p q : Int} (h : p < q) : stepC p q x = lo p x ++ hi q x := by
  unfold stepC keepL mn mx lo hi
  rw [if_neg (by omega)]
theorem lo_cases {x : S25} (h : Good x) (p : Int) : (x.f0 < p ∧ ∃ b, b ≤ p ∧ x.f0 < b ∧ b ≤ x.f1 ∧ (b = p ∨ b = x.f1) ∧ lo p x = [partS x x.f0 b]) ∨ (p ≤ x.f0 ∧ lo p x = []) := by
  have hb := h.b
  unfold lo
  by_cases c : x.f0 < p
  · left
    by_cases c1 : p < x.f1
    · rw [if_pos c1, if_pos c]; exact ⟨c, p, by omega, c, by omega, .inl rfl, rfl⟩
    · rw [if_neg c1, if_pos hb]; exact ⟨c, x.f1, by omega, hb, by omega, .inr rfl, rfl⟩
  · right
    by_cases c1 : p < x.f1
    · rw [if_pos c1, if_neg c]; exact ⟨by omega, rfl⟩
    · omega
theorem hi_cases {x : S25} (h : Good x) (q : Int) : (q < x.f1 ∧ ∃ a, q ≤ a ∧ x.f0 ≤ a ∧ a < x.f1 ∧ (a = q ∨ a = x.f0) ∧ hi q x = [partS x a x.f1]) ∨ (x.f1 ≤ q ∧ hi q x = []) := by
  have hb := h.b
  unfold hi
  by_cases c : q < x.f1
  · left
    by_cases c1 : x.f0 < q
    · rw [if_pos c1, if_pos c]; exact ⟨c, q, by omega, by omega, c, .inl rfl, rfl⟩
    · rw [if_neg c1, if_pos hb]; exact ⟨c, x.f0, by omega, by omega, hb, .inr rfl, rfl⟩
  · right
    by_cases c1 : x.f0 < q
    · rw [if_pos c1, if_neg c]; exact ⟨by omega, rfl⟩
    · omega
theorem part_f0 (x : S25) (a b : Int) : (partS x a b).f0 = a := rfl
theorem part_f1 (x : S25) (a b : Int) : (partS x a b).f1 = b := rfl
theorem step_right {x : S25} {M : List S25} {a : Int} (h : Good x) (ha : a ≤ x.f0) (hM : rightAt x.f1 M = true) (p q : Int) : rightAt a (stepC p q x ++ M) = true := by
  have hb := h.b
  by_cases c0 : q ≤ p
  · rw [step_id h (.inl c0)]
    show rightAt a (x :: M) = true
    rw [rightAt_cons]; exact ⟨h, ha, hM⟩
  · rw [step_two (by omega)]
    have key : ∀ c, c ≤ x.f1 → c ≤ q → x.f0 ≤ c ∨ True → rightAt c (hi q x ++ M) = true := by
      intro c hc hcq _
      rcases hi_cases h q with ⟨h1, d, h2, h3, h4, _, e⟩ | ⟨_, e⟩
      · rw [e]
        show rightAt c (partS x d x.f1 :: M) = true
        rw [rightAt_cons, part_f0, part_f1]
        exact ⟨part_good h h3 h4 (by omega), by omega, hM⟩
      · rw [e]; exact rightAt_mono hc hM
    have key2 : rightAt x.f0 (hi q x ++ M) = true := by
      rcases hi_cases h q with ⟨h1, d, h2, h3, h4, _, e⟩ | ⟨_, e⟩
      · rw [e]
        show rightAt x.f0 (partS x d x.f1 :: M) = true
        rw [rightAt_cons, part_f0, part_f1]
        exact ⟨part_good h h3 h4 (by omega), by omega, hM⟩
      · rw [e]; exact rightAt_mono (by omega) hM
    rcases lo_cases h p with ⟨h1, b, h2, h3, h4, _, e⟩ | ⟨_, e⟩
    · rw [e]
      show rightAt a (partS x x.f0 b :: (hi q x ++ M)) = true
      rw [rightAt_cons, part_f0, part_f1]
      exact ⟨part_good h (by omega) h3 h4, ha, key b h4 (by omega) (.inr trivial)⟩
    · rw [e, List.nil_append]; exact rightAt_mono ha key2
theorem cut_right : ∀ {l : List S25} {a : Int}, rightAt a l = true → ∀ p q, rightAt a (cutS l p q) = true
  | [], _, _, _, _ => rfl
  | x :: xs, a, h, p, q => by
    rw [rightAt_cons] at h
    show rightAt a (stepC p q x ++ cutS xs p q) = true
    exact step_right h.1 h.2.1 (cut_right h.2.2 p q) p q
theorem step_mem {x y : S25} {p q : Int} (h : Good x) (hy : y ∈ stepC p q x) : Good y ∧ (q ≤ p ∨ y.f1 ≤ p ∨ q ≤ y.f0) := by
  by_cases c0 : q ≤ p
  · rw [step_id h (.inl c0), List.mem_singleton] at hy; subst hy; exact ⟨h, .inl c0⟩
  · rw [step_two (by omega), List.mem_append] at hy
    have hb := h.b
    rcases hy with hy | hy
    · rcases lo_cases h p with ⟨h1, b, h2, h3, h4, _, e⟩ | ⟨_, e⟩
      · rw [e, List.mem_singleton] at hy; subst hy; exact ⟨part_good h (by omega) h3 h4, .inr (.inl h2)⟩
      · rw [e] at hy; cases hy
    · rcases hi_cases h q with ⟨h1, d, h2, h3, h4, _, e⟩ | ⟨_, e⟩
      · rw [e, List.mem_singleton] at hy; subst hy; exact ⟨part_good h h3 h4 (by omega), .inr (.inr h2)⟩
      · rw [e] at hy; cases hy
theorem flat_id {p q : Int} : ∀ {l : List S25}, (∀ y ∈ l, stepC p q y = [y]) → l.flatMap (stepC p q) = l
  | [], _ => rfl
  | x :: xs, h => by rw [List.flatMap_cons, h x (List.mem_cons_self ..), flat_id (fun y hy => h y (List.mem_cons_of_mem _ hy))]; rfl
theorem cut_idem {l : List S25} {a : Int} (h : rightAt a l = true) (p q : Int) : cutS (cutS l p q) p q = cutS l p q := by
  refine flat_id fun y hy => ?_
  rw [cutS, List.mem_flatMap] at hy
  obtain ⟨x, hx, hy⟩ := hy
  obtain ⟨hg, ho⟩ := step_mem (right_mem h x hx).1 hy
  exact step_id hg ho
theorem step_step {x : S25} {p m q : Int} (h : Good x) (hpm : p ≤ m) (hmq : m ≤ q) : (stepC p m x).flatMap (stepC m q) = stepC p q x := by
  have hb := h.b
  by_cases c1 : p = m
  · subst c1
    rw [step_id h (.inl (by omega)), List.flatMap_cons, List.flatMap_nil, List.append_nil]
  · by_cases c2 : m = q
    · subst c2
      exact flat_id fun y hy => step_id (step_mem h hy).1 (.inl (by omega))
    · rw [step_two (by omega : p < m), step_two (by omega : p < q), List.flatMap_append]
      congr 1
      · refine flat_id fun y hy => ?_
        rcases lo_cases h p with ⟨h1, b, h2, h3, h4, _, e⟩ | ⟨_, e⟩
        · rw [e, List.mem_singleton] at hy; subst hy
          exact step_id (part_good h (by omega) h3 h4) (.inr (.inl (by rw [part_f1]; omega)))
        · rw [e] at hy; cases hy
      · rcases hi_cases h m with ⟨h1, d, h2, h3, h4, hd, e⟩ | ⟨h1, e⟩
        · rw [e, List.flatMap_cons, List.flatMap_nil, List.append_nil, step_two (by omega)]
          have hg := part_good h h3 h4 (Int.le_refl x.f1)
          rcases lo_cases hg m with ⟨g1, _⟩ | ⟨_, e1⟩
          · rw [part_f0] at g1; omega
          · rw [e1, List.nil_append]
            rcases hi_cases hg q with ⟨g1, c, g2, g3, g4, gd, e2⟩ | ⟨g1, e2⟩
            · rw [part_f0] at g3 gd
              rw [part_f1] at g1 g4
              rcases hi_cases h q with ⟨k1, c', k2, k3, k4, kd, e3⟩ | ⟨k1, e3⟩
              · have : c = c' := by omega
                subst this
                rw [e2, e3, part_f1, part_part h h3 h4 (by omega) g3 (by omega)]
              · omega
            · rw [part_f1] at g1
              rcases hi_cases h q with ⟨k1, _⟩ | ⟨k1, e3⟩
              · omega
              · rw [e2, e3]
        · rcases hi_cases h q with ⟨k1, _⟩ | ⟨k1, e3⟩
          · omega
          · rw [e, e3]; rfl
theorem cut_cut {p m q : Int} (hpm : p ≤ m) (hmq : m ≤ q) : ∀ {l : List S25} {a : Int}, rightAt a l = true → cutS (cutS l p m) m q = cutS l p q
  | [], _, _ => rfl
  | x :: xs, a, h => by
    rw [rightAt_cons] at h
    have := cut_cut hpm hmq h.2.2
    simp only [cutS, List.flatMap_cons, List.flatMap_append] at this ⊢
    rw [step_step h.1 hpm hmq, this]
/-- What one region says of a page. -/
def Alike (g : Int) (x y : S25) : Prop := y.f2 = x.f2 ∧ y.f5 = x.f5 ∧ region_Key.f y.f0 y.f1 y.f2 y.f3 y.f4 y.f5 g = region_Key.f x.f0 x.f1 x.f2 x.f3 x.f4 x.f5 g
theorem part_alike {x : S25} {a b g : Int} (h : Good x) (ha : x.f0 ≤ a) (hb : a ≤ 65536) (h0 : 0 ≤ g) (h1 : g < 65536) : Alike g x (partS x a b) := by
  have hk := h.k; have := h.a; have := h.b; have := h.c
  rw [part_eq h ha hb]
  refine ⟨rfl, rfl, ?_⟩
  unfold region_Key.f
  simp only
  by_cases h2 : x.f2 = 2
  · rw [if_pos h2, if_pos h2, if_pos h2, wrap_in (n := x.f4 + (a - x.f0) + g) (by omega) (by omega), wrap_in (n := x.f4 + g) (by omega) (by omega)]
    congr 3; omega
  · rw [if_neg h2, if_neg h2]
theorem find_append {P : S25 → Bool} {l m : List S25} : (l ++ m).find? P = (l.find? P).or (m.find? P) := by rw [List.find?_append]
theorem step_find {x : S25} {p q g : Int} (h : Good x) (hg : ¬ (p ≤ g ∧ g < q)) : (inB g x = false ∧ (stepC p q x).find? (inB g) = none) ∨ (inB g x = true ∧ ∃ y, (stepC p q x).find? (inB g) = some y ∧ Alike g x y) := by
  have hb := h.b; have h0 := h.a; have h1 := h.c
  by_cases c0 : q ≤ p
  · rw [step_id h (.inl c0)]
    cases hi : inB g x
    · left; simp [hi]
    · right; exact ⟨rfl, x, by simp [hi], rfl, rfl, rfl⟩
  · rw [step_two (by omega), find_append]
    cases hin : inB g x
    · left
      refine ⟨rfl, ?_⟩
      have hn : ¬ (x.f0 ≤ g ∧ g < x.f1) := fun hh => by rw [(inB_iff g x).2 hh] at hin; cases hin
      have e1 : (lo p x).find? (inB g) = none := by
        rw [List.find?_eq_none]; intro y hy
        rcases lo_cases h p with ⟨_, b, h2, h3, h4, _, e⟩ | ⟨_, e⟩
        · rw [e, List.mem_singleton] at hy; subst hy; rw [inB_iff, part_f0, part_f1]; omega
        · rw [e] at hy; cases hy
      have e2 : (hi q x).find? (inB g) = none := by
        rw [List.find?_eq_none]; intro y hy
        rcases hi_cases h q with ⟨_, d, h2, h3, h4, _, e⟩ | ⟨_, e⟩
        · rw [e, List.mem_singleton] at hy; subst hy; rw [inB_iff, part_f0, part_f1]; omega
        · rw [e] at hy; cases hy
      rw [e1, e2]; rfl
    · right
      refine ⟨rfl, ?_⟩
      have hn := (inB_iff g x).1 hin
      by_cases c1 : g < p
      · rcases lo_cases h p with ⟨_, b, h2, h3, h4, hbb, e⟩ | ⟨_, e⟩
        · refine ⟨partS x x.f0 b, ?_, part_alike h (by omega) (by omega) (by omega) (by omega)⟩
          rw [e, List.find?_cons_of_pos (by rw [inB_iff, part_f0, part_f1]; omega)]; rfl
        · omega
      · have e1 : (lo p x).find? (inB g) = none := by
          rw [List.find?_eq_none]; intro y hy
          rcases lo_cases h p with ⟨_, b, h2, h3, h4, _, e⟩ | ⟨_, e⟩
          · rw [e, List.mem_singleton] at hy; subst hy; rw [inB_iff, part_f0, part_f1]; omega
          · rw [e] at hy; cases hy
        rw [e1]
        rcases hi_cases h q with ⟨_, d, h2, h3, h4, hdd, e⟩ | ⟨_, e⟩
        · refine ⟨partS x d x.f1, ?_, part_alike h (by omega) (by omega) (by omega) (by omega)⟩
          rw [e, List.find?_cons_of_pos (by rw [inB_iff, part_f0, part_f1]; omega)]; rfl
        · omega
theorem cut_find_out {p q g : Int} (hg : ¬ (p ≤ g ∧ g < q)) : ∀ {l : List S25} {a : Int}, rightAt a l = true → (l.find? (inB g) = none ∧ (cutS l p q).find? (inB g) = none) ∨ (∃ x y, l.find? (inB g) = some x ∧ (cutS l p q).find? (inB g) = some y ∧ Alike g x y)
  | [], _, _ => .inl ⟨rfl, rfl⟩
  | x :: xs, a, h => by
    rw [rightAt_cons] at h
    have e : cutS (x :: xs) p q = stepC p q x ++ cutS xs p q := rfl
    rw [e, find_append]
    rcases step_find (q := q) (p := p) h.1 hg with ⟨h1, h2⟩ | ⟨h1, y, h2, h3⟩
    · rw [h2, List.find?_cons_of_neg (by rw [h1]; simp)]
      exact cut_find_out hg h.2.2
    · right
      exact ⟨x, y, List.find?_cons_of_pos h1, by rw [h2]; rfl, h3⟩
theorem cut_find_in {l : List S25} {a p q g : Int} (h : rightAt a l = true) (hg : p ≤ g ∧ g < q) : (cutS l p q).find? (inB g) = none := by
  rw [List.find?_eq_none]
  intro y hy
  rw [cutS, List.mem_flatMap] at hy
  obtain ⟨x, hx, hy⟩ := hy
  obtain ⟨_, ho⟩ := step_mem (right_mem h x hx).1 hy
  rw [inB_iff]; omega
/-- Each is found at its own pages. -/
theorem find_own {g : Int} : ∀ {l : List S25} {a : Int}, rightAt a l = true → ∀ x ∈ l, inB g x = true → l.find? (inB g) = some x
  | y :: ys, a, h, x, hx, hi => by
    rw [rightAt_cons] at h
    rcases List.mem_cons.1 hx with rfl | hx
    · exact List.find?_cons_of_pos hi
    · have := (right_mem h.2.2 x hx).2
      have hn := (inB_iff g x).1 hi
      rw [List.find?_cons_of_neg (by rw [inB_iff]; omega)]
      exact find_own h.2.2 x hx hi
theorem ov_comm (x y : S25) : ovB x y = ovB y x := by simp only [ovB]; exact Bool.and_comm _ _
theorem ovB_false {x y : S25} : ovB x y = false ↔ x.f1 ≤ y.f0 ∨ y.f1 ≤ x.f0 := by simp [ovB]; omega
theorem ins_right {x : S25} (hx : Good x) : ∀ {l : List S25} {a : Int}, rightAt a l = true → ov x l = false → a ≤ x.f0 → rightAt a (ins x l) = true
  | [], a, _, _, ha => by show rightAt a [x] = true; rw [rightAt_cons]; exact ⟨hx, ha, rfl⟩
  | y :: ys, a, h, ho, ha => by
    have h' := h
    rw [rightAt_cons] at h
    have hov : ov x (y :: ys) = (ovB x y || ov x ys) := rfl
    rw [hov, Bool.or_eq_false_iff, ovB_false] at ho
    have := hx.b
    have := h.1.b
    simp only [ins]
    by_cases h2 : y.f1 > x.f0
    · rw [if_pos h2, rightAt_cons]
      refine ⟨hx, ha, ?_⟩
      rw [rightAt_cons]; exact ⟨h.1, by omega, h.2.2⟩
    · rw [if_neg h2, rightAt_cons]
      exact ⟨h.1, h.2.1, ins_right hx h.2.2 ho.2 (by omega)⟩
theorem ins_find_in {x : S25} {g : Int} (hg : inB g x = true) : ∀ {l : List S25} {a : Int}, rightAt a l = true → ov x l = false → (ins x l).find? (inB g) = some x ∧ l.find? (inB g) = none
  | [], _, _, _ => ⟨List.find?_cons_of_pos hg, rfl⟩
  | y :: ys, a, h, ho => by
    rw [rightAt_cons] at h
    have hov : ov x (y :: ys) = (ovB x y || ov x ys) := rfl
    rw [hov, Bool.or_eq_false_iff, ovB_false] at ho
    obtain ⟨i1, i2⟩ := ins_find_in hg h.2.2 ho.2
    have hi := (inB_iff g x).1 hg
    have hn : ¬ inB g y = true := by rw [inB_iff]; omega
    refine ⟨?_, by rw [List.find?_cons_of_neg hn]; exact i2⟩
    simp only [ins]
    split
    · exact List.find?_cons_of_pos hg
    · rw [List.find?_cons_of_neg hn]; exact i1
theorem ins_find_out {x : S25} {g : Int} (hg : ¬ inB g x = true) : ∀ {l : List S25}, (ins x l).find? (inB g) = l.find? (inB g)
  | [] => List.find?_cons_of_neg hg
  | y :: ys => by
    simp only [ins]
    split
    · exact List.find?_cons_of_neg hg
    · simp only [List.find?_cons, ins_find_out hg]
theorem ins_cut {x : S25} (hx : Good x) : ∀ {l : List S25} {a : Int}, rightAt a l = true → ov x l = false → cutS (ins x l) x.f0 x.f1 = l
  | [], _, _, _ => by
    have hb := hx.b
    show stepC x.f0 x.f1 x ++ [] = []
    rw [step_two hb]
    rcases lo_cases hx x.f0 with ⟨h1, _⟩ | ⟨_, e⟩
    · omega
    · rcases hi_cases hx x.f1 with ⟨h1, _⟩ | ⟨_, e2⟩
      · omega
      · rw [e, e2]; rfl
  | y :: ys, a, h, ho => by
    have hb := hx.b
    have h' := h
    have ho' := ho
    rw [rightAt_cons] at h
    have hov : ov x (y :: ys) = (ovB x y || ov x ys) := rfl
    rw [hov, Bool.or_eq_false_iff, ovB_false] at ho
    simp only [ins]
    by_cases h2 : y.f1 > x.f0
    · rw [if_pos h2]
      show stepC x.f0 x.f1 x ++ cutS (y :: ys) x.f0 x.f1 = y :: ys
      have e0 : stepC x.f0 x.f1 x = [] := by
        rw [step_two hb]
        rcases lo_cases hx x.f0 with ⟨h1, _⟩ | ⟨_, e⟩
        · omega
        · rcases hi_cases hx x.f1 with ⟨h1, _⟩ | ⟨_, e2⟩
          · omega
          · rw [e, e2]; rfl
      rw [e0, List.nil_append]
      refine flat_id fun z hz => ?_
      have hz' := right_mem h' z hz
      have hzo : ovB x z = false := by
        unfold ov at ho'
        rw [List.any_eq_false] at ho'
        have := ho' z hz
        simpa using this
      rw [ovB_false] at hzo
      exact step_id hz'.1 (by omega)
    · rw [if_neg h2]
      show stepC x.f0 x.f1 y ++ cutS (ins x ys) x.f0 x.f1 = y :: ys
      rw [step_id h.1 (by omega), ins_cut hx h.2.2 ho.2]; rfl
def total (l : List S25) : Int := l.foldr (fun x s => (x.f1 - x.f0) + s) 0
theorem ins_total (x : S25) : ∀ l : List S25, total (ins x l) = total l + (x.f1 - x.f0)
  | [] => by simp [ins, total]
  | y :: ys => by
    have ih := ins_total x ys
    simp only [ins]
    split
    · simp only [total, List.foldr_cons]; omega
    · simp only [total, List.foldr_cons] at ih ⊢; omega
theorem total_le : ∀ {l : List S25} {a : Int}, rightAt a l = true → 0 ≤ total l ∧ total l ≤ 65536 * l.length
  | [], _, _ => by simp [total]
  | y :: ys, a, h => by
    rw [rightAt_cons] at h
    have := total_le h.2.2
    have := h.1.a; have := h.1.b; have := h.1.c
    simp only [total, List.foldr_cons, List.length_cons] at *
    omega
theorem ins_len (x : S25) : ∀ m : List S25, (ins x m).length = m.length + 1
  | [] => rfl
  | y :: ys => by simp only [ins]; split <;> simp [ins_len x ys]
theorem add_ok {l : List S25} {x : S25} (h : (add2 l x).2 = 0) : rightB l = true ∧ Good x ∧ l.length < 64 ∧ ov x l = false ∧ add2 l x = (ins x l, 0) := by
  rw [add2_is] at h ⊢
  split at h
  · rename_i hq
    rw [if_pos hq]
    split at h
    · cases h
    · rename_i hb
      have hb' : busy x l = false := by simpa using hb
      have := busy_ov (x := x) hq.1
      rw [if_neg hb]
      exact ⟨hq.1, (good_iff x).1 hq.2.1, hq.2.2, by rw [← this]; exact hb', rfl⟩
  · cases h
theorem add_bad {l : List S25} {x : S25} (h : ¬ (add2 l x).2 = 0) : (add2 l x).1 = [] := by
  rw [add2_is] at h ⊢
  split
  · rename_i hq
    rw [if_pos hq] at h
    split
    · rfl
    · rename_i hb
      rw [if_neg hb] at h; exact absurd rfl h
  · rfl
theorem ins_ov {x b : S25} : ∀ l : List S25, ov b (ins x l) = (ovB b x || ov b l)
  | [] => rfl
  | y :: ys => by
    simp only [ins]
    split
    · rfl
    · show (ovB b y || ov b (ins x ys)) = (ovB b x || (ovB b y || ov b ys))
      rw [ins_ov ys]; cases ovB b y <;> cases ovB b x <;> rfl
theorem ins_comm {a b : S25} (ha : Good a) (hb : Good b) (hab : ovB a b = false) : ∀ {l : List S25} {c : Int}, rightAt c l = true → ov a l = false → ov b l = false → ins b (ins a l) = ins a (ins b l)
  | [], _, _, _, _ => by
    have := ha.b; have := hb.b
    rw [ovB_false] at hab
    simp only [ins]
    by_cases h1 : a.f1 > b.f0
    · rw [if_pos h1, if_neg (by omega)]
    · rw [if_neg h1, if_pos (by omega)]
  | y :: ys, c, h, hoa, hob => by
    rw [rightAt_cons] at h
    have e1 : ov a (y :: ys) = (ovB a y || ov a ys) := rfl
    have e2 : ov b (y :: ys) = (ovB b y || ov b ys) := rfl
    rw [e1, Bool.or_eq_false_iff, ovB_false] at hoa
    rw [e2, Bool.or_eq_false_iff, ovB_false] at hob
    have ih := ins_comm ha hb hab h.2.2 hoa.2 hob.2
    rw [ovB_false] at hab
    have := ha.b; have := hb.b; have := h.1.b
    simp only [ins]
    by_cases h1 : y.f1 > a.f0
    · by_cases h2 : y.f1 > b.f0
      · rw [if_pos h1, if_pos h2]
        simp only [ins, if_pos h1, if_pos h2]
        by_cases h3 : a.f1 > b.f0
        · rw [if_pos h3, if_neg (by omega)]
        · rw [if_neg h3, if_pos (by omega)]
      · rw [if_pos h1, if_neg h2]
        simp only [ins, if_pos h1, if_neg h2]
        rw [if_neg (by omega)]
    · by_cases h2 : y.f1 > b.f0
      · rw [if_neg h1, if_pos h2]
        simp only [ins, if_neg h1, if_pos h2]
        rw [if_neg (by omega)]
      · rw [if_neg h1, if_neg h2]
        simp only [ins, if_neg h1, if_neg h2]
        rw [ih]
end Go.Proofs.Ytpgfhgonkinldaa.Pure
