/- The reference's adding and finding, in plain lists. -/
import Derived.Test.YtpgfhgonkinldaaLib
import Derived.Test.YtpgfhgonkinldaaAx10
namespace Go.Proofs.Ytpgfhgonkinldaa.Pure
open Go.RowKit Go.Proofs.Ytpgfhgonkinldaa.A Go.Proofs.YtpgfhgonkinldaaW.PrintWords Go.Proofs.YtpgfhgonkinldaaW.PrintLast Go.Proofs.YtpgfhgonkinldaaW.PrintMore
set_option linter.unusedVariables false
set_option linter.unusedSimpArgs false
theorem w1 {i : Int} {n : Nat} (h0 : 0 ≤ i) (h1 : i < n) (hn : n < 9223372036854775807) : wrap64 (i + 1) = i + 1 := by unfold wrap64; omega
theorem rfind_l (l : List S25) (p : Int) (hl : l.length < 9223372036854775807) (hr : rightB l = true) (d : Nat) : ∀ (k : Nat) (i : Int), 0 ≤ i → i ≤ l.length → (l.length : Int) - i = d → d + l.length + 1 < k → millpondref07_Find.l0 k l p i = some (tell ((l.drop i.toNat).find? (inB p))) := by
  induction d with
  | zero =>
    intro k i h0 h1 hd hk
    obtain ⟨k, rfl⟩ : ∃ m, k = m + 1 := ⟨k - 1, by omega⟩
    simp only [millpondref07_Find.l0]
    rw [if_neg (by omega), List.drop_of_length_le (by omega)]; rfl
  | succ d ih =>
    intro k i h0 h1 hd hk
    obtain ⟨k, rfl⟩ : ∃ m, k = m + 1 := ⟨k - 1, by omega⟩
    have hw : wrap64 (i + 1) = i + 1 := by unfold wrap64; omega
    simp only [millpondref07_Find.l0]
    rw [if_pos (by omega), rright_is l (by omega) k (by omega), Option.bind_some, if_pos hr, if_pos h0, rd_drop l i h0 (by omega), hw]
    have hnext := ih k (i + 1) (by omega) (by omega) (by omega) (by omega)
    by_cases h2 : p ≥ (rd_T25 l i).f0
    · rw [if_pos h2]
      by_cases h3 : p < (rd_T25 l i).f1
      · rw [if_pos h3, List.find?_cons_of_pos ((inB_iff p _).2 ⟨by omega, h3⟩)]; rfl
      · rw [if_neg h3, List.find?_cons_of_neg (by rw [inB_iff]; omega), hnext]
    · rw [if_neg h2, List.find?_cons_of_neg (by rw [inB_iff]; omega), hnext]
theorem rfind_is (l : List S25) (p : Int) (hl : l.length < 9223372036854775807) (k : Nat) (hk : 2 * l.length + 1 < k) : millpondref07_Find.f k l p = some (find7 l p) := by
  rw [find7_is]
  unfold millpondref07_Find.f
  cases hr : rightB l
  · rw [if_neg (by simp)]
    obtain ⟨k, rfl⟩ : ∃ m, k = m + 1 := ⟨k - 1, by omega⟩
    simp only [millpondref07_Find.l0]
    by_cases h0 : (0 : Int) < l.length
    · rw [if_pos h0, rright_is l (by omega) k (by omega), Option.bind_some, hr, if_neg (by simp)]; rfl
    · rw [if_neg h0]; rfl
  · rw [if_pos rfl]
    exact rfind_l l p hl hr l.length k 0 (by omega) (by omega) (by omega) (by omega)
def ins2 (x : S25) : List S25 → List S25
  | [] => [x]
  | y :: ys => if y.f0 > x.f0 then x :: y :: ys else y :: ins2 x ys
theorem radd_l (l : List S25) (x : S25) (hl : l.length ≤ 100) (d : Nat) : ∀ (k : Nat) (out : List S25) (put : Bool) (i : Int), 0 ≤ i → i ≤ l.length → (l.length : Int) - i = d → d < k → out.length ≤ i + (if put = true then 1 else 0) →
    millpondref07_Add.l0 k l out put i x.f0 x.f1 x.f2 x.f3 x.f4 x.f5 = some (if ov x (l.drop i.toNat) = true then ([], 4) else (out ++ (if put = true then l.drop i.toNat else ins2 x (l.drop i.toNat)), 0)) := by
  induction d with
  | zero =>
    intro k out put i h0 h1 hd hk ho
    obtain ⟨k, rfl⟩ : ∃ m, k = m + 1 := ⟨k - 1, by omega⟩
    simp only [millpondref07_Add.l0]
    rw [if_neg (by omega), List.drop_of_length_le (by omega)]
    cases put
    · rw [if_neg (by simp), if_pos (by omega)]; rfl
    · rw [if_pos rfl]; simp [ov]
  | succ d ih =>
    intro k out put i h0 h1 hd hk ho
    obtain ⟨k, rfl⟩ : ∃ m, k = m + 1 := ⟨k - 1, by omega⟩
    have hw : wrap64 (i + 1) = i + 1 := by unfold wrap64; omega
    simp only [millpondref07_Add.l0, eta25]
    rw [if_pos (by omega), if_pos h0, rd_drop l i h0 (by omega), hw]
    generalize hy : rd_T25 l i = y
    have hsmall : out.length ≤ 2000 := by split at ho <;> omega
    have n1 := ih k (out ++ [y]) put (i + 1) (by omega) (by omega) (by omega) (by omega) (by simp only [List.length_append, List.length_cons, List.length_nil]; omega)
    have hov : ov x (y :: l.drop (i + 1).toNat) = (ovB x y || ov x (l.drop (i + 1).toNat)) := rfl
    by_cases a1 : y.f0 < x.f1
    · rw [if_pos a1]
      by_cases a2 : x.f0 < y.f1
      · rw [if_pos a2]
        have : ovB x y = true := by simp [ovB, a1, a2]
        rw [hov, this, Bool.true_or, if_pos rfl]
      · rw [if_neg a2]
        have : ovB x y = false := by simp [ovB, a1, a2]
        rw [hov, this, Bool.false_or]
        cases put
        · rw [if_neg (by simp)]
          by_cases a3 : y.f0 > x.f0
          · have n2 := ih k (out ++ [x] ++ [y]) true (i + 1) (by omega) (by omega) (by omega) (by omega) (by simp only [List.length_append, List.length_cons, List.length_nil]; simp at ho ⊢; omega)
            rw [if_pos a3, if_pos (by omega), Option.bind_some, if_pos (by simp only [List.length_append, List.length_cons, List.length_nil]; omega), n2]
            simp only [ins2, if_pos a3]
            simp
          · rw [if_neg a3, if_pos (by omega), n1]
            simp only [ins2, if_neg a3]
            simp
        · rw [if_pos rfl, if_pos (by omega), n1]
          simp
    · rw [if_neg a1]
      have : ovB x y = false := by simp [ovB, a1]
      rw [hov, this, Bool.false_or]
      cases put
      · rw [if_neg (by simp)]
        by_cases a3 : y.f0 > x.f0
        · have n2 := ih k (out ++ [x] ++ [y]) true (i + 1) (by omega) (by omega) (by omega) (by omega) (by simp only [List.length_append, List.length_cons, List.length_nil]; simp at ho ⊢; omega)
          rw [if_pos a3, if_pos (by omega), Option.bind_some, if_pos (by simp only [List.length_append, List.length_cons, List.length_nil]; omega), n2]
          simp only [ins2, if_pos a3]
          simp
        · rw [if_neg a3, if_pos (by omega), n1]
          simp only [ins2, if_neg a3]
          simp
      · rw [if_pos rfl, if_pos (by omega), n1]
        simp
theorem ins2_ins {x : S25} (hx : Good x) : ∀ {l : List S25} {a : Int}, rightAt a l = true → ov x l = false → ins2 x l = ins x l
  | [], _, _, _ => rfl
  | y :: ys, a, h, ho => by
    rw [rightAt_cons] at h
    have hov : ov x (y :: ys) = (ovB x y || ov x ys) := rfl
    rw [hov, Bool.or_eq_false_iff] at ho
    have h1 := ho.1
    simp only [ovB, Bool.and_eq_false_iff, decide_eq_false_iff_not] at h1
    simp only [ins, ins2]
    have := hx.b
    have := h.1.b
    by_cases h2 : y.f1 > x.f0
    · rw [if_pos h2, if_pos (by omega)]
    · rw [if_neg h2, if_neg (by omega), ins2_ins hx h.2.2 ho.2]
theorem radd_is (l : List S25) (x : S25) (hl : l.length ≤ 100) (k : Nat) (hk : l.length < k) : millpondref07_Add.f k l x.f0 x.f1 x.f2 x.f3 x.f4 x.f5 = some (add2 l x) := by
  unfold millpondref07_Add.f
  rw [add2_is, rright_is l (by omega) k hk, Option.bind_some, rvalid_is]
  cases hr : rightB l
  · simp
  · cases hv : validB x
    · simp
    · rw [if_pos rfl, Option.bind_some, if_pos rfl]
      by_cases hlen : l.length < 64
      · rw [if_neg (by omega), if_pos ⟨rfl, rfl, hlen⟩, radd_l l x hl l.length k [] false 0 (by omega) (by omega) (by omega) hk (by simp)]
        have hg := (good_iff x).1 hv
        rw [busy_ov hr]
        simp only [Int.toNat_zero, List.drop_zero, List.nil_append]
        cases ho : ov x l
        · rw [if_neg (by simp), if_neg (by simp), if_neg (by simp), ins2_ins hg hr ho]
        · rw [if_pos rfl, if_pos rfl]
      · rw [if_pos (by omega), if_neg (fun h => hlen h.2.2)]
end Go.Proofs.Ytpgfhgonkinldaa.Pure
