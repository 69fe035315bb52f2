/- The reference's cutting, in plain lists. -/
import Derived.Test.YtpgfhgonkinldaaLib
import Derived.Test.YtpgfhgonkinldaaAx13
namespace Go.Proofs.Ytpgfhgonkinldaa.Pure
open Go.RowKit Go.Proofs.Ytpgfhgonkinldaa.A Go.Proofs.YtpgfhgonkinldaaW.PrintWords Go.Proofs.YtpgfhgonkinldaaW.PrintLast Go.Proofs.YtpgfhgonkinldaaW.PrintMore
set_option linter.unusedVariables false
set_option linter.unusedSimpArgs false
/-- The reference's part. -/
def rpart (x : S25) (a b : Int) : S25 := ⟨a, b, x.f2, x.f3, if x.f2 = 2 then wrap64 (wrap64 (x.f4 + a) - x.f0) else x.f4, x.f5⟩
theorem rpart_is (x : S25) (a b : Int) : rpart x a b = partS x a b := by
  unfold rpart partS
  apply ext25 <;> simp only
  by_cases h2 : x.f2 = 2
  · rw [if_pos h2, if_pos h2]; unfold wrap64; omega
  · rw [if_neg h2, if_neg h2]
theorem rpart_f (x : S25) (a b : Int) : millpondref07_part.f x.f0 x.f1 x.f2 x.f3 x.f4 x.f5 a b = some ((rpart x a b).f0, (rpart x a b).f1, (rpart x a b).f2, (rpart x a b).f3, (rpart x a b).f4, (rpart x a b).f5) := by
  unfold millpondref07_part.f rpart
  by_cases h2 : x.f2 = 2
  · rw [if_pos h2, if_pos h2]
  · rw [if_neg h2, if_neg h2]
def rstep (p q : Int) (x : S25) : List S25 := if q ≤ p then [x] else if x.f1 ≤ p then [x] else if x.f0 ≥ q then [x] else (if x.f0 < p then [rpart x x.f0 p] else []) ++ (if x.f1 > q then [rpart x q x.f1] else [])
theorem rstep_is {x : S25} (h : Good x) (p q : Int) : rstep p q x = stepC p q x := by
  have hb := h.b
  unfold rstep stepC keepL mn mx
  by_cases c0 : q ≤ p
  · rw [if_pos c0, if_pos c0, if_pos hb, part_self h]
  · rw [if_neg c0, if_neg (show ¬ p ≥ q by omega)]
    by_cases c1 : x.f1 ≤ p
    · rw [if_pos c1, if_neg (by omega : ¬ p < x.f1), if_pos hb, part_self h, if_neg (by split <;> omega), List.append_nil]
    · rw [if_neg c1, if_pos (by omega : p < x.f1)]
      by_cases c2 : x.f0 ≥ q
      · rw [if_pos c2, if_neg (show ¬ x.f0 < p by omega), if_neg (show ¬ x.f0 < q by omega), if_pos hb, part_self h, List.nil_append]
      · rw [if_neg c2, if_pos (by omega : x.f0 < q)]
        rw [rpart_is, rpart_is]
theorem rstep_len (p q : Int) (x : S25) : (rstep p q x).length ≤ 2 := by
  unfold rstep
  split
  · simp
  · split
    · simp
    · split
      · simp
      · split <;> split <;> simp
theorem rcut_l (l : List S25) (p q : Int) (hl : l.length ≤ 1000) (d : Nat) : ∀ (k : Nat) (out : List S25) (i : Int), 0 ≤ i → i ≤ l.length → (l.length : Int) - i = d → d < k → out.length ≤ 2 * i →
    millpondref07_Cut.l0 k l p q out i = some (out ++ (l.drop i.toNat).flatMap (rstep p q)) := by
  induction d with
  | zero =>
    intro k out i h0 h1 hd hk ho
    obtain ⟨k, rfl⟩ : ∃ m, k = m + 1 := ⟨k - 1, by omega⟩
    simp only [millpondref07_Cut.l0]
    rw [if_neg (by omega), List.drop_of_length_le (by omega)]
    simp
  | succ d ih =>
    intro k out i h0 h1 hd hk ho
    obtain ⟨k, rfl⟩ : ∃ m, k = m + 1 := ⟨k - 1, by omega⟩
    have hw : wrap64 (i + 1) = i + 1 := by unfold wrap64; omega
    simp only [millpondref07_Cut.l0, eta25]
    rw [if_pos (by omega), if_pos h0, rd_drop l i h0 (by omega), hw]
    generalize rd_T25 l i = y
    have hnext : ∀ t : List S25, t = rstep p q y → millpondref07_Cut.l0 k l p q (out ++ t) (i + 1) = some (out ++ (y :: l.drop (i + 1).toNat).flatMap (rstep p q)) := by
      intro t ht
      have := rstep_len p q y
      rw [ih k (out ++ t) (i + 1) (by omega) (by omega) (by omega) (by omega) (by rw [List.length_append, ht]; omega), List.flatMap_cons, ht, List.append_assoc]
    by_cases c0 : q ≤ p
    · rw [if_pos c0, if_pos (by omega)]; exact hnext _ (by simp [rstep, c0])
    · rw [if_neg c0]
      by_cases c1 : y.f1 ≤ p
      · rw [if_pos c1, if_pos (by omega)]; exact hnext _ (by simp [rstep, c0, c1])
      · rw [if_neg c1]
        by_cases c2 : y.f0 ≥ q
        · rw [if_pos c2, if_pos (by omega)]; exact hnext _ (by simp [rstep, c0, c1, c2])
        · rw [if_neg c2, rpart_f, rpart_f]
          simp only [Option.bind_some, eta25]
          by_cases c3 : y.f0 < p
          · rw [if_pos c3, if_pos (by omega)]
            by_cases c4 : y.f1 > q
            · rw [if_pos c4, if_pos (by simp; omega), List.append_assoc]
              exact hnext _ (by simp [rstep, c0, c1, c2, c3, c4])
            · rw [if_neg c4]
              exact hnext _ (by simp [rstep, c0, c1, c2, c3, c4])
          · rw [if_neg c3]
            by_cases c4 : y.f1 > q
            · rw [if_pos c4, if_pos (by omega)]
              exact hnext _ (by simp [rstep, c0, c1, c2, c3, c4])
            · rw [if_neg c4]
              have := hnext [] (by simp [rstep, c0, c1, c2, c3, c4])
              simpa using this
theorem rcut_is (l : List S25) (p q : Int) (hl : l.length ≤ 1000) (k : Nat) (hk : l.length < k) : millpondref07_Cut.f k l p q = some (if rightB l = true then cutS l p q else []) := by
  unfold millpondref07_Cut.f
  rw [rright_is l (by omega) k hk, Option.bind_some]
  cases hr : rightB l
  · simp
  · rw [if_pos rfl, if_pos rfl, rcut_l l p q hl l.length k [] 0 (by omega) (by omega) (by omega) hk (by simp)]
    simp only [Int.toNat_zero, List.drop_zero, List.nil_append, cutS]
    congr 1
    have hm : ∀ x ∈ l, rstep p q x = stepC p q x := fun x hx => rstep_is (right_mem hr x hx).1 p q
    clear hr hk hl
    induction l with
    | nil => rfl
    | cons x xs ih => rw [List.flatMap_cons, List.flatMap_cons, hm x (List.mem_cons_self ..), ih (fun y hy => hm y (List.mem_cons_of_mem _ hy))]
end Go.Proofs.Ytpgfhgonkinldaa.Pure
