/- A table by digits: nodes, counted along a row: plain Lean. -/
import Derived.Test.YtabjdjkkpbkpfaaRxQ
namespace Go.Proofs.RxP
set_option linter.unusedVariables false
set_option linter.unusedSimpArgs false
def at_ (L : List (Int × Int)) (i : Nat) : Int × Int := (L[i]?).getD (0, 0)
theorem at_get {L : List (Int × Int)} {i : Nat} (h : i < L.length) : L[i]? = some (at_ L i) := by unfold at_; rw [List.getElem?_eq_getElem h]; rfl
theorem at_take {L : List (Int × Int)} {i : Nat} (h : i < L.length) : L.take (i + 1) = L.take i ++ [at_ L i] := by rw [List.take_add_one, at_get h]; rfl
theorem at_ents {S : Sf} {n i : Nat} (h : i < (ents S n).length) : ∃ p x, p < n ∧ S p = some x ∧ rk S p = i ∧ at_ (ents S n) i = ((p : Int), x) := by
  obtain ⟨p, x, h1, h2, h3, h4⟩ := ents_get (S := S) n i h
  exact ⟨p, x, h1, h2, h3, by unfold at_; rw [h4]; rfl⟩
theorem at_rk {S : Sf} {n p : Nat} {x : Int} (h : S p = some x) (hn : p < n) : at_ (ents S n) (rk S p) = ((p : Int), x) := by unfold at_; rw [ents_at h hn]; rfl
theorem rk_lt_iff {S : Sf} {p q : Nat} {x : Int} (hp : S p = some x) : rk S p < rk S q ↔ p < q := by
  constructor
  · intro h
    rcases Nat.lt_or_ge p q with h1 | h1
    · exact h1
    · have := rk_mono S q (p - q)
      rw [show q + (p - q) = p by omega] at this; omega
  · exact fun h => rk_lt hp h
/-! ## A row with one more, as it comes -/
def insL (L : List (Int × Int)) (a : Nat) (e : Int × Int) (i : Nat) : List (Int × Int) := if i ≤ a then L.take i else L.take a ++ [e] ++ (L.take i).drop a
theorem insL_lo {L : List (Int × Int)} {a : Nat} {e : Int × Int} {i : Nat} (hi : i < a) (hl : i < L.length) : insL L a e (i + 1) = insL L a e i ++ [at_ L i] := by
  unfold insL; rw [if_pos (by omega), if_pos (by omega), at_take hl]
theorem insL_at {L : List (Int × Int)} {a : Nat} {e : Int × Int} (hl : a < L.length) : insL L a e (a + 1) = insL L a e a ++ [e] ++ [at_ L a] := by
  unfold insL; rw [if_neg (by omega), if_pos (Nat.le_refl _), at_take hl, List.drop_append_of_le_length (by rw [List.length_take]; omega), List.drop_eq_nil_of_le (by rw [List.length_take]; omega), List.nil_append]
theorem insL_hi {L : List (Int × Int)} {a : Nat} {e : Int × Int} {i : Nat} (hi : a < i) (hl : i < L.length) : insL L a e (i + 1) = insL L a e i ++ [at_ L i] := by
  unfold insL; rw [if_neg (by omega), if_neg (by omega), at_take hl, List.drop_append_of_le_length (by rw [List.length_take]; omega), List.append_assoc, List.append_assoc, List.append_assoc]
theorem insL_end {L : List (Int × Int)} {a : Nat} {e : Int × Int} (ha : a ≤ L.length) : insL L a e L.length = if a = L.length then L else L.take a ++ [e] ++ L.drop a := by
  unfold insL
  by_cases h : a = L.length
  · rw [if_pos h, if_pos (by omega), List.take_length]
  · rw [if_neg h, if_neg (by omega), List.take_length]
theorem put_list {S : Sf} {q : Nat} (hq : q < 65536) (hn : S q = none) (x : Int) : ents (updS S q (some x)) 65536 = (ents S 65536).take (rk S q) ++ [((q : Int), x)] ++ (ents S 65536).drop (rk S q) := by
  obtain ⟨h1, h2⟩ := ents_put hq hn x
  rw [h2, h1]
  unfold rk
  rw [List.take_left, List.drop_left]
theorem at_side {S : Sf} {q i : Nat} (hn : S q = none) (h : i < rk S 65536) : (i < rk S q → (at_ (ents S 65536) i).1 < q) ∧ (rk S q ≤ i → (q : Int) < (at_ (ents S 65536) i).1) := by
  obtain ⟨p, x, h1, h2, h3, h4⟩ := at_ents (S := S) (n := 65536) h
  rw [h4]
  refine ⟨fun h5 => ?_, fun h5 => ?_⟩
  · have := (rk_lt_iff h2).1 (show rk S p < rk S q by omega)
    show (p : Int) < q; omega
  · show (q : Int) < p
    have h6 : ¬ p < q := fun h7 => by have := rk_lt h2 h7; omega
    have : p ≠ q := fun e => by rw [e, hn] at h2; cases h2
    omega
/-- What dropping tells, of a row. -/
theorem off_list (S : Sf) (n : Int) : (ents S 65536).filter (fun e => decide (e.1 ≠ n)) = ents (offS S n) 65536 := by
  unfold offS
  split
  · rename_i h
    obtain ⟨q, rfl⟩ := Int.eq_ofNat_of_zero_le h.1
    rw [Int.toNat_natCast, ents_off]
  · rename_i h
    rw [List.filter_eq_self]
    intro e he
    obtain ⟨p, h1, h2, h3⟩ := (ents_mem 65536 e).1 he
    have : e.1 ≠ n := by omega
    simp [this]
theorem gt_some {S : Sf} {n : Int} {p : Nat} {x : Int} (h1 : p < 65536) (h2 : S p = some x) (h : (p : Int) = n) : gt S n = some x := by subst h; rw [gt_nat h1, h2]
theorem gt_none {S : Sf} {n : Int} (h : ∀ i, i < rk S 65536 → (at_ (ents S 65536) i).1 ≠ n) : gt S n = none := by
  unfold gt
  split
  · rename_i hr
    cases e : S n.toNat with
    | none => rfl
    | some x =>
      exfalso
      refine h (rk S n.toNat) (rk_lt e (by omega)) ?_
      rw [at_rk e (by omega)]; show ((n.toNat : Nat) : Int) = n; omega
  · rfl
theorem filt_lt {L : List (Int × Int)} {n : Int} {e : Int × Int} (h : e ∈ L) (hn : e.1 = n) : (L.filter (fun e => decide (e.1 ≠ n))).length < L.length := by
  rw [← Nat.not_le]
  intro hle
  have h2 := List.filter_eq_self.1 (List.Sublist.eq_of_length_le List.filter_sublist hle) e h
  simp at h2; exact h2 hn
attribute [local irreducible] ents
theorem off_rk (S : Sf) (n : Int) : (decide (rk (offS S n) 65536 < rk S 65536)) = (gt S n).isSome := by
  cases e : gt S n with
  | none => rw [offS_none e]; simp
  | some x =>
    unfold gt at e
    split at e
    · rename_i hr
      have h : rk (offS S n) 65536 < rk S 65536 := by
        unfold rk
        rw [← off_list]
        exact filt_lt ((ents_mem 65536 ((n.toNat : Int), x)).2 ⟨n.toNat, by omega, e, rfl⟩) (by show ((n.toNat : Nat) : Int) = n; omega)
      simp [h]
    · cases e
end Go.Proofs.RxP
