/- Slices that came in, read as lists. -/
import Derived.Test.YtbcdplhihkacpaaHM
import Derived.Test.YtbcdplhihkacpaaProg
import Derived.Deep.Slices
import Derived.Deep.Fields
import Derived.ChangeSame
import Derived.ChangeSlices
import Derived.Lib.SmallJoins
namespace Go.Proofs.Ytbcdplhihkacpaa.Open
open Go.ChangeShapes Go.WideShapes Go.Deep Go.Joins Go.RowKit Go.Proofs.Ytbcdplhihkacpaa.HL
set_option linter.unusedVariables false
theorem field_at {H : Type} {enc : TypeId × Value → H} {P : Program} {w : World} {base : Nat} {spare : Nat → Bool} {held : Bool} {e : TypeId} {fs : Array Field} {n : Nat} {cs : List Value} {x : DataW H × List MemPlace} (he : P.underlying e = some (.struct fs)) (hone : oneCellFields P fs = true)
    (h : DataW.trod enc P w base spare held n e cs = some x) (hl : cs.length = fs.size) (j : Nat) (f : Field) (hj : fs[j]? = some f) : ∃ (v : Value) (n' : Nat) (y : DataW H × List MemPlace), cs[j]? = some v ∧ DataW.trod enc P w base spare held n' f.type [v] = some y := by
  obtain ⟨ys, m, _, _, _, hyl, hg⟩ := DataW.trod_struct he h
  obtain ⟨ho, hk⟩ := hone_of hone j f hj
  have hjl : j < fs.size := (Array.getElem?_eq_some_iff.1 hj).1
  have hjc : j < cs.length := by omega
  have hjy : j < ys.length := by omega
  have h1 := hg j f hj
  have hd : (cs.drop j).take 1 = [cs[j]] := by rw [List.drop_eq_getElem_cons hjc]; rfl
  rw [ho, hk, hd] at h1
  exact ⟨cs[j], m, ys[j], List.getElem?_eq_getElem hjc, h1.trans (List.getElem?_eq_getElem hjy)⟩
theorem list_of {α : Type} {Q : Nat → α → Prop} : ∀ n : Nat, (∀ i, i < n → ∃ p, Q i p) → ∃ l : List α, l.length = n ∧ ∀ j p, l[j]? = some p → Q j p
  | 0, _ => ⟨[], rfl, fun j p h => by simp at h⟩
  | n + 1, h => by
    obtain ⟨l, hl, hq⟩ := list_of n (fun i hi => h i (by omega))
    obtain ⟨p, hp⟩ := h n (by omega)
    refine ⟨l ++ [p], by simp [hl], fun j q hj => ?_⟩
    by_cases hjn : j < l.length
    · rw [List.getElem?_append_left hjn] at hj; exact hq j q hj
    · rw [List.getElem?_append_right (by omega)] at hj
      have : j - l.length = 0 := by
        rcases Nat.eq_zero_or_pos (j - l.length) with h0 | h0
        · exact h0
        · rw [List.getElem?_eq_none (by simp; omega)] at hj; cases hj
      rw [this] at hj; simp at hj; subst hj
      have : j = n := by omega
      subst this; exact hp
theorem flat_get {α : Type} {k : Nat} {g : α → List Value} (hk : ∀ x, (g x).length = k) (hk0 : 0 < k) : ∀ (l : List α) (j : Nat) (v : Value), (l.flatMap g)[j]? = some v → ∃ x, l[j / k]? = some x ∧ (g x)[j % k]? = some v
  | [], j, v, h => by simp at h
  | x :: l, j, v, h => by
    rw [List.flatMap_cons] at h
    by_cases hj : j < k
    · rw [List.getElem?_append_left (by rw [hk]; exact hj)] at h
      exact ⟨x, by rw [Nat.div_eq_of_lt hj]; rfl, by rw [Nat.mod_eq_of_lt hj]; exact h⟩
    · rw [List.getElem?_append_right (by rw [hk]; omega), hk] at h
      obtain ⟨y, h1, h2⟩ := flat_get hk hk0 l (j - k) v h
      have e1 : j / k = (j - k) / k + 1 := by
        have := Nat.add_div_right (j - k) hk0
        rw [Nat.sub_add_cancel (by omega)] at this; omega
      have e2 : j % k = (j - k) % k := by
        have := Nat.add_mod_right (j - k) k
        rw [Nat.sub_add_cancel (by omega)] at this; exact this
      exact ⟨y, by rw [e1]; exact h1, by rw [e2]; exact h2⟩
section
variable {H : Type} {enc : TypeId × Value → H} {w : World} {base : Nat} {spare : Nat → Bool} {held : Bool}
end
/-- A value of type 30. -/
structure E30 where
  f0 : Int
  f1 : Int
  f2 : Bool
def E30.cells (x : E30) : List Value := [.int .i64 x.f0, .int .u64 x.f1, .bool x.f2]
/-- Each number in it is one of its kind. -/
def wf30 (x : E30) : Prop := (Lit.int .i64 x.f0).wf = true ∧ (Lit.int .u64 x.f1).wf = true
section
variable {H : Type} {enc : TypeId × Value → H} {w : World} {base : Nat} {spare : Nat → Bool} {held : Bool}
theorem slice30 {a : Option Addr} {len cap : Nat} {d : DataW H} {p : List MemPlace} (h : DataW.Trod enc Try.prog w base spare held 22 (.slice a len cap) d p) (hs : ∀ b, spare b = true) :
    ∃ l : List E30, len = l.length ∧ Sl w a (l.flatMap E30.cells) ∧ l.length ≤ maxLen ∧ l.length ≤ cap ∧ (∀ x ∈ l, wf30 x) := by
  obtain ⟨fuel, hf⟩ := h
  rcases open_slice Try.underlying22 hf with ⟨hcs, _⟩ | ⟨x, len', cap', m, n, D, Pl, hcs, _, hl, hm, hmm, _, hi⟩
  · simp [Value.cells] at hcs
    obtain ⟨rfl, rfl, rfl⟩ := hcs
    exact ⟨[], rfl, fun j v hj => by simp at hj, by simp, by simp, by simp⟩
  · simp [Value.cells] at hcs
    obtain ⟨rfl, rfl, rfl⟩ := hcs
    have hC : Try.prog.cellsOf 30 = 3 := by kernel_rfl
    have key : ∀ i, i < len → ∃ q : E30, wf30 q ∧ ∀ j u, q.cells[j]? = some u → w.cell? (x.add (i * 3 + j)) = some u := by
      intro i hlt
      obtain ⟨cs', hc, ht'⟩ := hi i (by rw [hmm]; split <;> omega)
      rw [hC] at hc
      obtain ⟨_, hcl, hat⟩ := World.cells?_some hc
      obtain ⟨v0, n0, y0, c0, g0⟩ := field_at Try.underlying30 (by kernel_rfl) ht' hcl 0 _ rfl
      have b0 : w.cell? (x.add (i * 3 + 0)) = some v0 := by rw [← c0, ← hat 0 (by decide), Go.Deep.add_add]
      obtain ⟨a0, e0, -, w0⟩ := DataW.trod_int Try.underlying3 g0
      obtain rfl := (List.cons.inj e0).1
      obtain ⟨v1, n1, y1, c1, g1⟩ := field_at Try.underlying30 (by kernel_rfl) ht' hcl 1 _ rfl
      have b1 : w.cell? (x.add (i * 3 + 1)) = some v1 := by rw [← c1, ← hat 1 (by decide), Go.Deep.add_add]
      obtain ⟨a1, e1, -, w1⟩ := DataW.trod_int Try.underlying28 g1
      obtain rfl := (List.cons.inj e1).1
      obtain ⟨v2, n2, y2, c2, g2⟩ := field_at Try.underlying30 (by kernel_rfl) ht' hcl 2 _ rfl
      have b2 : w.cell? (x.add (i * 3 + 2)) = some v2 := by rw [← c2, ← hat 2 (by decide), Go.Deep.add_add]
      obtain ⟨a2, e2, -⟩ := DataW.trod_bool Try.underlying4 g2
      obtain rfl := (List.cons.inj e2).1
      refine ⟨⟨a0, a1, a2⟩, ⟨w0, w1⟩, ?_⟩
      intro j u hj
      match j, hj with
      | 0, hj => obtain rfl := Option.some.inj hj; exact b0
      | 1, hj => obtain rfl := Option.some.inj hj; exact b1
      | 2, hj => obtain rfl := Option.some.inj hj; exact b2
      | j + 3, hj => simp [E30.cells] at hj
    obtain ⟨l, hln, hq⟩ := list_of len key
    subst hln
    refine ⟨l, rfl, fun j v hj => ?_, by omega, hl, fun q hq' => ?_⟩
    · obtain ⟨q, h1, h2⟩ := flat_get (k := 3) (fun x => rfl) (by decide) l j v hj
      refine ⟨x, rfl, ?_⟩
      have := (hq _ q h1).2 _ v h2
      rwa [show j / 3 * 3 + j % 3 = j by omega] at this
    · obtain ⟨j, hj⟩ := List.getElem?_of_mem hq'
      exact (hq j q hj).1
end
theorem at30_0 (l : List E30) (i : Nat) (h : i < l.length) : (l.flatMap E30.cells)[i * 3 + 0]? = some (.int .i64 (l[i]'h).f0) := by
  induction l generalizing i with
  | nil => cases h
  | cons x l ih =>
    rw [List.flatMap_cons]
    cases i with
    | zero => rfl
    | succ i =>
      rw [List.getElem?_append_right (by simp [E30.cells]; omega)]
      have := ih i (by simpa using h)
      simp only [E30.cells, List.length_cons, List.length_nil] at this ⊢
      rw [show (i + 1) * 3 + 0 - (0 + 1 + 1 + 1) = i * 3 + 0 by omega]
      exact this
theorem at30_1 (l : List E30) (i : Nat) (h : i < l.length) : (l.flatMap E30.cells)[i * 3 + 1]? = some (.int .u64 (l[i]'h).f1) := by
  induction l generalizing i with
  | nil => cases h
  | cons x l ih =>
    rw [List.flatMap_cons]
    cases i with
    | zero => rfl
    | succ i =>
      rw [List.getElem?_append_right (by simp [E30.cells]; omega)]
      have := ih i (by simpa using h)
      simp only [E30.cells, List.length_cons, List.length_nil] at this ⊢
      rw [show (i + 1) * 3 + 1 - (0 + 1 + 1 + 1) = i * 3 + 1 by omega]
      exact this
theorem at30_2 (l : List E30) (i : Nat) (h : i < l.length) : (l.flatMap E30.cells)[i * 3 + 2]? = some (.bool (l[i]'h).f2) := by
  induction l generalizing i with
  | nil => cases h
  | cons x l ih =>
    rw [List.flatMap_cons]
    cases i with
    | zero => rfl
    | succ i =>
      rw [List.getElem?_append_right (by simp [E30.cells]; omega)]
      have := ih i (by simpa using h)
      simp only [E30.cells, List.length_cons, List.length_nil] at this ⊢
      rw [show (i + 1) * 3 + 2 - (0 + 1 + 1 + 1) = i * 3 + 2 by omega]
      exact this
end Go.Proofs.Ytbcdplhihkacpaa.Open
