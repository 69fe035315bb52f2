/- Slices that came in, read as lists. -/
import Derived.Test.YthjllhaebanplaaHM
import Derived.Test.YthjllhaebanplaaProg
import Derived.Deep.Slices
import Derived.Deep.Fields
import Derived.ChangeSame
import Derived.ChangeSlices
import Derived.Lib.SmallJoins
namespace Go.Proofs.Ythjllhaebanplaa.Open
open Go.ChangeShapes Go.WideShapes Go.Deep Go.Joins Go.RowKit Go.Proofs.Ythjllhaebanplaa.HL
set_option linter.unusedVariables false
theorem field_at {H : Type} {enc : TypeId × Value → H} {P : Program} {w : World} {base : Nat} {spare : Nat → Bool} {held : Bool} {e : TypeId} {fs : Array Field} {n : Nat} {cs : List Value} {x : DataW H × List MemPlace} (he : P.underlying e = some (.struct fs)) (hone : oneCellFields P fs = true)
    (h : DataW.trod enc P w base spare held n e cs = some x) (hl : cs.length = fs.size) (j : Nat) (f : Field) (hj : fs[j]? = some f) : ∃ (v : Value) (n' : Nat) (y : DataW H × List MemPlace), cs[j]? = some v ∧ DataW.trod enc P w base spare held n' f.type [v] = some y := by
  obtain ⟨ys, m, _, _, _, hyl, hg⟩ := DataW.trod_struct he h
  obtain ⟨ho, hk⟩ := hone_of hone j f hj
  have hjl : j < fs.size := (Array.getElem?_eq_some_iff.1 hj).1
  have hjc : j < cs.length := by omega
  have hjy : j < ys.length := by omega
  have h1 := hg j f hj
  have hd : (cs.drop j).take 1 = [cs[j]] := by rw [List.drop_eq_getElem_cons hjc]; rfl
  rw [ho, hk, hd] at h1
  exact ⟨cs[j], m, ys[j], List.getElem?_eq_getElem hjc, h1.trans (List.getElem?_eq_getElem hjy)⟩
theorem list_of {α : Type} {Q : Nat → α → Prop} : ∀ n : Nat, (∀ i, i < n → ∃ p, Q i p) → ∃ l : List α, l.length = n ∧ ∀ j p, l[j]? = some p → Q j p
  | 0, _ => ⟨[], rfl, fun j p h => by simp at h⟩
  | n + 1, h => by
    obtain ⟨l, hl, hq⟩ := list_of n (fun i hi => h i (by omega))
    obtain ⟨p, hp⟩ := h n (by omega)
    refine ⟨l ++ [p], by simp [hl], fun j q hj => ?_⟩
    by_cases hjn : j < l.length
    · rw [List.getElem?_append_left hjn] at hj; exact hq j q hj
    · rw [List.getElem?_append_right (by omega)] at hj
      have : j - l.length = 0 := by
        rcases Nat.eq_zero_or_pos (j - l.length) with h0 | h0
        · exact h0
        · rw [List.getElem?_eq_none (by simp; omega)] at hj; cases hj
      rw [this] at hj; simp at hj; subst hj
      have : j = n := by omega
      subst this; exact hp
theorem flat_get {α : Type} {k : Nat} {g : α → List Value} (hk : ∀ x, (g x).length = k) (hk0 : 0 < k) : ∀ (l : List α) (j : Nat) (v : Value), (l.flatMap g)[j]? = some v → ∃ x, l[j / k]? = some x ∧ (g x)[j % k]? = some v
  | [], j, v, h => by simp at h
  | x :: l, j, v, h => by
    rw [List.flatMap_cons] at h
    by_cases hj : j < k
    · rw [List.getElem?_append_left (by rw [hk]; exact hj)] at h
      exact ⟨x, by rw [Nat.div_eq_of_lt hj]; rfl, by rw [Nat.mod_eq_of_lt hj]; exact h⟩
    · rw [List.getElem?_append_right (by rw [hk]; omega), hk] at h
      obtain ⟨y, h1, h2⟩ := flat_get hk hk0 l (j - k) v h
      have e1 : j / k = (j - k) / k + 1 := by
        have := Nat.add_div_right (j - k) hk0
        rw [Nat.sub_add_cancel (by omega)] at this; omega
      have e2 : j % k = (j - k) % k := by
        have := Nat.add_mod_right (j - k) k
        rw [Nat.sub_add_cancel (by omega)] at this; exact this
      exact ⟨y, by rw [e1]; exact h1, by rw [e2]; exact h2⟩
section
variable {H : Type} {enc : TypeId × Value → H} {w : World} {base : Nat} {spare : Nat → Bool} {held : Bool}
theorem ints22 {a : Option Addr} {len cap : Nat} {d : DataW H} {p : List MemPlace} (h : DataW.Trod enc Try.prog w base spare held 22 (.slice a len cap) d p) (hs : ∀ b, spare b = true) :
    ∃ l : List Int, len = l.length ∧ Sl w a (l.map (Value.int .i64)) ∧ l.length ≤ maxLen ∧ l.length ≤ cap ∧ (∀ x ∈ l, (Lit.int .i64 x).wf = true) := by
  obtain ⟨fuel, hf⟩ := h
  rcases open_ints Try.underlying22 Try.underlying3 (by kernel_rfl) hf with ⟨hcs, _⟩ | ⟨x, len', cap', zs, hcs, _, hl, hm, hz, _, hc, hwf⟩
  · simp [Value.cells] at hcs
    obtain ⟨rfl, rfl, rfl⟩ := hcs
    exact ⟨[], rfl, fun j v hj => by simp at hj, by simp, by simp, by simp⟩
  · simp [Value.cells] at hcs
    obtain ⟨rfl, rfl, rfl⟩ := hcs
    rw [hs, if_pos rfl] at hz
    have e : (zs.take len).length = len := by rw [List.length_take]; omega
    refine ⟨zs.take len, e.symm, fun j v hj => ?_, by rw [e]; omega, by rw [e]; omega, fun x hx => hwf x (List.mem_of_mem_take hx)⟩
    rw [List.getElem?_map, List.getElem?_take] at hj
    split at hj
    · rename_i hjl
      have hjz : j < zs.length := by omega
      rw [List.getElem?_eq_getElem hjz] at hj
      simp only [Option.map_some, Option.some.injEq] at hj
      subst hj
      refine ⟨x, rfl, ?_⟩
      rw [hc j hjz, List.getD_eq_getElem?_getD, List.getElem?_eq_getElem hjz]; rfl
    · cases hj
end
end Go.Proofs.Ythjllhaebanplaa.Open
