/- A slice of structs that came in, read as a list; a struct of six cells by value. -/
import Derived.Test.YtpgfhgonkinldaaAx0
import Derived.Deep.Slices
import Derived.Deep.Fields
import Derived.ChangeSame
import Derived.Lib.SmallJoins
namespace Go.Proofs.Ytpgfhgonkinldaa.Open
open Go.ChangeShapes Go.WideShapes Go.Deep Go.Joins Go.RowKit Go.Proofs.Ytpgfhgonkinldaa.A Go.Proofs.YtpgfhgonkinldaaW.PrintWords Go.Proofs.YtpgfhgonkinldaaW.PrintLast Go.Proofs.YtpgfhgonkinldaaW.PrintMore
set_option linter.unusedVariables false
theorem field_at {H : Type} {enc : TypeId × Value → H} {P : Program} {w : World} {base : Nat} {spare : Nat → Bool} {held : Bool} {e : TypeId} {fs : Array Field} {n : Nat} {cs : List Value} {x : DataW H × List MemPlace} (he : P.underlying e = some (.struct fs)) (hone : oneCellFields P fs = true)
    (h : DataW.trod enc P w base spare held n e cs = some x) (hl : cs.length = fs.size) (j : Nat) (f : Field) (hj : fs[j]? = some f) : ∃ (v : Value) (n' : Nat) (y : DataW H × List MemPlace), cs[j]? = some v ∧ DataW.trod enc P w base spare held n' f.type [v] = some y := by
  obtain ⟨ys, m, _, _, _, hyl, hg⟩ := DataW.trod_struct he h
  obtain ⟨ho, hk⟩ := hone_of hone j f hj
  have hjl : j < fs.size := (Array.getElem?_eq_some_iff.1 hj).1
  have hjc : j < cs.length := by omega
  have hjy : j < ys.length := by omega
  have h1 := hg j f hj
  have hd : (cs.drop j).take 1 = [cs[j]] := by rw [List.drop_eq_getElem_cons hjc]; rfl
  rw [ho, hk, hd] at h1
  exact ⟨cs[j], m, ys[j], List.getElem?_eq_getElem hjc, h1.trans (List.getElem?_eq_getElem hjy)⟩
theorem list_of {α : Type} {Q : Nat → α → Prop} : ∀ n : Nat, (∀ i, i < n → ∃ p, Q i p) → ∃ l : List α, l.length = n ∧ ∀ j p, l[j]? = some p → Q j p
  | 0, _ => ⟨[], rfl, fun j p h => by simp at h⟩
  | n + 1, h => by
    obtain ⟨l, hl, hq⟩ := list_of n (fun i hi => h i (by omega))
    obtain ⟨p, hp⟩ := h n (by omega)
    refine ⟨l ++ [p], by simp [hl], fun j q hj => ?_⟩
    by_cases hjn : j < l.length
    · rw [List.getElem?_append_left hjn] at hj; exact hq j q hj
    · rw [List.getElem?_append_right (by omega)] at hj
      have : j - l.length = 0 := by
        rcases Nat.eq_zero_or_pos (j - l.length) with h0 | h0
        · exact h0
        · rw [List.getElem?_eq_none (by simp; omega)] at hj; cases hj
      rw [this] at hj; simp at hj; subst hj
      have : j = n := by omega
      subst this; exact hp
/-- Each number in it is one of its kind. -/
def wf25 (x : S25) : Prop := (Lit.int .i64 x.f0).wf = true ∧ (Lit.int .i64 x.f1).wf = true ∧ (Lit.int .i64 x.f2).wf = true ∧ (Lit.int .i64 x.f3).wf = true ∧ (Lit.int .i64 x.f4).wf = true
section
variable {H : Type} {enc : TypeId × Value → H} {w : World} {base : Nat} {spare : Nat → Bool} {held : Bool}
theorem slice25 {a : Option Addr} {len cap : Nat} {d : DataW H} {p : List MemPlace} (h : DataW.Trod enc Try.prog w base spare held 22 (.slice a len cap) d p) (hs : ∀ b, spare b = true) :
    ∃ l : List S25, len = l.length ∧ Kd.C k25 w a l.length l ∧ l.length ≤ maxLen ∧ l.length ≤ cap ∧ (∀ x ∈ l, wf25 x) := by
  obtain ⟨fuel, hf⟩ := h
  rcases open_slice Try.underlying22 hf with ⟨hcs, _⟩ | ⟨x, len', cap', m, n, D, Pl, hcs, _, hl, hm, hmm, _, hi⟩
  · simp [Value.cells] at hcs
    obtain ⟨rfl, rfl, rfl⟩ := hcs
    exact ⟨[], rfl, ⟨rfl, by simp, fun h => absurd h (by simp)⟩, by simp, by simp, by simp⟩
  · simp [Value.cells] at hcs
    obtain ⟨rfl, rfl, rfl⟩ := hcs
    have hC : Try.prog.cellsOf 25 = 6 := by kernel_rfl
    have key : ∀ i, i < len → ∃ q : S25, wf25 q ∧ ∃ c : List Value, c.length = 6 ∧ k25.K w q c ∧ ∀ j u, c[j]? = some u → w.cell? (x.add (i * 6 + j)) = some u := by
      intro i hlt
      obtain ⟨cs', hc, ht'⟩ := hi i (by rw [hmm]; split <;> omega)
      rw [hC] at hc
      obtain ⟨_, hcl, hat⟩ := World.cells?_some hc
      obtain ⟨v0, n0, y0, c0, g0⟩ := field_at Try.underlying25 (by kernel_rfl) ht' hcl 0 _ rfl
      have b0 : w.cell? (x.add (i * 6 + 0)) = some v0 := by rw [← c0, ← hat 0 (by decide), Go.Deep.add_add]
      obtain ⟨a0, e0, -, w0⟩ := DataW.trod_int Try.underlying3 g0
      obtain rfl := (List.cons.inj e0).1
      obtain ⟨v1, n1, y1, c1, g1⟩ := field_at Try.underlying25 (by kernel_rfl) ht' hcl 1 _ rfl
      have b1 : w.cell? (x.add (i * 6 + 1)) = some v1 := by rw [← c1, ← hat 1 (by decide), Go.Deep.add_add]
      obtain ⟨a1, e1, -, w1⟩ := DataW.trod_int Try.underlying3 g1
      obtain rfl := (List.cons.inj e1).1
      obtain ⟨v2, n2, y2, c2, g2⟩ := field_at Try.underlying25 (by kernel_rfl) ht' hcl 2 _ rfl
      have b2 : w.cell? (x.add (i * 6 + 2)) = some v2 := by rw [← c2, ← hat 2 (by decide), Go.Deep.add_add]
      obtain ⟨a2, e2, -, w2⟩ := DataW.trod_int Try.underlying23 g2
      obtain rfl := (List.cons.inj e2).1
      obtain ⟨v3, n3, y3, c3, g3⟩ := field_at Try.underlying25 (by kernel_rfl) ht' hcl 3 _ rfl
      have b3 : w.cell? (x.add (i * 6 + 3)) = some v3 := by rw [← c3, ← hat 3 (by decide), Go.Deep.add_add]
      obtain ⟨a3, e3, -, w3⟩ := DataW.trod_int Try.underlying3 g3
      obtain rfl := (List.cons.inj e3).1
      obtain ⟨v4, n4, y4, c4, g4⟩ := field_at Try.underlying25 (by kernel_rfl) ht' hcl 4 _ rfl
      have b4 : w.cell? (x.add (i * 6 + 4)) = some v4 := by rw [← c4, ← hat 4 (by decide), Go.Deep.add_add]
      obtain ⟨a4, e4, -, w4⟩ := DataW.trod_int Try.underlying3 g4
      obtain rfl := (List.cons.inj e4).1
      obtain ⟨v5, n5, y5, c5, g5⟩ := field_at Try.underlying25 (by kernel_rfl) ht' hcl 5 _ rfl
      have b5 : w.cell? (x.add (i * 6 + 5)) = some v5 := by rw [← c5, ← hat 5 (by decide), Go.Deep.add_add]
      obtain ⟨a5, e5, -⟩ := DataW.trod_bool Try.underlying4 g5
      obtain rfl := (List.cons.inj e5).1
      refine ⟨⟨a0, a1, a2, a3, a4, a5⟩, ⟨w0, w1, w2, w3, w4⟩, _, ?_, k25_mk w _, ?_⟩
      · rfl
      · intro j u hj
        match j, hj with
        | 0, hj => obtain rfl := Option.some.inj hj; exact b0
        | 1, hj => obtain rfl := Option.some.inj hj; exact b1
        | 2, hj => obtain rfl := Option.some.inj hj; exact b2
        | 3, hj => obtain rfl := Option.some.inj hj; exact b3
        | 4, hj => obtain rfl := Option.some.inj hj; exact b4
        | 5, hj => obtain rfl := Option.some.inj hj; exact b5
        | j + 6, hj => simp at hj
    obtain ⟨l, hln, hq⟩ := list_of len key
    subst hln
    have hmax : l.length ≤ maxLen := by omega
    have hmx : l.length ≤ 9223372036854775807 := Nat.le_trans hmax (by decide)
    refine ⟨l, rfl, ⟨rfl, hmx, fun _ => ⟨x, rfl, fun j p hj => ?_⟩⟩, hmax, hl, fun q hq' => ?_⟩
    · obtain ⟨_, c, h1, h2, h3⟩ := hq j p hj
      exact ⟨c, h1, h2, h3⟩
    · obtain ⟨j, hj⟩ := List.getElem?_of_mem hq'
      exact (hq j q hj).1
theorem agg25 {r : Reach} {b0 : Nat} {v : Value} {d : DataW H} {p : List MemPlace} (hv : Value.okWide Try.prog w r b0 25 v) (h : DataW.Trod enc Try.prog w base spare held 25 v d p) : ∃ x : S25, wf25 x ∧ v = .agg #[.int .i64 x.f0, .int .i64 x.f1, .int .i64 x.f2, .int .i64 x.f3, .int .i64 x.f4, .bool x.f5] := by
  obtain ⟨cs, rfl, hsz⟩ := okWide_struct Try.underlying25 hv
  obtain ⟨fuel, ht'⟩ := h
  have hC : Try.prog.cellsOf 25 = 6 := by kernel_rfl
  have hcl : cs.toList.length = 6 := by simpa using hsz.trans hC
  obtain ⟨v0, n0, y0, c0, g0⟩ := field_at Try.underlying25 (by kernel_rfl) ht' hcl 0 _ rfl
  obtain ⟨a0, e0, -, w0⟩ := DataW.trod_int Try.underlying3 g0
  obtain rfl := (List.cons.inj e0).1
  obtain ⟨v1, n1, y1, c1, g1⟩ := field_at Try.underlying25 (by kernel_rfl) ht' hcl 1 _ rfl
  obtain ⟨a1, e1, -, w1⟩ := DataW.trod_int Try.underlying3 g1
  obtain rfl := (List.cons.inj e1).1
  obtain ⟨v2, n2, y2, c2, g2⟩ := field_at Try.underlying25 (by kernel_rfl) ht' hcl 2 _ rfl
  obtain ⟨a2, e2, -, w2⟩ := DataW.trod_int Try.underlying23 g2
  obtain rfl := (List.cons.inj e2).1
  obtain ⟨v3, n3, y3, c3, g3⟩ := field_at Try.underlying25 (by kernel_rfl) ht' hcl 3 _ rfl
  obtain ⟨a3, e3, -, w3⟩ := DataW.trod_int Try.underlying3 g3
  obtain rfl := (List.cons.inj e3).1
  obtain ⟨v4, n4, y4, c4, g4⟩ := field_at Try.underlying25 (by kernel_rfl) ht' hcl 4 _ rfl
  obtain ⟨a4, e4, -, w4⟩ := DataW.trod_int Try.underlying3 g4
  obtain rfl := (List.cons.inj e4).1
  obtain ⟨v5, n5, y5, c5, g5⟩ := field_at Try.underlying25 (by kernel_rfl) ht' hcl 5 _ rfl
  obtain ⟨a5, e5, -⟩ := DataW.trod_bool Try.underlying4 g5
  obtain rfl := (List.cons.inj e5).1
  refine ⟨⟨a0, a1, a2, a3, a4, a5⟩, ⟨w0, w1, w2, w3, w4⟩, ?_⟩
  obtain ⟨l⟩ := cs
  congr 2
  match l, hcl, c0, c1, c2, c3, c4, c5 with
  | [z0, z1, z2, z3, z4, z5], _, q0, q1, q2, q3, q4, q5 => simp_all [Value.cells]
end
end Go.Proofs.Ytpgfhgonkinldaa.Open
