/- Slices that came in, read as lists. -/
import Derived.Test.YtabjdjkkpbkpfaaHM
import Derived.Test.YtabjdjkkpbkpfaaProg
import Derived.Deep.Slices
import Derived.Deep.Fields
import Derived.ChangeSame
import Derived.ChangeSlices
import Derived.Lib.SmallJoins
namespace Go.Proofs.Ytabjdjkkpbkpfaa.Open
open Go.ChangeShapes Go.WideShapes Go.Deep Go.Joins Go.RowKit Go.Proofs.Ytabjdjkkpbkpfaa.HL
set_option linter.unusedVariables false
theorem field_at {H : Type} {enc : TypeId × Value → H} {P : Program} {w : World} {base : Nat} {spare : Nat → Bool} {held : Bool} {e : TypeId} {fs : Array Field} {n : Nat} {cs : List Value} {x : DataW H × List MemPlace} (he : P.underlying e = some (.struct fs)) (hone : oneCellFields P fs = true)
    (h : DataW.trod enc P w base spare held n e cs = some x) (hl : cs.length = fs.size) (j : Nat) (f : Field) (hj : fs[j]? = some f) : ∃ (v : Value) (n' : Nat) (y : DataW H × List MemPlace), cs[j]? = some v ∧ DataW.trod enc P w base spare held n' f.type [v] = some y := by
  obtain ⟨ys, m, _, _, _, hyl, hg⟩ := DataW.trod_struct he h
  obtain ⟨ho, hk⟩ := hone_of hone j f hj
  have hjl : j < fs.size := (Array.getElem?_eq_some_iff.1 hj).1
  have hjc : j < cs.length := by omega
  have hjy : j < ys.length := by omega
  have h1 := hg j f hj
  have hd : (cs.drop j).take 1 = [cs[j]] := by rw [List.drop_eq_getElem_cons hjc]; rfl
  rw [ho, hk, hd] at h1
  exact ⟨cs[j], m, ys[j], List.getElem?_eq_getElem hjc, h1.trans (List.getElem?_eq_getElem hjy)⟩
theorem list_of {α : Type} {Q : Nat → α → Prop} : ∀ n : Nat, (∀ i, i < n → ∃ p, Q i p) → ∃ l : List α, l.length = n ∧ ∀ j p, l[j]? = some p → Q j p
  | 0, _ => ⟨[], rfl, fun j p h => by simp at h⟩
  | n + 1, h => by
    obtain ⟨l, hl, hq⟩ := list_of n (fun i hi => h i (by omega))
    obtain ⟨p, hp⟩ := h n (by omega)
    refine ⟨l ++ [p], by simp [hl], fun j q hj => ?_⟩
    by_cases hjn : j < l.length
    · rw [List.getElem?_append_left hjn] at hj; exact hq j q hj
    · rw [List.getElem?_append_right (by omega)] at hj
      have : j - l.length = 0 := by
        rcases Nat.eq_zero_or_pos (j - l.length) with h0 | h0
        · exact h0
        · rw [List.getElem?_eq_none (by simp; omega)] at hj; cases hj
      rw [this] at hj; simp at hj; subst hj
      have : j = n := by omega
      subst this; exact hp
theorem flat_get {α : Type} {k : Nat} {g : α → List Value} (hk : ∀ x, (g x).length = k) (hk0 : 0 < k) : ∀ (l : List α) (j : Nat) (v : Value), (l.flatMap g)[j]? = some v → ∃ x, l[j / k]? = some x ∧ (g x)[j % k]? = some v
  | [], j, v, h => by simp at h
  | x :: l, j, v, h => by
    rw [List.flatMap_cons] at h
    by_cases hj : j < k
    · rw [List.getElem?_append_left (by rw [hk]; exact hj)] at h
      exact ⟨x, by rw [Nat.div_eq_of_lt hj]; rfl, by rw [Nat.mod_eq_of_lt hj]; exact h⟩
    · rw [List.getElem?_append_right (by rw [hk]; omega), hk] at h
      obtain ⟨y, h1, h2⟩ := flat_get hk hk0 l (j - k) v h
      have e1 : j / k = (j - k) / k + 1 := by
        have := Nat.add_div_right (j - k) hk0
        rw [Nat.sub_add_cancel (by omega)] at this; omega
      have e2 : j % k = (j - k) % k := by
        have := Nat.add_mod_right (j - k) k
        rw [Nat.sub_add_cancel (by omega)] at this; exact this
      exact ⟨y, by rw [e1]; exact h1, by rw [e2]; exact h2⟩
/-- A value of type 32. -/
structure E32 where
  f0 : Int
  f1 : Int
  f2 : Int
  f3 : Int
  f4 : Int
  f5 : Int
  f6 : Bool
  f7 : Int
  f8 : Int
  f9 : Bool
  f10 : Bool
  f11 : Int
  f12 : Int
def E32.cells (x : E32) : List Value := [.int .i64 x.f0, .int .i64 x.f1, .int .i64 x.f2, .int .i64 x.f3, .int .i64 x.f4, .int .i64 x.f5, .bool x.f6, .int .i64 x.f7, .int .i64 x.f8, .bool x.f9, .bool x.f10, .int .i64 x.f11, .int .i64 x.f12]
def wf32 (x : E32) : Prop := (Lit.int .i64 x.f0).wf = true ∧ (Lit.int .i64 x.f1).wf = true ∧ (Lit.int .i64 x.f2).wf = true ∧ (Lit.int .i64 x.f3).wf = true ∧ (Lit.int .i64 x.f4).wf = true ∧ (Lit.int .i64 x.f5).wf = true ∧ (Lit.int .i64 x.f7).wf = true ∧ (Lit.int .i64 x.f8).wf = true ∧ (Lit.int .i64 x.f11).wf = true ∧ (Lit.int .i64 x.f12).wf = true
section
variable {H : Type} {enc : TypeId × Value → H} {w : World} {base : Nat} {spare : Nat → Bool} {held : Bool}
theorem field_off {P : Program} {e : TypeId} {fs : Array Field} {n : Nat} {cs : List Value} {x : DataW H × List MemPlace} (he : P.underlying e = some (.struct fs)) (h : DataW.trod enc P w base spare held n e cs = some x) (j : Nat) (f : Field) (hj : fs[j]? = some f) {o k : Nat} (ho : f.offset = o) (hk : P.cellsOf f.type = k) : ∃ (n' : Nat) (y : DataW H × List MemPlace), DataW.trod enc P w base spare held n' f.type ((cs.drop o).take k) = some y := by
  obtain ⟨ys, m, _, _, _, hyl, hg⟩ := DataW.trod_struct he h
  have hjl : j < fs.size := (Array.getElem?_eq_some_iff.1 hj).1
  have h1 := hg j f hj
  rw [ho, hk] at h1
  exact ⟨m, ys[j], h1.trans (List.getElem?_eq_getElem (by omega))⟩
theorem one_off {cs : List Value} {o : Nat} (h : o < cs.length) : (cs.drop o).take 1 = [cs[o]] := by rw [List.drop_eq_getElem_cons h]; rfl
theorem sub_off {cs : List Value} {o k j : Nat} {v : Value} (h : ((cs.drop o).take k)[j]? = some v) : cs[o + j]? = some v := by
  rw [List.getElem?_take] at h
  split at h
  · rwa [List.getElem?_drop] at h
  · cases h
set_option maxRecDepth 100000 in
set_option maxHeartbeats 2000000 in
theorem slice32 {a : Option Addr} {len cap : Nat} {d : DataW H} {p : List MemPlace} (h : DataW.Trod enc Try.prog w base spare held 22 (.slice a len cap) d p) (hs : ∀ b, spare b = true) :
    ∃ l : List E32, len = l.length ∧ Sl w a (l.flatMap E32.cells) ∧ l.length ≤ maxLen ∧ l.length ≤ cap ∧ (∀ x ∈ l, wf32 x) := by
  obtain ⟨fuel, hf⟩ := h
  rcases open_slice Try.underlying22 hf with ⟨hcs, _⟩ | ⟨x, len', cap', m, n, D, Pl, hcs, _, hl, hm, hmm, _, hi⟩
  · simp [Value.cells] at hcs
    obtain ⟨rfl, rfl, rfl⟩ := hcs
    exact ⟨[], rfl, fun j v hj => by simp at hj, by simp, by simp, by simp⟩
  · simp [Value.cells] at hcs
    obtain ⟨rfl, rfl, rfl⟩ := hcs
    have hC : Try.prog.cellsOf 32 = 13 := by kernel_rfl
    have key : ∀ i, i < len → ∃ q : E32, wf32 q ∧ ∀ j u, q.cells[j]? = some u → w.cell? (x.add (i * 13 + j)) = some u := by
      intro i hlt
      obtain ⟨cs', hc, ht'⟩ := hi i (by rw [hmm]; split <;> omega)
      rw [hC] at hc
      obtain ⟨_, hcl, hat⟩ := World.cells?_some hc
      obtain ⟨n0, y0, g0⟩ := field_off Try.underlying32 ht' 0 _ rfl (o := 0) (k := 1) rfl (by kernel_rfl)
      have hlt0 : 0 < cs'.length := by rw [hcl]; decide
      have c0 : cs'[0]? = some cs'[0] := List.getElem?_eq_getElem hlt0
      rw [one_off hlt0] at g0
      generalize cs'[0] = v0 at c0 g0
      have b0 : w.cell? (x.add (i * 13 + 0)) = some v0 := by rw [← c0, ← hat 0 (by decide), Go.Deep.add_add]
      obtain ⟨a0, e0, -, w0⟩ := DataW.trod_int Try.underlying3 g0
      obtain rfl := (List.cons.inj e0).1
      obtain ⟨m1, z1, h1⟩ := field_off Try.underlying32 ht' 1 _ rfl (o := 1) (k := 6) rfl (by kernel_rfl)
      have l1 : ((cs'.drop 1).take 6).length = 6 := by rw [List.length_take, List.length_drop, hcl]; decide
      obtain ⟨v1, n1, y1, d1, g1⟩ := field_at Try.underlying28 (by kernel_rfl) h1 l1 0 _ rfl
      have c1 : cs'[1]? = some v1 := sub_off d1
      have b1 : w.cell? (x.add (i * 13 + 1)) = some v1 := by rw [← c1, ← hat 1 (by decide), Go.Deep.add_add]
      obtain ⟨a1, e1, -, w1⟩ := DataW.trod_int Try.underlying3 g1
      obtain rfl := (List.cons.inj e1).1
      obtain ⟨v2, n2, y2, d2, g2⟩ := field_at Try.underlying28 (by kernel_rfl) h1 l1 1 _ rfl
      have c2 : cs'[2]? = some v2 := sub_off d2
      have b2 : w.cell? (x.add (i * 13 + 2)) = some v2 := by rw [← c2, ← hat 2 (by decide), Go.Deep.add_add]
      obtain ⟨a2, e2, -, w2⟩ := DataW.trod_int Try.underlying3 g2
      obtain rfl := (List.cons.inj e2).1
      obtain ⟨v3, n3, y3, d3, g3⟩ := field_at Try.underlying28 (by kernel_rfl) h1 l1 2 _ rfl
      have c3 : cs'[3]? = some v3 := sub_off d3
      have b3 : w.cell? (x.add (i * 13 + 3)) = some v3 := by rw [← c3, ← hat 3 (by decide), Go.Deep.add_add]
      obtain ⟨a3, e3, -, w3⟩ := DataW.trod_int Try.underlying26 g3
      obtain rfl := (List.cons.inj e3).1
      obtain ⟨v4, n4, y4, d4, g4⟩ := field_at Try.underlying28 (by kernel_rfl) h1 l1 3 _ rfl
      have c4 : cs'[4]? = some v4 := sub_off d4
      have b4 : w.cell? (x.add (i * 13 + 4)) = some v4 := by rw [← c4, ← hat 4 (by decide), Go.Deep.add_add]
      obtain ⟨a4, e4, -, w4⟩ := DataW.trod_int Try.underlying3 g4
      obtain rfl := (List.cons.inj e4).1
      obtain ⟨v5, n5, y5, d5, g5⟩ := field_at Try.underlying28 (by kernel_rfl) h1 l1 4 _ rfl
      have c5 : cs'[5]? = some v5 := sub_off d5
      have b5 : w.cell? (x.add (i * 13 + 5)) = some v5 := by rw [← c5, ← hat 5 (by decide), Go.Deep.add_add]
      obtain ⟨a5, e5, -, w5⟩ := DataW.trod_int Try.underlying3 g5
      obtain rfl := (List.cons.inj e5).1
      obtain ⟨v6, n6, y6, d6, g6⟩ := field_at Try.underlying28 (by kernel_rfl) h1 l1 5 _ rfl
      have c6 : cs'[6]? = some v6 := sub_off d6
      have b6 : w.cell? (x.add (i * 13 + 6)) = some v6 := by rw [← c6, ← hat 6 (by decide), Go.Deep.add_add]
      obtain ⟨a6, e6, -⟩ := DataW.trod_bool Try.underlying4 g6
      obtain rfl := (List.cons.inj e6).1
      obtain ⟨m2, z2, h2⟩ := field_off Try.underlying32 ht' 2 _ rfl (o := 7) (k := 4) rfl (by kernel_rfl)
      have l2 : ((cs'.drop 7).take 4).length = 4 := by rw [List.length_take, List.length_drop, hcl]; decide
      obtain ⟨v7, n7, y7, d7, g7⟩ := field_at Try.underlying30 (by kernel_rfl) h2 l2 0 _ rfl
      have c7 : cs'[7]? = some v7 := sub_off d7
      have b7 : w.cell? (x.add (i * 13 + 7)) = some v7 := by rw [← c7, ← hat 7 (by decide), Go.Deep.add_add]
      obtain ⟨a7, e7, -, w7⟩ := DataW.trod_int Try.underlying26 g7
      obtain rfl := (List.cons.inj e7).1
      obtain ⟨v8, n8, y8, d8, g8⟩ := field_at Try.underlying30 (by kernel_rfl) h2 l2 1 _ rfl
      have c8 : cs'[8]? = some v8 := sub_off d8
      have b8 : w.cell? (x.add (i * 13 + 8)) = some v8 := by rw [← c8, ← hat 8 (by decide), Go.Deep.add_add]
      obtain ⟨a8, e8, -, w8⟩ := DataW.trod_int Try.underlying3 g8
      obtain rfl := (List.cons.inj e8).1
      obtain ⟨v9, n9, y9, d9, g9⟩ := field_at Try.underlying30 (by kernel_rfl) h2 l2 2 _ rfl
      have c9 : cs'[9]? = some v9 := sub_off d9
      have b9 : w.cell? (x.add (i * 13 + 9)) = some v9 := by rw [← c9, ← hat 9 (by decide), Go.Deep.add_add]
      obtain ⟨a9, e9, -⟩ := DataW.trod_bool Try.underlying4 g9
      obtain rfl := (List.cons.inj e9).1
      obtain ⟨v10, n10, y10, d10, g10⟩ := field_at Try.underlying30 (by kernel_rfl) h2 l2 3 _ rfl
      have c10 : cs'[10]? = some v10 := sub_off d10
      have b10 : w.cell? (x.add (i * 13 + 10)) = some v10 := by rw [← c10, ← hat 10 (by decide), Go.Deep.add_add]
      obtain ⟨a10, e10, -⟩ := DataW.trod_bool Try.underlying4 g10
      obtain rfl := (List.cons.inj e10).1
      obtain ⟨n11, y11, g11⟩ := field_off Try.underlying32 ht' 3 _ rfl (o := 11) (k := 1) rfl (by kernel_rfl)
      have hlt11 : 11 < cs'.length := by rw [hcl]; decide
      have c11 : cs'[11]? = some cs'[11] := List.getElem?_eq_getElem hlt11
      rw [one_off hlt11] at g11
      generalize cs'[11] = v11 at c11 g11
      have b11 : w.cell? (x.add (i * 13 + 11)) = some v11 := by rw [← c11, ← hat 11 (by decide), Go.Deep.add_add]
      obtain ⟨a11, e11, -, w11⟩ := DataW.trod_int Try.underlying3 g11
      obtain rfl := (List.cons.inj e11).1
      obtain ⟨n12, y12, g12⟩ := field_off Try.underlying32 ht' 4 _ rfl (o := 12) (k := 1) rfl (by kernel_rfl)
      have hlt12 : 12 < cs'.length := by rw [hcl]; decide
      have c12 : cs'[12]? = some cs'[12] := List.getElem?_eq_getElem hlt12
      rw [one_off hlt12] at g12
      generalize cs'[12] = v12 at c12 g12
      have b12 : w.cell? (x.add (i * 13 + 12)) = some v12 := by rw [← c12, ← hat 12 (by decide), Go.Deep.add_add]
      obtain ⟨a12, e12, -, w12⟩ := DataW.trod_int Try.underlying3 g12
      obtain rfl := (List.cons.inj e12).1
      refine ⟨⟨a0, a1, a2, a3, a4, a5, a6, a7, a8, a9, a10, a11, a12⟩, ⟨w0, w1, w2, w3, w4, w5, w7, w8, w11, w12⟩, ?_⟩
      intro j u hj
      match j, hj with
      | 0, hj => obtain rfl := Option.some.inj hj; exact b0
      | 1, hj => obtain rfl := Option.some.inj hj; exact b1
      | 2, hj => obtain rfl := Option.some.inj hj; exact b2
      | 3, hj => obtain rfl := Option.some.inj hj; exact b3
      | 4, hj => obtain rfl := Option.some.inj hj; exact b4
      | 5, hj => obtain rfl := Option.some.inj hj; exact b5
      | 6, hj => obtain rfl := Option.some.inj hj; exact b6
      | 7, hj => obtain rfl := Option.some.inj hj; exact b7
      | 8, hj => obtain rfl := Option.some.inj hj; exact b8
      | 9, hj => obtain rfl := Option.some.inj hj; exact b9
      | 10, hj => obtain rfl := Option.some.inj hj; exact b10
      | 11, hj => obtain rfl := Option.some.inj hj; exact b11
      | 12, hj => obtain rfl := Option.some.inj hj; exact b12
      | j + 13, hj => simp [E32.cells] at hj
    obtain ⟨l, hln, hq⟩ := list_of len key
    subst hln
    refine ⟨l, rfl, fun j v hj => ?_, by omega, hl, fun q hq' => ?_⟩
    · obtain ⟨q, h1, h2⟩ := flat_get (k := 13) (fun x => rfl) (by decide) l j v hj
      refine ⟨x, rfl, ?_⟩
      have := (hq _ q h1).2 _ v h2
      rwa [show j / 13 * 13 + j % 13 = j by omega] at this
    · obtain ⟨j, hj⟩ := List.getElem?_of_mem hq'
      exact (hq j q hj).1
end
end Go.Proofs.Ytabjdjkkpbkpfaa.Open
