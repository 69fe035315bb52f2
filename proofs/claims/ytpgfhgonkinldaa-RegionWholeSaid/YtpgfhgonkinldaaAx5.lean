-- Written by this session's own call of the kit's print program (wip/tools/myprint.py): hand-made contracts stand in it for what that program does not cover. Lean checks all of it.
import Derived.Test.YtpgfhgonkinldaaAx0
import Derived.Test.YtpgfhgonkinldaaAx4
namespace Go.Proofs.Ytpgfhgonkinldaa.A
open Go.RowKit Go.Proofs.YtpgfhgonkinldaaW.PrintWords Go.Proofs.YtpgfhgonkinldaaW.PrintLast Go.Proofs.YtpgfhgonkinldaaW.PrintMore
attribute [local go_sem] max2_int min2_int max_two min_two max_three min_three max_four min_four   -- for this text's walks alone
set_option linter.unusedVariables false
set_option linter.unusedSimpArgs false

/-! ### region_Add: function 11 -/
set_option maxRecDepth 100000 in
theorem add1 (x y : S25) (a : Addr) (w : World) (ha : w.cell? a = some (.int .i64 x.f0)) :
    Calls Try.prog 27 #[vS y, .pointer (some a)] w fun e w' => e = .returned (.bool (decide (y.f1 > x.f0))) ∧ Below w.heap.size w w' := by
  have hu := Try.underlying25
  unfold vS
  have hlt := World.block_lt_of_cell? w a ha
  go_enter Try.func27, Try.ntmps27
  go_wp2
  go_ret
  exact ⟨by simp, below_alloc (Below.refl _ _) _⟩
/-- A region's end behind another one's begin? -/
def afterB (x y : S25) : Bool := decide (y.f1 > x.f0)
theorem add_idx (A : Option Addr) (c : Nat) (l : List S25) (x : S25) (w W : World) (hr : Kd.C k25 w A l.length l) (hc : l.length ≤ c) (hl : l.length < 9223372036854775807) (hb : Below w.heap.size w W) (a : Addr) (ha : W.cell? a = some (.int .i64 x.f0)) :
    Calls Try.prog 26 #[.slice A l.length c, .func (.func 27) #[] #[.pointer (some a)]] W fun e w' => e = .returned (.int .i64 (idxFrom (afterB x) l 0)) ∧ Below W.heap.size W w' :=
  index_27 a (afterB x) A c l W (Kd.C_below hr hb) hc hl (fun y W1 hb1 => add1 x y a W1 (pw_cell_below hb1 ha))
/-- A region's cells. -/
def cellsL (x : S25) : List Value := [.int .i64 x.f0, .int .i64 x.f1, .int .i64 x.f2, .int .i64 x.f3, .int .i64 x.f4, .bool x.f5]
def flatL (l : List S25) : List Value := l.flatMap cellsL
theorem flat_len (l : List S25) : (flatL l).length = l.length * 6 := by
  induction l with
  | nil => rfl
  | cons x xs ih => simp only [flatL, List.flatMap_cons, List.length_append, List.length_cons] at ih ⊢; rw [ih]; simp [cellsL]; omega
theorem flat_app (a b : List S25) : flatL (a ++ b) = flatL a ++ flatL b := by simp [flatL]
theorem flat_one {l : List S25} (u : Value) (h : u ∈ flatL l) : u.oneCell' = true := by
  simp only [flatL, List.mem_flatMap, cellsL] at h
  obtain ⟨x, _, hx⟩ := h
  simp at hx
  rcases hx with rfl | rfl | rfl | rfl | rfl | rfl <;> rfl
theorem flat_get (l : List S25) (j : Nat) (x : S25) (h : l[j]? = some x) : ((flatL l).drop (j * 6)).take 6 = cellsL x := by
  induction l generalizing j with
  | nil => simp at h
  | cons y ys ih =>
    cases j with
    | zero => simp at h; subst h; simp [flatL, cellsL]
    | succ j =>
      have e : (j + 1) * 6 = 6 + j * 6 := by omega
      have e2 : flatL (y :: ys) = cellsL y ++ flatL ys := rfl
      rw [e, ← List.drop_drop, e2]
      have e3 : (cellsL y ++ flatL ys).drop 6 = flatL ys := rfl
      rw [e3]; exact ih j (by simpa using h)
theorem flat_reps (w : World) (base : Nat) (ok : Nat → Prop) (l : List S25) : Reps (k25.M w base ok) 6 l (flatL l) :=
  ⟨flat_len l, fun j p hj => by rw [flat_get l j p hj]; exact k25_mkM w base ok p⟩
/-- Cells that are read, one by one. -/
theorem flat_read {w : World} {A : Option Addr} {l : List S25} (h : Kd.C k25 w A l.length l) (ad : Addr) (hA : A = some ad) (j : Nat) (u : Value) (hj : (flatL l)[j]? = some u) : w.cell? (ad.add j) = some u := by
  have hlt : j < l.length * 6 := by rw [← flat_len]; exact (List.getElem?_eq_some_iff.1 hj).1
  obtain ⟨ad', e, hc⟩ := h.2.2 (by omega)
  have : ad' = ad := by rw [hA] at e; exact (Option.some.inj e).symm
  subst this
  have hq : j / 6 < l.length := by omega
  obtain ⟨c, hl, hK, hcell⟩ := hc (j / 6) _ (List.getElem?_eq_getElem hq)
  have hcs := k25_open hK
  have e1 : j = j / 6 * 6 + j % 6 := by omega
  have e2 := flat_get l (j / 6) _ (List.getElem?_eq_getElem hq)
  have e3 : c = cellsL l[j / 6] := hcs
  have e4 : c[j % 6]? = some u := by
    rw [e3, ← e2, List.getElem?_take_of_lt (by omega), List.getElem?_drop, ← e1]; exact hj
  have := hcell (j % 6) u e4
  rw [show (k25.sz) = 6 from rfl, ← e1] at this
  exact this
/-- A row of one's own, out of its cells. -/
theorem own_R {w : World} {base : Nat} {v : Value} {l : List S25} (h : w.ownsRow base 25 6 v l.length (flatL l)) : Kd.R k25 25 w base (fun _ => True) v l :=
  ⟨fun _ _ => trivial, flatL l, h, flat_reps w base _ l⟩
/-- The world behind a box of a region. -/
abbrev boxW (w : World) (x : S25) : World := w.alloc (.cells #[.int .i64 x.f0, .int .i64 x.f1, .int .i64 x.f2, .int .i64 x.f3, .int .i64 x.f4, .bool x.f5] 25)
theorem box_blk (w : World) (x : S25) : (boxW w x).heap[w.heap.size]? = some (.cells #[.int .i64 x.f0, .int .i64 x.f1, .int .i64 x.f2, .int .i64 x.f3, .int .i64 x.f4, .bool x.f5] 25 (0, 0)) := heap_alloc_new w _
set_option maxRecDepth 100000 in
theorem add_bad (A : Option Addr) (c : Nat) (l : List S25) (x : S25) (w : World) (hr : Kd.C k25 w A l.length l) (hc : l.length ≤ c) (hl : l.length < 9223372036854775807) (h : rightB l = false) :
    Calls Try.prog 11 #[.slice A l.length c, .agg #[.int .i64 x.f0, .int .i64 x.f1, .int .i64 x.f2, .int .i64 x.f3, .int .i64 x.f4, .bool x.f5]] w fun e w' => e = .returned (.tuple #[.slice none 0 0, .int .i64 1]) ∧ Below w.heap.size w w' := by
  have hu := Try.underlying25
  have HR := Aside0.mk hr
  have HRB := Aside0.mk h
  clear hr h
  go_enter Try.func11, Try.ntmps11
  go_wp2_with fail
  refine (c_right A c l _ (Kd.C_below HR.out (below_alloc (Below.refl _ _) _)) hc hl).mono ?_
  rintro e w1 ⟨rfl, hb⟩
  rw [HRB.out]
  have HB := Aside0.mk (below_step (below_alloc (Below.refl _ _) _) hb)
  clear hb
  go_wp2
  go_ret2
  exact ⟨rfl, HB.out⟩
set_option maxRecDepth 100000 in
theorem add_inv (A : Option Addr) (c : Nat) (l : List S25) (x : S25) (w : World) (hr : Kd.C k25 w A l.length l) (hc : l.length ≤ c) (hl : l.length < 9223372036854775807) (h : rightB l = true) (hv : validB x = false) :
    Calls Try.prog 11 #[.slice A l.length c, .agg #[.int .i64 x.f0, .int .i64 x.f1, .int .i64 x.f2, .int .i64 x.f3, .int .i64 x.f4, .bool x.f5]] w fun e w' => e = .returned (.tuple #[.slice none 0 0, .int .i64 1]) ∧ Below w.heap.size w w' := by
  have hu := Try.underlying25
  have HR := Aside0.mk hr
  have HRB := Aside0.mk h
  have HV := Aside0.mk hv
  clear hr h hv
  go_enter Try.func11, Try.ntmps11
  go_wp2_with fail
  refine (c_right A c l _ (Kd.C_below HR.out (below_alloc (Below.refl _ _) _)) hc hl).mono ?_
  rintro e w1 ⟨rfl, hb⟩
  rw [HRB.out]
  have HG := Aside0.mk ((hb.block w.heap.size (by simp)).trans (box_blk w x))
  have HB := Aside0.mk (below_step (below_alloc (Below.refl _ _) _) hb)
  clear hb
  have hq0 := (blk_cell HG.out 0).trans rfl
  have hq1 := (blk_cell HG.out 1).trans rfl
  have hq2 := (blk_cell HG.out 2).trans rfl
  have hq3 := (blk_cell HG.out 3).trans rfl
  have hq4 := (blk_cell HG.out 4).trans rfl
  have hq5 := (blk_cell HG.out 5).trans rfl
  go_wp2_with fail
  refine (c_valid x _).mono ?_
  rintro e w2 ⟨rfl, hb⟩
  rw [HV.out]
  have HB2 := Aside0.mk (below_step HB.out hb)
  clear hb HB HG hq0 hq1 hq2 hq3 hq4 hq5
  go_wp2
  go_ret2
  exact ⟨rfl, HB2.out⟩
set_option maxRecDepth 100000 in
theorem add_full (A : Option Addr) (c : Nat) (l : List S25) (x : S25) (w : World) (hr : Kd.C k25 w A l.length l) (hc : l.length ≤ c) (hl : l.length < 9223372036854775807) (h : rightB l = true) (hv : validB x = true) (hf : 64 ≤ l.length) :
    Calls Try.prog 11 #[.slice A l.length c, .agg #[.int .i64 x.f0, .int .i64 x.f1, .int .i64 x.f2, .int .i64 x.f3, .int .i64 x.f4, .bool x.f5]] w fun e w' => e = .returned (.tuple #[.slice none 0 0, .int .i64 1]) ∧ Below w.heap.size w w' := by
  have hu := Try.underlying25
  have HR := Aside0.mk hr
  have HRB := Aside0.mk h
  have HV := Aside0.mk hv
  clear hr h hv
  go_enter Try.func11, Try.ntmps11
  go_wp2_with fail
  refine (c_right A c l _ (Kd.C_below HR.out (below_alloc (Below.refl _ _) _)) hc hl).mono ?_
  rintro e w1 ⟨rfl, hb⟩
  rw [HRB.out]
  have HG := Aside0.mk ((hb.block w.heap.size (by simp)).trans (box_blk w x))
  have HB := Aside0.mk (below_step (below_alloc (Below.refl _ _) _) hb)
  clear hb
  have hq0 := (blk_cell HG.out 0).trans rfl
  have hq1 := (blk_cell HG.out 1).trans rfl
  have hq2 := (blk_cell HG.out 2).trans rfl
  have hq3 := (blk_cell HG.out 3).trans rfl
  have hq4 := (blk_cell HG.out 4).trans rfl
  have hq5 := (blk_cell HG.out 5).trans rfl
  go_wp2_with fail
  refine (c_valid x _).mono ?_
  rintro e w2 ⟨rfl, hb⟩
  rw [HV.out]
  have HB2 := Aside0.mk (below_step HB.out hb)
  clear hb HB HG hq0 hq1 hq2 hq3 hq4 hq5
  go_wp2
  go_ret2
  exact ⟨rfl, HB2.out⟩
theorem flat_take (l : List S25) (n j : Nat) (u : Value) (h : (flatL (l.take n))[j]? = some u) : (flatL l)[j]? = some u := by
  have e : flatL l = flatL (l.take n) ++ flatL (l.drop n) := by rw [← flat_app, List.take_append_drop]
  rw [e, List.getElem?_append_left (List.getElem?_eq_some_iff.1 h).1]; exact h
theorem flat_drop (l : List S25) (n j : Nat) (u : Value) (hn : n ≤ l.length) (h : (flatL (l.drop n))[j]? = some u) : (flatL l)[n * 6 + j]? = some u := by
  have e : flatL l = flatL (l.take n) ++ flatL (l.drop n) := by rw [← flat_app, List.take_append_drop]
  have hl : (flatL (l.take n)).length = n * 6 := by rw [flat_len, List.length_take, Nat.min_eq_left hn]
  rw [e, List.getElem?_append_right (by omega), hl, Nat.add_sub_cancel_left]; exact h
theorem cells_one (x : S25) : ∀ u ∈ cellsL x, u.oneCell' = true := fun u hu => flat_one (l := [x]) u (by simpa [flatL] using hu)
theorem box_news (W : World) (x : S25) (j : Nat) (u : Value) (hj : (cellsL x)[j]? = some u) : (boxW W x).cell? ((⟨W.heap.size, 0, none⟩ : Addr).add j) = some u := by
  rw [add_plain, blk_cell (box_blk W x) j]
  simpa [cellsL] using hj
/-- What the first append finds. -/
theorem read_pre {w W : World} {ad : Addr} {l : List S25} (hr : ∀ j u, (flatL l)[j]? = some u → w.cell? (ad.add j) = some u) (hb : Below w.heap.size w W) (n : Nat) : ∀ b, some ad = some b → ∀ j u, (flatL (l.take n))[j]? = some u → W.cell? (b.add j) = some u := by
  intro b hb' j u hj
  cases hb'
  exact pw_cell_below hb (hr j u (flat_take l n j u hj))
theorem read_post {w W : World} {ad : Addr} {l : List S25} (hr : ∀ j u, (flatL l)[j]? = some u → w.cell? (ad.add j) = some u) (hb : Below w.heap.size w W) (n : Nat) (hn : n ≤ l.length) : ∀ j u, (flatL (l.drop n))[j]? = some u → W.cell? ((ad.add (n * 6)).add j) = some u := by
  intro j u hj
  rw [add_add]
  exact pw_cell_below hb (hr _ u (flat_drop l n j u hn hj))
/-- An append of nothing. -/
theorem run_append_none {P : Program} (w : World) (t ty e : TypeId) (i : TypeInfo) (ht : P.underlying t = some (.slice e)) (hi : P.info? e = some i) (b : Option Addr) (n cap : Nat) (hn : n ≤ cap) (B : Option Addr) (c : Nat) :
    (Builtin.append_ #[t, t] ty #[.slice b n cap, .slice B 0 c]).run P w = .ok (.slice b n cap) w := by
  cases b <;> cases B <;> simp [Builtin.append_, run_underlying ht, sizeOf, typeInfo, hi, Builtin.lenOf, hn, Builtin.firstCells, storeCells, loadCells] <;> rfl
theorem step_append_none {P : Program} {ops : Array Oper} {o : Oper} {a : Act} {w : World} {K : Act → World → Prop} {Q : Exit → Act → World → Prop} {E : Prop}
    (hg : o.guard = none) (s x : Operand) (t : TypeId) (hop : o.op = Op.call { callee := Callee.builtin Builtin.append, args := #[s, x], argTypes := #[t, t] })
    (e : TypeId) (i : TypeInfo) (h1 : P.underlying t = some (.slice e)) (h2 : P.info? e = some i) (base size n : Nat) (v : Value) (xs : List Value) (hs : a.eval s = v) (hown : w.ownsRow base e size v n xs)
    (hx : ∃ B c, a.eval x = .slice B 0 c) (hK : K (a.put o.dst v) w) :
    if Region.wanted o (yielded ops a.tmps) = true then Oper.wp P o a w K Q else E := by
  have hw : Region.wanted o (yielded ops a.tmps) = true := by simp [Region.wanted, hg]
  rw [if_pos hw]
  obtain ⟨B, c, hx⟩ := hx
  obtain ⟨A, cap, rfl⟩ := own_slice hown
  have hrun := run_append_none (P := P) w t o.type e i h1 h2 A n cap (own_le hown) B c
  unfold Oper.wp
  simp [execOp, hop, resolve, invoke, builtin, hs, hx, hrun, Result.andThen]
  exact hK
theorem flat_read' {w W : World} {A : Option Addr} {l : List S25} (h : Kd.C k25 w A l.length l) (hb : Below w.heap.size w W) : ∀ b, A = some b → ∀ j u, (flatL l)[j]? = some u → W.cell? (b.add j) = some u :=
  fun b hA j u hj => pw_cell_below hb (flat_read h b hA j u hj)
set_option maxRecDepth 100000 in
theorem add_busy (A : Option Addr) (c : Nat) (l : List S25) (x : S25) (w : World) (hr : Kd.C k25 w A l.length l) (hc : l.length ≤ c) (hl : l.length < 64) (h : rightB l = true) (hv : validB x = true) (i : Int) (hi : idxFrom (afterB x) l 0 = i) (h0 : 0 ≤ i) (h1 : i < l.length) (ho : (rd_T25 l i).f0 < x.f1) :
    Calls Try.prog 11 #[.slice A l.length c, .agg #[.int .i64 x.f0, .int .i64 x.f1, .int .i64 x.f2, .int .i64 x.f3, .int .i64 x.f4, .bool x.f5]] w fun e w' => e = .returned (.tuple #[.slice none 0 0, .int .i64 4]) ∧ Below w.heap.size w w' := by
  have HI := Aside0.mk hi
  clear hi
  have hu := Try.underlying25
  have HR := Aside0.mk hr
  have HRB := Aside0.mk h
  have HV := Aside0.mk hv
  clear hr h hv
  go_enter Try.func11, Try.ntmps11
  go_wp2_with fail
  refine (c_right A c l _ (Kd.C_below HR.out (below_alloc (Below.refl _ _) _)) hc (by omega)).mono ?_
  rintro e w1 ⟨rfl, hb⟩
  rw [HRB.out]
  have HG := Aside0.mk ((hb.block w.heap.size (by simp)).trans (box_blk w x))
  have HB := Aside0.mk (below_step (below_alloc (Below.refl _ _) _) hb)
  clear hb
  have hq0 := (blk_cell HG.out 0).trans rfl
  have hq1 := (blk_cell HG.out 1).trans rfl
  have hq2 := (blk_cell HG.out 2).trans rfl
  have hq3 := (blk_cell HG.out 3).trans rfl
  have hq4 := (blk_cell HG.out 4).trans rfl
  have hq5 := (blk_cell HG.out 5).trans rfl
  go_wp2_with fail
  refine (c_valid x _).mono ?_
  rintro e w2 ⟨rfl, hb⟩
  rw [HV.out]
  have HB2 := Aside0.mk (below_step HB.out hb)
  have HG2 := Aside0.mk ((hb.block w.heap.size (blk_lt HG.out)).trans HG.out)
  clear hb HB HG hq0 hq1 hq2 hq3 hq4 hq5
  go_wp2_with fail
  refine (add_idx A c l x w _ HR.out hc (by omega) HB2.out _ (blk_cell HG2.out 0)).mono ?_
  rintro e w3 ⟨rfl, hb⟩
  rw [HI.out]
  have HB3 := Aside0.mk (below_step HB2.out hb)
  have HG3 := Aside0.mk ((hb.block w.heap.size (blk_lt HG2.out)).trans HG2.out)
  clear hb HB2 HG2
  have hq0 := (blk_cell HG3.out 0).trans rfl
  have hq1 := (blk_cell HG3.out 1).trans rfl
  have hq2 := (blk_cell HG3.out 2).trans rfl
  have hq3 := (blk_cell HG3.out 3).trans rfl
  have hq4 := (blk_cell HG3.out 4).trans rfl
  have hq5 := (blk_cell HG3.out 5).trans rfl
  obtain ⟨ad, e1, x0, x1, x2, x3, x4, x5⟩ := at_T25 HR.out i h0 h1
  cases e1
  replace x0 := (HB3.out.cell (World.block_lt_of_cell? w _ x0)).trans x0
  clear x1 x2 x3 x4 x5
  go_wp2
  go_quiet (fail)
  go_wp2
  go_ret2
  exact ⟨rfl, by first | exact HB3.out | exact below_drew HB3.out | exact pw_below_drewN HB3.out _⟩
set_option maxRecDepth 100000 in
theorem add_ins (A : Option Addr) (c : Nat) (l : List S25) (x : S25) (w : World) (hr : Kd.C k25 w A l.length l) (hc : l.length ≤ c) (hl : l.length < 64) (h : rightB l = true) (hv : validB x = true) (i : Int) (hi : idxFrom (afterB x) l 0 = i) (h0 : 0 ≤ i) (h1 : i < l.length) (ho : ¬ (rd_T25 l i).f0 < x.f1) :
    Calls Try.prog 11 #[.slice A l.length c, .agg #[.int .i64 x.f0, .int .i64 x.f1, .int .i64 x.f2, .int .i64 x.f3, .int .i64 x.f4, .bool x.f5]] w fun e w' => ∃ v0_ : Value, e = .returned (.tuple #[v0_, .int .i64 0]) ∧ Kd.R k25 25 w' w.heap.size (fun _ => True) v0_ (l.take i.toNat ++ (x :: l.drop i.toNat)) ∧ Below w.heap.size w w' := by
  have HI := Aside0.mk hi
  clear hi
  have hu := Try.underlying25
  have HR := Aside0.mk hr
  have HRB := Aside0.mk h
  have HV := Aside0.mk hv
  clear hr h hv
  go_enter Try.func11, Try.ntmps11
  go_wp2_with fail
  refine (c_right A c l _ (Kd.C_below HR.out (below_alloc (Below.refl _ _) _)) hc (by omega)).mono ?_
  rintro e w1 ⟨rfl, hb⟩
  rw [HRB.out]
  have HG := Aside0.mk ((hb.block w.heap.size (by simp)).trans (box_blk w x))
  have HB := Aside0.mk (below_step (below_alloc (Below.refl _ _) _) hb)
  clear hb
  have hq0 := (blk_cell HG.out 0).trans rfl
  have hq1 := (blk_cell HG.out 1).trans rfl
  have hq2 := (blk_cell HG.out 2).trans rfl
  have hq3 := (blk_cell HG.out 3).trans rfl
  have hq4 := (blk_cell HG.out 4).trans rfl
  have hq5 := (blk_cell HG.out 5).trans rfl
  go_wp2_with fail
  refine (c_valid x _).mono ?_
  rintro e w2 ⟨rfl, hb⟩
  rw [HV.out]
  have HB2 := Aside0.mk (below_step HB.out hb)
  have HG2 := Aside0.mk ((hb.block w.heap.size (blk_lt HG.out)).trans HG.out)
  clear hb HB HG hq0 hq1 hq2 hq3 hq4 hq5
  go_wp2_with fail
  refine (add_idx A c l x w _ HR.out hc (by omega) HB2.out _ (blk_cell HG2.out 0)).mono ?_
  rintro e w3 ⟨rfl, hb⟩
  rw [HI.out]
  have HB3 := Aside0.mk (below_step HB2.out hb)
  have HG3 := Aside0.mk ((hb.block w.heap.size (blk_lt HG2.out)).trans HG2.out)
  clear hb HB2 HG2
  have hq0 := (blk_cell HG3.out 0).trans rfl
  have hq1 := (blk_cell HG3.out 1).trans rfl
  have hq2 := (blk_cell HG3.out 2).trans rfl
  have hq3 := (blk_cell HG3.out 3).trans rfl
  have hq4 := (blk_cell HG3.out 4).trans rfl
  have hq5 := (blk_cell HG3.out 5).trans rfl
  obtain ⟨ad, e1, x0, x1, x2, x3, x4, x5⟩ := at_T25 HR.out i h0 h1
  cases e1
  replace x0 := (HB3.out.cell (World.block_lt_of_cell? w _ x0)).trans x0
  clear x1 x2 x3 x4 x5
  go_wp2
  go_quiet (fail)
  have z0 : (0 : Int) ≤ i := h0
  have z1 : i ≤ (l.length : Int) := by omega
  have z2 : i ≤ (c : Int) := by omega
  go_wp2

  obtain ⟨i0, hi, hz0, hz1, hz2⟩ := info_parts info25
  have HRd := Aside0.mk (flat_read HR.out ad rfl)
  have z3 : i.toNat + (l.length - i.toNat) = l.length := by omega
  have HZ3 := Aside0.mk z3
  clear z3
  go_region_held3 (fun w' => w'.cell? ⟨w.heap.size, 0, none⟩ = some (.int .i64 x.f0) ∧ w'.cell? ⟨w.heap.size, 1, none⟩ = some (.int .i64 x.f1) ∧ w'.cell? ⟨w.heap.size, 2, none⟩ = some (.int .i64 x.f2) ∧ w'.cell? ⟨w.heap.size, 3, none⟩ = some (.int .i64 x.f3) ∧ w'.cell? ⟨w.heap.size, 4, none⟩ = some (.int .i64 x.f4) ∧ w'.cell? ⟨w.heap.size, 5, none⟩ = some (.bool x.f5)) (go_keep) (first
    | (refine step_append_grows rfl (.tmp 44) (.tmp 46) 22 rfl 25 i0 _ 6 48 Try.underlying22 hi hz0 hz1 hz2 rfl (by decide) (some ad) i.toNat i.toNat (flatL (l.take i.toNat)) rfl (fun h => by cases h) ?c1 ?c2 ⟨w3.heap.size, 0, none⟩ 1 1 (cellsL x) rfl rfl ?c3 ?c4 ?c5 ?c6 ?c7 ?_;
       (case c1 => rw [flat_len, List.length_take, Nat.min_eq_left (by omega)]);
       (case c2 => exact read_pre HRd.out (below_alloc (pw_below_drewN HB3.out _) _) _);
       (case c3 => exact box_news _ x);
       (case c4 => exact cells_one x);
       (case c5 => omega);
       (case c6 => unfold maxLen; omega);
       (case c7 => omega);
       intro v1 w4 hown hgrow;
       have HG4 := Aside0.mk (blk_grown (blk_alloc (blk_drewN HG3.out _) _) hgrow (by simp));
       have HB4 := Aside0.mk (pw_below_grown (below_alloc (pw_below_drewN HB3.out _) _) none (below_size (below_alloc (pw_below_drewN HB3.out _) _)) hgrow (by simp));
       have HO1 := Aside0.mk hown;
       have HS1 := Aside0.mk hgrow.size;
       clear hown hgrow hq0 hq1 hq2 hq3 hq4 hq5 x0;
       have k0 := (blk_cell HG4.out 0).trans rfl;
       have k1 := (blk_cell HG4.out 1).trans rfl;
       have k2 := (blk_cell HG4.out 2).trans rfl;
       have k3 := (blk_cell HG4.out 3).trans rfl;
       have k4 := (blk_cell HG4.out 4).trans rfl;
       have k5 := (blk_cell HG4.out 5).trans rfl)
    | (refine step_append_lies _ rfl (.tmp 47) (.tmp 50) 22 rfl _ 25 i0 _ 6 48 Try.underlying22 hi hz0 hz1 hz2 rfl (by decide) v1 (i.toNat + 1) _ rfl HO1.out (ad.add (i.toNat * 6)) (l.length - i.toNat) (c - i.toNat) (flatL (l.drop i.toNat)) ?d0 ?d1 ?d2 ?d3 ?d4 ?d5 ?d6 ?d7 _ rfl ?_;
       (case d0 => (go_simp; intro hz; exfalso; omega));
       (case d1 => rw [flat_len, List.length_drop]);
       (case d2 => exact read_post HRd.out HB4.out _ (by omega));
       (case d3 => exact fun u hu => flat_one u hu);
       (case d4 => omega);
       (case d5 => unfold maxLen; omega);
       (case d6 => omega);
       (case d7 => exact HS1.out);
       intro g cap w5 hown hgrow hat hlt;
       have hv1 : ∀ k, v1.ownBlock = some k → w.heap.size + 1 ≤ k := (fun k hk => by have h1 := own_base HO1.out k hk; have h2 := HB3.out.size; simp at h1; omega);
       have HO2 := Aside0.mk hown;
       have HG5 := Aside0.mk (blk_grown HG4.out hgrow (fun he => by have := hv1 _ he.symm; omega));
       have HB5 := Aside0.mk (pw_below_grown HB4.out _ (below_size HB4.out) hgrow (fun k hk => by have := hv1 k hk; omega));
       clear hown hgrow hat hlt hv1 k0 k1 k2 k3 k4 k5;
       have k0 := (blk_cell HG5.out 0).trans rfl;
       have k1 := (blk_cell HG5.out 1).trans rfl;
       have k2 := (blk_cell HG5.out 2).trans rfl;
       have k3 := (blk_cell HG5.out 3).trans rfl;
       have k4 := (blk_cell HG5.out 4).trans rfl;
       have k5 := (blk_cell HG5.out 5).trans rfl)
    )
  go_wp2
  go_ret2
  refine ⟨_, rfl, own_R ?_, HB5.out⟩
  have e : flatL (l.take i.toNat ++ (x :: l.drop i.toNat)) = flatL (l.take i.toNat) ++ cellsL x ++ flatL (l.drop i.toNat) := by
    rw [flat_app, List.append_assoc]; rfl
  have el : (l.take i.toNat ++ (x :: l.drop i.toNat)).length = i.toNat + 1 + (l.length - i.toNat) := by
    rw [List.length_append, List.length_cons, List.length_take, List.length_drop, Nat.min_eq_left (by omega)]; omega
  rw [e, el]
  exact own_less HO2.out (by have := HB3.out.size; simp; omega)
set_option maxRecDepth 100000 in
theorem add_end (A : Option Addr) (c : Nat) (l : List S25) (x : S25) (w : World) (hr : Kd.C k25 w A l.length l) (hc : l.length ≤ c) (hl : l.length < 64) (h : rightB l = true) (hv : validB x = true) (hi : idxFrom (afterB x) l 0 = -1) :
    Calls Try.prog 11 #[.slice A l.length c, .agg #[.int .i64 x.f0, .int .i64 x.f1, .int .i64 x.f2, .int .i64 x.f3, .int .i64 x.f4, .bool x.f5]] w fun e w' => ∃ v0_ : Value, e = .returned (.tuple #[v0_, .int .i64 0]) ∧ Kd.R k25 25 w' w.heap.size (fun _ => True) v0_ (l ++ [x]) ∧ Below w.heap.size w w' := by
  have HI := Aside0.mk hi
  clear hi
  have hu := Try.underlying25
  have HR := Aside0.mk hr
  have HRB := Aside0.mk h
  have HV := Aside0.mk hv
  clear hr h hv
  go_enter Try.func11, Try.ntmps11
  go_wp2_with fail
  refine (c_right A c l _ (Kd.C_below HR.out (below_alloc (Below.refl _ _) _)) hc (by omega)).mono ?_
  rintro e w1 ⟨rfl, hb⟩
  rw [HRB.out]
  have HG := Aside0.mk ((hb.block w.heap.size (by simp)).trans (box_blk w x))
  have HB := Aside0.mk (below_step (below_alloc (Below.refl _ _) _) hb)
  clear hb
  have hq0 := (blk_cell HG.out 0).trans rfl
  have hq1 := (blk_cell HG.out 1).trans rfl
  have hq2 := (blk_cell HG.out 2).trans rfl
  have hq3 := (blk_cell HG.out 3).trans rfl
  have hq4 := (blk_cell HG.out 4).trans rfl
  have hq5 := (blk_cell HG.out 5).trans rfl
  go_wp2_with fail
  refine (c_valid x _).mono ?_
  rintro e w2 ⟨rfl, hb⟩
  rw [HV.out]
  have HB2 := Aside0.mk (below_step HB.out hb)
  have HG2 := Aside0.mk ((hb.block w.heap.size (blk_lt HG.out)).trans HG.out)
  clear hb HB HG hq0 hq1 hq2 hq3 hq4 hq5
  go_wp2_with fail
  refine (add_idx A c l x w _ HR.out hc (by omega) HB2.out _ (blk_cell HG2.out 0)).mono ?_
  rintro e w3 ⟨rfl, hb⟩
  rw [HI.out]
  have HB3 := Aside0.mk (below_step HB2.out hb)
  have HG3 := Aside0.mk ((hb.block w.heap.size (blk_lt HG2.out)).trans HG2.out)
  clear hb HB2 HG2
  have hq0 := (blk_cell HG3.out 0).trans rfl
  have hq1 := (blk_cell HG3.out 1).trans rfl
  have hq2 := (blk_cell HG3.out 2).trans rfl
  have hq3 := (blk_cell HG3.out 3).trans rfl
  have hq4 := (blk_cell HG3.out 4).trans rfl
  have hq5 := (blk_cell HG3.out 5).trans rfl
  have z1 : (0 : Int) ≤ (l.length : Int) := by omega
  have z2 : (l.length : Int) ≤ (c : Int) := by omega
  have z4 : decide (l.length < l.length) = false := by simp
  go_wp2
  go_quiet (fail)
  go_wp2
  obtain ⟨i0, hi, hz0, hz1, hz2⟩ := info_parts info25
  go_region_held3 (fun w' => w'.cell? ⟨w.heap.size, 0, none⟩ = some (.int .i64 x.f0) ∧ w'.cell? ⟨w.heap.size, 1, none⟩ = some (.int .i64 x.f1) ∧ w'.cell? ⟨w.heap.size, 2, none⟩ = some (.int .i64 x.f2) ∧ w'.cell? ⟨w.heap.size, 3, none⟩ = some (.int .i64 x.f3) ∧ w'.cell? ⟨w.heap.size, 4, none⟩ = some (.int .i64 x.f4) ∧ w'.cell? ⟨w.heap.size, 5, none⟩ = some (.bool x.f5)) (go_keep) (first
    | (refine step_append_grows rfl (.tmp 44) (.tmp 46) 22 rfl 25 i0 _ 6 48 Try.underlying22 hi hz0 hz1 hz2 rfl (by decide) A l.length l.length (flatL l) ?c0 ?ca ?c1 ?c2 ⟨w3.heap.size, 0, none⟩ 1 1 (cellsL x) rfl rfl ?c3 ?c4 ?c5 ?c6 ?c7 ?_;
       (case c0 => first | rfl | (go_simp; done));
       (case ca => intro hA; have := HR.out.2.2; constructor <;> (by_cases hz : 0 < l.length; (obtain ⟨ad, e1, _⟩ := this hz; rw [hA] at e1; cases e1); omega));
       (case c1 => rw [flat_len]);
       (case c2 => exact flat_read' HR.out (below_alloc (pw_below_drewN HB3.out _) _));
       (case c3 => exact box_news _ x);
       (case c4 => exact cells_one x);
       (case c5 => omega);
       (case c6 => unfold maxLen; omega);
       (case c7 => omega);
       intro v1 w4 hown hgrow;
       have HG4 := Aside0.mk (blk_grown (blk_alloc (blk_drewN HG3.out _) _) hgrow (by simp));
       have HB4 := Aside0.mk (pw_below_grown (below_alloc (pw_below_drewN HB3.out _) _) none (below_size (below_alloc (pw_below_drewN HB3.out _) _)) hgrow (by simp));
       have HO1 := Aside0.mk hown;
       clear hown hgrow hq0 hq1 hq2 hq3 hq4 hq5;
       have k0 := (blk_cell HG4.out 0).trans rfl;
       have k1 := (blk_cell HG4.out 1).trans rfl;
       have k2 := (blk_cell HG4.out 2).trans rfl;
       have k3 := (blk_cell HG4.out 3).trans rfl;
       have k4 := (blk_cell HG4.out 4).trans rfl;
       have k5 := (blk_cell HG4.out 5).trans rfl)
    | (refine step_append_none rfl (.tmp 47) (.tmp 50) 22 rfl 25 i0 Try.underlying22 hi _ 6 (l.length + 1) v1 _ rfl HO1.out ?d0 ?_;
       (case d0 => exact ⟨_, _, by go_simp; exact ⟨rfl, rfl⟩⟩))
    )
  have e : flatL (l ++ [x]) = flatL l ++ cellsL x := by rw [flat_app]; simp [flatL]
  have el : (l ++ [x]).length = l.length + 1 := by simp
  have HE := Aside0.mk e
  have HEL := Aside0.mk el
  clear e el
  go_wp2
  all_goals
    go_ret2
    refine ⟨_, rfl, own_R ?_, HB4.out⟩
    rw [HE.out, HEL.out]
    exact own_less HO1.out (by have := HB3.out.size; simp; omega)
/-- A list with one more. -/
def add2 (l : List S25) (x : S25) : List S25 × Int :=
  if rightB l = true ∧ validB x = true ∧ l.length < 64 then
    (if idxFrom (afterB x) l 0 < 0 then (l ++ [x], 0)
     else if (rd_T25 l (idxFrom (afterB x) l 0)).f0 < x.f1 then ([], 4)
     else (l.take (idxFrom (afterB x) l 0).toNat ++ (x :: l.drop (idxFrom (afterB x) l 0).toNat), 0))
  else ([], 1)
def region_Add.f (l0 : List (S25)) (a1_0 : Int) (a1_1 : Int) (a1_2 : Int) (a1_3 : Int) (a1_4 : Int) (a1_5 : Bool) : Option ((List (S25)) × Int) := if l0.length < 9223372036854775807 then some (add2 l0 ⟨a1_0, a1_1, a1_2, a1_3, a1_4, a1_5⟩) else none
theorem region_Add.calls (A0 : Option Addr) (c0 : Nat) (l0 : List (S25)) (a1_0 : Int) (a1_1 : Int) (a1_2 : Int) (a1_3 : Int) (a1_4 : Int) (a1_5 : Bool) (r1 : List (S25)) (r2 : Int) (w : World) (hr0 : Kd.C k25 w A0 l0.length l0) (hc0 : l0.length ≤ c0) (h : region_Add.f l0 a1_0 a1_1 a1_2 a1_3 a1_4 a1_5 = some (r1, r2)) :
    Calls Try.prog 11 #[.slice A0 l0.length c0, .agg #[.int .i64 a1_0, .int .i64 a1_1, .int .i64 a1_2, .int .i64 a1_3, .int .i64 a1_4, .bool a1_5]] w fun e w' => ∃ v0_ : Value, e = .returned (.tuple #[v0_, .int .i64 r2]) ∧ Kd.R k25 25 w' w.heap.size (fun _ => True) v0_ r1 ∧ Below w.heap.size w w' := by
  unfold region_Add.f at h
  by_cases hl : l0.length < 9223372036854775807
  · rw [if_pos hl] at h
    have h := Option.some.inj h
    have nil : ∀ (n : Int), (Calls Try.prog 11 #[.slice A0 l0.length c0, .agg #[.int .i64 a1_0, .int .i64 a1_1, .int .i64 a1_2, .int .i64 a1_3, .int .i64 a1_4, .bool a1_5]] w fun e w' => e = .returned (.tuple #[.slice none 0 0, .int .i64 n]) ∧ Below w.heap.size w w') →
        Calls Try.prog 11 #[.slice A0 l0.length c0, .agg #[.int .i64 a1_0, .int .i64 a1_1, .int .i64 a1_2, .int .i64 a1_3, .int .i64 a1_4, .bool a1_5]] w fun e w' => ∃ v0_ : Value, e = .returned (.tuple #[v0_, .int .i64 n]) ∧ Kd.R k25 25 w' w.heap.size (fun _ => True) v0_ [] ∧ Below w.heap.size w w' := by
      intro n hc
      exact hc.mono fun e w' ⟨he, hb⟩ => ⟨_, he, Kd.R_nil _ _ _ _ _, hb⟩
    unfold add2 at h
    by_cases hq : rightB l0 = true ∧ validB ⟨a1_0, a1_1, a1_2, a1_3, a1_4, a1_5⟩ = true ∧ l0.length < 64
    · rw [if_pos hq] at h
      obtain ⟨q1, q2, q3⟩ := hq
      have hrg := idx_range (afterB ⟨a1_0, a1_1, a1_2, a1_3, a1_4, a1_5⟩) l0 0 (by omega)
      by_cases hn : idxFrom (afterB ⟨a1_0, a1_1, a1_2, a1_3, a1_4, a1_5⟩) l0 0 < 0
      · rw [if_pos hn] at h
        simp only [Prod.mk.injEq] at h
        obtain ⟨rfl, rfl⟩ := h
        exact add_end A0 c0 l0 ⟨a1_0, a1_1, a1_2, a1_3, a1_4, a1_5⟩ w hr0 hc0 q3 q1 q2 (by omega)
      · rw [if_neg hn] at h
        by_cases ho : (rd_T25 l0 (idxFrom (afterB ⟨a1_0, a1_1, a1_2, a1_3, a1_4, a1_5⟩) l0 0)).f0 < a1_1
        · rw [if_pos ho] at h
          simp only [Prod.mk.injEq] at h
          obtain ⟨rfl, rfl⟩ := h
          exact nil 4 (add_busy A0 c0 l0 ⟨a1_0, a1_1, a1_2, a1_3, a1_4, a1_5⟩ w hr0 hc0 q3 q1 q2 _ rfl (by omega) (by omega) ho)
        · rw [if_neg ho] at h
          simp only [Prod.mk.injEq] at h
          obtain ⟨rfl, rfl⟩ := h
          exact add_ins A0 c0 l0 ⟨a1_0, a1_1, a1_2, a1_3, a1_4, a1_5⟩ w hr0 hc0 q3 q1 q2 _ rfl (by omega) (by omega) ho
    · rw [if_neg hq] at h
      simp only [Prod.mk.injEq] at h
      obtain ⟨rfl, rfl⟩ := h
      cases h1 : rightB l0
      · exact nil 1 (add_bad A0 c0 l0 ⟨a1_0, a1_1, a1_2, a1_3, a1_4, a1_5⟩ w hr0 hc0 hl h1)
      · cases h2 : validB ⟨a1_0, a1_1, a1_2, a1_3, a1_4, a1_5⟩
        · exact nil 1 (add_inv A0 c0 l0 ⟨a1_0, a1_1, a1_2, a1_3, a1_4, a1_5⟩ w hr0 hc0 hl h1 h2)
        · exact nil 1 (add_full A0 c0 l0 ⟨a1_0, a1_1, a1_2, a1_3, a1_4, a1_5⟩ w hr0 hc0 hl h1 h2 (by have : ¬ l0.length < 64 := fun h3 => hq ⟨h1, h2, h3⟩; omega))
  · rw [if_neg hl] at h; cases h

/-! ### region_Find: function 13 -/
set_option maxRecDepth 100000 in
theorem find1 (x : S25) (a : Addr) (page : Int) (w : World) (ha : w.cell? a = some (.int .i64 page)) :
    Calls Try.prog 28 #[vS x, .pointer (some a)] w fun e w' => e = .returned (.bool (decide (x.f0 ≤ page) && decide (page < x.f1))) ∧ Below w.heap.size w w' := by
  have hu := Try.underlying25
  unfold vS
  have hlt := World.block_lt_of_cell? w a ha
  by_cases h1 : x.f0 ≤ page
  · by_cases h2 : page < x.f1
    · go_enter Try.func28, Try.ntmps28
      go_wp2
      go_ret
      exact ⟨by simp [h1, h2], below_alloc (Below.refl _ _) _⟩
    · go_enter Try.func28, Try.ntmps28
      go_wp2
      go_ret
      exact ⟨by simp [h1, h2], below_alloc (Below.refl _ _) _⟩
  · go_enter Try.func28, Try.ntmps28
    go_wp2
    go_ret
    exact ⟨by simp [h1]; intro; omega, below_alloc (Below.refl _ _) _⟩
/-- A region's page? -/
def inB (page : Int) (x : S25) : Bool := decide (x.f0 ≤ page) && decide (page < x.f1)
def find7 (l : List S25) (page : Int) : Int × Int × Int × Int × Int × Bool × Bool :=
  if idxFrom (inB page) l 0 < 0 then (0, 0, 0, 0, 0, false, false) else if rightB l = true then ((rd_T25 l (idxFrom (inB page) l 0)).f0, (rd_T25 l (idxFrom (inB page) l 0)).f1, (rd_T25 l (idxFrom (inB page) l 0)).f2, (rd_T25 l (idxFrom (inB page) l 0)).f3, (rd_T25 l (idxFrom (inB page) l 0)).f4, (rd_T25 l (idxFrom (inB page) l 0)).f5, true) else (0, 0, 0, 0, 0, false, false)
theorem find_idx (A : Option Addr) (c : Nat) (l : List S25) (page : Int) (w W : World) (hr : Kd.C k25 w A l.length l) (hc : l.length ≤ c) (hl : l.length < 9223372036854775807) (hb : Below w.heap.size w W) (a : Addr) (ha : W.cell? a = some (.int .i64 page)) :
    Calls Try.prog 26 #[.slice A l.length c, .func (.func 28) #[] #[.pointer (some a)]] W fun e w' => e = .returned (.int .i64 (idxFrom (inB page) l 0)) ∧ Below W.heap.size W w' :=
  index_28 a (inB page) A c l W (Kd.C_below hr hb) hc hl (fun x W1 hb1 => find1 x a page W1 (pw_cell_below hb1 ha))
set_option maxRecDepth 100000 in
theorem find_no (A : Option Addr) (c : Nat) (l : List S25) (page : Int) (w : World) (hr : Kd.C k25 w A l.length l) (hc : l.length ≤ c) (hl : l.length < 9223372036854775807) (h : idxFrom (inB page) l 0 < 0) :
    Calls Try.prog 13 #[.slice A l.length c, .int .i64 page] w fun e w' => e = .returned (.tuple #[.agg #[.int .i64 0, .int .i64 0, .int .i64 0, .int .i64 0, .int .i64 0, .bool false], .bool false]) ∧ Below w.heap.size w w' := by
  have hu := Try.underlying25
  have HR := Aside0.mk hr
  clear hr
  go_enter Try.func13, Try.ntmps13
  go_wp2_with fail
  refine (find_idx A c l page w _ HR.out hc hl (below_alloc (below_alloc (Below.refl _ _) _) _) _ ?_).mono ?_
  · go_simp
  rintro e w1 ⟨rfl, hb⟩
  obtain ⟨hc1, hf1⟩ := bcell hb
  have HB := Aside0.mk hb
  clear hb
  go_wp2
  have hg : w1.heap[w.heap.size + 1]? = some (.cells #[.int .i64 0, .int .i64 0, .int .i64 0, .int .i64 0, .int .i64 0, .bool false] 25 (0, 0)) := by
    rw [HB.out.block (w.heap.size + 1) (by simp)]; exact zero25 w _
  have hb' : Below w.heap.size w w1 := below_step (below_alloc (below_alloc (Below.refl _ _) _) _) HB.out
  refine bodyPost_ret (results_ct rfl _ _ (w.heap.size + 1) 25 #[.int .i64 0, .int .i64 0, .int .i64 0, .int .i64 0, .int .i64 0, .bool false] (0, 0) _ rfl (put6 _ _ _ _ _ _ hg) Try.underlying25 rfl (by kernel_rfl)) rfl ⟨rfl, below6 _ _ _ _ _ _ hb' (by omega)⟩

set_option maxRecDepth 100000 in
theorem find_bad (A : Option Addr) (c : Nat) (l : List S25) (page : Int) (w : World) (hr : Kd.C k25 w A l.length l) (hc : l.length ≤ c) (hl : l.length < 9223372036854775807) (h : 0 ≤ idxFrom (inB page) l 0) (hrb : rightB l = false) :
    Calls Try.prog 13 #[.slice A l.length c, .int .i64 page] w fun e w' => e = .returned (.tuple #[.agg #[.int .i64 0, .int .i64 0, .int .i64 0, .int .i64 0, .int .i64 0, .bool false], .bool false]) ∧ Below w.heap.size w w' := by
  have hu := Try.underlying25
  have HR := Aside0.mk hr
  have HRB := Aside0.mk hrb
  clear hr hrb
  go_enter Try.func13, Try.ntmps13
  go_wp2_with fail
  refine (find_idx A c l page w _ HR.out hc hl (below_alloc (below_alloc (Below.refl _ _) _) _) _ ?_).mono ?_
  · go_simp
  rintro e w1 ⟨rfl, hb⟩
  have HB := Aside0.mk (below_step (below_alloc (below_alloc (Below.refl _ _) _) _) hb)
  have hg : w1.heap[w.heap.size + 1]? = some (.cells #[.int .i64 0, .int .i64 0, .int .i64 0, .int .i64 0, .int .i64 0, .bool false] 25 (0, 0)) := by
    rw [hb.block (w.heap.size + 1) (by simp)]; exact zero25 w _
  have HG := Aside0.mk hg
  clear hg hb
  go_wp2_with fail
  refine (c_right A c l _ (Kd.C_below HR.out HB.out) hc hl).mono ?_
  rintro e w2 ⟨rfl, hb⟩
  rw [HRB.out]
  have HB2 := Aside0.mk (below_step HB.out hb)
  have HG2 := Aside0.mk ((hb.block (w.heap.size + 1) (blk_lt HG.out)).trans HG.out)
  clear HB HG hb
  have hq0 := blk_cell HG2.out 0
  have hq1 := blk_cell HG2.out 1
  have hq2 := blk_cell HG2.out 2
  have hq3 := blk_cell HG2.out 3
  have hq4 := blk_cell HG2.out 4
  have hq5 := blk_cell HG2.out 5
  have hf0 := blk_frozen HG2.out 0
  have hf1 := blk_frozen HG2.out 1
  have hf2 := blk_frozen HG2.out 2
  have hf3 := blk_frozen HG2.out 3
  have hf4 := blk_frozen HG2.out 4
  have hf5 := blk_frozen HG2.out 5
  go_wp2
  refine bodyPost_ret (results_ct rfl _ _ (w.heap.size + 1) 25 #[.int .i64 0, .int .i64 0, .int .i64 0, .int .i64 0, .int .i64 0, .bool false] (0, 0) _ rfl (put6 _ _ _ _ _ _ HG2.out) Try.underlying25 rfl (by kernel_rfl)) rfl ⟨rfl, below6 _ _ _ _ _ _ HB2.out (by omega)⟩
set_option maxRecDepth 100000 in
theorem find_yes (A : Option Addr) (c : Nat) (l : List S25) (page : Int) (w : World) (hr : Kd.C k25 w A l.length l) (hc : l.length ≤ c) (hl : l.length < 9223372036854775807) (i : Int) (hi : idxFrom (inB page) l 0 = i) (h0 : 0 ≤ i) (h1 : i < l.length) (hrb : rightB l = true) :
    Calls Try.prog 13 #[.slice A l.length c, .int .i64 page] w fun e w' => e = .returned (.tuple #[vS (rd_T25 l i), .bool true]) ∧ Below w.heap.size w w' := by
  have hu := Try.underlying25
  have HR := Aside0.mk hr
  have HRB := Aside0.mk hrb
  have HI := Aside0.mk hi
  clear hr hrb hi
  go_enter Try.func13, Try.ntmps13
  go_wp2_with fail
  refine (find_idx A c l page w _ HR.out hc hl (below_alloc (below_alloc (Below.refl _ _) _) _) _ ?_).mono ?_
  · go_simp
  rintro e w1 ⟨rfl, hb⟩
  rw [HI.out]
  have HB := Aside0.mk (below_step (below_alloc (below_alloc (Below.refl _ _) _) _) hb)
  have hg : w1.heap[w.heap.size + 1]? = some (.cells #[.int .i64 0, .int .i64 0, .int .i64 0, .int .i64 0, .int .i64 0, .bool false] 25 (0, 0)) := by
    rw [hb.block (w.heap.size + 1) (by simp)]; exact zero25 w _
  have HG := Aside0.mk hg
  clear hg hb
  go_wp2_with fail
  refine (c_right A c l _ (Kd.C_below HR.out HB.out) hc hl).mono ?_
  rintro e w2 ⟨rfl, hb⟩
  rw [HRB.out]
  have HB2 := Aside0.mk (below_step HB.out hb)
  have HG2 := Aside0.mk ((hb.block (w.heap.size + 1) (blk_lt HG.out)).trans HG.out)
  clear HB HG hb
  have hq0 := blk_cell HG2.out 0
  have hq1 := blk_cell HG2.out 1
  have hq2 := blk_cell HG2.out 2
  have hq3 := blk_cell HG2.out 3
  have hq4 := blk_cell HG2.out 4
  have hq5 := blk_cell HG2.out 5
  have hf0 := blk_frozen HG2.out 0
  have hf1 := blk_frozen HG2.out 1
  have hf2 := blk_frozen HG2.out 2
  have hf3 := blk_frozen HG2.out 3
  have hf4 := blk_frozen HG2.out 4
  have hf5 := blk_frozen HG2.out 5
  obtain ⟨ad, e1, x0, x1, x2, x3, x4, x5⟩ := at_T25 HR.out i h0 h1
  cases e1
  replace x0 := (HB2.out.cell (World.block_lt_of_cell? w _ x0)).trans x0
  replace x1 := (HB2.out.cell (World.block_lt_of_cell? w _ x1)).trans x1
  replace x2 := (HB2.out.cell (World.block_lt_of_cell? w _ x2)).trans x2
  replace x3 := (HB2.out.cell (World.block_lt_of_cell? w _ x3)).trans x3
  replace x4 := (HB2.out.cell (World.block_lt_of_cell? w _ x4)).trans x4
  replace x5 := (HB2.out.cell (World.block_lt_of_cell? w _ x5)).trans x5
  go_wp2
  refine bodyPost_ret (results_ct rfl _ _ (w.heap.size + 1) 25 #[.int .i64 (rd_T25 l i).f0, .int .i64 (rd_T25 l i).f1, .int .i64 (rd_T25 l i).f2, .int .i64 (rd_T25 l i).f3, .int .i64 (rd_T25 l i).f4, .bool (rd_T25 l i).f5] (0, 0) _ rfl (put6 _ _ _ _ _ _ HG2.out) Try.underlying25 rfl (by kernel_rfl)) rfl ⟨rfl, below6 _ _ _ _ _ _ HB2.out (by omega)⟩
def region_Find.f (l0 : List S25) (a1 : Int) : Option (Int × Int × Int × Int × Int × Bool × Bool) := if l0.length < 9223372036854775807 then some (find7 l0 a1) else none
theorem region_Find.calls (A0 : Option Addr) (c0 : Nat) (l0 : List (S25)) (a1 : Int) (r1 : Int) (r2 : Int) (r3 : Int) (r4 : Int) (r5 : Int) (r6 : Bool) (r7 : Bool) (w : World) (hr0 : Kd.C k25 w A0 l0.length l0) (hc0 : l0.length ≤ c0) (h : region_Find.f l0 a1 = some (r1, r2, r3, r4, r5, r6, r7)) :
    Calls Try.prog 13 #[.slice A0 l0.length c0, .int .i64 a1] w fun e w' => e = .returned (.tuple #[.agg #[.int .i64 r1, .int .i64 r2, .int .i64 r3, .int .i64 r4, .int .i64 r5, .bool r6], .bool r7]) ∧ Below w.heap.size w w' := by
  unfold region_Find.f at h
  by_cases hl : l0.length < 9223372036854775807
  · rw [if_pos hl] at h
    have h := Option.some.inj h
    unfold find7 at h
    by_cases hn : idxFrom (inB a1) l0 0 < 0
    · rw [if_pos hn] at h
      simp only [Prod.mk.injEq] at h
      obtain ⟨rfl, rfl, rfl, rfl, rfl, rfl, rfl⟩ := h
      exact find_no A0 c0 l0 a1 w hr0 hc0 hl hn
    · rw [if_neg hn] at h
      have hrg := idx_range (inB a1) l0 0 (by omega)
      cases hb : rightB l0
      · rw [hb, if_neg (by simp)] at h
        simp only [Prod.mk.injEq] at h
        obtain ⟨rfl, rfl, rfl, rfl, rfl, rfl, rfl⟩ := h
        exact find_bad A0 c0 l0 a1 w hr0 hc0 hl (by omega) hb
      · rw [hb, if_pos rfl] at h
        simp only [Prod.mk.injEq] at h
        obtain ⟨rfl, rfl, rfl, rfl, rfl, rfl, rfl⟩ := h
        exact find_yes A0 c0 l0 a1 w hr0 hc0 hl _ rfl (by omega) (by omega) hb
  · rw [if_neg hl] at h; cases h

/-! ### region_Pages: function 20 -/
def region_Pages.l0 : Nat → Int → List (S25) → Int → Int → Option (Int)
  | 0, _, _, _, _ => none
  | k + 1, x3, x8, x9, x10 => if x10 < x9 then (if 0 ≤ x10 then (if x10 < (x8.length : Int) then (region_Pages.l0 k (wrap64 (x3 + (wrap64 (((rd_T25 x8 x10).f1) - ((rd_T25 x8 x10).f0))))) x8 x9 (wrap64 (x10 + 1))) else (none)) else (none)) else (some x3)
def region_Pages.f (k : Nat) (l0 : List (S25)) : Option (Int) := (region_Right.f k l0).bind fun t107 => (if t107 = true then (region_Pages.l0 k 0 l0 (l0.length : Int) 0) else (some 0))
theorem region_Pages.mono_l : ∀ k, (∀ y0 y1 y2 y3, LeO (region_Pages.l0 k y0 y1 y2 y3) (region_Pages.l0 (k + 1) y0 y1 y2 y3))
  | 0 => fun _ _ _ _ r h => by simp [region_Pages.l0] at h
  | k + 1 => by
    have ih0 := region_Pages.mono_l k
    · intro y0 y1 y2 y3
      unfold region_Pages.l0
      repeat' first
      | (with_reducible exact ih0 _ _ _ _)
      | (with_reducible exact region_Right.mono _ _)
      | (with_reducible exact LeO.refl _)
      | (with_reducible exact LeO.none _)
      | (with_reducible refine LeO.ite ?_ ?_)
      | (with_reducible refine LeO.bind ?_ (fun _ => ?_))
      | exact ih0 _ _ _ _
      | exact region_Right.mono _ _
      | exact LeO.none _
      | refine LeO.ite ?_ ?_
      | refine LeO.bind ?_ (fun _ => ?_)
theorem region_Pages.mono : ∀ a0 k, LeO (region_Pages.f k a0) (region_Pages.f (k + 1) a0) := by
  intro a0 k
  have ih0 := region_Pages.mono_l k
  unfold region_Pages.f
  repeat' first
      | (with_reducible exact ih0 _ _ _ _)
      | (with_reducible exact region_Right.mono _ _)
      | (with_reducible exact LeO.refl _)
      | (with_reducible exact LeO.none _)
      | (with_reducible refine LeO.ite ?_ ?_)
      | (with_reducible refine LeO.bind ?_ (fun _ => ?_))
      | exact ih0 _ _ _ _
      | exact region_Right.mono _ _
      | exact LeO.none _
      | refine LeO.ite ?_ ?_
      | refine LeO.bind ?_ (fun _ => ?_)
set_option maxHeartbeats 8000000 in
set_option maxRecDepth 100000 in
theorem region_Pages.calls (k : Nat) (A0 : Option Addr) (c0 : Nat) (l0 : List (S25)) (r : Int) (w : World) (hr0 : Kd.C k25 w A0 l0.length l0) (hc0 : l0.length ≤ c0) (h : region_Pages.f k l0 = some r) :
    Calls Try.prog 20 #[.slice A0 l0.length c0] w fun e w' => e = .returned (.int .i64 r) ∧ Below w.heap.size w w' := by
  have hu25 := Try.underlying25
  have HR0 := Aside0.mk hr0
  have HC0 := Aside0.mk hc0
  clear hr0 hc0
  have HB := Aside0.mk (Below.refl w.heap.size w)
  have H : ((region_Right.f k l0).bind fun t107 => (if t107 = true then (region_Pages.l0 k 0 l0 (l0.length : Int) 0) else (some 0))) = some r := h
  clear h
  replace H := Option.bind_eq_some_iff.mp H
  obtain ⟨t107, A20, H⟩ := H
  replace H : (if t107 = true then (region_Pages.l0 k 0 l0 (l0.length : Int) 0) else (some 0)) = some r := H
  have A2 := Aside0.mk A20
  clear A20
  by_cases c3 : t107 = true
  · subst c3
    have H1 : (region_Pages.l0 k 0 l0 (l0.length : Int) 0) = some r := by rw [if_pos rfl] at H; exact H
    clear H
    have H := H1
    clear H1
    have H' := Aside0.mk H
    clear H
    go_enter Try.func20, Try.ntmps20
    go_wp2_with (first | ((with_reducible refine gate_callee (f := 19) rfl ?_); refine goesL_ (some 7) rfl rfl Try.func19 (by kernel_rfl) rfl #[.slice A0 l0.length c0] rfl (by (try simp only [List.map_toArray, List.map_cons, List.map_nil]); first | done | rfl | (simp only [List.length_drop, List.length_take]; rfl)) ?_; (with_reducible refine (region_Right.calls k _ _ l0 true _ ?side1 ?side2 A2.out).mono ?_); (case side1 => repeat (first | exact HR0.out | (with_reducible refine Kd.C_alloc ?_ _) | (with_reducible refine Kd.C_drewN ?_ _) | (with_reducible refine Kd.C_drew ?_))); (case side2 => exact HC0.out); rintro e w4 ⟨rfl, hb⟩; refine ⟨_, rfl, ?_⟩; have n0_ := Aside0.mk (below_step (by repeat (first | (with_reducible first | exact HB.out | apply below_alloc | apply pw_below_drewN | apply below_drew1) | exact HB.out)) hb); clear HB; have HB := n0_; clear n0_; (try clear hb); (try clear hb2); (try clear hk); (try clear hi)))
    go_loopg [3, 10] k (fun kq v3 v10 w' => ∃ (x3_1 : Int) (x10_1 : Int), v3 = .int .i64 x3_1 ∧ v10 = .int .i64 x10_1 ∧ Aside0 (region_Pages.l0 kq x3_1 l0 (l0.length : Int) x10_1 = some r) ∧ Aside0 (kq ≤ k) ∧ Aside0 (Below w.heap.size w w'))
    case atStart => exact ⟨(0), (0), (by first | rfl | (simp; done) | (simp [*]; done)), (by first | rfl | (simp; done) | (simp [*]; done)), H', ⟨Nat.le_refl _⟩, ⟨by repeat (first | (with_reducible first | exact HB.out | apply below_alloc | apply pw_below_drewN | apply below_drew1) | exact HB.out)⟩⟩
    case round =>
      clear H'
      try clear c1
      try clear c2
      try clear p2
      try clear c3
      obtain ⟨x3_1, x10_1, rfl, rfl, HA, HK1, HB⟩ := hrel
      cases gk with
      | zero => exact absurd HA.out (by simp [region_Pages.l0])
      | succ k1 =>
        have H := HA.out
        clear HA
        simp only [region_Pages.l0] at H
        by_cases c5 : x10_1 < (l0.length : Int)
        · rw [if_pos c5] at H
          have c5b0 : decide (x10_1 < (l0.length : Int)) = true := decide_eq_true c5
          clear c5
          by_cases c6 : 0 ≤ x10_1
          · rw [if_pos c6] at H
            have c6b0 : decide (0 ≤ x10_1) = true := decide_eq_true c6
            clear c6
            by_cases c7 : x10_1 < (l0.length : Int)
            · rw [if_pos c7] at H
              have c7b0 : decide (x10_1 < (l0.length : Int)) = true := decide_eq_true c7
              clear c7
              have H' := Aside0.mk H
              clear H
              have p108 : 0 ≤ (x10_1 : Int) := of_decide_eq_true (by first | (with_reducible assumption) | assumption)
              have q108 : x10_1 < (l0.length : Int) := of_decide_eq_true (by first | (with_reducible assumption) | assumption)
              obtain ⟨ad108, e108, hx108_0, hx108_1, hx108_2, hx108_3, hx108_4, hx108_5⟩ := at_T25 HR0.out x10_1 p108 q108
              cases e108
              replace hx108_0 := (HB.out.cell (World.block_lt_of_cell? w _ hx108_0)).trans hx108_0
              replace hx108_1 := (HB.out.cell (World.block_lt_of_cell? w _ hx108_1)).trans hx108_1
              replace hx108_2 := (HB.out.cell (World.block_lt_of_cell? w _ hx108_2)).trans hx108_2
              replace hx108_3 := (HB.out.cell (World.block_lt_of_cell? w _ hx108_3)).trans hx108_3
              replace hx108_4 := (HB.out.cell (World.block_lt_of_cell? w _ hx108_4)).trans hx108_4
              replace hx108_5 := (HB.out.cell (World.block_lt_of_cell? w _ hx108_5)).trans hx108_5
              replace p108 := eq_true p108
              replace q108 := eq_true q108
              go_wp2_with (first | ((with_reducible refine gate_dst (N := 5) rfl ?_); refine box_event ?hg (N := 5) ?hd (cs := #[.int .i64 0, .int .i64 0, .int .i64 0, .int .i64 0, .int .i64 0, .bool false]) (t := 25) ?hr ?_; (case hd => rfl); (case hg => rfl); (case hr => first | (go_simp; done) | (go_simp; rfl)); intro gb109 hg w8 hbox hb; have n0_ := Aside0.mk (below_step (by repeat (first | (with_reducible first | exact HB.out | apply below_alloc | apply pw_below_drewN | apply below_drew1) | exact HB.out)) hb); have n1_ := Aside0.mk (hbox); have n2_ := Aside0.mk ((by rw [hg]; exact (below_size (by repeat (first | (with_reducible first | exact HB.out | apply below_alloc | apply pw_below_drewN | apply below_drew1) | exact HB.out))) : w.heap.size ≤ gb109)); have n3_ := Aside0.mk ((by rw [hg]; exact (below_size (by repeat (first | (with_reducible first | exact HB.out | apply below_alloc | apply pw_below_drewN | apply below_drew1) | exact HB.out))) : w.heap.size ≤ gb109)); clear HB; have HB := n0_; have BK109 := n1_; have GW109 := n2_; have GE109 := n3_; clear n0_ n1_ n2_ n3_; clear hb hbox hg; have hcz9_0 : w8.cell? ⟨gb109, 0, none⟩ = some (.int .i64 0) := (blk_cell BK109.out 0).trans rfl; have hcz9_1 : w8.cell? ⟨gb109, 1, none⟩ = some (.int .i64 0) := (blk_cell BK109.out 1).trans rfl; have hcz9_2 : w8.cell? ⟨gb109, 2, none⟩ = some (.int .i64 0) := (blk_cell BK109.out 2).trans rfl; have hcz9_3 : w8.cell? ⟨gb109, 3, none⟩ = some (.int .i64 0) := (blk_cell BK109.out 3).trans rfl; have hcz9_4 : w8.cell? ⟨gb109, 4, none⟩ = some (.int .i64 0) := (blk_cell BK109.out 4).trans rfl; have hcz9_5 : w8.cell? ⟨gb109, 5, none⟩ = some (.bool false) := (blk_cell BK109.out 5).trans rfl; have hfz9_0 := blk_frozen BK109.out 0; have hfz9_1 := blk_frozen BK109.out 1; have hfz9_2 := blk_frozen BK109.out 2; have hfz9_3 := blk_frozen BK109.out 3; have hfz9_4 := blk_frozen BK109.out 4; have hfz9_5 := blk_frozen BK109.out 5))
              go_roundg k1
              case measure => have := HK1.out; omega
              case rel => exact ⟨(wrap64 (x3_1 + (wrap64 (((rd_T25 l0 x10_1).f1) - ((rd_T25 l0 x10_1).f0))))), (wrap64 (x10_1 + 1)), (by first | rfl | (simp; done) | (simp [*]; done)), (by first | rfl | (simp; done) | (simp [*]; done)), H', ⟨by have := HK1.out; omega⟩, ⟨by repeat (first | (with_reducible first | exact HB.out | apply below_alloc | apply pw_below_drewN | apply below_drew1 | refine below_set ?_ GE109.out) | exact HB.out)⟩⟩
            · rw [if_neg c7] at H
              exact absurd H (by simp)
          · rw [if_neg c6] at H
            exact absurd H (by simp)
        · rw [if_neg c5] at H
          have c5b0 : decide (x10_1 < (l0.length : Int)) = false := decide_eq_false c5
          clear c5
          obtain rfl := Option.some.inj H
          go_wp2
          go_ret
          exact ⟨by first | rfl | (simp [errW_none, errW_some] <;> rfl) | (simp [*, errW_none, errW_some] <;> rfl), by repeat (first | (with_reducible first | exact HB.out | apply below_alloc | apply pw_below_drewN | apply below_drew1) | exact HB.out)⟩
  · replace c3 := Bool.eq_false_iff.mpr c3
    subst c3
    have H1 : (some 0) = some r := by rw [if_neg (show ¬ (false = true) by decide)] at H; exact H
    clear H
    have H := H1
    clear H1
    obtain rfl := Option.some.inj H
    go_enter Try.func20, Try.ntmps20
    go_wp2_with (first | ((with_reducible refine gate_callee (f := 19) rfl ?_); refine goesL_ (some 7) rfl rfl Try.func19 (by kernel_rfl) rfl #[.slice A0 l0.length c0] rfl (by (try simp only [List.map_toArray, List.map_cons, List.map_nil]); first | done | rfl | (simp only [List.length_drop, List.length_take]; rfl)) ?_; (with_reducible refine (region_Right.calls k _ _ l0 false _ ?side1 ?side2 A2.out).mono ?_); (case side1 => repeat (first | exact HR0.out | (with_reducible refine Kd.C_alloc ?_ _) | (with_reducible refine Kd.C_drewN ?_ _) | (with_reducible refine Kd.C_drew ?_))); (case side2 => exact HC0.out); rintro e w10 ⟨rfl, hb⟩; refine ⟨_, rfl, ?_⟩; have n0_ := Aside0.mk (below_step (by repeat (first | (with_reducible first | exact HB.out | apply below_alloc | apply pw_below_drewN | apply below_drew1) | exact HB.out)) hb); clear HB; have HB := n0_; clear n0_; (try clear hb); (try clear hb2); (try clear hk); (try clear hi)))
    go_ret
    exact ⟨by first | rfl | (simp [errW_none, errW_some] <;> rfl) | (simp [*, errW_none, errW_some] <;> rfl), by repeat (first | (with_reducible first | exact HB.out | apply below_alloc | apply pw_below_drewN | apply below_drew1) | exact HB.out)⟩

/-! ### region_Key: function 22 -/
def region_Key.f (a0_0 : Int) (a0_1 : Int) (a0_2 : Int) (a0_3 : Int) (a0_4 : Int) (a0_5 : Bool) (a1 : Int) : Option (Int × Int) := if a0_2 = 2 then (some (a0_3, wrap64 ((wrap64 (a0_4 + a1)) - a0_0))) else (some ((-1), a1))
set_option maxHeartbeats 8000000 in
set_option maxRecDepth 100000 in
theorem region_Key.calls (a0_0 : Int) (a0_1 : Int) (a0_2 : Int) (a0_3 : Int) (a0_4 : Int) (a0_5 : Bool) (a1 : Int) (r1 : Int) (r2 : Int) (w : World) (h : region_Key.f a0_0 a0_1 a0_2 a0_3 a0_4 a0_5 a1 = some (r1, r2)) :
    Calls Try.prog 22 #[.agg #[.int .i64 a0_0, .int .i64 a0_1, .int .i64 a0_2, .int .i64 a0_3, .int .i64 a0_4, .bool a0_5], .int .i64 a1] w fun e w' => e = .returned (.agg #[.int .i64 r1, .int .i64 r2]) ∧ Below w.heap.size w w' := by
  have hu25 := Try.underlying25
  have hu37 := Try.underlying37
  have HB := Aside0.mk (Below.refl w.heap.size w)
  have H : (if a0_2 = 2 then (some (a0_3, wrap64 ((wrap64 (a0_4 + a1)) - a0_0))) else (some ((-1), a1))) = some (r1, r2) := h
  clear h
  by_cases c3 : a0_2 = 2
  · rw [if_pos c3] at H
    have c3b0 : (a0_2 == 2) = true := beq_iff_eq.mpr c3
    have c3b1 : (a0_2 != 2) = false := bne_eq_false_iff_eq.mpr c3
    clear c3
    simp only [Option.some.injEq, Prod.mk.injEq] at H
    obtain ⟨rfl, rfl⟩ := H
    go_enter Try.func22, Try.ntmps22
    go_wp2_with (first | ((with_reducible refine gate_dst (N := 2) rfl ?_); refine box_event ?hg (N := 2) ?hd (cs := #[.int .i64 a0_0, .int .i64 a0_1, .int .i64 a0_2, .int .i64 a0_3, .int .i64 a0_4, .bool a0_5]) (t := 25) ?hr ?_; (case hd => rfl); (case hg => rfl); (case hr => first | (go_simp; done) | (go_simp; rfl)); intro gb110 hg w4 hbox hb; have n0_ := Aside0.mk (below_step (by repeat (first | (with_reducible first | exact HB.out | apply below_alloc | apply pw_below_drewN | apply below_drew1) | exact HB.out)) hb); have n1_ := Aside0.mk (hbox); have n2_ := Aside0.mk ((by rw [hg]; exact (below_size (by repeat (first | (with_reducible first | exact HB.out | apply below_alloc | apply pw_below_drewN | apply below_drew1) | exact HB.out))) : w.heap.size ≤ gb110)); have n3_ := Aside0.mk ((by rw [hg]; exact (below_size (by repeat (first | (with_reducible first | exact HB.out | apply below_alloc | apply pw_below_drewN | apply below_drew1) | exact HB.out))) : w.heap.size ≤ gb110)); clear HB; have HB := n0_; have BK110 := n1_; have GW110 := n2_; have GE110 := n3_; clear n0_ n1_ n2_ n3_; clear hb hbox hg) | ((with_reducible refine gate_dst (N := 4) rfl ?_); refine box_event ?hg (N := 4) ?hd (cs := #[.int .i64 0, .int .i64 0]) (t := 37) ?hr ?_; (case hd => rfl); (case hg => rfl); (case hr => first | (go_simp; done) | (go_simp; rfl)); intro gb111 hg w5 hbox hb; have n0_ := Aside0.mk (blk_below (g := gb110) (o := .cells #[.int .i64 a0_0, .int .i64 a0_1, .int .i64 a0_2, .int .i64 a0_3, .int .i64 a0_4, .bool a0_5] 25 (0, 0)) (by (with_reducible repeat (first | refine blk_drewN ?_ _ | refine blk_drew ?_ | refine blk_alloc ?_ _)); exact BK110.out) hb); have n1_ := Aside0.mk (below_step (by repeat (first | (with_reducible first | exact HB.out | apply below_alloc | apply pw_below_drewN | apply below_drew1 | refine below_set ?_ GE110.out) | exact HB.out)) hb); have n2_ := Aside0.mk (hbox); have n3_ := Aside0.mk ((by rw [hg]; exact (below_size (by repeat (first | (with_reducible first | exact HB.out | apply below_alloc | apply pw_below_drewN | apply below_drew1 | refine below_set ?_ GE110.out) | exact HB.out))) : w.heap.size ≤ gb111)); have n4_ := Aside0.mk ((by rw [hg]; exact (below_size (by repeat (first | (with_reducible first | exact HB.out | apply below_alloc | apply pw_below_drewN | apply below_drew1 | refine below_set ?_ GE110.out) | exact HB.out))) : w.heap.size ≤ gb111)); have n5_ := Aside0.mk ((by rw [hg]; exact Nat.ne_of_lt (blk_lt (g := gb110) (o := .cells #[.int .i64 a0_0, .int .i64 a0_1, .int .i64 a0_2, .int .i64 a0_3, .int .i64 a0_4, .bool a0_5] 25 (0, 0)) (by (with_reducible repeat (first | refine blk_drewN ?_ _ | refine blk_drew ?_ | refine blk_alloc ?_ _)); exact BK110.out)) : gb110 ≠ gb111)); have n6_ := Aside0.mk ((by rw [hg]; exact Nat.ne_of_gt (blk_lt (g := gb110) (o := .cells #[.int .i64 a0_0, .int .i64 a0_1, .int .i64 a0_2, .int .i64 a0_3, .int .i64 a0_4, .bool a0_5] 25 (0, 0)) (by (with_reducible repeat (first | refine blk_drewN ?_ _ | refine blk_drew ?_ | refine blk_alloc ?_ _)); exact BK110.out)) : gb111 ≠ gb110)); clear BK110; clear HB; have BK110 := n0_; have HB := n1_; have BK111 := n2_; have GW111 := n3_; have GE111 := n4_; have NB110_111 := n5_; have NB111_110 := n6_; clear n0_ n1_ n2_ n3_ n4_ n5_ n6_; clear hb hbox hg; have hnb6 := NB110_111.out; have hnc6 := NB111_110.out; have hcz7_0 : w5.cell? ⟨gb110, 0, none⟩ = some (.int .i64 a0_0) := (blk_cell BK110.out 0).trans rfl; have hcz7_1 : w5.cell? ⟨gb110, 1, none⟩ = some (.int .i64 a0_1) := (blk_cell BK110.out 1).trans rfl; have hcz7_2 : w5.cell? ⟨gb110, 2, none⟩ = some (.int .i64 a0_2) := (blk_cell BK110.out 2).trans rfl; have hcz7_3 : w5.cell? ⟨gb110, 3, none⟩ = some (.int .i64 a0_3) := (blk_cell BK110.out 3).trans rfl; have hcz7_4 : w5.cell? ⟨gb110, 4, none⟩ = some (.int .i64 a0_4) := (blk_cell BK110.out 4).trans rfl; have hcz7_5 : w5.cell? ⟨gb110, 5, none⟩ = some (.bool a0_5) := (blk_cell BK110.out 5).trans rfl; have hfz7_0 := blk_frozen BK110.out 0; have hfz7_1 := blk_frozen BK110.out 1; have hfz7_2 := blk_frozen BK110.out 2; have hfz7_3 := blk_frozen BK110.out 3; have hfz7_4 := blk_frozen BK110.out 4; have hfz7_5 := blk_frozen BK110.out 5; have hcz8_0 : w5.cell? ⟨gb111, 0, none⟩ = some (.int .i64 0) := (blk_cell BK111.out 0).trans rfl; have hcz8_1 : w5.cell? ⟨gb111, 1, none⟩ = some (.int .i64 0) := (blk_cell BK111.out 1).trans rfl; have hfz8_0 := blk_frozen BK111.out 0; have hfz8_1 := blk_frozen BK111.out 1))
    refine bodyPost_ret (results_cell_row rfl _ _ gb111 37 #[.int .i64 a0_3, .int .i64 (wrap64 ((wrap64 (a0_4 + a1)) - a0_0))] (0, 0) _ rfl (by (with_reducible repeat (first | refine blk_drewN ?_ _ | refine blk_drew ?_ | refine blk_alloc ?_ _)); refine blk_put (cs := #[.int .i64 a0_3, .int .i64 0]) ?_ 1 _ rfl; (with_reducible repeat (first | refine blk_drewN ?_ _ | refine blk_drew ?_ | refine blk_alloc ?_ _)); refine blk_put (cs := #[.int .i64 0, .int .i64 0]) ?_ 0 _ rfl; (with_reducible repeat (first | refine blk_drewN ?_ _ | refine blk_drew ?_ | refine blk_alloc ?_ _)); exact BK111.out) Try.underlying37 rfl (by kernel_rfl)) rfl ?_
    exact ⟨by first | rfl | (simp [errW_none, errW_some] <;> rfl) | (simp [*, errW_none, errW_some] <;> rfl), by repeat (first | (with_reducible first | exact HB.out | apply below_alloc | apply pw_below_drewN | apply below_drew1 | refine below_set ?_ GE110.out | refine below_set ?_ GE111.out) | exact HB.out)⟩
  · rw [if_neg c3] at H
    have c3b0 : (a0_2 == 2) = false := beq_eq_false_iff_ne.mpr c3
    have c3b1 : (a0_2 != 2) = true := bne_iff_ne.mpr c3
    simp only [Option.some.injEq, Prod.mk.injEq] at H
    obtain ⟨rfl, rfl⟩ := H
    go_enter Try.func22, Try.ntmps22
    go_wp2_with (first | ((with_reducible refine gate_dst (N := 2) rfl ?_); refine box_event ?hg (N := 2) ?hd (cs := #[.int .i64 a0_0, .int .i64 a0_1, .int .i64 a0_2, .int .i64 a0_3, .int .i64 a0_4, .bool a0_5]) (t := 25) ?hr ?_; (case hd => rfl); (case hg => rfl); (case hr => first | (go_simp; done) | (go_simp; rfl)); intro gb110 hg w9 hbox hb; have n0_ := Aside0.mk (below_step (by repeat (first | (with_reducible first | exact HB.out | apply below_alloc | apply pw_below_drewN | apply below_drew1) | exact HB.out)) hb); have n1_ := Aside0.mk (hbox); have n2_ := Aside0.mk ((by rw [hg]; exact (below_size (by repeat (first | (with_reducible first | exact HB.out | apply below_alloc | apply pw_below_drewN | apply below_drew1) | exact HB.out))) : w.heap.size ≤ gb110)); have n3_ := Aside0.mk ((by rw [hg]; exact (below_size (by repeat (first | (with_reducible first | exact HB.out | apply below_alloc | apply pw_below_drewN | apply below_drew1) | exact HB.out))) : w.heap.size ≤ gb110)); clear HB; have HB := n0_; have BK110 := n1_; have GW110 := n2_; have GE110 := n3_; clear n0_ n1_ n2_ n3_; clear hb hbox hg) | ((with_reducible refine gate_dst (N := 4) rfl ?_); refine box_event ?hg (N := 4) ?hd (cs := #[.int .i64 0, .int .i64 0]) (t := 37) ?hr ?_; (case hd => rfl); (case hg => rfl); (case hr => first | (go_simp; done) | (go_simp; rfl)); intro gb111 hg w10 hbox hb; have n0_ := Aside0.mk (blk_below (g := gb110) (o := .cells #[.int .i64 a0_0, .int .i64 a0_1, .int .i64 a0_2, .int .i64 a0_3, .int .i64 a0_4, .bool a0_5] 25 (0, 0)) (by (with_reducible repeat (first | refine blk_drewN ?_ _ | refine blk_drew ?_ | refine blk_alloc ?_ _)); exact BK110.out) hb); have n1_ := Aside0.mk (below_step (by repeat (first | (with_reducible first | exact HB.out | apply below_alloc | apply pw_below_drewN | apply below_drew1 | refine below_set ?_ GE110.out) | exact HB.out)) hb); have n2_ := Aside0.mk (hbox); have n3_ := Aside0.mk ((by rw [hg]; exact (below_size (by repeat (first | (with_reducible first | exact HB.out | apply below_alloc | apply pw_below_drewN | apply below_drew1 | refine below_set ?_ GE110.out) | exact HB.out))) : w.heap.size ≤ gb111)); have n4_ := Aside0.mk ((by rw [hg]; exact (below_size (by repeat (first | (with_reducible first | exact HB.out | apply below_alloc | apply pw_below_drewN | apply below_drew1 | refine below_set ?_ GE110.out) | exact HB.out))) : w.heap.size ≤ gb111)); have n5_ := Aside0.mk ((by rw [hg]; exact Nat.ne_of_lt (blk_lt (g := gb110) (o := .cells #[.int .i64 a0_0, .int .i64 a0_1, .int .i64 a0_2, .int .i64 a0_3, .int .i64 a0_4, .bool a0_5] 25 (0, 0)) (by (with_reducible repeat (first | refine blk_drewN ?_ _ | refine blk_drew ?_ | refine blk_alloc ?_ _)); exact BK110.out)) : gb110 ≠ gb111)); have n6_ := Aside0.mk ((by rw [hg]; exact Nat.ne_of_gt (blk_lt (g := gb110) (o := .cells #[.int .i64 a0_0, .int .i64 a0_1, .int .i64 a0_2, .int .i64 a0_3, .int .i64 a0_4, .bool a0_5] 25 (0, 0)) (by (with_reducible repeat (first | refine blk_drewN ?_ _ | refine blk_drew ?_ | refine blk_alloc ?_ _)); exact BK110.out)) : gb111 ≠ gb110)); clear BK110; clear HB; have BK110 := n0_; have HB := n1_; have BK111 := n2_; have GW111 := n3_; have GE111 := n4_; have NB110_111 := n5_; have NB111_110 := n6_; clear n0_ n1_ n2_ n3_ n4_ n5_ n6_; clear hb hbox hg; have hnb11 := NB110_111.out; have hnc11 := NB111_110.out; have hcz12_0 : w10.cell? ⟨gb110, 0, none⟩ = some (.int .i64 a0_0) := (blk_cell BK110.out 0).trans rfl; have hcz12_1 : w10.cell? ⟨gb110, 1, none⟩ = some (.int .i64 a0_1) := (blk_cell BK110.out 1).trans rfl; have hcz12_2 : w10.cell? ⟨gb110, 2, none⟩ = some (.int .i64 a0_2) := (blk_cell BK110.out 2).trans rfl; have hcz12_3 : w10.cell? ⟨gb110, 3, none⟩ = some (.int .i64 a0_3) := (blk_cell BK110.out 3).trans rfl; have hcz12_4 : w10.cell? ⟨gb110, 4, none⟩ = some (.int .i64 a0_4) := (blk_cell BK110.out 4).trans rfl; have hcz12_5 : w10.cell? ⟨gb110, 5, none⟩ = some (.bool a0_5) := (blk_cell BK110.out 5).trans rfl; have hfz12_0 := blk_frozen BK110.out 0; have hfz12_1 := blk_frozen BK110.out 1; have hfz12_2 := blk_frozen BK110.out 2; have hfz12_3 := blk_frozen BK110.out 3; have hfz12_4 := blk_frozen BK110.out 4; have hfz12_5 := blk_frozen BK110.out 5; have hcz13_0 : w10.cell? ⟨gb111, 0, none⟩ = some (.int .i64 0) := (blk_cell BK111.out 0).trans rfl; have hcz13_1 : w10.cell? ⟨gb111, 1, none⟩ = some (.int .i64 0) := (blk_cell BK111.out 1).trans rfl; have hfz13_0 := blk_frozen BK111.out 0; have hfz13_1 := blk_frozen BK111.out 1))
    refine bodyPost_ret (results_cell_row rfl _ _ gb111 37 #[.int .i64 (-1), .int .i64 a1] (0, 0) _ rfl (by (with_reducible repeat (first | refine blk_drewN ?_ _ | refine blk_drew ?_ | refine blk_alloc ?_ _)); refine blk_put (cs := #[.int .i64 (-1), .int .i64 0]) ?_ 1 _ rfl; (with_reducible repeat (first | refine blk_drewN ?_ _ | refine blk_drew ?_ | refine blk_alloc ?_ _)); refine blk_put (cs := #[.int .i64 0, .int .i64 0]) ?_ 0 _ rfl; (with_reducible repeat (first | refine blk_drewN ?_ _ | refine blk_drew ?_ | refine blk_alloc ?_ _)); exact BK111.out) Try.underlying37 rfl (by kernel_rfl)) rfl ?_
    exact ⟨by first | rfl | (simp [errW_none, errW_some] <;> rfl) | (simp [*, errW_none, errW_some] <;> rfl), by repeat (first | (with_reducible first | exact HB.out | apply below_alloc | apply pw_below_drewN | apply below_drew1 | refine below_set ?_ GE110.out | refine below_set ?_ GE111.out) | exact HB.out)⟩

end Go.Proofs.Ytpgfhgonkinldaa.A
