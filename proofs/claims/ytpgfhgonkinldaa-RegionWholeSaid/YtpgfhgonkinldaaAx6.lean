-- Written by this session's own call of the kit's print program (wip/tools/myprint.py): hand-made contracts stand in it for what that program does not cover. Lean checks all of it.
import Derived.Test.YtpgfhgonkinldaaAx0
import Derived.Test.YtpgfhgonkinldaaAx3
import Derived.Test.YtpgfhgonkinldaaAx4
import Derived.Test.YtpgfhgonkinldaaAx5
namespace Go.Proofs.Ytpgfhgonkinldaa.A
open Go.RowKit Go.Proofs.YtpgfhgonkinldaaW.PrintWords Go.Proofs.YtpgfhgonkinldaaW.PrintLast Go.Proofs.YtpgfhgonkinldaaW.PrintMore
attribute [local go_sem] max2_int min2_int max_two min_two max_three min_three max_four min_four   -- for this text's walks alone
set_option linter.unusedVariables false
set_option linter.unusedSimpArgs false

/-! ### region_Cut: function 24 -/
/-- A region's pages from one up to ahead of another one. -/
def partS (x : S25) (a b : Int) : S25 := ⟨a, b, x.f2, x.f3, if x.f2 = 2 then wrap64 (x.f4 + wrap64 (a - x.f0)) else x.f4, x.f5⟩
theorem c_part (x : S25) (a b : Int) (w : World) : Calls Try.prog 30 #[.agg #[.int .i64 x.f0, .int .i64 x.f1, .int .i64 x.f2, .int .i64 x.f3, .int .i64 x.f4, .bool x.f5], .int .i64 a, .int .i64 b] w fun e w' => e = .returned (.agg #[.int .i64 (partS x a b).f0, .int .i64 (partS x a b).f1, .int .i64 (partS x a b).f2, .int .i64 (partS x a b).f3, .int .i64 (partS x a b).f4, .bool (partS x a b).f5]) ∧ Below w.heap.size w w' := by
  refine region_part.calls _ _ _ _ _ _ _ _ _ _ _ _ _ _ w ?_
  unfold region_part.f partS
  by_cases h : x.f2 = 2
  · rw [if_pos h, if_pos h]
  · rw [if_neg h, if_neg h]
/-- What is gathered so far: a slice in a variable of its own. -/
def OutAt (w W : World) (g : Nat) (l : List S25) : Prop := ∃ v, W.heap[g]? = some (.cells #[v] 22 (0, 0)) ∧ W.ownsRow (w.heap.size) 25 6 v l.length (flatL l)
theorem OutAt.below {w W W1 : World} {g : Nat} {l : List S25} (h : OutAt w W g l) (hb : Below W.heap.size W W1) : OutAt w W1 g l := by
  obtain ⟨v, h1, h2⟩ := h
  exact ⟨v, (hb.block g (blk_lt h1)).trans h1, pw_own_below h2 hb⟩
/-- What the gathering leaves alone. -/
def Spares (W W' : World) (g : Nat) : Prop := ∀ (k : Nat) (v : Value), W.heap[g]? = some (.cells #[v] 22 (0, 0)) → k < W.heap.size → k ≠ g → some k ≠ v.ownBlock → W'.heap[k]? = W.heap[k]?
set_option maxRecDepth 100000 in
theorem keep_no (x : S25) (a b : Int) (p : Addr) (W : World) (h : ¬ a < b) :
    Calls Try.prog 29 #[.agg #[.int .i64 x.f0, .int .i64 x.f1, .int .i64 x.f2, .int .i64 x.f3, .int .i64 x.f4, .bool x.f5], .int .i64 a, .int .i64 b, .pointer (some p)] W fun e w' => e = .returned (.tuple #[]) ∧ Below W.heap.size W w' := by
  have hu := Try.underlying25
  go_enter Try.func29, Try.ntmps29
  go_wp2
  go_end0
  exact ⟨rfl, below_alloc (Below.refl _ _) _⟩
set_option maxRecDepth 100000 in
theorem keep_yes (x : S25) (a b : Int) (g : Nat) (l : List S25) (w W : World) (h : a < b) (hl : l.length < 1000000) (ho : OutAt w W g l) (hb : Below w.heap.size w W) (hg : w.heap.size ≤ g) :
    Calls Try.prog 29 #[.agg #[.int .i64 x.f0, .int .i64 x.f1, .int .i64 x.f2, .int .i64 x.f3, .int .i64 x.f4, .bool x.f5], .int .i64 a, .int .i64 b, .pointer (some ⟨g, 0, none⟩)] W fun e w' => e = .returned (.tuple #[]) ∧ OutAt w w' g (l ++ [partS x a b]) ∧ Below w.heap.size w w' ∧ Spares W w' g := by
  have hu := Try.underlying25
  obtain ⟨v, hv, hown⟩ := ho
  have HV := Aside0.mk hv
  have HO := Aside0.mk hown
  have HB := Aside0.mk hb
  have q0 := (blk_cell HV.out 0).trans rfl
  have f0 := blk_frozen HV.out 0
  have glt := blk_lt hv
  clear hv hown hb
  go_enter Try.func29, Try.ntmps29
  go_wp2
  obtain ⟨i0, hi, hz0, hz1, hz2⟩ := info_parts info25
  refine start_ (n := 8) (S := fun w' => w'.cell? ⟨g, 0, none⟩ = some v ∧ w'.cell? ⟨W.heap.size, 0, none⟩ = some (.int .i64 x.f0) ∧ w'.cell? ⟨W.heap.size, 1, none⟩ = some (.int .i64 x.f1) ∧ w'.cell? ⟨W.heap.size, 2, none⟩ = some (.int .i64 x.f2) ∧ w'.cell? ⟨W.heap.size, 3, none⟩ = some (.int .i64 x.f3) ∧ w'.cell? ⟨W.heap.size, 4, none⟩ = some (.int .i64 x.f4) ∧ w'.cell? ⟨W.heap.size, 5, none⟩ = some (.bool x.f5)) (ds := [7]) #[false, false, false, false, false, false, false, false] (by kernel_rfl) rfl rfl ⟨(blk_cell (blk_drew (blk_alloc HV.out _)) 0).trans rfl, (blk_cell (blk_drew (box_blk W x)) 0).trans rfl, (blk_cell (blk_drew (box_blk W x)) 1).trans rfl, (blk_cell (blk_drew (box_blk W x)) 2).trans rfl, (blk_cell (blk_drew (box_blk W x)) 3).trans rfl, (blk_cell (blk_drew (box_blk W x)) 4).trans rfl, (blk_cell (blk_drew (box_blk W x)) 5).trans rfl⟩ (fun hHeld => ?_)
  have HT_ : Aside0 (rtab .any (opsOf Try.f29 2) = rtab .any (opsOf Try.f29 2)) := ⟨rfl⟩
  refine pure_ (i := 2) (N := some 12) (v := ?_) (a' := ?_) #[false, false, true, false, false, false, false, false] rfl rfl (any_of HT_.out (by kernel_rfl)) (fun _ _ _ h => h) (Or.inl ⟨by rfl, ?_⟩) ?_ ?_
  rotate_left
  · intro w'
    go_simp
    with_reducible rfl
  rotate_left
  · simp only [Act.put, List.setIfInBounds_toArray, List.set_cons_zero, List.set_cons_succ, i64_w, i32_w]
    rfl
  refine pure_ (i := 3) (N := some 13) (v := ?_) (a' := ?_) #[false, false, true, true, false, false, false, false] rfl rfl (any_of HT_.out (by kernel_rfl)) (fun _ _ _ h => h) (Or.inl ⟨by rfl, ?_⟩) ?_ ?_
  rotate_left
  · intro w'
    go_simp
    with_reducible rfl
  rotate_left
  · simp only [Act.put, List.setIfInBounds_toArray, List.set_cons_zero, List.set_cons_succ, i64_w, i32_w]
    rfl
  refine take_ (i := 0) (N := some 10) (v := ?_) (a' := ?_) #[true, false, true, true, false, false, false, false] rfl rfl (take_of HT_.out (by kernel_rfl)) (fun _ _ _ h => h) (Or.inl ⟨by rfl, ?_⟩) hHeld ?_ ?_
  rotate_left
  · rintro w' ⟨s, s0, s1, s2, s3, s4, s5⟩
    go_simp
    with_reducible rfl
  rotate_left
  · simp only [Act.put, List.setIfInBounds_toArray, List.set_cons_zero, List.set_cons_succ, i64_w, i32_w]
    rfl
  refine take_ (i := 1) (N := some 11) (v := ?_) (a' := ?_) #[true, true, true, true, false, false, false, false] rfl rfl (take_of HT_.out (by kernel_rfl)) (fun _ _ _ h => h) (Or.inl ⟨by rfl, ?_⟩) hHeld ?_ ?_
  rotate_left
  · rintro w' ⟨s, s0, s1, s2, s3, s4, s5⟩
    go_simp
    with_reducible rfl
  rotate_left
  · simp only [Act.put, List.setIfInBounds_toArray, List.set_cons_zero, List.set_cons_succ, i64_w, i32_w]
    rfl
  refine one_ (i := 4) (N := some 14) #[true, true, true, true, true, false, false, false] rfl rfl (one_of HT_.out (by kernel_rfl)) (by decide) (fun K hK => ?_)
  refine goes_ Try.func30 (by kernel_rfl) rfl #[.agg #[.int .i64 x.f0, .int .i64 x.f1, .int .i64 x.f2, .int .i64 x.f3, .int .i64 x.f4, .bool x.f5], .int .i64 a, .int .i64 b] (by rfl) rfl rfl (by (try simp only [List.map_toArray, List.map_cons, List.map_nil]); first | done | rfl) ?_
  with_reducible refine (c_part x a b _).mono ?_
  rintro e w1 ⟨rfl, hb⟩
  refine ⟨_, rfl, ?_⟩
  have HB1 := Aside0.mk (below_step (below_drew1 (below_alloc HB.out _)) hb)
  have HV1 := Aside0.mk (blk_below (g := g) (o := .cells #[v] 22 (0, 0)) (blk_drew (blk_alloc HV.out _)) hb)
  have HX1 := Aside0.mk (blk_below (g := W.heap.size) (blk_drew (box_blk W x)) hb)
  have HO1 := Aside0.mk (pw_own_below (own_drew (own_alloc HO.out _)) hb)
  have HBX := Aside0.mk hb
  clear hb
  refine hK.out _ _ ⟨(blk_cell HV1.out 0).trans rfl, (blk_cell HX1.out 0).trans rfl, (blk_cell HX1.out 1).trans rfl, (blk_cell HX1.out 2).trans rfl, (blk_cell HX1.out 3).trans rfl, (blk_cell HX1.out 4).trans rfl, (blk_cell HX1.out 5).trans rfl⟩ (fun hHeld => ?_)
  clear hK K
  refine norm_ (a' := ?_) ?_ ?_
  rotate_left
  · show Act.put _ (some 14) _ = _
    simp only [Act.put, List.setIfInBounds_toArray, List.set_cons_zero, List.set_cons_succ, i64_w, i32_w]
    rfl
  refine one_ (i := 5) (N := some 15) #[true, true, true, true, true, true, false, false] rfl rfl (one_of HT_.out (by kernel_rfl)) (by decide) (fun K hK => ?_)
  go_simp
  refine hK.out _ _ ⟨(blk_cell (blk_alloc HV1.out _) 0).trans rfl, (blk_cell (blk_alloc HX1.out _) 0).trans rfl, (blk_cell (blk_alloc HX1.out _) 1).trans rfl, (blk_cell (blk_alloc HX1.out _) 2).trans rfl, (blk_cell (blk_alloc HX1.out _) 3).trans rfl, (blk_cell (blk_alloc HX1.out _) 4).trans rfl, (blk_cell (blk_alloc HX1.out _) 5).trans rfl⟩ (fun hHeld => ?_)
  clear hK K
  refine one_ (i := 6) (N := some 16) #[true, true, true, true, true, true, true, false] rfl rfl (one_of HT_.out (by kernel_rfl)) (by decide) (fun K hK => ?_)
  refine step_append_lies _ rfl (.tmp 10) (.tmp 15) 22 rfl w.heap.size 25 i0 _ 6 48 Try.underlying22 hi hz0 hz1 hz2 rfl (by decide) v l.length (flatL l) ?d0 ?dx ⟨w1.heap.size, 0, none⟩ 1 1 (cellsL (partS x a b)) ?d1 rfl ?d2 (cells_one _) (by omega) (by unfold maxLen; omega) (by omega) ?d3 _ rfl ?_
  case d0 => rfl
  case dx => exact own_alloc HO1.out _
  case d1 => rfl
  case d2 => exact box_news _ (partS x a b)
  case d3 => exact below_size (below_alloc HB1.out _)
  intro gn cap w2 hown hgrow hat hlt
  have hne := own_ne (own_alloc HO1.out (.cells #[.int .i64 (partS x a b).f0, .int .i64 (partS x a b).f1, .int .i64 (partS x a b).f2, .int .i64 (partS x a b).f3, .int .i64 (partS x a b).f4, .bool (partS x a b).f5] 25)) (blk_alloc HV1.out _) (by decide)
  have HV2 := Aside0.mk (blk_grown (blk_alloc HV1.out _) hgrow hne)
  have HNX : some W.heap.size ≠ v.ownBlock := (fun he => by have h1 := own_lt HO.out _ he.symm; omega)
  have HX2 := Aside0.mk (blk_grown (blk_alloc HX1.out _) hgrow HNX)
  have HO2 := Aside0.mk hown
  have HB2 := Aside0.mk (pw_below_grown (below_alloc HB1.out _) _ (below_size (below_alloc HB1.out _)) hgrow (fun k hk => own_base HO1.out k hk))
  have HGR := Aside0.mk hgrow
  clear hown hgrow hat hlt hne
  refine hK.out _ _ ⟨(blk_cell HV2.out 0).trans rfl, (blk_cell HX2.out 0).trans rfl, (blk_cell HX2.out 1).trans rfl, (blk_cell HX2.out 2).trans rfl, (blk_cell HX2.out 3).trans rfl, (blk_cell HX2.out 4).trans rfl, (blk_cell HX2.out 5).trans rfl⟩ (fun hHeld => ?_)
  clear hK K
  refine norm_ (a' := ?_) ?_ ?_
  rotate_left
  · show Act.put _ (some 16) _ = _
    simp only [Act.put, List.setIfInBounds_toArray, List.set_cons_zero, List.set_cons_succ, i64_w, i32_w]
    rfl
  refine last_ (i := 7) (N := none) #[true, true, true, true, true, true, true, true] rfl rfl (one_of HT_.out (by kernel_rfl)) (by decide) (fun K hK => ?_)
  have c0 := (blk_cell HV2.out 0).trans rfl
  have d0 := blk_frozen HV2.out 0
  have gl2 := blk_lt HV2.out
  go_simp
  refine hK.out _ _ ?_
  clear hK K
  refine done_ (done_of HT_.out (by kernel_rfl)) ?_
  go_wp2
  go_end0
  have hne2 := own_ne HO2.out HV2.out (by decide)
  refine ⟨rfl, ⟨_, blk_put (cs := #[v]) HV2.out 0 _ rfl, ?_⟩, below_set HB2.out hg, ?_⟩
  rotate_left
  · intro k v' hv' hk hkg hkv
    obtain rfl : v' = v := by have := hv'.symm.trans HV.out; simpa using this
    have s1 : w1.heap[k]? = W.heap[k]? := (HBX.out.block k (by simp; omega)).trans (Below.heap_alloc W _ k hk)
    have hk1 : k < w1.heap.size := by have := HBX.out.size; simp at this; omega
    have s2 := HGR.out.block k (by simp; omega) hkv
    rw [Below.heap_setCell _ _ _ _ hkg, s2]
    exact (Below.heap_alloc w1 _ k hk1).trans s1
  have e : flatL (l ++ [partS x a b]) = flatL l ++ cellsL (partS x a b) := by rw [flat_app]; simp [flatL]
  have el : (l ++ [partS x a b]).length = l.length + 1 := by simp
  rw [e, el]
  exact own_setCell HO2.out hne2 _
/-- What is kept of a region. -/
def keepL (x : S25) (a b : Int) : List S25 := if a < b then [partS x a b] else []
def stepC (p q : Int) (x : S25) : List S25 := if p ≥ q then keepL x x.f0 x.f1 else keepL x x.f0 (mn x.f1 p) ++ keepL x (mx x.f0 q) x.f1
def cutS (l : List S25) (p q : Int) : List S25 := l.flatMap (stepC p q)
theorem c_keep (x : S25) (a b : Int) (g : Nat) (l : List S25) (w W : World) (hl : l.length < 1000000) (ho : OutAt w W g l) (hb : Below w.heap.size w W) (hg : w.heap.size ≤ g) :
    Calls Try.prog 29 #[.agg #[.int .i64 x.f0, .int .i64 x.f1, .int .i64 x.f2, .int .i64 x.f3, .int .i64 x.f4, .bool x.f5], .int .i64 a, .int .i64 b, .pointer (some ⟨g, 0, none⟩)] W fun e w' => e = .returned (.tuple #[]) ∧ OutAt w w' g (l ++ keepL x a b) ∧ Below w.heap.size w w' ∧ Spares W w' g := by
  unfold keepL
  by_cases h : a < b
  · rw [if_pos h]; exact keep_yes x a b g l w W h hl ho hb hg
  · rw [if_neg h, List.append_nil]
    exact (keep_no x a b _ W h).mono fun e w' ⟨he, hb'⟩ => ⟨he, ho.below hb', below_step hb hb', fun k v _ hk _ _ => hb'.block k hk⟩
theorem keep_len (x : S25) (a b : Int) : (keepL x a b).length ≤ 1 := by unfold keepL; split <;> simp
theorem step_len (p q : Int) (x : S25) : (stepC p q x).length ≤ 2 := by
  unfold stepC
  have h1 := keep_len x x.f0 x.f1
  have h2 := keep_len x x.f0 (mn x.f1 p)
  have h3 := keep_len x (mx x.f0 q) x.f1
  split <;> simp <;> omega
theorem cut_len (l : List S25) (p q : Int) : (cutS l p q).length ≤ 2 * l.length := by
  induction l with
  | nil => simp [cutS]
  | cons x xs ih => have := step_len p q x; simp only [cutS, List.flatMap_cons, List.length_append, List.length_cons] at ih ⊢; omega
theorem cut_take (l : List S25) (p q : Int) (i : Int) (h0 : 0 ≤ i) (h : i < l.length) : cutS (l.take (i + 1).toNat) p q = cutS (l.take i.toNat) p q ++ stepC p q (rd_T25 l i) := by
  obtain ⟨n, rfl⟩ := Int.eq_ofNat_of_zero_le h0
  have hn : n < l.length := by omega
  rw [show ((n : Int) + 1).toNat = n + 1 from by omega, Int.toNat_natCast, List.take_succ_eq_append_getElem hn]
  have e : rd_T25 l n = l[n] := by
    show l.getD (Int.toNat (n : Int)) z25 = l[n]
    rw [Int.toNat_natCast, List.getD_eq_getElem?_getD, List.getElem?_eq_getElem hn]; rfl
  rw [e]; simp only [cutS, List.flatMap_append, List.flatMap_cons, List.flatMap_nil, List.append_nil]
set_option maxRecDepth 100000 in
theorem cut_bad (A : Option Addr) (c : Nat) (l : List S25) (p q : Int) (w : World) (hr : Kd.C k25 w A l.length l) (hc : l.length ≤ c) (hl : l.length < 9223372036854775807) (h : rightB l = false) :
    Calls Try.prog 24 #[.slice A l.length c, .int .i64 p, .int .i64 q] w fun e w' => e = .returned (.slice none 0 0) ∧ Below w.heap.size w w' := by
  have HR := Aside0.mk hr
  have HRB := Aside0.mk h
  clear hr h
  go_enter Try.func24, Try.ntmps24
  go_wp2_with fail
  refine (c_right A c l _ HR.out hc hl).mono ?_
  rintro e w1 ⟨rfl, hb⟩
  rw [HRB.out]
  have HB := Aside0.mk hb
  clear hb
  go_wp2
  go_ret
  exact ⟨rfl, HB.out⟩
set_option maxRecDepth 100000 in
set_option maxHeartbeats 1000000 in
theorem cut_good (A : Option Addr) (c : Nat) (l : List S25) (p q : Int) (w : World) (hr : Kd.C k25 w A l.length l) (hc : l.length ≤ c) (hl : l.length < 400000) (h : rightB l = true) :
    Calls Try.prog 24 #[.slice A l.length c, .int .i64 p, .int .i64 q] w fun e w' => ∃ v0_ : Value, e = .returned v0_ ∧ Kd.R k25 25 w' w.heap.size (fun _ => True) v0_ (cutS l p q) ∧ Below w.heap.size w w' := by
  have hu := Try.underlying25
  have HR := Aside0.mk hr
  have HRB := Aside0.mk h
  clear hr h
  go_enter Try.func24, Try.ntmps24
  go_wp2_with fail
  refine (c_right A c l _ HR.out hc (by omega)).mono ?_
  rintro e w1 ⟨rfl, hb⟩
  rw [HRB.out]
  have HB := Aside0.mk (below_alloc hb (.cells #[.slice none 0 0] 22))
  have HOUT : Aside0 (OutAt w (w1.alloc (.cells #[.slice none 0 0] 22)) w1.heap.size []) := ⟨⟨_, heap_alloc_new w1 _, own_nil _ _ _ _⟩⟩
  have HG := Aside0.mk (show w.heap.size ≤ w1.heap.size from hb.size)
  clear hb
  go_wp2
  generalize w1.alloc (.cells #[.slice none 0 0] 22) = wa at *
  generalize w1.heap.size = g at *
  go_loopg [10, 17] l.length (fun gk v10 v17 wr => ∃ (i : Int), v17 = .int .i64 i ∧ 0 ≤ i ∧ i + gk = l.length ∧ Aside0 (OutAt w wr g (cutS (l.take i.toNat) p q)) ∧ Aside0 (Below w.heap.size w wr))
  case atStart => exact ⟨0, rfl, by omega, by omega, HOUT, HB⟩
  case round =>
    clear HB HOUT
    obtain ⟨i, rfl, h0, hi, HOUT, HB⟩ := hrel
    have HI2 := Aside0.mk hi
    clear hi
    by_cases hlt : i < l.length
    · obtain ⟨ad, e1, x0, x1, x2, x3, x4, x5⟩ := at_T25 HR.out i h0 hlt
      cases e1
      replace x0 := (HB.out.cell (World.block_lt_of_cell? w _ x0)).trans x0
      replace x1 := (HB.out.cell (World.block_lt_of_cell? w _ x1)).trans x1
      replace x2 := (HB.out.cell (World.block_lt_of_cell? w _ x2)).trans x2
      replace x3 := (HB.out.cell (World.block_lt_of_cell? w _ x3)).trans x3
      replace x4 := (HB.out.cell (World.block_lt_of_cell? w _ x4)).trans x4
      replace x5 := (HB.out.cell (World.block_lt_of_cell? w _ x5)).trans x5
      by_cases hpq : p ≥ q
      · go_wp2_with fail
        refine (c_keep (rd_T25 l i) _ _ g _ w _ ?_ (HOUT.out.below (below_alloc (Below.refl _ _) _)) (below_alloc HB.out _) HG.out).mono ?_
        · have := cut_len (l.take i.toNat) p q; rw [List.length_take] at this; omega
        rintro e w2 ⟨rfl, ho, hb, hsp⟩
        have HO2 := Aside0.mk ho
        have HB2 := Aside0.mk hb
        clear ho hb hsp x0 x1 x2 x3 x4 x5
        go_wp2
        go_roundg (gk - 1)
        case rel =>
          exact ⟨i + 1, by go_num, by omega, by have := HI2.out; omega, ⟨by rw [cut_take l p q i h0 hlt]; unfold stepC; rw [if_pos hpq]; exact HO2.out⟩, HB2⟩
        case measure => have := HI2.out; omega
      · obtain ⟨v, hv, hown⟩ := HOUT.out
        have hvlt := own_lt hown
        have hne : some wr.heap.size ≠ v.ownBlock := fun he => by have := hvlt _ he.symm; omega
        have hgw := blk_lt hv
        have HNE := Aside0.mk hne
        have HVV := Aside0.mk hv
        have HGW := Aside0.mk hgw
        clear hv hown hvlt hne hgw
        have HLEN := Aside0.mk (cut_len (l.take i.toNat) p q)
        have hst2 : stepC p q (rd_T25 l i) = keepL (rd_T25 l i) (rd_T25 l i).f0 (mn (rd_T25 l i).f1 p) ++ keepL (rd_T25 l i) (mx (rd_T25 l i).f0 q) (rd_T25 l i).f1 := by unfold stepC; rw [if_neg hpq]
        have HST2 := Aside0.mk hst2
        clear hst2
        have hpq' : decide (p ≥ q) = false := by simp only [decide_eq_false_iff_not]; omega
        have hstep := Aside0.mk (cut_take l p q i h0 hlt)
        by_cases hm : p < (rd_T25 l i).f1 <;> by_cases hM : (rd_T25 l i).f0 < q
        all_goals
          go_wp2_with fail
          refine (c_keep (rd_T25 l i) _ _ g _ w _ ?_ (HOUT.out.below (below_alloc (Below.refl _ _) _)) (below_alloc HB.out _) HG.out).mono ?_
          · have := HLEN.out; rw [List.length_take] at this; omega
          rintro e w2 ⟨rfl, ho, hb, hsp⟩
          have HX2 := Aside0.mk ((hsp wr.heap.size v (blk_alloc HVV.out _) (by simp) (by have := HGW.out; omega) HNE.out).trans (box_blk wr (rd_T25 l i)))
          have HO2 := Aside0.mk ho
          have HB2 := Aside0.mk hb
          clear ho hb hsp x0 x1 x2 x3 x4 x5
          have q0 := (blk_cell HX2.out 0).trans rfl
          have q1 := (blk_cell HX2.out 1).trans rfl
          have q2 := (blk_cell HX2.out 2).trans rfl
          have q3 := (blk_cell HX2.out 3).trans rfl
          have q4 := (blk_cell HX2.out 4).trans rfl
          have q5 := (blk_cell HX2.out 5).trans rfl
          go_wp2_with fail
          refine (c_keep (rd_T25 l i) _ _ g _ w _ ?_ HO2.out HB2.out HG.out).mono ?_
          · have := HLEN.out; rw [List.length_take] at this; have k1 := keep_len (rd_T25 l i) (rd_T25 l i).f0 p; have k2 := keep_len (rd_T25 l i) (rd_T25 l i).f0 (rd_T25 l i).f1; rw [List.length_append]; omega
          rintro e w3 ⟨rfl, ho, hb, hsp⟩
          have HO3 := Aside0.mk ho
          have HB3 := Aside0.mk hb
          clear ho hb hsp q0 q1 q2 q3 q4 q5
          go_wp2
          go_roundg (gk - 1)
          case rel =>
            exact ⟨i + 1, by go_num, by omega, by have := HI2.out; omega, ⟨by rw [hstep.out, HST2.out]; unfold mn mx; (first | rw [if_pos hm] | rw [if_neg (by omega)]); (first | rw [if_pos hM] | rw [if_neg (by omega)]); rw [← List.append_assoc]; exact HO3.out⟩, HB3⟩
          case measure => have := HI2.out; omega
    · obtain ⟨v, hv, hown⟩ := HOUT.out
      have c0 := (blk_cell hv 0).trans rfl
      have HOW := Aside0.mk hown
      clear hv hown
      go_wp2
      go_ret
      have e : l.take i.toNat = l := List.take_of_length_le (by omega)
      exact ⟨v, rfl, own_R (by have := HOW.out; rw [e] at this; exact this), HB.out⟩
def region_Cut.f (l0 : List S25) (a1 : Int) (a2 : Int) : Option (List S25) := if l0.length < 400000 then some (if rightB l0 = true then cutS l0 a1 a2 else []) else none
theorem region_Cut.calls (A0 : Option Addr) (c0 : Nat) (l0 : List (S25)) (a1 : Int) (a2 : Int) (r : List (S25)) (w : World) (hr0 : Kd.C k25 w A0 l0.length l0) (hc0 : l0.length ≤ c0) (h : region_Cut.f l0 a1 a2 = some r) :
    Calls Try.prog 24 #[.slice A0 l0.length c0, .int .i64 a1, .int .i64 a2] w fun e w' => ∃ v0_ : Value, e = .returned (v0_) ∧ Kd.R k25 25 w' w.heap.size (fun _ => True) v0_ r ∧ Below w.heap.size w w' := by
  unfold region_Cut.f at h
  by_cases hl : l0.length < 400000
  · rw [if_pos hl] at h
    obtain rfl := Option.some.inj h
    cases hb : rightB l0
    · rw [if_neg (by simp)]
      exact (cut_bad A0 c0 l0 a1 a2 w hr0 hc0 (by omega) hb).mono fun e w' ⟨he, hb⟩ => ⟨_, he, Kd.R_nil _ _ _ _ _, hb⟩
    · rw [if_pos rfl]
      exact cut_good A0 c0 l0 a1 a2 w hr0 hc0 hl hb
  · rw [if_neg hl] at h; cases h

end Go.Proofs.Ytpgfhgonkinldaa.A
