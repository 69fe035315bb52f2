/- All pages in a row; how many; those of a stretch; a clone. -/
import Derived.Test.YtabjdjkkpbkpfaaRxE
import Derived.Test.YtabjdjkkpbkpfaaProg
import Derived.RowKit3
namespace Go.Proofs.Ytabjdjkkpbkpfaa.Pk
open Go Go.RowKit Go.Proofs.Ytabjdjkkpbkpfaa.HL Go.Proofs.Ytabjdjkkpbkpfaa.Ev Go.Proofs.YtabjdjkkpbkpfaaW.PrintWords Go.Proofs.RxP
set_option linter.unusedVariables false
set_option linter.unusedSimpArgs false
def pagesL (S : Sf) : List Int := (ents S 65536).map (·.1)
def pgs (S : Sf) (i : Nat) : List Int := (List.range i).map fun j => (nth S j).1
theorem pgs_len (S : Sf) (i : Nat) : (pgs S i).length = i := by simp [pgs]
theorem pgs_succ (S : Sf) (i : Nat) : pgs S (i + 1) = pgs S i ++ [(nth S i).1] := by simp [pgs, List.range_succ]
theorem lst_all (l : List (Int × Int)) : (List.range l.length).map (fun j => ((l[j]?).getD (0, 0)).1) = l.map (·.1) := by
  apply List.ext_getElem?
  intro i
  by_cases h : i < l.length
  · rw [List.getElem?_map, List.getElem?_range h, List.getElem?_map, List.getElem?_eq_getElem h]; simp [h]
  · rw [List.getElem?_eq_none (by rw [List.length_map, List.length_range]; omega), List.getElem?_eq_none (by rw [List.length_map]; omega)]
theorem pgs_all (S : Sf) : pgs S (rk S 65536) = pagesL S := lst_all (ents S 65536)
theorem pagesL_len (S : Sf) : (pagesL S).length = rk S 65536 := by unfold pagesL rk; rw [List.length_map]
/-- What the i-th one is. -/
theorem nth_is {S : Sf} {i : Nat} (h : i < rk S 65536) : ∃ p x, p < 65536 ∧ S p = some x ∧ rk S p = i ∧ nth S i = ((p : Int), x) := by
  obtain ⟨p, x, h1, h2, h3, h4⟩ := ents_get (S := S) 65536 i h
  exact ⟨p, x, h1, h2, h3, by unfold nth; rw [h4]; rfl⟩
theorem nth_lt {S : Sf} {i j : Nat} (hij : i < j) (hj : j < rk S 65536) : (nth S i).1 < (nth S j).1 := by
  obtain ⟨p, x, h1, h2, h3, h4⟩ := nth_is (S := S) (i := i) (by omega)
  obtain ⟨q, y, h5, h6, h7, h8⟩ := nth_is hj
  rw [h4, h8]
  show (p : Int) < q
  rcases Nat.lt_or_ge p q with h | h
  · omega
  · have := rk_mono S q (p - q)
    rw [show q + (p - q) = p by omega] at this; omega
def inW (a b x : Int) : Bool := decide (a ≤ x) && decide (x < b)
def wl (S : Sf) (a b : Int) (i : Nat) : List Int := (pgs S i).filter (inW a b)
def walkL (S : Sf) (a b : Int) : List Int := (pagesL S).filter (inW a b)
theorem wl_len (S : Sf) (a b : Int) (i : Nat) : (wl S a b i).length ≤ i := Nat.le_trans (List.length_filter_le _ _) (Nat.le_of_eq (pgs_len S i))
theorem wl_yes {S : Sf} {a b : Int} {i : Nat} (h1 : a ≤ (nth S i).1) (h2 : (nth S i).1 < b) : wl S a b (i + 1) = wl S a b i ++ [(nth S i).1] := by
  unfold wl; rw [pgs_succ, List.filter_append]; simp [inW, h1, h2]
theorem wl_no {S : Sf} {a b : Int} {i : Nat} (h : (nth S i).1 < a ∨ b ≤ (nth S i).1) : wl S a b (i + 1) = wl S a b i := by
  unfold wl; rw [pgs_succ, List.filter_append]
  have : inW a b (nth S i).1 = false := by unfold inW; rcases h with h | h <;> simp <;> omega
  simp [this]
theorem wl_all (S : Sf) (a b : Int) : wl S a b (rk S 65536) = walkL S a b := by unfold wl walkL; rw [pgs_all]
theorem wl_stop {S : Sf} {a b : Int} {i : Nat} (hi : i < rk S 65536) (h : b ≤ (nth S i).1) : wl S a b i = walkL S a b := by
  rw [← wl_all]
  have key : ∀ m, i + m ≤ rk S 65536 → wl S a b i = wl S a b (i + m) := by
    intro m
    induction m with
    | zero => intro _; rfl
    | succ m ih =>
      intro hm
      rw [ih (by omega), ← Nat.add_assoc, wl_no]
      right
      by_cases e : m = 0
      · subst e; exact h
      · have := nth_lt (S := S) (i := i) (j := i + m) (by omega) (by omega); omega
  have := key (rk S 65536 - i) (by omega)
  rwa [show i + (rk S 65536 - i) = rk S 65536 by omega] at this
/-- The words of the first pages. -/
def SIx (S : Sf) (i : Nat) : Sf := fun p => if p < 65536 ∧ rk S p < i then S p else none
theorem SIx_0 (S : Sf) : SIx S 0 = fun _ => none := by funext p; unfold SIx; rw [if_neg (by omega)]
theorem SIx_all {S : Sf} (h : ∀ p, 65536 ≤ p → S p = none) : SIx S (rk S 65536) = S := by
  funext p
  unfold SIx
  by_cases e : p < 65536 ∧ rk S p < rk S 65536
  · rw [if_pos e]
  · rw [if_neg e]
    cases hs : S p with
    | none => rfl
    | some x =>
      exfalso
      have hp : p < 65536 := by
        rcases Nat.lt_or_ge p 65536 with h1 | h1
        · exact h1
        · rw [h p h1] at hs; cases hs
      exact e ⟨hp, rk_lt hs hp⟩
theorem SIx_succ {S : Sf} {i : Nat} (hi : i < rk S 65536) : setS (SIx S i) (nth S i).1 ((gt S (nth S i).1).getD 0) = SIx S (i + 1) := by
  obtain ⟨q, x, h1, h2, h3, h4⟩ := nth_is hi
  rw [h4]
  show setS (SIx S i) (q : Int) ((gt S (q : Int)).getD 0) = _
  rw [gt_nat h1, setS_nat h1, h2]
  funext p
  unfold updS SIx
  by_cases e : p = q
  · subst e; rw [if_pos rfl, if_pos ⟨h1, by omega⟩, h2]; rfl
  · rw [if_neg e]
    by_cases e2 : p < 65536 ∧ rk S p < i
    · rw [if_pos e2, if_pos ⟨e2.1, by omega⟩]
    · rw [if_neg e2]
      split
      · rename_i e3
        cases hs : S p with
        | none => rfl
        | some y =>
          exfalso
          have hr : rk S p = rk S q := by omega
          rcases Nat.lt_or_ge p q with h | h
          · have := rk_lt hs h; omega
          · have := rk_lt h2 (show q < p by omega); omega
      · rfl
attribute [local irreducible] btw rowA nth
set_option maxRecDepth 100000 in
set_option maxHeartbeats 2000000 in
theorem k_aseq (W : World) {st : St} {S : Sf} (hR : Rep W st) (hT : Tree st S) : Calls Try.prog 90 #[.slice none 0 0, .func (.func 72) #[.pointer (some ⟨st.ad 0 0, 0, none⟩)] #[]] W fun e w' => ∃ v : Value, e = .returned v ∧ (rowI v (pagesL S)).holds w' ∧ Below W.heap.size W w' ∧ ∀ k, (rowI v (pagesL S)).foot k → W.heap.size ≤ k := by
  have hM : Hp W (fun _ => False) [] W := Hp.start
  refine RC.enter (n := 13) Try.func90 rfl rfl rfl hM ?_
  refine RC.seq ?_
  refine RC.region ?_
  refine' RL.mx rfl rfl rfl ?hy1 ?_
  case hy1 => exact Ym.box rfl rfl
  intro b2
  refine' RL.y rfl rfl rfl ?hy2 ?_
  case hy2 => exact Yl.assign rfl rfl
  refine RL.nil ?_
  refine RE.next ?_
  refine RC.seq ?_
  refine RC.seq ?_
  refine RC.region ?_
  refine' RL.y rfl rfl rfl ?hy3 ?_
  case hy3 => exact Yl.move rfl rfl
  refine RL.nil ?_
  refine RE.next ?_
  refine RC.block ?_
  refine RC.rangeS (τ := Value) (H := fun i s => [rowI s (pgs S i), blk b2 (.cells #[s] 36 (0, 0))]) (σ := Unit) (fun _ => False) (fun _ => False) (fun _ => []) (.slice none 0 0) (N := rk S 65536) (xs := fun i => [.int .i64 (nth S i).1]) rfl Try.func72 rfl rfl (it_all hR hT) (fun _ => rfl) rfl (fun w h => h.nil) ?hx4 ?hy4 ?hz4 ?hq4
  case hx4 =>
    intro i hi s l d rc
    have hrk := rk_le S 65536
    have hpl := pgs_len S i
    refine RC.region ?_
    refine' RL.y rfl rfl rfl ?hy5 ?_
    case hy5 => exact Yl.assign rfl rfl
    refine RL.nil ?_
    refine RE.begin_ ?_
    refine RC.block ?_
    refine RC.region ?_
    refine' RL.y rfl rfl rfl ?hy6 ?_
    case hy6 => exact Yl.load rfl rfl (by kernel_rfl) (by first | exact Hp.cell mem0 rfl | exact Hp.cell mem1 rfl | exact Hp.cell mem2 rfl | exact Hp.cell mem3 rfl | exact Hp.cell mem4 rfl | exact Hp.cell mem5 rfl | exact Hp.rowAt mem0 (by omega) rfl | exact Hp.rowAt mem1 (by omega) rfl | exact Hp.rowAt mem2 (by omega) rfl | exact Hp.rowAt mem3 (by omega) rfl | exact Hp.rowAt mem4 (by omega) rfl | exact Hp.rowAt mem5 (by omega) rfl)
    refine' RL.y rfl rfl rfl ?hy7 ?_
    case hy7 => exact Yl.move rfl rfl
    refine' RL.mx rfl rfl rfl ?hy8 ?_
    case hy8 => exact Ym.buildSlice (cells := #[.int .i64 (nth S i).1]) (z := .int .i64 0) (size := 1) #[.int .i64 0] rfl Try.underlying36 (by kernel_rfl) (by decide) (by decide) (by kernel_rfl) rfl rfl
    intro b10
    refine' RL.mx rfl rfl rfl ?hy9 ?_
    case hy9 => exact Ym.append (news := [.int .i64 (nth S i).1]) (m := (pgs S i).length) (xs := Iw (pgs S i)) rfl Try.underlying36 (by kernel_rfl) (z := .int .i64 0) (size := 1) (bytes := 8) rfl (by decide) (by decide) rfl rfl rfl (Hp.cells mem0 (fun j v hj => by simpa using hj)) (by simp [Value.oneCell']) (by omega) (fun v' => foc3)
    intro v11
    obtain ⟨m1, hm1⟩ : ∃ m1, (pgs S i).length = m1 := ⟨_, rfl⟩
    rw [hm1]
    refine RL.fact (fun w h => h.ownSl mem3) ?_
    rintro ⟨A1, c1, rfl⟩
    refine' RL.s rfl rfl ?hy10 ?_
    case hy10 => exact Ys.store (seg := [.slice A1 (m1 + 1) c1]) (c' := #[.slice A1 (m1 + 1) c1]) rfl rfl rfl (by simp [Value.cells]) (by kernel_rfl) (by simp [Value.oneCell']) foc4 (by simp [Value.cells]) rfl
    refine RL.nil ?_
    refine RE.inNormal ?_
    exact RE.goesS (.slice A1 (m1 + 1) c1) (fun w h => by rw [pgs_succ, ← rowI_snoc, hm1]; exact h.sub (List.sublist_cons_self _ _))
  case hy4 =>
    intro d s
    refine RE.inNormal ?_
    refine RE.next ?_
    refine RC.seq ?_
    refine RC.region ?_
    refine' RL.y rfl rfl rfl ?hy11 ?_
    case hy11 => exact Yl.load rfl rfl (by kernel_rfl) (by first | exact Hp.cell mem0 rfl | exact Hp.cell mem1 rfl | exact Hp.cell mem2 rfl | exact Hp.cell mem3 rfl | exact Hp.cell mem4 rfl | exact Hp.cell mem5 rfl | exact Hp.rowAt mem0 (by omega) rfl | exact Hp.rowAt mem1 (by omega) rfl | exact Hp.rowAt mem2 (by omega) rfl | exact Hp.rowAt mem3 (by omega) rfl | exact Hp.rowAt mem4 (by omega) rfl | exact Hp.rowAt mem5 (by omega) rfl)
    refine' RL.y rfl rfl rfl ?hy12 ?_
    case hy12 => exact Yl.assign rfl rfl
    refine RL.nil ?_
    refine RE.next ?_
    refine RC.ret ?_
    refine RE.mark ?_
    refine RE.ret1 rfl rfl ?_
    exact fun w h => ⟨s, rfl, by rw [← pgs_all]; exact (h.sub (.cons _ (.cons_cons _ (List.nil_sublist _)))).leaveNew⟩
  case hz4 =>
    intro d s hs
    exact hs.elim
  case hq4 =>
    intro d s hs
    exact hs.elim
set_option maxRecDepth 100000 in
set_option maxHeartbeats 2000000 in
theorem k_collect (W : World) {st : St} {S : Sf} (hR : Rep W st) (hT : Tree st S) : Calls Try.prog 78 #[.func (.func 72) #[.pointer (some ⟨st.ad 0 0, 0, none⟩)] #[]] W fun e w' => ∃ v : Value, e = .returned v ∧ (rowI v (pagesL S)).holds w' ∧ Below W.heap.size W w' ∧ ∀ k, (rowI v (pagesL S)).foot k → W.heap.size ≤ k := by
  have hM : Hp W (fun _ => False) [] W := Hp.start
  refine TC.enter (n := 5) Try.func78 rfl rfl rfl hM ?_
  refine TC.seq ?_
  refine TC.region ?_
  refine' TL.y rfl rfl rfl ?hy1 ?_
  case hy1 => exact Yl.assign rfl rfl
  refine TL.nil ?_
  refine TE.next ?_
  refine TC.seq ?_
  refine TC.region ?_
  refine' TL.y rfl rfl rfl ?hy2 ?_
  case hy2 => exact Yl.move rfl rfl
  refine' TL.c rfl rfl rfl ?hy3 ?_
  case hy3 => exact Yc.call rfl Try.func90 (by kernel_rfl) rfl rfl (Hp.news (fun w h => k_aseq w (hR.below h.below) hT))
  intro v4
  refine' TL.y rfl rfl rfl ?hy4 ?_
  case hy4 => exact Yl.assign rfl rfl
  refine TL.nil ?_
  refine TE.next ?_
  refine TC.ret ?_
  refine TE.ret1 rfl rfl ?_
  exact fun w h => ⟨v4, rfl, h.leaveNew⟩
set_option maxRecDepth 100000 in
set_option maxHeartbeats 2000000 in
theorem k_len (W : World) {st : St} {S : Sf} (hR : Rep W st) (hT : Tree st S) : Calls Try.prog 45 #[.pointer (some ⟨st.ad 0 0, 0, none⟩)] W fun e w' => e = .returned (.int .i64 (rk S 65536 : Nat)) ∧ Below W.heap.size W w' := by
  have hM : Hp W (fun _ => False) [] W := Hp.start
  refine TC.enter (n := 7) Try.func45 rfl rfl rfl hM ?_
  refine TC.seq ?_
  refine TC.region ?_
  refine' TL.y rfl rfl rfl ?hy1 ?_
  case hy1 => exact Yl.assign rfl rfl
  refine TL.nil ?_
  refine TE.next ?_
  refine TC.seq ?_
  refine TC.region ?_
  refine' TL.y rfl rfl rfl ?hy2 ?_
  case hy2 => exact Yl.move rfl rfl
  refine' TL.y rfl rfl rfl ?hy3 ?_
  case hy3 => exact Yl.makeFunc rfl rfl rfl
  refine' TL.c rfl rfl rfl ?hy4 ?_
  case hy4 => exact Yc.call rfl Try.func78 (by kernel_rfl) rfl rfl (Hp.news (fun w h => k_collect w (hR.below h.below) hT))
  intro v5
  refine TL.fact (fun w h => h.ownSl (m := (pagesL S).length) (xs := Iw (pagesL S)) mem0) ?_
  rintro ⟨A5, c5, rfl⟩
  refine' TL.y rfl rfl rfl ?hy5 ?_
  case hy5 => exact Yl.len rfl rfl Try.underlying36
  refine' TL.y rfl rfl rfl ?hy6 ?_
  case hy6 => exact Yl.assign rfl rfl
  refine TL.nil ?_
  refine TE.next ?_
  refine TC.ret ?_
  refine TE.ret1 rfl rfl ?_
  exact fun w h => ⟨by rw [pagesL_len], (h.sub (List.nil_sublist _)).below⟩
set_option maxRecDepth 100000 in
set_option maxHeartbeats 2000000 in
theorem k_walk (W : World) {st : St} {S : Sf} (hR : Rep W st) (hT : Tree st S) (a b : Int) : Calls Try.prog 39 #[.pointer (some ⟨st.ad 0 0, 0, none⟩), .int .i64 a, .int .i64 b] W fun e w' => ∃ v : Value, e = .returned v ∧ (rowI v (walkL S a b)).holds w' ∧ Below W.heap.size W w' ∧ ∀ k, (rowI v (walkL S a b)).foot k → W.heap.size ≤ k := by
  have hM : Hp W (fun _ => False) [] W := Hp.start
  refine RC.enter (n := 23) Try.func39 rfl rfl rfl hM ?_
  refine RC.seq ?_
  refine RC.region ?_
  refine' RL.mx rfl rfl rfl ?hy1 ?_
  case hy1 => exact Ym.box rfl rfl
  intro b4
  refine' RL.mx rfl rfl rfl ?hy2 ?_
  case hy2 => exact Ym.box rfl rfl
  intro b5
  refine' RL.y rfl rfl rfl ?hy3 ?_
  case hy3 => exact Yl.assign rfl rfl
  refine RL.nil ?_
  refine RE.next ?_
  refine RC.seq ?_
  refine RC.region ?_
  refine' RL.mx rfl rfl rfl ?hy4 ?_
  case hy4 => exact Ym.alloc (z := .slice none 0 0) rfl (by kernel_rfl)
  intro b7
  refine RL.nil ?_
  refine RE.next ?_
  refine RC.seq ?_
  refine RC.seq ?_
  refine RC.region ?_
  refine' RL.y rfl rfl rfl ?hy5 ?_
  case hy5 => exact Yl.move rfl rfl
  refine' RL.y rfl rfl rfl ?hy6 ?_
  case hy6 => exact Yl.makeFunc rfl rfl rfl
  refine RL.nil ?_
  refine RE.next ?_
  refine RC.block ?_
  refine RC.rangeS (τ := Value) (H := fun i s => [rowI s (wl S a b i), blk b7 (.cells #[s] 36 (0, 0)), blk b5 (.cells #[.int .i64 b] 3 (0, 0)), blk b4 (.cells #[.int .i64 a] 3 (0, 0))]) (σ := Nat × Value) (fun x => False) (fun x => x.1 < rk S 65536 ∧ b ≤ (nth S x.1).1) (fun x => [rowI x.2 (wl S a b x.1), blk b7 (.cells #[x.2] 36 (0, 0)), blk b5 (.cells #[.int .i64 b] 3 (0, 0)), blk b4 (.cells #[.int .i64 a] 3 (0, 0))]) (.slice none 0 0) (N := rk S 65536) (xs := fun i => [.int .i64 (nth S i).1]) rfl Try.func72 rfl rfl (it_all hR hT) (fun _ => rfl) rfl (fun w h => h.nil) ?hx7 ?hy7 ?hz7 ?hq7
  case hx7 =>
    intro i hi s l d rc
    have hrk := rk_le S 65536
    have hpl := wl_len S a b i
    refine RC.region ?_
    refine' RL.y rfl rfl rfl ?hy8 ?_
    case hy8 => exact Yl.assign rfl rfl
    refine RL.nil ?_
    refine RE.begin_ ?_
    refine RC.block ?_
    refine RC.seq ?_
    refine RC.seq ?_
    refine RC.region ?_
    refine' RL.y rfl rfl rfl ?hy9 ?_
    case hy9 => exact Yl.move rfl rfl
    refine' RL.y rfl rfl rfl ?hy10 ?_
    case hy10 => exact Yl.load rfl rfl (by kernel_rfl) (by first | exact Hp.cell mem0 rfl | exact Hp.cell mem1 rfl | exact Hp.cell mem2 rfl | exact Hp.cell mem3 rfl | exact Hp.cell mem4 rfl | exact Hp.cell mem5 rfl | exact Hp.cell mem6 rfl | exact Hp.rowAt mem0 (by omega) rfl | exact Hp.rowAt mem1 (by omega) rfl | exact Hp.rowAt mem2 (by omega) rfl | exact Hp.rowAt mem3 (by omega) rfl | exact Hp.rowAt mem4 (by omega) rfl | exact Hp.rowAt mem5 (by omega) rfl | exact Hp.rowAt mem6 (by omega) rfl)
    refine' RL.y rfl rfl rfl ?hy11 ?_
    case hy11 => exact Yl.bin rfl rfl rfl (Bin.geq _ _ _ _)
    refine RL.nil ?_
    refine RE.next ?_
    refine RC.cond rfl (fun hs14 => ?_) (fun hs14 => ?_)
    · skip
      (try simp only [nrm] at hs14)
      refine RC.exit ?_
      refine RE.thenExit ?_
      refine RE.inOut (by rfl) ?_
      exact RE.breakS ((i, s)) (⟨hi, by omega⟩) (fun w h => h)
    · skip
      (try simp only [nrm] at hs14)
      refine RC.skip ?_
      refine RE.next ?_
      refine RC.seq ?_
      refine RC.region ?_
      refine' RL.y rfl rfl rfl ?hy12 ?_
      case hy12 => exact Yl.move rfl rfl
      refine' RL.y rfl rfl rfl ?hy13 ?_
      case hy13 => exact Yl.load rfl rfl (by kernel_rfl) (by first | exact Hp.cell mem0 rfl | exact Hp.cell mem1 rfl | exact Hp.cell mem2 rfl | exact Hp.cell mem3 rfl | exact Hp.cell mem4 rfl | exact Hp.cell mem5 rfl | exact Hp.cell mem6 rfl | exact Hp.rowAt mem0 (by omega) rfl | exact Hp.rowAt mem1 (by omega) rfl | exact Hp.rowAt mem2 (by omega) rfl | exact Hp.rowAt mem3 (by omega) rfl | exact Hp.rowAt mem4 (by omega) rfl | exact Hp.rowAt mem5 (by omega) rfl | exact Hp.rowAt mem6 (by omega) rfl)
      refine' RL.y rfl rfl rfl ?hy14 ?_
      case hy14 => exact Yl.bin rfl rfl rfl (Bin.geq _ _ _ _)
      refine RL.nil ?_
      refine RE.next ?_
      refine RC.cond rfl (fun hs17 => ?_) (fun hs17 => ?_)
      · skip
        (try simp only [nrm] at hs17)
        refine RC.region ?_
        refine' RL.y rfl rfl rfl ?hy15 ?_
        case hy15 => exact Yl.load rfl rfl (by kernel_rfl) (by first | exact Hp.cell mem0 rfl | exact Hp.cell mem1 rfl | exact Hp.cell mem2 rfl | exact Hp.cell mem3 rfl | exact Hp.cell mem4 rfl | exact Hp.cell mem5 rfl | exact Hp.cell mem6 rfl | exact Hp.rowAt mem0 (by omega) rfl | exact Hp.rowAt mem1 (by omega) rfl | exact Hp.rowAt mem2 (by omega) rfl | exact Hp.rowAt mem3 (by omega) rfl | exact Hp.rowAt mem4 (by omega) rfl | exact Hp.rowAt mem5 (by omega) rfl | exact Hp.rowAt mem6 (by omega) rfl)
        refine' RL.y rfl rfl rfl ?hy16 ?_
        case hy16 => exact Yl.move rfl rfl
        refine' RL.mx rfl rfl rfl ?hy17 ?_
        case hy17 => exact Ym.buildSlice (cells := #[.int .i64 (nth S i).1]) (z := .int .i64 0) (size := 1) #[.int .i64 0] rfl Try.underlying36 (by kernel_rfl) (by decide) (by decide) (by kernel_rfl) rfl rfl
        intro b20
        refine' RL.mx rfl rfl rfl ?hy18 ?_
        case hy18 => exact Ym.append (news := [.int .i64 (nth S i).1]) (m := (wl S a b i).length) (xs := Iw (wl S a b i)) rfl Try.underlying36 (by kernel_rfl) (z := .int .i64 0) (size := 1) (bytes := 8) rfl (by decide) (by decide) rfl rfl rfl (Hp.cells mem0 (fun j v hj => by simpa using hj)) (by simp [Value.oneCell']) (by omega) (fun v' => foc3)
        intro v21
        obtain ⟨m1, hm1⟩ : ∃ m1, (wl S a b i).length = m1 := ⟨_, rfl⟩
        rw [hm1]
        refine RL.fact (fun w h => h.ownSl mem3) ?_
        rintro ⟨A1, c1, rfl⟩
        refine' RL.s rfl rfl ?hy19 ?_
        case hy19 => exact Ys.store (seg := [.slice A1 (m1 + 1) c1]) (c' := #[.slice A1 (m1 + 1) c1]) rfl rfl rfl (by simp [Value.cells]) (by kernel_rfl) (by simp [Value.oneCell']) foc4 (by simp [Value.cells]) rfl
        refine RL.nil ?_
        refine RE.inNormal ?_
        exact RE.goesS (.slice A1 (m1 + 1) c1) (fun w h => by rw [wl_yes (by omega) (by omega), ← rowI_snoc, hm1]; exact h.sub (List.sublist_cons_self _ _))
      · skip
        (try simp only [nrm] at hs17)
        refine RC.skip ?_
        refine RE.inNormal ?_
        exact RE.goesS (s) (fun w h => by rw [wl_no (by omega)]; exact h)
  case hy7 =>
    intro d s
    refine RE.inNormal ?_
    refine RE.next ?_
    refine RC.seq ?_
    refine RC.region ?_
    refine' RL.y rfl rfl rfl ?hy20 ?_
    case hy20 => exact Yl.load rfl rfl (by kernel_rfl) (by first | exact Hp.cell mem0 rfl | exact Hp.cell mem1 rfl | exact Hp.cell mem2 rfl | exact Hp.cell mem3 rfl | exact Hp.cell mem4 rfl | exact Hp.cell mem5 rfl | exact Hp.cell mem6 rfl | exact Hp.rowAt mem0 (by omega) rfl | exact Hp.rowAt mem1 (by omega) rfl | exact Hp.rowAt mem2 (by omega) rfl | exact Hp.rowAt mem3 (by omega) rfl | exact Hp.rowAt mem4 (by omega) rfl | exact Hp.rowAt mem5 (by omega) rfl | exact Hp.rowAt mem6 (by omega) rfl)
    refine' RL.y rfl rfl rfl ?hy21 ?_
    case hy21 => exact Yl.assign rfl rfl
    refine RL.nil ?_
    refine RE.next ?_
    refine RC.ret ?_
    refine RE.mark ?_
    refine RE.ret1 rfl rfl ?_
    exact fun w h => ⟨s, rfl, by rw [← wl_all]; exact (h.sub (.cons _ (.cons_cons _ (List.nil_sublist _)))).leaveNew⟩
  case hz7 =>
    intro d s hs
    exact hs.elim
  case hq7 =>
    intro d x hs
    refine RC.exit ?_
    refine RE.inHere ?_
    refine RE.next ?_
    refine RC.seq ?_
    refine RC.region ?_
    refine' RL.y rfl rfl rfl ?hy22 ?_
    case hy22 => exact Yl.load rfl rfl (by kernel_rfl) (by first | exact Hp.cell mem0 rfl | exact Hp.cell mem1 rfl | exact Hp.cell mem2 rfl | exact Hp.cell mem3 rfl | exact Hp.cell mem4 rfl | exact Hp.cell mem5 rfl | exact Hp.cell mem6 rfl | exact Hp.rowAt mem0 (by omega) rfl | exact Hp.rowAt mem1 (by omega) rfl | exact Hp.rowAt mem2 (by omega) rfl | exact Hp.rowAt mem3 (by omega) rfl | exact Hp.rowAt mem4 (by omega) rfl | exact Hp.rowAt mem5 (by omega) rfl | exact Hp.rowAt mem6 (by omega) rfl)
    refine' RL.y rfl rfl rfl ?hy23 ?_
    case hy23 => exact Yl.assign rfl rfl
    refine RL.nil ?_
    refine RE.next ?_
    refine RC.ret ?_
    refine RE.mark ?_
    refine RE.ret1 rfl rfl ?_
    exact fun w h => ⟨x.2, rfl, by rw [← wl_stop hs.1 hs.2]; exact (h.sub (.cons _ (.cons_cons _ (List.nil_sublist _)))).leaveNew⟩
set_option maxRecDepth 100000 in
set_option maxHeartbeats 2000000 in
theorem k_clone (W : World) {st : St} {S : Sf} (hR : Rep W st) (hT : Tree st S) : Calls Try.prog 47 #[.pointer (some ⟨st.ad 0 0, 0, none⟩)] W fun e w' => ∃ x : {x : Nat × St // Tab x.2 S x.1}, e = .returned (.pointer (some ⟨x.1.1, 0, none⟩)) ∧ (tabR x.1.2).holds w' ∧ Below W.heap.size W w' ∧ ∀ k, (tabR x.1.2).foot k → W.heap.size ≤ k := by
  have hM : Hp W (fun _ => False) [] W := Hp.start
  refine RC.enter (n := 22) Try.func47 rfl rfl rfl hM ?_
  refine RC.seq ?_
  refine RC.region ?_
  refine' RL.mx rfl rfl rfl ?hy1 ?_
  case hy1 => exact Ym.box rfl rfl
  intro b1
  refine' RL.y rfl rfl rfl ?hy2 ?_
  case hy2 => exact Yl.assign rfl rfl
  refine RL.nil ?_
  refine RE.next ?_
  refine RC.seq ?_
  refine RC.region ?_
  refine' RL.c rfl rfl rfl ?hy3 ?_
  case hy3 => exact Yc.call rfl Try.func34 (by kernel_rfl) rfl rfl (Hp.news (fun w h => k_new w))
  intro c
  refine' RL.mx rfl rfl rfl ?hy4 ?_
  case hy4 => exact Ym.alloc (z := .pointer none) rfl (by kernel_rfl)
  intro b3
  refine' RL.s rfl rfl ?hy5 ?_
  case hy5 => exact Ys.store (seg := [.pointer (some ⟨c, 0, none⟩)]) (c' := #[.pointer (some ⟨c, 0, none⟩)]) rfl rfl rfl (by simp [Value.cells]) (by kernel_rfl) (by simp [Value.oneCell']) foc0 (by simp [Value.cells]) rfl
  refine RL.nil ?_
  refine RE.next ?_
  refine RC.seq ?_
  refine RC.seq ?_
  refine RC.region ?_
  refine' RL.y rfl rfl rfl ?hy6 ?_
  case hy6 => exact Yl.load rfl rfl (by kernel_rfl) (by first | exact Hp.cell mem0 rfl | exact Hp.cell mem1 rfl | exact Hp.cell mem2 rfl | exact Hp.cell mem3 rfl | exact Hp.cell mem4 rfl | exact Hp.cell mem5 rfl | exact Hp.cell mem6 rfl | exact Hp.rowAt mem0 (by omega) rfl | exact Hp.rowAt mem1 (by omega) rfl | exact Hp.rowAt mem2 (by omega) rfl | exact Hp.rowAt mem3 (by omega) rfl | exact Hp.rowAt mem4 (by omega) rfl | exact Hp.rowAt mem5 (by omega) rfl | exact Hp.rowAt mem6 (by omega) rfl)
  refine' RL.y rfl rfl rfl ?hy7 ?_
  case hy7 => exact Yl.makeFunc rfl rfl rfl
  refine RL.nil ?_
  refine RE.next ?_
  refine RC.block ?_
  refine RC.rangeS (τ := St) (H := fun i s => [pureR (Tab s (SIx S i) c) (tabR s), blk b3 (.cells #[.pointer (some ⟨c, 0, none⟩)] 64 (0, 0)), blk b1 (.cells #[.pointer (some ⟨st.ad 0 0, 0, none⟩)] 64 (0, 0))]) (σ := Unit) (fun _ => False) (fun _ => False) (fun _ => []) (st0 c) (N := rk S 65536) (xs := fun i => [.int .i64 (nth S i).1]) rfl Try.func72 rfl rfl (it_all hR hT) (fun _ => rfl) rfl (fun w h => Hp.topure (show Tab (st0 c) (SIx S 0) c by rw [SIx_0]; exact Tab.new c) (Hp.swap h)) ?hx8 ?hy8 ?hz8 ?hq8
  case hx8 =>
    intro i hi s l d rc
    refine RC.region ?_
    refine' RL.y rfl rfl rfl ?hy9 ?_
    case hy9 => exact Yl.assign rfl rfl
    refine RL.nil ?_
    refine RE.begin_ ?_
    refine RC.block ?_
    refine RC.seq ?_
    refine RC.region ?_
    refine' RL.y rfl rfl rfl ?hy10 ?_
    case hy10 => exact Yl.load rfl rfl (by kernel_rfl) (by first | exact Hp.cell mem0 rfl | exact Hp.cell mem1 rfl | exact Hp.cell mem2 rfl | exact Hp.cell mem3 rfl | exact Hp.cell mem4 rfl | exact Hp.cell mem5 rfl | exact Hp.cell mem6 rfl | exact Hp.rowAt mem0 (by omega) rfl | exact Hp.rowAt mem1 (by omega) rfl | exact Hp.rowAt mem2 (by omega) rfl | exact Hp.rowAt mem3 (by omega) rfl | exact Hp.rowAt mem4 (by omega) rfl | exact Hp.rowAt mem5 (by omega) rfl | exact Hp.rowAt mem6 (by omega) rfl)
    refine' RL.y rfl rfl rfl ?hy11 ?_
    case hy11 => exact Yl.move rfl rfl
    refine' RL.c rfl rfl rfl ?hy12 ?_
    case hy12 => exact Yc.call rfl Try.func42 (by kernel_rfl) rfl rfl (Hp.calls (fun w h => k_get w (hR.below h.below) hT (nth S i).1))
    intro _
    refine' RL.y rfl rfl rfl ?hy13 ?_
    case hy13 => exact Yl.move rfl rfl
    refine' RL.y rfl rfl rfl ?hy14 ?_
    case hy14 => exact Yl.extract rfl rfl rfl
    refine' RL.y rfl rfl rfl ?hy15 ?_
    case hy15 => exact Yl.extract rfl rfl rfl
    refine' RL.y rfl rfl rfl ?hy16 ?_
    case hy16 => exact Yl.assign rfl rfl
    refine' RL.y rfl rfl rfl ?hy17 ?_
    case hy17 => exact Yl.assign rfl rfl
    refine RL.nil ?_
    refine RE.next ?_
    refine RC.fact (fun w h => (h.all _ mem2).2) ?_
    intro hTab
    refine RC.wk (fun w h => Hp.re (r := pureR (Tab s (SIx S i) c) (tabR s)) (r' := tabR s) foc2 (fun hh => hh.1) (fun k hk => hk) h) ?_
    refine RC.region ?_
    refine' RL.y rfl rfl rfl ?hy18 ?_
    case hy18 => exact Yl.load rfl rfl (by kernel_rfl) (by first | exact Hp.cell mem0 rfl | exact Hp.cell mem1 rfl | exact Hp.cell mem2 rfl | exact Hp.cell mem3 rfl | exact Hp.cell mem4 rfl | exact Hp.cell mem5 rfl | exact Hp.cell mem6 rfl | exact Hp.rowAt mem0 (by omega) rfl | exact Hp.rowAt mem1 (by omega) rfl | exact Hp.rowAt mem2 (by omega) rfl | exact Hp.rowAt mem3 (by omega) rfl | exact Hp.rowAt mem4 (by omega) rfl | exact Hp.rowAt mem5 (by omega) rfl | exact Hp.rowAt mem6 (by omega) rfl)
    refine' RL.y rfl rfl rfl ?hy19 ?_
    case hy19 => exact Yl.move rfl rfl
    refine' RL.y rfl rfl rfl ?hy20 ?_
    case hy20 => exact Yl.move rfl rfl
    refine' RL.c rfl rfl rfl ?hy21 ?_
    case hy21 => exact Yc.call rfl Try.func37 (by kernel_rfl) rfl rfl (Hp.turnx mem2 (fun s => foc2) (k_set hTab (nth S i).1 ((gt S (nth S i).1).getD 0)))
    intro ⟨st2, hst2⟩
    dsimp only
    refine RL.nil ?_
    refine RE.inNormal ?_
    exact RE.goesS (st2) (fun w h => Hp.re (r := tabR st2) (r' := pureR (Tab st2 (SIx S (i + 1)) c) (tabR st2)) foc2 (fun hh => ⟨hh, SIx_succ hi ▸ hst2⟩) (fun k hk => hk) h)
  case hy8 =>
    intro d s
    refine RE.fact (fun w h => (h.all _ mem1).2) ?_
    intro hTab
    refine RE.inNormal ?_
    refine RE.next ?_
    refine RC.seq ?_
    refine RC.region ?_
    refine' RL.y rfl rfl rfl ?hy22 ?_
    case hy22 => exact Yl.load rfl rfl (by kernel_rfl) (by first | exact Hp.cell mem0 rfl | exact Hp.cell mem1 rfl | exact Hp.cell mem2 rfl | exact Hp.cell mem3 rfl | exact Hp.cell mem4 rfl | exact Hp.cell mem5 rfl | exact Hp.cell mem6 rfl | exact Hp.rowAt mem0 (by omega) rfl | exact Hp.rowAt mem1 (by omega) rfl | exact Hp.rowAt mem2 (by omega) rfl | exact Hp.rowAt mem3 (by omega) rfl | exact Hp.rowAt mem4 (by omega) rfl | exact Hp.rowAt mem5 (by omega) rfl | exact Hp.rowAt mem6 (by omega) rfl)
    refine' RL.y rfl rfl rfl ?hy23 ?_
    case hy23 => exact Yl.assign rfl rfl
    refine RL.nil ?_
    refine RE.next ?_
    refine RC.ret ?_
    refine RE.mark ?_
    refine RE.ret1 rfl rfl ?_
    exact fun w h => ⟨⟨(c, s), by rw [SIx_all (fun p hp => hT.out hp)] at hTab; exact hTab⟩, rfl, (Hp.re (r := pureR (Tab s (SIx S (rk S 65536)) c) (tabR s)) (r' := tabR s) foc0 (fun hh => hh.1) (fun k hk => hk) (h.sub (.cons _ (.cons_cons _ (List.nil_sublist _))))).leaveNew⟩
  case hz8 =>
    intro d s hs
    exact hs.elim
  case hq8 =>
    intro d s hs
    exact hs.elim
end Go.Proofs.Ytabjdjkkpbkpfaa.Pk
