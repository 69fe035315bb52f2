/- The document's space: what it is. -/
import Derived.Test.YtabjdjkkpbkpfaaSrD
import Derived.Test.YtabjdjkkpbkpfaaSrB
import Derived.Test.YtabjdjkkpbkpfaaRxH
import Derived.Test.YtabjdjkkpbkpfaaSpX
import Derived.Test.YtabjdjkkpbkpfaaProg
import Derived.RowKit3
namespace Go.Proofs.Ytabjdjkkpbkpfaa.Pk
open Go Go.RowKit Go.Proofs.Ytabjdjkkpbkpfaa.HL Go.Proofs.Ytabjdjkkpbkpfaa.Ev Go.Proofs.YtabjdjkkpbkpfaaW.PrintWords Go.Proofs.RgP Go.Proofs.RxP
set_option linter.unusedVariables false
set_option linter.unusedSimpArgs false
/-! ### The document's space -/
structure Dp where
  s : Nat
  v : Value
  b : Nat
  w : Value
structure Dp.Is (x : Dp) (u : SS) (s : Nat) : Prop where
  s : x.s = s
  ok : u.Ok
def dpR (x : Dp) (u : SS) : Res := star (star (blk x.s (.cells #[x.v, .pointer (some ⟨x.b, 0, none⟩)] 56 (0, 0))) (rowG x.v u.G)) (Rf x.b x.w (encF u.E))
theorem dpR_open {W : World} {x : Dp} {u : SS} (h : (dpR x u).holds W) : ∃ A c, x.v = .slice A u.G.length c ∧ u.G.length ≤ c ∧ Sl W A (Rw u.G) ∧ W.heap[x.s]? = some (.cells #[x.v, .pointer (some ⟨x.b, 0, none⟩)] 56 (0, 0)) ∧ (Rf x.b x.w (encF u.E)).holds W := by
  obtain ⟨⟨h1, h2, _⟩, h3, _⟩ := h
  obtain ⟨A, c, hv, hc⟩ := ownCp h2
  refine ⟨A, c, hv, hc, ?_, h1, h3⟩
  rw [hv] at h2
  exact gOwnN h2
theorem Rf_nil {W0 w : World} {T : Nat → Prop} {H : List Res} {b : Nat} (h : Hp W0 T (blk b (.cells #[.slice none 0 0] 59 (0, 0)) :: H) w) : Hp W0 T (Rf b (.slice none 0 0) (encF newS.E) :: H) w := by
  have h2 := (rowP_nil h).swap.tostar
  unfold Rf
  rw [show ents (encF newS.E) 65536 = [] from ents_empty _]; exact h2
theorem Pw_set {p y : Int} : ∀ (l : List (Int × Int)) (i : Nat), i < l.length → (at_ l i).1 = p → putL (Pw l) (i * 2 + 1) [.int .u64 y] = Pw (l.set i (p, y))
  | [], i, h, _ => by simp at h
  | e :: l, 0, _, hp => by
    have hp : e.1 = p := hp
    rw [show e :: l = [e] ++ l from rfl, Pw_app, Pw_one, show ([e] ++ l).set 0 (p, y) = [(p, y)] ++ l from rfl, Pw_app, Pw_one, hp]; rfl
  | e :: l, i + 1, h, hp => by
    have ih := Pw_set (p := p) (y := y) l i (by simpa using h) (by rw [← hp]; unfold at_; rw [List.getElem?_cons_succ])
    rw [show (e :: l).set (i + 1) (p, y) = [e] ++ l.set i (p, y) from rfl, show e :: l = [e] ++ l from rfl, Pw_app, Pw_app, Pw_one, ← ih, show (i + 1) * 2 + 1 = (i * 2 + 1) + 1 + 1 by omega]
    rfl
theorem rk_same {S T : Sf} (h : ∀ p, (S p).isSome = (T p).isSome) : ∀ n, rk S n = rk T n
  | 0 => rfl
  | n + 1 => by
    have h1 := h n
    have ih := rk_same h n
    cases hs : S n with
    | none =>
      rw [hs] at h1
      have ht : T n = none := by cases e : T n; rfl; rw [e] at h1; cases h1
      rw [rk_no hs, rk_no ht, ih]
    | some x =>
      rw [hs] at h1
      obtain ⟨y, ht⟩ := Option.isSome_iff_exists.1 h1.symm
      rw [rk_yes hs, rk_yes ht, ih]
theorem ents_upd {S : Sf} {p : Nat} {x y : Int} (h : S p = some x) : ∀ n, p < n → ents (updS S p (some y)) n = (ents S n).set (rk S p) ((p : Int), y)
  | 0, hn => by omega
  | n + 1, hn => by
    rcases Nat.lt_or_ge p n with h1 | h1
    · have ih := ents_upd (y := y) h n h1
      have he : entA (updS S p (some y)) n = entA S n := by unfold entA; rw [updS_ne (by omega)]
      rw [ents, ents, ih, he, List.set_append_left _ _ (rk_lt h h1)]
    · obtain rfl : p = n := by omega
      rw [ents, ents, ents_congr (S' := S) p (fun q hq => updS_ne (by omega)), entA_yes (x := y) (updS_at _ _ _), entA_yes h, List.set_append_right _ _ (by unfold rk; omega)]
      unfold rk
      rw [Nat.sub_self]; rfl
theorem restL_isSome (u : SS) (l : List Int) (p : Nat) : (encF (restL u l) p).isSome = (encF u.E p).isSome := by unfold encF restL; split <;> simp
theorem pgs_ents (u : SS) : pgsE u 0 65536 = (ents (encF u.E) 65536).map (·.1) := by
  unfold pgsE
  rw [← wr_all]
  unfold wr
  rw [show rk (encF u.E) 65536 = (ents (encF u.E) 65536).length from rfl, List.take_length, List.filter_eq_self]
  intro n hn
  obtain ⟨e, he, rfl⟩ := List.mem_map.1 hn
  obtain ⟨p, hp, _, h2⟩ := (ents_mem 65536 e).1 he
  unfold inW
  rw [h2]; simp; omega
theorem pgs_rk {u : SS} {i : Nat} (hi : i < (pgsE u 0 65536).length) : ∃ p : Nat, p < 65536 ∧ gI (pgsE u 0 65536) i = (p : Int) ∧ rk (encF u.E) p = i := by
  have hl : i < rk (encF u.E) 65536 := by rw [pgs_ents, List.length_map] at hi; exact hi
  obtain ⟨p, x, h1, h2, h3, h4⟩ := ents_get 65536 i hl
  refine ⟨p, h1, ?_, h3⟩
  unfold gI
  rw [pgs_ents, List.getElem?_map, h4]; rfl
/-- The table, of which some rest. -/
def restQ (u : SS) (i : Nat) : List (Int × Int) := ents (encF (restL u ((pgsE u 0 65536).take i))) 65536
theorem restQ_len (u : SS) (i : Nat) : (restQ u i).length = (pgsE u 0 65536).length := by
  have h := rk_same (restL_isSome u ((pgsE u 0 65536).take i)) 65536
  rw [pgs_ents, List.length_map]; exact h
theorem restQ_0 (u : SS) : restQ u 0 = ents (encF u.E) 65536 := by unfold restQ; rw [List.take_zero, restL_nil]
theorem restQ_step {u : SS} {i : Nat} (hi : i < (pgsE u 0 65536).length) {en : En} (he : gE u (gI (pgsE u 0 65536) i) = some en) : at_ (restQ u i) i = (gI (pgsE u 0 65536) i, encE en) ∧ restQ u (i + 1) = (restQ u i).set i (gI (pgsE u 0 65536) i, encE (tch en false)) := by
  obtain ⟨p, hp, hg, hr⟩ := pgs_rk hi
  have hno := gI_new hi
  have hS : encF (restL u ((pgsE u 0 65536).take i)) p = some (encE en) := by
    rw [hg] at he hno
    rw [gE_nat hp] at he
    unfold encF restL
    rw [if_neg hno, he]; rfl
  have hk : rk (encF (restL u ((pgsE u 0 65536).take i))) p = i := by rw [rk_same (restL_isSome u _), hr]
  constructor
  · have h := at_rk hS hp
    rw [hk] at h
    rw [hg]; exact h
  · unfold restQ
    rw [gI_take hi, ← restL_set he, hg, setS_nat hp, ents_upd hS 65536 hp, hk]
theorem restQ_all {u : SS} (hu : u.Ok) : restQ u (pgsE u 0 65536).length = ents (encF (srest u).E) 65536 := by unfold restQ; rw [List.take_length, restL_all hu]
theorem at_en {u : SS} (hu : u.Ok) {i : Nat} (hi : i < rk (encF u.E) 65536) : ∃ (p : Nat) (en : En), p < 65536 ∧ okE en ∧ at_ (ents (encF u.E) 65536) i = ((p : Int), encE en) ∧ gE u (p : Int) = some en := by
  obtain ⟨p, x, h1, h2, h3, h4⟩ := at_ents (S := encF u.E) (n := 65536) hi
  obtain ⟨en, he, rfl⟩ := Option.map_eq_some_iff.1 h2
  exact ⟨p, en, h1, hu.ok p en he, h4, by rw [gE_nat h1, he]⟩
theorem ids_wr (u : SS) (a t : Int) : (wr (encF u.E) a t (rk (encF u.E) 65536)).map (pgE u) = idsL u a t := by rw [wr_all]; rfl
theorem Pw_cell1 {l : List (Int × Int)} : ∀ q ∈ Pw l, q.oneCell' = true := fun q hq => by
  unfold Pw at hq
  obtain ⟨e, _, he⟩ := List.mem_flatMap.1 hq
  simp only [List.mem_cons, List.not_mem_nil, or_false] at he
  rcases he with rfl | rfl <;> rfl
theorem k_dget (W : World) {b : Nat} {v : Value} {S : Sf} (h : (Rf b v S).holds W) (n : Int) : Calls Go.Proofs.Try.prog 56 #[.pointer (some ⟨b, 0, none⟩), .int .i64 n] W fun e w' => e = .returned (.tuple #[.int .u64 ((gt S n).getD 0), .bool (gt S n).isSome]) ∧ Below W.heap.size W w' := by
  obtain ⟨A, c, hR⟩ := Rf.at_ h
  exact k_rget W hR n
theorem k_dwalk (W : World) {b : Nat} {v : Value} {S : Sf} (h : (Rf b v S).holds W) (a t : Int) : Calls Go.Proofs.Try.prog 51 #[.pointer (some ⟨b, 0, none⟩), .int .i64 a, .int .i64 t] W fun e w' => ∃ v : Value, e = .returned v ∧ (rowI v (walkL S a t)).holds w' ∧ Below W.heap.size W w' ∧ ∀ k, (rowI v (walkL S a t)).foot k → W.heap.size ≤ k := by
  obtain ⟨A, c, hR⟩ := Rf.at_ h
  exact k_rwalk W hR a t
theorem k_dwalkE (W : World) {b : Nat} {v : Value} {u : SS} (h : (Rf b v (encF u.E)).holds W) (a t : Int) : Calls Go.Proofs.Try.prog 51 #[.pointer (some ⟨b, 0, none⟩), .int .i64 a, .int .i64 t] W fun e w' => ∃ v : Value, e = .returned v ∧ (rowI v (pgsE u a t)).holds w' ∧ Below W.heap.size W w' ∧ ∀ k, (rowI v (pgsE u a t)).foot k → W.heap.size ≤ k := k_dwalk W h a t
attribute [local irreducible] Rw atG Pw at_ ents Iw
set_option maxRecDepth 100000 in
set_option maxHeartbeats 2000000 in
theorem k_dclone (W : World) {b : Nat} {v : Value} {S : Sf} (h : (Rf b v S).holds W) : Calls Try.prog 59 #[.pointer (some ⟨b, 0, none⟩)] W fun e w' => ∃ x : Nat × Value, e = .returned (.pointer (some ⟨x.1, 0, none⟩)) ∧ (Rf x.1 x.2 S).holds w' ∧ Below W.heap.size W w' ∧ ∀ k, (Rf x.1 x.2 S).foot k → W.heap.size ≤ k := by
  obtain ⟨A, c, hR⟩ := Rf.at_ h
  have hrl := rk_le S 65536
  have hM : Hp W (fun _ => False) [] W := Hp.start
  refine TC.enter (n := 19) Try.func59 rfl rfl rfl hM ?_
  refine TC.seq ?_
  refine TC.region ?_
  refine' TL.y rfl rfl rfl ?hy1 ?_
  case hy1 => exact Yl.assign rfl rfl
  refine TL.nil ?_
  refine TE.next ?_
  refine TC.seq ?_
  refine TC.region ?_
  refine' TL.y rfl rfl rfl ?hy2 ?_
  case hy2 => exact Yl.build (z := .agg #[.slice none 0 0]) [(0, 1)] rfl (by kernel_rfl) Try.underlying59 (by kernel_rfl) rfl rfl
  refine' TL.mx rfl rfl rfl ?hy3 ?_
  case hy3 => exact Ym.box rfl rfl
  intro b5
  refine' TL.y rfl rfl rfl ?hy4 ?_
  case hy4 => exact Yl.assign rfl rfl
  refine TL.nil ?_
  refine TE.next ?_
  refine TC.seq ?_
  refine TC.wk (M' := Hp W (fun _ => False) [ownR 83 2 (.slice none 0 0) 0 [], blk b5 (.cells #[.slice none 0 0] 59 (0, 0))]) (fun w h => h.nil) ?_
  refine TC.draw (k := 13) (Hp W (fun _ => False) [blk b5 (.cells #[.slice none 0 0] 59 (0, 0))]) [12] #[false, false, false, false, false, false, false, false, false, false, false, false, false] (by kernel_rfl) rfl rfl (fun _ h => h.drew) (fun _ h => by exact Hp.sub h (by repeat (first | exact sR _ | exact sN _ | apply sK | apply sC))) ?_
  refine' TA.p (i := 0) #[true, false, false, false, false, false, false, false, false, false, false, false, false] rfl rfl rfl (by kernel_rfl) (fun _ _ _ h => h) rfl ?hy5 ?_
  case hy5 => exact Yl.move rfl rfl
  refine' TA.p (i := 1) #[true, true, false, false, false, false, false, false, false, false, false, false, false] rfl rfl rfl (by kernel_rfl) (fun _ _ _ h => h) rfl ?hy6 ?_
  case hy6 => exact Yl.move rfl rfl
  refine' TA.p (i := 2) #[true, true, true, false, false, false, false, false, false, false, false, false, false] rfl rfl rfl (by kernel_rfl) (fun _ _ _ h => h) rfl ?hy7 ?_
  case hy7 => exact Yl.nilCheck rfl rfl
  refine' TA.p (i := 3) #[true, true, true, true, false, false, false, false, false, false, false, false, false] rfl rfl rfl (by kernel_rfl) (fun _ _ _ h => h) rfl ?hy8 ?_
  case hy8 => first | exact Yl.field0 (k := 0) 0 rfl rfl Try.underlying59 rfl (by kernel_rfl) rfl | exact Yl.field (k := 0) 0 rfl rfl Try.underlying59 rfl (by kernel_rfl) rfl
  refine' TA.y (i := 4) #[true, true, true, true, true, false, false, false, false, false, false, false, false] rfl rfl rfl (by kernel_rfl) (fun _ _ _ h => h) (fun _ h => by exact Hp.sub h (by repeat (first | exact sR _ | exact sN _ | apply sK | apply sC))) rfl ?hy9 ?_
  case hy9 => exact Yl.load rfl rfl (by kernel_rfl) (by first | exact Hp.oldB hR.blk rfl (fun h => h) | exact Hp.cell mem0 rfl | exact Hp.cell mem1 rfl | exact Hp.cell mem2 rfl | exact Hp.cell mem3 rfl | exact Hp.cell mem4 rfl | exact Hp.rowAt mem0 (by omega) rfl | exact Hp.rowAt mem1 (by omega) rfl | exact Hp.rowAt mem2 (by omega) rfl | exact Hp.rowAt mem3 (by omega) rfl | exact Hp.rowAt mem4 (by omega) rfl)
  refine' TA.p (i := 5) #[true, true, true, true, true, true, false, false, false, false, false, false, false] rfl rfl rfl (by kernel_rfl) (fun _ _ _ h => h) rfl ?hy10 ?_
  case hy10 => exact Yl.move rfl rfl
  refine' TA.p (i := 6) #[true, true, true, true, true, true, true, false, false, false, false, false, false] rfl rfl rfl (by kernel_rfl) (fun _ _ _ h => h) rfl ?hy11 ?_
  case hy11 => exact Yl.nilCheck rfl rfl
  refine' TA.p (i := 7) #[true, true, true, true, true, true, true, true, false, false, false, false, false] rfl rfl rfl (by kernel_rfl) (fun _ _ _ h => h) rfl ?hy12 ?_
  case hy12 => first | exact Yl.field0 (k := 0) 0 rfl rfl Try.underlying59 rfl (by kernel_rfl) rfl | exact Yl.field (k := 0) 0 rfl rfl Try.underlying59 rfl (by kernel_rfl) rfl
  refine' TA.y (i := 8) #[true, true, true, true, true, true, true, true, true, false, false, false, false] rfl rfl rfl (by kernel_rfl) (fun _ _ _ h => h) (fun _ h => by exact Hp.sub h (by repeat (first | exact sR _ | exact sN _ | apply sK | apply sC))) rfl ?hy13 ?_
  case hy13 => exact Yl.load rfl rfl (by kernel_rfl) (by first | exact Hp.oldB hR.blk rfl (fun h => h) | exact Hp.cell mem0 rfl | exact Hp.cell mem1 rfl | exact Hp.cell mem2 rfl | exact Hp.cell mem3 rfl | exact Hp.cell mem4 rfl | exact Hp.rowAt mem0 (by omega) rfl | exact Hp.rowAt mem1 (by omega) rfl | exact Hp.rowAt mem2 (by omega) rfl | exact Hp.rowAt mem3 (by omega) rfl | exact Hp.rowAt mem4 (by omega) rfl)
  refine' TA.mx (i := 9) #[true, true, true, true, true, true, true, true, true, true, false, false, false] rfl rfl rfl (by kernel_rfl) (by decide) rfl ?hy14 ?hz14 ?_
  case hy14 => exact Ym.appendSl (e := 83) (m := 0) (xs := []) (news := Pw (ents S 65536)) rfl Try.underlying57 (by kernel_rfl) (z := .agg #[.int .i64 0, .int .u64 0]) (size := 2) (bytes := 16) rfl (by decide) (by decide) rfl rfl (by rw [Pw_length, Rf.len]) (fun w h => hR.sl.below h.below) Pw_cell1 (by omega) (fun v' => foc0)
  case hz14 => exact (fun _ _ h => by exact Hp.sub h (by repeat (first | exact sR _ | exact sN _ | apply sK | apply sC)))
  intro v15
  refine TA.wk (M' := Hp W (fun _ => False) [rowP v15 (ents S 65536), blk b5 (.cells #[.slice none 0 0] 59 (0, 0))]) (fun w h => by rw [Nat.zero_add, List.nil_append] at h; exact h) ?_
  refine TA.fact (fun w h => h.ownSl (e := 83) (size := 2) (m := (ents S 65536).length) (xs := Pw (ents S 65536)) mem0) ?_
  rintro ⟨A15, c15, rfl⟩
  refine' TA.p (i := 10) #[true, true, true, true, true, true, true, true, true, true, true, false, false] rfl rfl rfl (by kernel_rfl) (fun _ _ _ h => h) rfl ?hy15 ?_
  case hy15 => exact Yl.nilCheck rfl rfl
  refine' TA.p (i := 11) #[true, true, true, true, true, true, true, true, true, true, true, true, false] rfl rfl rfl (by kernel_rfl) (fun _ _ _ h => h) rfl ?hy16 ?_
  case hy16 => first | exact Yl.field0 (k := 0) 0 rfl rfl Try.underlying59 rfl (by kernel_rfl) rfl | exact Yl.field (k := 0) 0 rfl rfl Try.underlying59 rfl (by kernel_rfl) rfl
  refine' TA.sl (i := 12) #[true, true, true, true, true, true, true, true, true, true, true, true, true] rfl rfl (by kernel_rfl) (by decide) rfl ?hy17 ?_
  case hy17 => exact Ys.store (seg := [.slice A15 (ents S 65536).length c15]) (c' := #[.slice A15 (ents S 65536).length c15]) rfl rfl rfl (by simp [Value.cells]) (by kernel_rfl) (by simp [Value.oneCell']) foc1 (by simp [Value.cells]) rfl
  refine TA.done (by kernel_rfl) ?_
  refine TE.next ?_
  refine TC.seq ?_
  refine TC.region ?_
  refine' TL.y rfl rfl rfl ?hy18 ?_
  case hy18 => exact Yl.move rfl rfl
  refine' TL.y rfl rfl rfl ?hy19 ?_
  case hy19 => exact Yl.assign rfl rfl
  refine TL.nil ?_
  refine TE.next ?_
  refine TC.ret ?_
  refine TE.ret1 rfl rfl ?_
  exact fun w h => ⟨(b5, .slice A15 (ents S 65536).length c15), rfl, (h.swap.tostar).leaveNew⟩
end Go.Proofs.Ytabjdjkkpbkpfaa.Pk
