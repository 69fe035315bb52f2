/- What the document's example comes to; groups of one's own. -/
import Derived.Test.YtipdpmmjmlimhaaPrH
import Derived.Test.YtipdpmmjmlimhaaPrQ
import Derived.Test.YtipdpmmjmlimhaaProg
import Derived.RowKit3
namespace Go.Proofs.Ytipdpmmjmlimhaa.Pk
open Go Go.RowKit Go.Proofs.Ytipdpmmjmlimhaa.HL Go.Proofs.Ytipdpmmjmlimhaa.Ev Go.Proofs.YtipdpmmjmlimhaaW.PrintWords Go.Proofs.PrP Go.Proofs.DvP
set_option linter.unusedVariables false
set_option linter.unusedSimpArgs false
theorem lenS : lenE 4 fS 0 = 4 := if_pos ⟨vS, by decide, by decide⟩
theorem lenSO : lenO 4 fS 4 0 = 4 := if_pos ⟨vS, rfl, by decide, by decide⟩
theorem bdS (j : Nat) (h : j < 4) : 0 ≤ eS j ∧ eS j ≤ 2199023255552 := by
  match j, h with
  | 0, _ => decide
  | 1, _ => decide
  | 2, _ => decide
  | 3, _ => decide
theorem lenE_ok {m : Nat} {f : Nat → Nd} {t : Int} (hv : Vld m f) (h0 : 0 ≤ t) (h1 : t < m) : lenE m f t = m := if_pos ⟨hv, h0, h1⟩
theorem lenE_no {m : Nat} {f : Nat → Nd} {t : Int} (h : ¬ (Vld m f ∧ 0 ≤ t ∧ t < m)) : lenE m f t = 0 := if_neg h
theorem ofOwnN {w : World} {e : TypeId} {s : Nat} {A : Option Addr} {m c : Nat} {xs : List Value} (h : (ownR e s (.slice A m c) m xs).holds w) : Sl w A xs := fun j v hj => by
  rcases h.2 with ⟨h1, h2⟩ | ⟨g, cap, cur, h1, _, hh, _, _, _, htk⟩
  · have := h.1
    rw [h2] at this
    have : xs = [] := List.eq_nil_of_length_eq_zero (by simpa using this)
    rw [this] at hj; simp at hj
  · injection h1 with h1
    subst h1
    refine ⟨_, rfl, ?_⟩
    rw [Addr.at_, Nat.zero_add, blk_cell hh]
    rw [← htk, List.getElem?_take] at hj
    split at hj
    · simpa using hj
    · cases hj
theorem Nw_set (m : Nat) (f : Nat → Nd) (g i : Nat) (hg : g < m) (hi : i < 3) (x : Int) (nd : Nd) (h1 : fld nd i = x) (h2 : ∀ k, k < 3 → k ≠ i → fld nd k = fld (f g) k) : (Nw m f).set (g * 3 + i) (.int .i64 x) = Nw m (updG f g nd) := by
  apply List.ext_getElem?
  intro j
  rw [List.getElem?_set, Nw_length]
  rcases Nat.lt_or_ge j (m * 3) with hj | hj
  · have ej : j = j / 3 * 3 + j % 3 := by omega
    by_cases e : g * 3 + i = j
    · rw [if_pos e, if_pos (by omega), ← e, Nw_get _ _ _ _ hg hi]
      unfold updG; rw [if_pos rfl, h1]
    · rw [if_neg e, ej, Nw_get _ _ _ _ (by omega) (by omega), Nw_get _ _ _ _ (by omega) (by omega)]
      unfold updG
      by_cases e2 : j / 3 = g
      · rw [if_pos e2, h2 _ (by omega) (by omega), e2]
      · rw [if_neg e2]
  · rw [if_neg (by omega), List.getElem?_eq_none (by rw [Nw_length]; omega), List.getElem?_eq_none (by rw [Nw_length]; omega)]
theorem Nw_congr {m : Nat} {f g : Nat → Nd} (h : ∀ j, j < m → f j = g j) : Nw m f = Nw m g := by
  apply List.ext_getElem?
  intro j
  rcases Nat.lt_or_ge j (m * 3) with hj | hj
  · have ej : j = j / 3 * 3 + j % 3 := by omega
    rw [ej, Nw_get _ _ _ _ (by omega) (by omega), Nw_get _ _ _ _ (by omega) (by omega), h _ (by omega)]
  · rw [List.getElem?_eq_none (by rw [Nw_length]; omega), List.getElem?_eq_none (by rw [Nw_length]; omega)]
section
variable {P : Program} {n : Nat} {L : FL} {o : Oper} {W0 : World} {T : Nat → Prop} {H H' : List Res}
theorem Hp.ownNw {e : TypeId} {A : Option Addr} {m c : Nat} {f : Nat → Nd} (hr : ownR e 3 (.slice A m c) m (Nw m f) ∈ H) : ∀ w, Hp W0 T H w → Sl w A (Nw m f) := fun w h => ofOwnN (h.all _ hr)
/-- A store into a word of a group of one's own. -/
theorem Ys.nwf {t : TypeId} {p x : Operand} {g j i off cap m : Nat} {z : Int} {f : Nat → Nd} {nd : Nd} {e : TypeId} (ho : o.op = .store t p x) (hp : evO L p = some (.pointer (some ⟨g, off, none⟩))) (hx : evO L x = some (.int .i64 z)) (ht : (P.info? t).map (·.size) = some 1) (hoff : off = j * 3 + i)
    (hf : Foc H (ownR e 3 (.slice (some ⟨g, 0, none⟩) m cap) m (Nw m f)) H' (ownR e 3 (.slice (some ⟨g, 0, none⟩) m cap) m (Nw m (updG f j nd)))) (hj : j < m) (hi : i < 3) (h1 : fld nd i = z) (h2 : ∀ k, k < 3 → k ≠ i → fld nd k = fld (f j) k) : Ys P o n L (Hp W0 T H) (Hp W0 T H') := by
  subst hoff
  exact Ys.own (seg := [.int .i64 z]) ho hp hx (by simp [Value.cells]) ht (by simp [Value.oneCell']) hf (by rw [Nw_length]; simp; omega) (Nw_set m f j i hj hi z nd h1 h2)
end
attribute [local irreducible] upR nU Nw Vw blV sumC
set_option maxRecDepth 100000 in
set_option maxHeartbeats 2000000 in
theorem k_works (W : World) : Calls Try.prog 9 #[] W fun e w' => e = .returned (.bool true) ∧ Below W.heap.size W w' := by
  have hM : Hp W (fun _ => False) [] W := Hp.start
  refine TC.enter (n := 69) Try.func9 rfl rfl rfl hM ?_
  refine TC.seq ?_
  refine TC.region ?_
  refine' TL.y rfl rfl rfl ?hy1 ?_
  case hy1 => exact Yl.assign rfl rfl
  refine TL.nil ?_
  refine TE.next ?_
  refine TC.seq ?_
  refine TC.region ?_
  refine' TL.c rfl rfl rfl ?hy2 ?_
  case hy2 => exact Yc.call rfl Try.func21 (by kernel_rfl) rfl rfl (Hp.news (fun w h => k_sample w))
  intro b4
  refine' TL.y rfl rfl rfl ?hy3 ?_
  case hy3 => exact Yl.assign rfl rfl
  refine TL.nil ?_
  refine TE.next ?_
  refine TC.seq ?_
  refine TC.region ?_
  refine' TL.y rfl rfl rfl ?hy4 ?_
  case hy4 => exact Yl.move rfl rfl
  refine' TL.c rfl rfl rfl ?hy5 ?_
  case hy5 => exact Yc.call rfl Try.func11 (by kernel_rfl) rfl rfl (Hp.news (fun w h => k_eff w (slS (h.all _ mem0)) (by decide) (by decide) 0))
  intro v6
  rw [lenS]
  refine TL.wk (fun w h => h.vwc effS) ?_
  refine TL.fact (fun w h => h.ownSl mem0) ?_
  rintro ⟨A6, c6, rfl⟩
  refine TL.fact (fun w h => h.ownSome' mem0 (by decide)) ?_
  rintro ⟨g6, rfl⟩
  refine' TL.y rfl rfl rfl ?hy6 ?_
  case hy6 => exact Yl.assign rfl rfl
  refine TL.nil ?_
  refine TE.next ?_
  refine TC.seq ?_
  refine TC.region ?_
  refine' TL.y rfl rfl rfl ?hy7 ?_
  case hy7 => exact Yl.move rfl rfl
  refine' TL.y rfl rfl rfl ?hy8 ?_
  case hy8 => exact Yl.move rfl rfl
  refine' TL.c rfl rfl rfl ?hy9 ?_
  case hy9 => exact Yc.call rfl Try.func18 (by kernel_rfl) rfl rfl (Hp.news (fun w h => k_over w (slS (h.all _ mem1)) (by decide) (h.ownVw mem0) (by decide) bdS 0))
  intro v9
  rw [lenSO]
  refine TL.fact (fun w h => h.ownSl mem0) ?_
  rintro ⟨A9, c9, rfl⟩
  refine TL.fact (fun w h => h.ownSome' mem0 (by decide)) ?_
  rintro ⟨g9, rfl⟩
  refine' TL.y rfl rfl rfl ?hy10 ?_
  case hy10 => exact Yl.assign rfl rfl
  refine TL.nil ?_
  refine TE.next ?_
  refine TC.seq ?_
  refine TC.region ?_
  refine' TL.y rfl rfl rfl ?hy11 ?_
  case hy11 => exact Yl.move rfl rfl
  refine' TL.y rfl rfl rfl ?hy12 ?_
  case hy12 => exact Yl.len rfl rfl Try.underlying25
  refine' TL.y rfl rfl rfl ?hy13 ?_
  case hy13 => exact Yl.bin rfl rfl rfl (Bin.eql _ _ _ _)
  refine' TL.y rfl rfl rfl ?hy14 ?_
  case hy14 => exact Yl.move rfl rfl
  refine TL.re (i := 13) (v' := .bool true) rfl (congrArg Value.bool (by decide)) ?_
  refine' TL.y rfl rfl rfl ?hy15 ?_
  case hy15 => exact Yl.move rfl rfl
  refine' TL.y rfl rfl rfl ?hy16 ?_
  case hy16 => first | exact Yl.ixn rfl rfl rfl Try.underlying25 (by kernel_rfl) (by omega) | exact Yl.ixz rfl rfl rfl Try.underlying25 (by kernel_rfl) (by omega) (by omega) | exact Yl.ixcn rfl rfl rfl Try.underlying25 (by kernel_rfl) (by omega) | exact Yl.ixcz rfl rfl rfl Try.underlying25 (by kernel_rfl) (by omega) (by omega)
  refine' TL.y rfl rfl rfl ?hy17 ?_
  case hy17 => first | exact Yl.load rfl rfl (by kernel_rfl) (Hp.vw mem0 (by decide)) | exact Yl.load rfl rfl (by kernel_rfl) (Hp.vw mem1 (by decide)) | exact Yl.load rfl rfl (by kernel_rfl) (Hp.cell mem0 rfl) | exact Yl.load rfl rfl (by kernel_rfl) (Hp.cell mem1 rfl) | exact Yl.load rfl rfl (by kernel_rfl) (Hp.cell mem2 rfl) | exact Yl.load rfl rfl (by kernel_rfl) (Hp.cell mem3 rfl) | exact Yl.load rfl rfl (by kernel_rfl) (Hp.cell mem4 rfl) | exact Yl.load rfl rfl (by kernel_rfl) (Hp.rowAt mem0 (by omega) rfl) | exact Yl.load rfl rfl (by kernel_rfl) (Hp.rowAt mem1 (by omega) rfl) | exact Yl.load rfl rfl (by kernel_rfl) (Hp.rowAt mem2 (by omega) rfl) | exact Yl.load rfl rfl (by kernel_rfl) (Hp.rowAt mem3 (by omega) rfl) | exact Yl.load rfl rfl (by kernel_rfl) (Hp.rowAt mem4 (by omega) rfl)
  refine' TL.y rfl rfl rfl ?hy18 ?_
  case hy18 => exact Yl.bin rfl rfl rfl (Bin.eql _ _ _ _)
  refine' TL.y rfl rfl rfl ?hy19 ?_
  case hy19 => exact Yl.pickT rfl rfl rfl
  refine' TL.y rfl rfl rfl ?hy20 ?_
  case hy20 => exact Yl.move rfl rfl
  refine TL.re (i := 19) (v' := .bool true) rfl (congrArg Value.bool (by decide)) ?_
  refine' TL.y rfl rfl rfl ?hy21 ?_
  case hy21 => exact Yl.move rfl rfl
  refine' TL.y rfl rfl rfl ?hy22 ?_
  case hy22 => first | exact Yl.ixn rfl rfl rfl Try.underlying25 (by kernel_rfl) (by omega) | exact Yl.ixz rfl rfl rfl Try.underlying25 (by kernel_rfl) (by omega) (by omega) | exact Yl.ixcn rfl rfl rfl Try.underlying25 (by kernel_rfl) (by omega) | exact Yl.ixcz rfl rfl rfl Try.underlying25 (by kernel_rfl) (by omega) (by omega)
  refine' TL.y rfl rfl rfl ?hy23 ?_
  case hy23 => first | exact Yl.load rfl rfl (by kernel_rfl) (Hp.vw mem0 (by decide)) | exact Yl.load rfl rfl (by kernel_rfl) (Hp.vw mem1 (by decide)) | exact Yl.load rfl rfl (by kernel_rfl) (Hp.cell mem0 rfl) | exact Yl.load rfl rfl (by kernel_rfl) (Hp.cell mem1 rfl) | exact Yl.load rfl rfl (by kernel_rfl) (Hp.cell mem2 rfl) | exact Yl.load rfl rfl (by kernel_rfl) (Hp.cell mem3 rfl) | exact Yl.load rfl rfl (by kernel_rfl) (Hp.cell mem4 rfl) | exact Yl.load rfl rfl (by kernel_rfl) (Hp.rowAt mem0 (by omega) rfl) | exact Yl.load rfl rfl (by kernel_rfl) (Hp.rowAt mem1 (by omega) rfl) | exact Yl.load rfl rfl (by kernel_rfl) (Hp.rowAt mem2 (by omega) rfl) | exact Yl.load rfl rfl (by kernel_rfl) (Hp.rowAt mem3 (by omega) rfl) | exact Yl.load rfl rfl (by kernel_rfl) (Hp.rowAt mem4 (by omega) rfl)
  refine' TL.y rfl rfl rfl ?hy24 ?_
  case hy24 => exact Yl.bin rfl rfl rfl (Bin.eql _ _ _ _)
  refine' TL.y rfl rfl rfl ?hy25 ?_
  case hy25 => exact Yl.pickT rfl rfl rfl
  refine' TL.y rfl rfl rfl ?hy26 ?_
  case hy26 => exact Yl.move rfl rfl
  refine TL.re (i := 25) (v' := .bool true) rfl (congrArg Value.bool (by decide)) ?_
  refine' TL.y rfl rfl rfl ?hy27 ?_
  case hy27 => exact Yl.move rfl rfl
  refine' TL.y rfl rfl rfl ?hy28 ?_
  case hy28 => first | exact Yl.ixn rfl rfl rfl Try.underlying25 (by kernel_rfl) (by omega) | exact Yl.ixz rfl rfl rfl Try.underlying25 (by kernel_rfl) (by omega) (by omega) | exact Yl.ixcn rfl rfl rfl Try.underlying25 (by kernel_rfl) (by omega) | exact Yl.ixcz rfl rfl rfl Try.underlying25 (by kernel_rfl) (by omega) (by omega)
  refine' TL.y rfl rfl rfl ?hy29 ?_
  case hy29 => first | exact Yl.load rfl rfl (by kernel_rfl) (Hp.vw mem0 (by decide)) | exact Yl.load rfl rfl (by kernel_rfl) (Hp.vw mem1 (by decide)) | exact Yl.load rfl rfl (by kernel_rfl) (Hp.cell mem0 rfl) | exact Yl.load rfl rfl (by kernel_rfl) (Hp.cell mem1 rfl) | exact Yl.load rfl rfl (by kernel_rfl) (Hp.cell mem2 rfl) | exact Yl.load rfl rfl (by kernel_rfl) (Hp.cell mem3 rfl) | exact Yl.load rfl rfl (by kernel_rfl) (Hp.cell mem4 rfl) | exact Yl.load rfl rfl (by kernel_rfl) (Hp.rowAt mem0 (by omega) rfl) | exact Yl.load rfl rfl (by kernel_rfl) (Hp.rowAt mem1 (by omega) rfl) | exact Yl.load rfl rfl (by kernel_rfl) (Hp.rowAt mem2 (by omega) rfl) | exact Yl.load rfl rfl (by kernel_rfl) (Hp.rowAt mem3 (by omega) rfl) | exact Yl.load rfl rfl (by kernel_rfl) (Hp.rowAt mem4 (by omega) rfl)
  refine' TL.y rfl rfl rfl ?hy30 ?_
  case hy30 => exact Yl.bin rfl rfl rfl (Bin.eql _ _ _ _)
  refine' TL.y rfl rfl rfl ?hy31 ?_
  case hy31 => exact Yl.pickT rfl rfl rfl
  refine' TL.y rfl rfl rfl ?hy32 ?_
  case hy32 => exact Yl.move rfl rfl
  refine TL.re (i := 31) (v' := .bool true) rfl (congrArg Value.bool (by decide)) ?_
  refine' TL.y rfl rfl rfl ?hy33 ?_
  case hy33 => exact Yl.move rfl rfl
  refine' TL.y rfl rfl rfl ?hy34 ?_
  case hy34 => first | exact Yl.ixn rfl rfl rfl Try.underlying25 (by kernel_rfl) (by omega) | exact Yl.ixz rfl rfl rfl Try.underlying25 (by kernel_rfl) (by omega) (by omega) | exact Yl.ixcn rfl rfl rfl Try.underlying25 (by kernel_rfl) (by omega) | exact Yl.ixcz rfl rfl rfl Try.underlying25 (by kernel_rfl) (by omega) (by omega)
  refine' TL.y rfl rfl rfl ?hy35 ?_
  case hy35 => first | exact Yl.load rfl rfl (by kernel_rfl) (Hp.vw mem0 (by decide)) | exact Yl.load rfl rfl (by kernel_rfl) (Hp.vw mem1 (by decide)) | exact Yl.load rfl rfl (by kernel_rfl) (Hp.cell mem0 rfl) | exact Yl.load rfl rfl (by kernel_rfl) (Hp.cell mem1 rfl) | exact Yl.load rfl rfl (by kernel_rfl) (Hp.cell mem2 rfl) | exact Yl.load rfl rfl (by kernel_rfl) (Hp.cell mem3 rfl) | exact Yl.load rfl rfl (by kernel_rfl) (Hp.cell mem4 rfl) | exact Yl.load rfl rfl (by kernel_rfl) (Hp.rowAt mem0 (by omega) rfl) | exact Yl.load rfl rfl (by kernel_rfl) (Hp.rowAt mem1 (by omega) rfl) | exact Yl.load rfl rfl (by kernel_rfl) (Hp.rowAt mem2 (by omega) rfl) | exact Yl.load rfl rfl (by kernel_rfl) (Hp.rowAt mem3 (by omega) rfl) | exact Yl.load rfl rfl (by kernel_rfl) (Hp.rowAt mem4 (by omega) rfl)
  refine' TL.y rfl rfl rfl ?hy36 ?_
  case hy36 => exact Yl.bin rfl rfl rfl (Bin.eql _ _ _ _)
  refine' TL.y rfl rfl rfl ?hy37 ?_
  case hy37 => exact Yl.pickT rfl rfl rfl
  refine' TL.y rfl rfl rfl ?hy38 ?_
  case hy38 => exact Yl.move rfl rfl
  refine TL.re (i := 37) (v' := .bool true) rfl (congrArg Value.bool (by decide)) ?_
  refine' TL.y rfl rfl rfl ?hy39 ?_
  case hy39 => exact Yl.move rfl rfl
  refine' TL.y rfl rfl rfl ?hy40 ?_
  case hy40 => exact Yl.move rfl rfl
  refine' TL.c rfl rfl rfl ?hy41 ?_
  case hy41 => exact Yc.call rfl Try.func17 (by kernel_rfl) rfl rfl (Hp.calls (fun w h => k_held w (slS (h.all _ mem2)) (by decide) (h.ownVw mem1) (by decide) 0 2))
  intro _
  refine TL.re (i := 40) (v' := .bool true) rfl (congrArg Value.bool hs1) ?_
  refine' TL.y rfl rfl rfl ?hy42 ?_
  case hy42 => exact Yl.pickT rfl rfl rfl
  refine' TL.y rfl rfl rfl ?hy43 ?_
  case hy43 => exact Yl.move rfl rfl
  refine' TL.y rfl rfl rfl ?hy44 ?_
  case hy44 => exact Yl.move rfl rfl
  refine' TL.y rfl rfl rfl ?hy45 ?_
  case hy45 => exact Yl.move rfl rfl
  refine' TL.c rfl rfl rfl ?hy46 ?_
  case hy46 => exact Yc.call rfl Try.func17 (by kernel_rfl) rfl rfl (Hp.calls (fun w h => k_held w (slS (h.all _ mem2)) (by decide) (h.ownVw mem1) (by decide) 1 2))
  intro _
  refine TL.re (i := 45) (v' := .bool false) rfl (congrArg Value.bool hs2) ?_
  refine' TL.y rfl rfl rfl ?hy47 ?_
  case hy47 => exact Yl.not rfl rfl
  refine' TL.y rfl rfl rfl ?hy48 ?_
  case hy48 => exact Yl.pickT rfl rfl rfl
  refine' TL.y rfl rfl rfl ?hy49 ?_
  case hy49 => exact Yl.move rfl rfl
  refine' TL.y rfl rfl rfl ?hy50 ?_
  case hy50 => exact Yl.move rfl rfl
  refine' TL.y rfl rfl rfl ?hy51 ?_
  case hy51 => exact Yl.len rfl rfl Try.underlying25
  refine' TL.y rfl rfl rfl ?hy52 ?_
  case hy52 => exact Yl.bin rfl rfl rfl (Bin.eql _ _ _ _)
  refine' TL.y rfl rfl rfl ?hy53 ?_
  case hy53 => exact Yl.pickT rfl rfl rfl
  refine' TL.y rfl rfl rfl ?hy54 ?_
  case hy54 => exact Yl.move rfl rfl
  refine TL.re (i := 53) (v' := .bool true) rfl (congrArg Value.bool (by decide)) ?_
  refine' TL.y rfl rfl rfl ?hy55 ?_
  case hy55 => exact Yl.move rfl rfl
  refine' TL.y rfl rfl rfl ?hy56 ?_
  case hy56 => first | exact Yl.ixn rfl rfl rfl Try.underlying25 (by kernel_rfl) (by omega) | exact Yl.ixz rfl rfl rfl Try.underlying25 (by kernel_rfl) (by omega) (by omega) | exact Yl.ixcn rfl rfl rfl Try.underlying25 (by kernel_rfl) (by omega) | exact Yl.ixcz rfl rfl rfl Try.underlying25 (by kernel_rfl) (by omega) (by omega)
  refine' TL.y rfl rfl rfl ?hy57 ?_
  case hy57 => first | exact Yl.load rfl rfl (by kernel_rfl) (Hp.vw mem0 (by decide)) | exact Yl.load rfl rfl (by kernel_rfl) (Hp.vw mem1 (by decide)) | exact Yl.load rfl rfl (by kernel_rfl) (Hp.cell mem0 rfl) | exact Yl.load rfl rfl (by kernel_rfl) (Hp.cell mem1 rfl) | exact Yl.load rfl rfl (by kernel_rfl) (Hp.cell mem2 rfl) | exact Yl.load rfl rfl (by kernel_rfl) (Hp.cell mem3 rfl) | exact Yl.load rfl rfl (by kernel_rfl) (Hp.cell mem4 rfl) | exact Yl.load rfl rfl (by kernel_rfl) (Hp.rowAt mem0 (by omega) rfl) | exact Yl.load rfl rfl (by kernel_rfl) (Hp.rowAt mem1 (by omega) rfl) | exact Yl.load rfl rfl (by kernel_rfl) (Hp.rowAt mem2 (by omega) rfl) | exact Yl.load rfl rfl (by kernel_rfl) (Hp.rowAt mem3 (by omega) rfl) | exact Yl.load rfl rfl (by kernel_rfl) (Hp.rowAt mem4 (by omega) rfl)
  refine' TL.y rfl rfl rfl ?hy58 ?_
  case hy58 => exact Yl.bin rfl rfl rfl (Bin.eql _ _ _ _)
  refine' TL.y rfl rfl rfl ?hy59 ?_
  case hy59 => exact Yl.pickT rfl rfl rfl
  refine' TL.y rfl rfl rfl ?hy60 ?_
  case hy60 => exact Yl.move rfl rfl
  refine TL.re (i := 59) (v' := .bool true) rfl (congrArg Value.bool (by rw [show Int.toNat 0 = 0 from rfl, os1]; decide)) ?_
  refine' TL.y rfl rfl rfl ?hy61 ?_
  case hy61 => exact Yl.move rfl rfl
  refine' TL.y rfl rfl rfl ?hy62 ?_
  case hy62 => first | exact Yl.ixn rfl rfl rfl Try.underlying25 (by kernel_rfl) (by omega) | exact Yl.ixz rfl rfl rfl Try.underlying25 (by kernel_rfl) (by omega) (by omega) | exact Yl.ixcn rfl rfl rfl Try.underlying25 (by kernel_rfl) (by omega) | exact Yl.ixcz rfl rfl rfl Try.underlying25 (by kernel_rfl) (by omega) (by omega)
  refine' TL.y rfl rfl rfl ?hy63 ?_
  case hy63 => first | exact Yl.load rfl rfl (by kernel_rfl) (Hp.vw mem0 (by decide)) | exact Yl.load rfl rfl (by kernel_rfl) (Hp.vw mem1 (by decide)) | exact Yl.load rfl rfl (by kernel_rfl) (Hp.cell mem0 rfl) | exact Yl.load rfl rfl (by kernel_rfl) (Hp.cell mem1 rfl) | exact Yl.load rfl rfl (by kernel_rfl) (Hp.cell mem2 rfl) | exact Yl.load rfl rfl (by kernel_rfl) (Hp.cell mem3 rfl) | exact Yl.load rfl rfl (by kernel_rfl) (Hp.cell mem4 rfl) | exact Yl.load rfl rfl (by kernel_rfl) (Hp.rowAt mem0 (by omega) rfl) | exact Yl.load rfl rfl (by kernel_rfl) (Hp.rowAt mem1 (by omega) rfl) | exact Yl.load rfl rfl (by kernel_rfl) (Hp.rowAt mem2 (by omega) rfl) | exact Yl.load rfl rfl (by kernel_rfl) (Hp.rowAt mem3 (by omega) rfl) | exact Yl.load rfl rfl (by kernel_rfl) (Hp.rowAt mem4 (by omega) rfl)
  refine' TL.y rfl rfl rfl ?hy64 ?_
  case hy64 => exact Yl.bin rfl rfl rfl (Bin.eql _ _ _ _)
  refine' TL.y rfl rfl rfl ?hy65 ?_
  case hy65 => exact Yl.pickT rfl rfl rfl
  refine' TL.y rfl rfl rfl ?hy66 ?_
  case hy66 => exact Yl.move rfl rfl
  refine TL.re (i := 65) (v' := .bool true) rfl (congrArg Value.bool (by rw [show Int.toNat 2 = 2 from rfl, os2]; decide)) ?_
  refine' TL.y rfl rfl rfl ?hy67 ?_
  case hy67 => exact Yl.move rfl rfl
  refine' TL.c rfl rfl rfl ?hy68 ?_
  case hy68 => exact Yc.call rfl Try.func14 (by kernel_rfl) rfl rfl (Hp.calls (fun w h => k_valid w (slS (h.all _ mem2)) (by decide)))
  intro _
  refine TL.re (i := 67) (v' := .bool true) rfl (congrArg Value.bool (decide_eq_true vS)) ?_
  refine' TL.y rfl rfl rfl ?hy69 ?_
  case hy69 => exact Yl.pickT rfl rfl rfl
  refine' TL.y rfl rfl rfl ?hy70 ?_
  case hy70 => exact Yl.assign rfl rfl
  refine TL.nil ?_
  refine TE.next ?_
  refine TC.ret ?_
  refine TE.ret1 rfl rfl ?_
  exact fun w h => ⟨rfl, (h.sub (List.nil_sublist _)).below⟩
end Go.Proofs.Ytipdpmmjmlimhaa.Pk
