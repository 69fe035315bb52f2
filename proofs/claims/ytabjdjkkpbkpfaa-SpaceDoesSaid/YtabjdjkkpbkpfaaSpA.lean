/- Regions: who may be, where one is, a part of one. -/
import Derived.Test.YtabjdjkkpbkpfaaHT
import Derived.Test.YtabjdjkkpbkpfaaRgP
import Derived.Test.YtabjdjkkpbkpfaaProg
import Derived.RowKit3
namespace Go.Proofs.Ytabjdjkkpbkpfaa.Pk
open Go Go.RowKit Go.Proofs.Ytabjdjkkpbkpfaa.HL Go.Proofs.Ytabjdjkkpbkpfaa.Ev Go.Proofs.YtabjdjkkpbkpfaaW.PrintWords Go.Proofs.RgP
set_option linter.unusedVariables false
set_option linter.unusedSimpArgs false
def cellsG (x : S25) : List Value := [.int .i64 (x).f0, .int .i64 (x).f1, .int .i64 (x).f2, .int .i64 (x).f3, .int .i64 (x).f4, .bool (x).f5]
def atG (l : List S25) (i : Nat) : S25 := (l[i]?).getD z25
theorem atG_get {l : List S25} {i : Nat} (h : i < l.length) : l[i]? = some (atG l i) := by unfold atG; rw [List.getElem?_eq_getElem h]; rfl
theorem atG_mem {l : List S25} {i : Nat} (h : i < l.length) : atG l i ∈ l := List.mem_of_getElem? (atG_get h)
theorem atG_take {l : List S25} {i : Nat} (h : i < l.length) : l.take (i + 1) = l.take i ++ [atG l i] := by rw [List.take_add_one, atG_get h]; rfl
theorem atG_drop {l : List S25} {i : Nat} (h : i < l.length) : l.drop i = atG l i :: l.drop (i + 1) := by
  rw [List.drop_eq_getElem_cons h]; congr 1; unfold atG; rw [List.getElem?_eq_getElem h]; rfl
def Rw (l : List S25) : List Value := l.flatMap cellsG
theorem Rw_app (a b : List S25) : Rw (a ++ b) = Rw a ++ Rw b := by unfold Rw; rw [List.flatMap_append]
theorem Rw_one (x : S25) : Rw [x] = [.int .i64 (x).f0, .int .i64 (x).f1, .int .i64 (x).f2, .int .i64 (x).f3, .int .i64 (x).f4, .bool (x).f5] := rfl
theorem Rw_length : ∀ l, (Rw l).length = l.length * 6
  | [] => rfl
  | e :: l => by rw [show e :: l = [e] ++ l from rfl, Rw_app, List.length_append, Rw_length l, Rw_one]; simp; omega
def fG (x : S25) : Nat → Value
  | 0 => .int .i64 x.f0
  | 1 => .int .i64 x.f1
  | 2 => .int .i64 x.f2
  | 3 => .int .i64 x.f3
  | 4 => .int .i64 x.f4
  | _ => .bool x.f5
theorem cG_get (x : S25) {j : Nat} (h : j < 6) : (cellsG x)[j]? = some (fG x j) := by
  rcases (by omega : j = 0 ∨ j = 1 ∨ j = 2 ∨ j = 3 ∨ j = 4 ∨ j = 5) with rfl | rfl | rfl | rfl | rfl | rfl <;> rfl
theorem Rw_get : ∀ (l : List S25) (i j : Nat), i < l.length → j < 6 → (Rw l)[i * 6 + j]? = some (fG (atG l i) j)
  | [], i, j, h, _ => by simp at h
  | e :: l, 0, j, h, hj => by
    rw [show e :: l = [e] ++ l from rfl, Rw_app, List.getElem?_append_left (by rw [Rw_one]; simp; omega), Nat.zero_mul, Nat.zero_add]
    exact cG_get e hj
  | e :: l, i + 1, j, h, hj => by
    have hl : (Rw [e]).length = 6 := rfl
    rw [show e :: l = [e] ++ l from rfl, Rw_app, List.getElem?_append_right (by omega), hl, show (i + 1) * 6 + j - 6 = i * 6 + j by omega, Rw_get l i j (by simpa using h) hj]
    rfl
theorem Rw_cell1 {l : List S25} : ∀ x ∈ Rw l, x.oneCell' = true := fun x hx => by
  unfold Rw at hx
  obtain ⟨y, _, h⟩ := List.mem_flatMap.1 hx
  simp [cellsG] at h
  rcases h with rfl | rfl | rfl | rfl | rfl | rfl <;> rfl
theorem validB_iff (x : S25) : validB x = true ↔ (0 ≤ x.f0 ∧ x.f0 < x.f1 ∧ x.f1 ≤ 65536 ∧ ((x.f2 = 1 ∧ x.f3 = 0 ∧ x.f4 = 0) ∨ (x.f2 = 2 ∧ 0 ≤ x.f3 ∧ x.f3 ≤ 1048576 ∧ 0 ≤ x.f4 ∧ x.f4 ≤ 2097152 - (x.f1 - x.f0)))) := by
  rw [good_iff]; exact ⟨fun g => ⟨g.a, g.b, g.c, g.k⟩, fun ⟨a, b, c, k⟩ => ⟨a, b, c, k⟩⟩
/-- The place of the first one. -/
def fidx (P : S25 → Bool) (l : List S25) : Int := if l.findIdx P < l.length then (l.findIdx P : Int) else -1
theorem fidx_at {P : S25 → Bool} {l : List S25} {i : Nat} (hi : i < l.length) (hp : P (atG l i) = true) (hF : ∀ j, j < i → P (atG l j) = false) : l.findIdx P = i := by
  rw [List.findIdx_eq hi]
  refine ⟨?_, fun j hj => ?_⟩
  · have := hp; unfold atG at this; rw [List.getElem?_eq_getElem hi] at this; exact this
  · have := hF j hj; unfold atG at this; rw [List.getElem?_eq_getElem (by omega)] at this; exact this
theorem fidx_none {P : S25 → Bool} {l : List S25} (hF : ∀ j, j < l.length → P (atG l j) = false) : l.findIdx P = l.length := by
  rw [List.findIdx_eq_length]
  intro x hx
  obtain ⟨j, hj⟩ := List.getElem?_of_mem hx
  have hl := (List.getElem?_eq_some_iff.1 hj).1
  have := hF j hl
  unfold atG at this
  rw [hj] at this; exact this
theorem find_idx (P : S25 → Bool) (l : List S25) : l.find? P = if l.findIdx P < l.length then some (atG l (l.findIdx P)) else none := by
  induction l with
  | nil => rfl
  | cons x l ih =>
    rw [List.find?_cons, List.findIdx_cons]
    cases h : P x
    · rw [ih]
      simp only [cond_false, List.length_cons]
      by_cases h2 : l.findIdx P < l.length
      · rw [if_pos h2, if_pos (by omega)]; rfl
      · rw [if_neg h2, if_neg (by omega)]
    · simp [atG]
theorem gOwnN {w : World} {e : TypeId} {s : Nat} {A : Option Addr} {m c : Nat} {xs : List Value} (h : (ownR e s (.slice A m c) m xs).holds w) : Sl w A xs := fun j v hj => by
  rcases h.2 with ⟨h1, h2⟩ | ⟨g, cap, cur, h1, _, hh, _, _, _, htk⟩
  · have := h.1
    rw [h2] at this
    have : xs = [] := List.eq_nil_of_length_eq_zero (by simpa using this)
    rw [this] at hj; simp at hj
  · injection h1 with h1
    subst h1
    refine ⟨_, rfl, ?_⟩
    rw [Addr.at_, Nat.zero_add, blk_cell hh]
    rw [← htk, List.getElem?_take] at hj
    split at hj
    · simpa using hj
    · cases hj
section
variable {P : Program} {n : Nat} {L : FL} {o : Oper} {W0 w : World} {T : Nat → Prop} {H H' : List Res}
theorem Sl.rg {b c i q : Nat} {j : Nat} {l : List S25} (hs : Sl W0 (.some ⟨b, c, none⟩) (Rw l)) (hq : c + i * 6 + j = q) (hi : i < l.length) (hj : j < 6) : ∀ w, Hp W0 (fun _ => False) H w → w.cell? ⟨b, q, none⟩ = .some (fG (atG l i) j) := Sl.cellAt hs (Rw_get l i j hi hj) (fun _ h => h) (by omega)
theorem Sl.rgs {b c i : Nat} {l : List S25} (hs : Sl W0 (.some ⟨b, c, none⟩) (Rw l)) (hi : i < l.length) : ∀ w, Hp W0 (fun _ => False) H w → ∀ j v, [.int .i64 (atG l i).f0, .int .i64 (atG l i).f1, .int .i64 (atG l i).f2, .int .i64 (atG l i).f3, .int .i64 (atG l i).f4, .bool (atG l i).f5][j]? = some v → w.cell? ((⟨b, c + i * 6, none⟩ : Addr).add j) = .some v := fun w h j v hj => by
  have hj2 : j < 6 := by
    rcases Nat.lt_or_ge j 6 with h | h
    · exact h
    · rw [List.getElem?_eq_none (by simpa using h)] at hj; cases hj
  rw [Addr.at_, Sl.rg hs rfl hi hj2 w h]
  exact (cG_get _ hj2).symm.trans hj
/-- A row of regions of one's own. -/
def rowG (v : Value) (l : List S25) : Res := ownR 28 6 v l.length (Rw l)
theorem rowG_app (v : Value) (a b : List S25) : ownR 28 6 v (a.length + b.length) (Rw a ++ Rw b) = rowG v (a ++ b) := by unfold rowG; rw [Rw_app, List.length_append]
theorem rowG_snoc (v : Value) (a : List S25) (x : S25) : ownR 28 6 v (a.length + 1) (Rw a ++ [.int .i64 (x).f0, .int .i64 (x).f1, .int .i64 (x).f2, .int .i64 (x).f3, .int .i64 (x).f4, .bool (x).f5]) = rowG v (a ++ [x]) := rowG_app v a [x]
theorem rowG_nil (h : Hp W0 T H w) : Hp W0 T (rowG (.slice none 0 0) [] :: H) w := h.nil
theorem Hp.rowGsh {v : Value} {l : List S25} (hr : rowG v l ∈ H) : ∀ w, Hp W0 T H w → ∃ A c, v = .slice A l.length c := fun w h => h.ownSl (e := 28) (size := 6) (m := l.length) (xs := Rw l) hr
theorem Hp.rowGsl {A : Option Addr} {c : Nat} {l : List S25} (hr : rowG (.slice A l.length c) l ∈ H) : ∀ w, Hp W0 T H w → Sl w A (Rw l) := fun w h => gOwnN (h.all _ hr)
end
theorem cat1 (a b : Value) : (#[] ++ [a].toArray ++ #[b] : Array Value) = #[a, b] := by simp
theorem cat3 (a b c d : Value) : (#[] ++ [a, b, c].toArray ++ #[d] : Array Value) = #[a, b, c, d] := by simp
attribute [local irreducible] Rw atG
set_option maxRecDepth 100000 in
set_option maxHeartbeats 2000000 in
theorem k_gvalid (W : World) (x : S25) : Calls Try.prog 63 #[.agg #[.int .i64 (x).f0, .int .i64 (x).f1, .int .i64 (x).f2, .int .i64 (x).f3, .int .i64 (x).f4, .bool (x).f5]] W fun e w' => e = .returned (.bool (validB x)) ∧ Below W.heap.size W w' := by
  have hv := validB_iff x
  have hM : Hp W (fun _ => False) [] W := Hp.start
  refine TC.enter (n := 56) Try.func63 rfl rfl rfl hM ?_
  refine TC.seq ?_
  refine TC.region ?_
  refine' TL.mx rfl rfl rfl ?hy1 ?_
  case hy1 => exact Ym.box rfl rfl
  intro b1
  refine' TL.y rfl rfl rfl ?hy2 ?_
  case hy2 => exact Yl.assign rfl rfl
  refine TL.nil ?_
  refine TE.next ?_
  refine TC.seq ?_
  refine TC.seq ?_
  refine TC.region ?_
  refine' TL.y rfl rfl rfl ?hy3 ?_
  case hy3 => first | exact Yl.field0 (k := 0) 0 rfl rfl Try.underlying28 rfl (by kernel_rfl) rfl | exact Yl.field (k := 0) 0 rfl rfl Try.underlying28 rfl (by kernel_rfl) rfl
  refine' TL.y rfl rfl rfl ?hy4 ?_
  case hy4 => exact Yl.load rfl rfl (by kernel_rfl) (by first | exact Hp.cell mem0 rfl | exact Hp.cell mem1 rfl | exact Hp.cell mem2 rfl | exact Hp.cell mem3 rfl | exact Hp.cell mem4 rfl | exact Hp.rowAt mem0 (by omega) rfl | exact Hp.rowAt mem1 (by omega) rfl | exact Hp.rowAt mem2 (by omega) rfl | exact Hp.rowAt mem3 (by omega) rfl | exact Hp.rowAt mem4 (by omega) rfl)
  refine' TL.y rfl rfl rfl ?hy5 ?_
  case hy5 => exact Yl.bin rfl rfl rfl (Bin.lss _ _ _ _)
  refine' TL.y rfl rfl rfl ?hy6 ?_
  case hy6 => exact Yl.move rfl rfl
  refine TL.split (i := 6) rfl (fun hs6 => ?_) (fun hs6 => ?_)
  · skip
    (try simp only [nrm] at hs6)
    refine TL.skip rfl rfl rfl ?_
    refine TL.skip rfl rfl rfl ?_
    refine TL.skip rfl rfl rfl ?_
    refine TL.skip rfl rfl rfl ?_
    refine TL.skip rfl rfl rfl ?_
    refine' TL.y rfl rfl rfl ?hy7 ?_
    case hy7 => exact Yl.pickT rfl rfl rfl
    refine' TL.y rfl rfl rfl ?hy8 ?_
    case hy8 => exact Yl.move rfl rfl
    refine TL.skip rfl rfl rfl ?_
    refine TL.skip rfl rfl rfl ?_
    refine TL.skip rfl rfl rfl ?_
    refine' TL.y rfl rfl rfl ?hy9 ?_
    case hy9 => exact Yl.pickT rfl rfl rfl
    refine TL.nil ?_
    refine TE.next ?_
    refine TC.yes rfl rfl ?_
    refine TC.seq ?_
    refine TC.region ?_
    refine' TL.y rfl rfl rfl ?hy10 ?_
    case hy10 => exact Yl.assign rfl rfl
    refine TL.nil ?_
    refine TE.next ?_
    refine TC.ret ?_
    refine TE.thenRet ?_
    refine TE.ret1 rfl rfl ?_
    have hb : validB x = false := by cases e : validB x; rfl; have := hv.1 e; omega
    exact fun w h => ⟨by rw [hb], h.below⟩
  · skip
    (try simp only [nrm] at hs6)
    refine' TL.y rfl rfl rfl ?hy11 ?_
    case hy11 => first | exact Yl.field0 (k := 0) 1 rfl rfl Try.underlying28 rfl (by kernel_rfl) rfl | exact Yl.field (k := 0) 1 rfl rfl Try.underlying28 rfl (by kernel_rfl) rfl
    refine' TL.y rfl rfl rfl ?hy12 ?_
    case hy12 => exact Yl.load rfl rfl (by kernel_rfl) (by first | exact Hp.cell mem0 rfl | exact Hp.cell mem1 rfl | exact Hp.cell mem2 rfl | exact Hp.cell mem3 rfl | exact Hp.cell mem4 rfl | exact Hp.rowAt mem0 (by omega) rfl | exact Hp.rowAt mem1 (by omega) rfl | exact Hp.rowAt mem2 (by omega) rfl | exact Hp.rowAt mem3 (by omega) rfl | exact Hp.rowAt mem4 (by omega) rfl)
    refine' TL.y rfl rfl rfl ?hy13 ?_
    case hy13 => first | exact Yl.field0 (k := 0) 0 rfl rfl Try.underlying28 rfl (by kernel_rfl) rfl | exact Yl.field (k := 0) 0 rfl rfl Try.underlying28 rfl (by kernel_rfl) rfl
    refine' TL.y rfl rfl rfl ?hy14 ?_
    case hy14 => exact Yl.load rfl rfl (by kernel_rfl) (by first | exact Hp.cell mem0 rfl | exact Hp.cell mem1 rfl | exact Hp.cell mem2 rfl | exact Hp.cell mem3 rfl | exact Hp.cell mem4 rfl | exact Hp.rowAt mem0 (by omega) rfl | exact Hp.rowAt mem1 (by omega) rfl | exact Hp.rowAt mem2 (by omega) rfl | exact Hp.rowAt mem3 (by omega) rfl | exact Hp.rowAt mem4 (by omega) rfl)
    refine' TL.y rfl rfl rfl ?hy15 ?_
    case hy15 => exact Yl.bin rfl rfl rfl (Bin.leq _ _ _ _)
    refine' TL.y rfl rfl rfl ?hy16 ?_
    case hy16 => exact Yl.pickF rfl rfl rfl
    refine' TL.y rfl rfl rfl ?hy17 ?_
    case hy17 => exact Yl.move rfl rfl
    refine TL.split (i := 13) rfl (fun hs13 => ?_) (fun hs13 => ?_)
    · skip
      (try simp only [nrm] at hs13)
      refine TL.skip rfl rfl rfl ?_
      refine TL.skip rfl rfl rfl ?_
      refine TL.skip rfl rfl rfl ?_
      refine' TL.y rfl rfl rfl ?hy18 ?_
      case hy18 => exact Yl.pickT rfl rfl rfl
      refine TL.nil ?_
      refine TE.next ?_
      refine TC.yes rfl rfl ?_
      refine TC.seq ?_
      refine TC.region ?_
      refine' TL.y rfl rfl rfl ?hy19 ?_
      case hy19 => exact Yl.assign rfl rfl
      refine TL.nil ?_
      refine TE.next ?_
      refine TC.ret ?_
      refine TE.thenRet ?_
      refine TE.ret1 rfl rfl ?_
      have hb : validB x = false := by cases e : validB x; rfl; have := hv.1 e; omega
      exact fun w h => ⟨by rw [hb], h.below⟩
    · skip
      (try simp only [nrm] at hs13)
      refine' TL.y rfl rfl rfl ?hy20 ?_
      case hy20 => first | exact Yl.field0 (k := 0) 1 rfl rfl Try.underlying28 rfl (by kernel_rfl) rfl | exact Yl.field (k := 0) 1 rfl rfl Try.underlying28 rfl (by kernel_rfl) rfl
      refine' TL.y rfl rfl rfl ?hy21 ?_
      case hy21 => exact Yl.load rfl rfl (by kernel_rfl) (by first | exact Hp.cell mem0 rfl | exact Hp.cell mem1 rfl | exact Hp.cell mem2 rfl | exact Hp.cell mem3 rfl | exact Hp.cell mem4 rfl | exact Hp.rowAt mem0 (by omega) rfl | exact Hp.rowAt mem1 (by omega) rfl | exact Hp.rowAt mem2 (by omega) rfl | exact Hp.rowAt mem3 (by omega) rfl | exact Hp.rowAt mem4 (by omega) rfl)
      refine' TL.y rfl rfl rfl ?hy22 ?_
      case hy22 => exact Yl.bin rfl rfl rfl (Bin.gtr _ _ _ _)
      refine' TL.y rfl rfl rfl ?hy23 ?_
      case hy23 => exact Yl.pickF rfl rfl rfl
      refine TL.nil ?_
      refine TE.next ?_
      refine TC.cond rfl (fun hs17 => ?_) (fun hs17 => ?_)
      · skip
        (try simp only [nrm] at hs17)
        refine TC.seq ?_
        refine TC.region ?_
        refine' TL.y rfl rfl rfl ?hy24 ?_
        case hy24 => exact Yl.assign rfl rfl
        refine TL.nil ?_
        refine TE.next ?_
        refine TC.ret ?_
        refine TE.thenRet ?_
        refine TE.ret1 rfl rfl ?_
        have hb : validB x = false := by cases e : validB x; rfl; have := hv.1 e; omega
        exact fun w h => ⟨by rw [hb], h.below⟩
      · skip
        (try simp only [nrm] at hs17)
        refine TC.skip ?_
        refine TE.next ?_
        refine TC.seq ?_
        refine TC.seq ?_
        refine TC.region ?_
        refine' TL.y rfl rfl rfl ?hy25 ?_
        case hy25 => first | exact Yl.field0 (k := 0) 2 rfl rfl Try.underlying28 rfl (by kernel_rfl) rfl | exact Yl.field (k := 0) 2 rfl rfl Try.underlying28 rfl (by kernel_rfl) rfl
        refine' TL.y rfl rfl rfl ?hy26 ?_
        case hy26 => exact Yl.load rfl rfl (by kernel_rfl) (by first | exact Hp.cell mem0 rfl | exact Hp.cell mem1 rfl | exact Hp.cell mem2 rfl | exact Hp.cell mem3 rfl | exact Hp.cell mem4 rfl | exact Hp.rowAt mem0 (by omega) rfl | exact Hp.rowAt mem1 (by omega) rfl | exact Hp.rowAt mem2 (by omega) rfl | exact Hp.rowAt mem3 (by omega) rfl | exact Hp.rowAt mem4 (by omega) rfl)
        refine TL.nil ?_
        refine TE.next ?_
        refine TC.block ?_
        refine TC.seq ?_
        refine TC.region ?_
        refine' TL.y rfl rfl rfl ?hy27 ?_
        case hy27 => exact Yl.bin rfl rfl rfl (Bin.eql _ _ _ _)
        refine' TL.y rfl rfl rfl ?hy28 ?_
        case hy28 => exact Yl.assign rfl rfl
        refine TL.nil ?_
        refine TE.next ?_
        refine TC.cond rfl (fun hs20 => ?_) (fun hs20 => ?_)
        · skip
          (try simp only [nrm] at hs20)
          refine TC.seq ?_
          refine TC.region ?_
          refine' TL.y rfl rfl rfl ?hy29 ?_
          case hy29 => first | exact Yl.field0 (k := 0) 3 rfl rfl Try.underlying28 rfl (by kernel_rfl) rfl | exact Yl.field (k := 0) 3 rfl rfl Try.underlying28 rfl (by kernel_rfl) rfl
          refine' TL.y rfl rfl rfl ?hy30 ?_
          case hy30 => exact Yl.load rfl rfl (by kernel_rfl) (by first | exact Hp.cell mem0 rfl | exact Hp.cell mem1 rfl | exact Hp.cell mem2 rfl | exact Hp.cell mem3 rfl | exact Hp.cell mem4 rfl | exact Hp.rowAt mem0 (by omega) rfl | exact Hp.rowAt mem1 (by omega) rfl | exact Hp.rowAt mem2 (by omega) rfl | exact Hp.rowAt mem3 (by omega) rfl | exact Hp.rowAt mem4 (by omega) rfl)
          refine' TL.y rfl rfl rfl ?hy31 ?_
          case hy31 => exact Yl.bin rfl rfl rfl (Bin.eql _ _ _ _)
          refine' TL.y rfl rfl rfl ?hy32 ?_
          case hy32 => exact Yl.move rfl rfl
          refine TL.split (i := 25) rfl (fun hs25 => ?_) (fun hs25 => ?_)
          · skip
            (try simp only [nrm] at hs25)
            refine' TL.y rfl rfl rfl ?hy33 ?_
            case hy33 => first | exact Yl.field0 (k := 0) 4 rfl rfl Try.underlying28 rfl (by kernel_rfl) rfl | exact Yl.field (k := 0) 4 rfl rfl Try.underlying28 rfl (by kernel_rfl) rfl
            refine' TL.y rfl rfl rfl ?hy34 ?_
            case hy34 => exact Yl.load rfl rfl (by kernel_rfl) (by first | exact Hp.cell mem0 rfl | exact Hp.cell mem1 rfl | exact Hp.cell mem2 rfl | exact Hp.cell mem3 rfl | exact Hp.cell mem4 rfl | exact Hp.rowAt mem0 (by omega) rfl | exact Hp.rowAt mem1 (by omega) rfl | exact Hp.rowAt mem2 (by omega) rfl | exact Hp.rowAt mem3 (by omega) rfl | exact Hp.rowAt mem4 (by omega) rfl)
            refine' TL.y rfl rfl rfl ?hy35 ?_
            case hy35 => exact Yl.bin rfl rfl rfl (Bin.eql _ _ _ _)
            refine' TL.y rfl rfl rfl ?hy36 ?_
            case hy36 => exact Yl.pickT rfl rfl rfl
            refine' TL.y rfl rfl rfl ?hy37 ?_
            case hy37 => exact Yl.assign rfl rfl
            refine TL.nil ?_
            refine TE.next ?_
            refine TC.ret ?_
            refine TE.inRet ?_
            refine TE.thenRet ?_
            refine TE.ret1 rfl rfl ?_
            have hb : validB x = (x.f4 == 0) := by rw [Bool.eq_iff_iff, hv, beq_iff_eq]; omega
            exact fun w h => ⟨by rw [hb], h.below⟩
          · skip
            (try simp only [nrm] at hs25)
            refine TL.skip rfl rfl rfl ?_
            refine TL.skip rfl rfl rfl ?_
            refine TL.skip rfl rfl rfl ?_
            refine' TL.y rfl rfl rfl ?hy38 ?_
            case hy38 => exact Yl.pickF rfl rfl rfl
            refine' TL.y rfl rfl rfl ?hy39 ?_
            case hy39 => exact Yl.assign rfl rfl
            refine TL.nil ?_
            refine TE.next ?_
            refine TC.ret ?_
            refine TE.inRet ?_
            refine TE.thenRet ?_
            refine TE.ret1 rfl rfl ?_
            have hb : validB x = false := by cases e : validB x; rfl; have := hv.1 e; omega
            exact fun w h => ⟨by rw [hb], h.below⟩
        · skip
          (try simp only [nrm] at hs20)
          refine TC.seq ?_
          refine TC.region ?_
          refine' TL.y rfl rfl rfl ?hy40 ?_
          case hy40 => exact Yl.bin rfl rfl rfl (Bin.eql _ _ _ _)
          refine' TL.y rfl rfl rfl ?hy41 ?_
          case hy41 => exact Yl.assign rfl rfl
          refine TL.nil ?_
          refine TE.next ?_
          refine TC.cond rfl (fun hs30 => ?_) (fun hs30 => ?_)
          · skip
            (try simp only [nrm] at hs30)
            refine TC.seq ?_
            refine TC.region ?_
            refine' TL.y rfl rfl rfl ?hy42 ?_
            case hy42 => first | exact Yl.field0 (k := 0) 3 rfl rfl Try.underlying28 rfl (by kernel_rfl) rfl | exact Yl.field (k := 0) 3 rfl rfl Try.underlying28 rfl (by kernel_rfl) rfl
            refine' TL.y rfl rfl rfl ?hy43 ?_
            case hy43 => exact Yl.load rfl rfl (by kernel_rfl) (by first | exact Hp.cell mem0 rfl | exact Hp.cell mem1 rfl | exact Hp.cell mem2 rfl | exact Hp.cell mem3 rfl | exact Hp.cell mem4 rfl | exact Hp.rowAt mem0 (by omega) rfl | exact Hp.rowAt mem1 (by omega) rfl | exact Hp.rowAt mem2 (by omega) rfl | exact Hp.rowAt mem3 (by omega) rfl | exact Hp.rowAt mem4 (by omega) rfl)
            refine' TL.y rfl rfl rfl ?hy44 ?_
            case hy44 => exact Yl.bin rfl rfl rfl (Bin.leq _ _ _ _)
            refine' TL.y rfl rfl rfl ?hy45 ?_
            case hy45 => exact Yl.move rfl rfl
            refine TL.split (i := 35) rfl (fun hs35 => ?_) (fun hs35 => ?_)
            · skip
              (try simp only [nrm] at hs35)
              refine' TL.y rfl rfl rfl ?hy46 ?_
              case hy46 => first | exact Yl.field0 (k := 0) 3 rfl rfl Try.underlying28 rfl (by kernel_rfl) rfl | exact Yl.field (k := 0) 3 rfl rfl Try.underlying28 rfl (by kernel_rfl) rfl
              refine' TL.y rfl rfl rfl ?hy47 ?_
              case hy47 => exact Yl.load rfl rfl (by kernel_rfl) (by first | exact Hp.cell mem0 rfl | exact Hp.cell mem1 rfl | exact Hp.cell mem2 rfl | exact Hp.cell mem3 rfl | exact Hp.cell mem4 rfl | exact Hp.rowAt mem0 (by omega) rfl | exact Hp.rowAt mem1 (by omega) rfl | exact Hp.rowAt mem2 (by omega) rfl | exact Hp.rowAt mem3 (by omega) rfl | exact Hp.rowAt mem4 (by omega) rfl)
              refine' TL.y rfl rfl rfl ?hy48 ?_
              case hy48 => exact Yl.bin rfl rfl rfl (Bin.leq _ _ _ _)
              refine' TL.y rfl rfl rfl ?hy49 ?_
              case hy49 => exact Yl.pickT rfl rfl rfl
              refine' TL.y rfl rfl rfl ?hy50 ?_
              case hy50 => exact Yl.move rfl rfl
              refine TL.split (i := 40) rfl (fun hs40 => ?_) (fun hs40 => ?_)
              · skip
                (try simp only [nrm] at hs40)
                refine' TL.y rfl rfl rfl ?hy51 ?_
                case hy51 => first | exact Yl.field0 (k := 0) 4 rfl rfl Try.underlying28 rfl (by kernel_rfl) rfl | exact Yl.field (k := 0) 4 rfl rfl Try.underlying28 rfl (by kernel_rfl) rfl
                refine' TL.y rfl rfl rfl ?hy52 ?_
                case hy52 => exact Yl.load rfl rfl (by kernel_rfl) (by first | exact Hp.cell mem0 rfl | exact Hp.cell mem1 rfl | exact Hp.cell mem2 rfl | exact Hp.cell mem3 rfl | exact Hp.cell mem4 rfl | exact Hp.rowAt mem0 (by omega) rfl | exact Hp.rowAt mem1 (by omega) rfl | exact Hp.rowAt mem2 (by omega) rfl | exact Hp.rowAt mem3 (by omega) rfl | exact Hp.rowAt mem4 (by omega) rfl)
                refine' TL.y rfl rfl rfl ?hy53 ?_
                case hy53 => exact Yl.bin rfl rfl rfl (Bin.leq _ _ _ _)
                refine' TL.y rfl rfl rfl ?hy54 ?_
                case hy54 => exact Yl.pickT rfl rfl rfl
                refine' TL.y rfl rfl rfl ?hy55 ?_
                case hy55 => exact Yl.move rfl rfl
                refine TL.split (i := 45) rfl (fun hs45 => ?_) (fun hs45 => ?_)
                · skip
                  (try simp only [nrm] at hs45)
                  refine' TL.y rfl rfl rfl ?hy56 ?_
                  case hy56 => first | exact Yl.field0 (k := 0) 4 rfl rfl Try.underlying28 rfl (by kernel_rfl) rfl | exact Yl.field (k := 0) 4 rfl rfl Try.underlying28 rfl (by kernel_rfl) rfl
                  refine' TL.y rfl rfl rfl ?hy57 ?_
                  case hy57 => exact Yl.load rfl rfl (by kernel_rfl) (by first | exact Hp.cell mem0 rfl | exact Hp.cell mem1 rfl | exact Hp.cell mem2 rfl | exact Hp.cell mem3 rfl | exact Hp.cell mem4 rfl | exact Hp.rowAt mem0 (by omega) rfl | exact Hp.rowAt mem1 (by omega) rfl | exact Hp.rowAt mem2 (by omega) rfl | exact Hp.rowAt mem3 (by omega) rfl | exact Hp.rowAt mem4 (by omega) rfl)
                  refine' TL.y rfl rfl rfl ?hy58 ?_
                  case hy58 => first | exact Yl.field0 (k := 0) 1 rfl rfl Try.underlying28 rfl (by kernel_rfl) rfl | exact Yl.field (k := 0) 1 rfl rfl Try.underlying28 rfl (by kernel_rfl) rfl
                  refine' TL.y rfl rfl rfl ?hy59 ?_
                  case hy59 => exact Yl.load rfl rfl (by kernel_rfl) (by first | exact Hp.cell mem0 rfl | exact Hp.cell mem1 rfl | exact Hp.cell mem2 rfl | exact Hp.cell mem3 rfl | exact Hp.cell mem4 rfl | exact Hp.rowAt mem0 (by omega) rfl | exact Hp.rowAt mem1 (by omega) rfl | exact Hp.rowAt mem2 (by omega) rfl | exact Hp.rowAt mem3 (by omega) rfl | exact Hp.rowAt mem4 (by omega) rfl)
                  refine' TL.y rfl rfl rfl ?hy60 ?_
                  case hy60 => first | exact Yl.field0 (k := 0) 0 rfl rfl Try.underlying28 rfl (by kernel_rfl) rfl | exact Yl.field (k := 0) 0 rfl rfl Try.underlying28 rfl (by kernel_rfl) rfl
                  refine' TL.y rfl rfl rfl ?hy61 ?_
                  case hy61 => exact Yl.load rfl rfl (by kernel_rfl) (by first | exact Hp.cell mem0 rfl | exact Hp.cell mem1 rfl | exact Hp.cell mem2 rfl | exact Hp.cell mem3 rfl | exact Hp.cell mem4 rfl | exact Hp.rowAt mem0 (by omega) rfl | exact Hp.rowAt mem1 (by omega) rfl | exact Hp.rowAt mem2 (by omega) rfl | exact Hp.rowAt mem3 (by omega) rfl | exact Hp.rowAt mem4 (by omega) rfl)
                  refine' TL.y rfl rfl rfl ?hy62 ?_
                  case hy62 => first | (refine Yl.val (Yl.bin rfl rfl rfl (Bin.sub _ _ _ _)) (congrArg (Value.int .i64) (i64in ?_ ?_)) <;> omega) | exact Yl.bin rfl rfl rfl (Bin.sub _ _ _ _)
                  refine' TL.y rfl rfl rfl ?hy63 ?_
                  case hy63 => first | (refine Yl.val (Yl.bin rfl rfl rfl (Bin.sub _ _ _ _)) (congrArg (Value.int .i64) (i64in ?_ ?_)) <;> omega) | exact Yl.bin rfl rfl rfl (Bin.sub _ _ _ _)
                  refine' TL.y rfl rfl rfl ?hy64 ?_
                  case hy64 => exact Yl.bin rfl rfl rfl (Bin.leq _ _ _ _)
                  refine' TL.y rfl rfl rfl ?hy65 ?_
                  case hy65 => exact Yl.pickT rfl rfl rfl
                  refine' TL.y rfl rfl rfl ?hy66 ?_
                  case hy66 => exact Yl.assign rfl rfl
                  refine TL.nil ?_
                  refine TE.next ?_
                  refine TC.ret ?_
                  refine TE.inRet ?_
                  refine TE.thenRet ?_
                  refine TE.ret1 rfl rfl ?_
                  have hb : validB x = decide (x.f4 ≤ 2097152 - (x.f1 - x.f0)) := by rw [Bool.eq_iff_iff, hv, decide_eq_true_iff]; omega
                  exact fun w h => ⟨by rw [hb], h.below⟩
                · skip
                  (try simp only [nrm] at hs45)
                  refine TL.skip rfl rfl rfl ?_
                  refine TL.skip rfl rfl rfl ?_
                  refine TL.skip rfl rfl rfl ?_
                  refine TL.skip rfl rfl rfl ?_
                  refine TL.skip rfl rfl rfl ?_
                  refine TL.skip rfl rfl rfl ?_
                  refine TL.skip rfl rfl rfl ?_
                  refine TL.skip rfl rfl rfl ?_
                  refine TL.skip rfl rfl rfl ?_
                  refine' TL.y rfl rfl rfl ?hy67 ?_
                  case hy67 => exact Yl.pickF rfl rfl rfl
                  refine' TL.y rfl rfl rfl ?hy68 ?_
                  case hy68 => exact Yl.assign rfl rfl
                  refine TL.nil ?_
                  refine TE.next ?_
                  refine TC.ret ?_
                  refine TE.inRet ?_
                  refine TE.thenRet ?_
                  refine TE.ret1 rfl rfl ?_
                  have hb : validB x = false := by cases e : validB x; rfl; have := hv.1 e; omega
                  exact fun w h => ⟨by rw [hb], h.below⟩
              · skip
                (try simp only [nrm] at hs40)
                refine TL.skip rfl rfl rfl ?_
                refine TL.skip rfl rfl rfl ?_
                refine TL.skip rfl rfl rfl ?_
                refine' TL.y rfl rfl rfl ?hy69 ?_
                case hy69 => exact Yl.pickF rfl rfl rfl
                refine' TL.y rfl rfl rfl ?hy70 ?_
                case hy70 => exact Yl.move rfl rfl
                refine TL.skip rfl rfl rfl ?_
                refine TL.skip rfl rfl rfl ?_
                refine TL.skip rfl rfl rfl ?_
                refine TL.skip rfl rfl rfl ?_
                refine TL.skip rfl rfl rfl ?_
                refine TL.skip rfl rfl rfl ?_
                refine TL.skip rfl rfl rfl ?_
                refine TL.skip rfl rfl rfl ?_
                refine TL.skip rfl rfl rfl ?_
                refine' TL.y rfl rfl rfl ?hy71 ?_
                case hy71 => exact Yl.pickF rfl rfl rfl
                refine' TL.y rfl rfl rfl ?hy72 ?_
                case hy72 => exact Yl.assign rfl rfl
                refine TL.nil ?_
                refine TE.next ?_
                refine TC.ret ?_
                refine TE.inRet ?_
                refine TE.thenRet ?_
                refine TE.ret1 rfl rfl ?_
                have hb : validB x = false := by cases e : validB x; rfl; have := hv.1 e; omega
                exact fun w h => ⟨by rw [hb], h.below⟩
            · skip
              (try simp only [nrm] at hs35)
              refine TL.skip rfl rfl rfl ?_
              refine TL.skip rfl rfl rfl ?_
              refine TL.skip rfl rfl rfl ?_
              refine' TL.y rfl rfl rfl ?hy73 ?_
              case hy73 => exact Yl.pickF rfl rfl rfl
              refine' TL.y rfl rfl rfl ?hy74 ?_
              case hy74 => exact Yl.move rfl rfl
              refine TL.skip rfl rfl rfl ?_
              refine TL.skip rfl rfl rfl ?_
              refine TL.skip rfl rfl rfl ?_
              refine' TL.y rfl rfl rfl ?hy75 ?_
              case hy75 => exact Yl.pickF rfl rfl rfl
              refine' TL.y rfl rfl rfl ?hy76 ?_
              case hy76 => exact Yl.move rfl rfl
              refine TL.skip rfl rfl rfl ?_
              refine TL.skip rfl rfl rfl ?_
              refine TL.skip rfl rfl rfl ?_
              refine TL.skip rfl rfl rfl ?_
              refine TL.skip rfl rfl rfl ?_
              refine TL.skip rfl rfl rfl ?_
              refine TL.skip rfl rfl rfl ?_
              refine TL.skip rfl rfl rfl ?_
              refine TL.skip rfl rfl rfl ?_
              refine' TL.y rfl rfl rfl ?hy77 ?_
              case hy77 => exact Yl.pickF rfl rfl rfl
              refine' TL.y rfl rfl rfl ?hy78 ?_
              case hy78 => exact Yl.assign rfl rfl
              refine TL.nil ?_
              refine TE.next ?_
              refine TC.ret ?_
              refine TE.inRet ?_
              refine TE.thenRet ?_
              refine TE.ret1 rfl rfl ?_
              have hb : validB x = false := by cases e : validB x; rfl; have := hv.1 e; omega
              exact fun w h => ⟨by rw [hb], h.below⟩
          · skip
            (try simp only [nrm] at hs30)
            refine TC.skip ?_
            refine TE.inNormal ?_
            refine TE.next ?_
            refine TC.seq ?_
            refine TC.region ?_
            refine' TL.y rfl rfl rfl ?hy79 ?_
            case hy79 => exact Yl.assign rfl rfl
            refine TL.nil ?_
            refine TE.next ?_
            refine TC.ret ?_
            refine TE.ret1 rfl rfl ?_
            have hb : validB x = false := by cases e : validB x; rfl; have := hv.1 e; omega
            exact fun w h => ⟨by rw [hb], h.below⟩
set_option maxRecDepth 100000 in
set_option maxHeartbeats 2000000 in
theorem k_gright (W : World) {l : List S25} {A : Option Addr} {cp : Nat} (hS : Sl W A (Rw l)) (hm : l.length ≤ 100000) : Calls Try.prog 62 #[.slice A l.length cp] W fun e w' => e = .returned (.bool (rightB l)) ∧ Below W.heap.size W w' := by
  have hM : Hp W (fun _ => False) [] W := Hp.start
  refine TC.enter (n := 24) Try.func62 rfl rfl rfl hM ?_
  refine TC.seq ?_
  refine TC.region ?_
  refine' TL.y rfl rfl rfl ?hy1 ?_
  case hy1 => exact Yl.assign rfl rfl
  refine TL.nil ?_
  refine TE.next ?_
  refine TC.seq ?_
  refine TC.region ?_
  refine' TL.y rfl rfl rfl ?hy2 ?_
  case hy2 => exact Yl.assign rfl rfl
  refine TL.nil ?_
  refine TE.next ?_
  refine TC.seq ?_
  refine TC.seq ?_
  refine TC.region ?_
  refine' TL.y rfl rfl rfl ?hy3 ?_
  case hy3 => exact Yl.move rfl rfl
  refine' TL.y rfl rfl rfl ?hy4 ?_
  case hy4 => exact Yl.len rfl rfl Try.underlying44
  refine' TL.y rfl rfl rfl ?hy5 ?_
  case hy5 => exact Yl.move rfl rfl
  refine TL.nil ?_
  refine TE.next ?_
  refine TC.block ?_
  refine TC.loop (σ := Nat × Int) (fun s => [(3, .int .i64 s.2), (6, .slice A l.length cp), (7, .int .i64 (l.length : Int)), (8, .int .i64 (s.1 : Int))]) (fun s => Hp W (fun _ => False) []) (fun s => s.1 ≤ l.length ∧ rightAt s.2 (l.drop s.1) = rightB l) (fun s => l.length - s.1) (0, 0) ?hF6 ?hs6 ?hm6 ?round6
  case hF6 => exact ⟨Nat.zero_le _, rfl⟩
  case hs6 => exact ⟨rfl, rfl, rfl, rfl, trivial⟩
  case hm6 => exact fun _ h => h
  case round6 =>
    rintro ⟨i, at_⟩ ⟨hi, hF⟩
    dsimp only at hi hF ⊢
    refine TC.seq ?_
    refine TC.region ?_
    refine' TL.y rfl rfl rfl ?hy7 ?_
    case hy7 => exact Yl.bin rfl rfl rfl (Bin.lss _ _ _ _)
    refine TL.nil ?_
    refine TE.next ?_
    refine TC.seq ?_
    refine TC.cond rfl (fun hs9 => ?_) (fun hs9 => ?_)
    · skip
      (try simp only [nrm] at hs9)
      obtain ⟨b, o, rfl⟩ := Sl.some2 hS (by rw [Rw_length]; omega)
      have hdr := atG_drop (l := l) (i := i) (by omega)
      refine TC.skip ?_
      refine TE.next ?_
      refine TC.seq ?_
      refine TC.block ?_
      refine TC.seq ?_
      refine TC.region ?_
      refine' TL.y rfl rfl rfl ?hy8 ?_
      case hy8 => first | exact Yl.ixkn (k := 6) rfl rfl rfl Try.underlying44 (by kernel_rfl) (by omega) | exact Yl.ixkz (k := 6) rfl rfl rfl Try.underlying44 (by kernel_rfl) (by omega) (by omega)
      refine' TL.y rfl rfl rfl ?hy9 ?_
      case hy9 => exact Yl.loads (cs := [.int .i64 (atG l i).f0, .int .i64 (atG l i).f1, .int .i64 (atG l i).f2, .int .i64 (atG l i).f3, .int .i64 (atG l i).f4, .bool (atG l i).f5]) rfl rfl (by kernel_rfl) (by kernel_rfl) (Sl.rgs hS (i := i) (by omega))
      refine' TL.mx rfl rfl rfl ?hy10 ?_
      case hy10 => exact Ym.alloc (z := .agg #[.int .i64 0, .int .i64 0, .int .i64 0, .int .i64 0, .int .i64 0, .bool false]) rfl (by kernel_rfl)
      intro b5
      refine' TL.s rfl rfl ?hy11 ?_
      case hy11 => exact Ys.store (seg := [.int .i64 (atG l i).f0, .int .i64 (atG l i).f1, .int .i64 (atG l i).f2, .int .i64 (atG l i).f3, .int .i64 (atG l i).f4, .bool (atG l i).f5]) (c' := #[.int .i64 (atG l i).f0, .int .i64 (atG l i).f1, .int .i64 (atG l i).f2, .int .i64 (atG l i).f3, .int .i64 (atG l i).f4, .bool (atG l i).f5]) rfl rfl rfl (by simp [Value.cells]) (by kernel_rfl) (by simp [Value.oneCell']) foc0 (by simp [Value.cells]) rfl
      refine TL.nil ?_
      refine TE.next ?_
      refine TC.seq ?_
      refine TC.seq ?_
      refine TC.region ?_
      refine' TL.y rfl rfl rfl ?hy12 ?_
      case hy12 => exact Yl.loads (cs := [.int .i64 (atG l i).f0, .int .i64 (atG l i).f1, .int .i64 (atG l i).f2, .int .i64 (atG l i).f3, .int .i64 (atG l i).f4, .bool (atG l i).f5]) rfl rfl (by kernel_rfl) (by kernel_rfl) (Hp.cells mem0 (fun j v hj => by simpa using hj))
      refine' TL.c rfl rfl rfl ?hy13 ?_
      case hy13 => exact Yc.call rfl Try.func63 (by kernel_rfl) rfl rfl (Hp.calls (fun w h => k_gvalid w (atG l i)))
      intro _
      refine' TL.y rfl rfl rfl ?hy14 ?_
      case hy14 => exact Yl.not rfl rfl
      refine' TL.y rfl rfl rfl ?hy15 ?_
      case hy15 => exact Yl.move rfl rfl
      refine TL.split (i := 15) rfl (fun hs15 => ?_) (fun hs15 => ?_)
      · skip
        (try simp only [nrm] at hs15)
        refine TL.skip rfl rfl rfl ?_
        refine TL.skip rfl rfl rfl ?_
        refine TL.skip rfl rfl rfl ?_
        refine TL.skip rfl rfl rfl ?_
        refine' TL.y rfl rfl rfl ?hy16 ?_
        case hy16 => exact Yl.pickT rfl rfl rfl
        refine TL.nil ?_
        refine TE.next ?_
        refine TC.yes rfl rfl ?_
        refine TC.seq ?_
        refine TC.region ?_
        refine' TL.y rfl rfl rfl ?hy17 ?_
        case hy17 => exact Yl.assign rfl rfl
        refine TL.nil ?_
        refine TE.next ?_
        refine TC.ret ?_
        refine TE.thenRet ?_
        refine TE.inRet ?_
        refine TE.thenRet ?_
        refine TE.thenRet ?_
        refine TE.inRet ?_
        refine TE.thenRet ?_
        refine TE.ret1 rfl rfl ?_
        have hb : rightB l = false := by
          rw [← hF, hdr, rightAt]
          have h1 : validB (atG l i) = false := by simpa using hs15
          rw [h1]; rfl
        exact fun w h => ⟨by rw [hb], (h.sub (List.nil_sublist _)).below⟩
      · skip
        (try simp only [nrm] at hs15)
        refine' TL.y rfl rfl rfl ?hy18 ?_
        case hy18 => first | exact Yl.field0 (k := 0) 0 rfl rfl Try.underlying28 rfl (by kernel_rfl) rfl | exact Yl.field (k := 0) 0 rfl rfl Try.underlying28 rfl (by kernel_rfl) rfl
        refine' TL.y rfl rfl rfl ?hy19 ?_
        case hy19 => exact Yl.load rfl rfl (by kernel_rfl) (by first | exact Hp.cell mem0 rfl | exact Hp.cell mem1 rfl | exact Hp.cell mem2 rfl | exact Hp.cell mem3 rfl | exact Hp.cell mem4 rfl | exact Hp.rowAt mem0 (by omega) rfl | exact Hp.rowAt mem1 (by omega) rfl | exact Hp.rowAt mem2 (by omega) rfl | exact Hp.rowAt mem3 (by omega) rfl | exact Hp.rowAt mem4 (by omega) rfl)
        refine' TL.y rfl rfl rfl ?hy20 ?_
        case hy20 => exact Yl.move rfl rfl
        refine' TL.y rfl rfl rfl ?hy21 ?_
        case hy21 => exact Yl.bin rfl rfl rfl (Bin.lss _ _ _ _)
        refine' TL.y rfl rfl rfl ?hy22 ?_
        case hy22 => exact Yl.pickF rfl rfl rfl
        refine TL.nil ?_
        refine TE.next ?_
        refine TC.cond rfl (fun hs20 => ?_) (fun hs20 => ?_)
        · skip
          (try simp only [nrm] at hs20)
          refine TC.seq ?_
          refine TC.region ?_
          refine' TL.y rfl rfl rfl ?hy23 ?_
          case hy23 => exact Yl.assign rfl rfl
          refine TL.nil ?_
          refine TE.next ?_
          refine TC.ret ?_
          refine TE.thenRet ?_
          refine TE.inRet ?_
          refine TE.thenRet ?_
          refine TE.thenRet ?_
          refine TE.inRet ?_
          refine TE.thenRet ?_
          refine TE.ret1 rfl rfl ?_
          have hb : rightB l = false := by
            rw [← hF, hdr, rightAt]
            rw [decide_eq_false (by omega : ¬ at_ ≤ (atG l i).f0), Bool.false_and, Bool.and_false]
          exact fun w h => ⟨by rw [hb], (h.sub (List.nil_sublist _)).below⟩
        · skip
          (try simp only [nrm] at hs20)
          refine TC.skip ?_
          refine TE.next ?_
          refine TC.region ?_
          refine' TL.y rfl rfl rfl ?hy24 ?_
          case hy24 => first | exact Yl.field0 (k := 0) 1 rfl rfl Try.underlying28 rfl (by kernel_rfl) rfl | exact Yl.field (k := 0) 1 rfl rfl Try.underlying28 rfl (by kernel_rfl) rfl
          refine' TL.y rfl rfl rfl ?hy25 ?_
          case hy25 => exact Yl.load rfl rfl (by kernel_rfl) (by first | exact Hp.cell mem0 rfl | exact Hp.cell mem1 rfl | exact Hp.cell mem2 rfl | exact Hp.cell mem3 rfl | exact Hp.cell mem4 rfl | exact Hp.rowAt mem0 (by omega) rfl | exact Hp.rowAt mem1 (by omega) rfl | exact Hp.rowAt mem2 (by omega) rfl | exact Hp.rowAt mem3 (by omega) rfl | exact Hp.rowAt mem4 (by omega) rfl)
          refine' TL.y rfl rfl rfl ?hy26 ?_
          case hy26 => exact Yl.assign rfl rfl
          refine TL.nil ?_
          refine TE.inNormal ?_
          refine TE.next ?_
          refine TC.region ?_
          refine' TL.y rfl rfl rfl ?hy27 ?_
          case hy27 => first | (refine Yl.val (Yl.bin rfl rfl rfl (Bin.add _ _ _ _)) (congrArg (Value.int .i64) (i64in ?_ ?_)) <;> omega) | exact Yl.bin rfl rfl rfl (Bin.add _ _ _ _)
          refine' TL.y rfl rfl rfl ?hy28 ?_
          case hy28 => exact Yl.move rfl rfl
          refine TL.nil ?_
          refine TE.round (i + 1, (atG l i).f1) ?hF29 ?hlt29 ?hs29 ?hm29
          case hF29 => exact ⟨by dsimp only; omega, by
            dsimp only
            rw [← hF, hdr, rightAt]
            have h1 : validB (atG l i) = true := by simpa using hs15
            rw [h1, decide_eq_true (by omega : at_ ≤ (atG l i).f0)]; rfl⟩
          case hlt29 => dsimp only; omega
          case hs29 => exact ⟨rfl, rfl, rfl, rfl, trivial⟩
          case hm29 => exact fun w h => h.sub (List.nil_sublist _)
    · skip
      (try simp only [nrm] at hs9)
      refine TC.exit ?_
      refine TE.thenExit ?_
      refine TE.thenExit ?_
      refine TE.inHere ?_
      refine TE.next ?_
      refine TC.seq ?_
      refine TC.region ?_
      refine' TL.y rfl rfl rfl ?hy30 ?_
      case hy30 => exact Yl.assign rfl rfl
      refine TL.nil ?_
      refine TE.next ?_
      refine TC.ret ?_
      refine TE.ret1 rfl rfl ?_
      obtain rfl : i = l.length := by omega
      have hb : rightB l = true := by rw [← hF, List.drop_length]; rfl
      exact fun w h => ⟨by rw [hb], h.below⟩
set_option maxRecDepth 100000 in
set_option maxHeartbeats 2000000 in
theorem k_after (W : World) {g : Nat} {y : S25} (hg : W.heap[g]? = some (.cells #[.int .i64 (y).f0, .int .i64 (y).f1, .int .i64 (y).f2, .int .i64 (y).f3, .int .i64 (y).f4, .bool (y).f5] 28 (0, 0))) (x : S25) : Calls Try.prog 65 #[.agg #[.int .i64 (x).f0, .int .i64 (x).f1, .int .i64 (x).f2, .int .i64 (x).f3, .int .i64 (x).f4, .bool (x).f5], .pointer (some ⟨g, 0, none⟩)] W fun e w' => e = .returned (.bool (afterB y x)) ∧ Below W.heap.size W w' := by
  have hM : Hp W (fun _ => False) [] W := Hp.start
  refine TC.enter (n := 9) Try.func65 rfl rfl rfl hM ?_
  refine TC.seq ?_
  refine TC.region ?_
  refine' TL.mx rfl rfl rfl ?hy1 ?_
  case hy1 => exact Ym.box rfl rfl
  intro b2
  refine' TL.y rfl rfl rfl ?hy2 ?_
  case hy2 => exact Yl.assign rfl rfl
  refine TL.nil ?_
  refine TE.next ?_
  refine TC.seq ?_
  refine TC.region ?_
  refine' TL.y rfl rfl rfl ?hy3 ?_
  case hy3 => first | exact Yl.field0 (k := 0) 1 rfl rfl Try.underlying28 rfl (by kernel_rfl) rfl | exact Yl.field (k := 0) 1 rfl rfl Try.underlying28 rfl (by kernel_rfl) rfl
  refine' TL.y rfl rfl rfl ?hy4 ?_
  case hy4 => exact Yl.load rfl rfl (by kernel_rfl) (by first | exact Hp.oldB hg rfl (fun h => h) | exact Hp.cell mem0 rfl | exact Hp.cell mem1 rfl | exact Hp.cell mem2 rfl | exact Hp.cell mem3 rfl | exact Hp.cell mem4 rfl | exact Hp.rowAt mem0 (by omega) rfl | exact Hp.rowAt mem1 (by omega) rfl | exact Hp.rowAt mem2 (by omega) rfl | exact Hp.rowAt mem3 (by omega) rfl | exact Hp.rowAt mem4 (by omega) rfl)
  refine' TL.y rfl rfl rfl ?hy5 ?_
  case hy5 => first | exact Yl.field0 (k := 0) 0 rfl rfl Try.underlying28 rfl (by kernel_rfl) rfl | exact Yl.field (k := 0) 0 rfl rfl Try.underlying28 rfl (by kernel_rfl) rfl
  refine' TL.y rfl rfl rfl ?hy6 ?_
  case hy6 => exact Yl.load rfl rfl (by kernel_rfl) (by first | exact Hp.oldB hg rfl (fun h => h) | exact Hp.cell mem0 rfl | exact Hp.cell mem1 rfl | exact Hp.cell mem2 rfl | exact Hp.cell mem3 rfl | exact Hp.cell mem4 rfl | exact Hp.rowAt mem0 (by omega) rfl | exact Hp.rowAt mem1 (by omega) rfl | exact Hp.rowAt mem2 (by omega) rfl | exact Hp.rowAt mem3 (by omega) rfl | exact Hp.rowAt mem4 (by omega) rfl)
  refine' TL.y rfl rfl rfl ?hy7 ?_
  case hy7 => exact Yl.bin rfl rfl rfl (Bin.gtr _ _ _ _)
  refine' TL.y rfl rfl rfl ?hy8 ?_
  case hy8 => exact Yl.assign rfl rfl
  refine TL.nil ?_
  refine TE.next ?_
  refine TC.ret ?_
  refine TE.ret1 rfl rfl ?_
  exact fun w h => ⟨rfl, (h.sub (List.nil_sublist _)).below⟩
set_option maxRecDepth 100000 in
set_option maxHeartbeats 2000000 in
theorem k_inb (W : World) {g : Nat} {n : Int} (hg : W.heap[g]? = some (.cells #[.int .i64 n] 3 (0, 0))) (x : S25) : Calls Try.prog 77 #[.agg #[.int .i64 (x).f0, .int .i64 (x).f1, .int .i64 (x).f2, .int .i64 (x).f3, .int .i64 (x).f4, .bool (x).f5], .pointer (some ⟨g, 0, none⟩)] W fun e w' => e = .returned (.bool (inB n x)) ∧ Below W.heap.size W w' := by
  have hM : Hp W (fun _ => False) [] W := Hp.start
  refine TC.enter (n := 14) Try.func77 rfl rfl rfl hM ?_
  refine TC.seq ?_
  refine TC.region ?_
  refine' TL.mx rfl rfl rfl ?hy1 ?_
  case hy1 => exact Ym.box rfl rfl
  intro b2
  refine' TL.y rfl rfl rfl ?hy2 ?_
  case hy2 => exact Yl.assign rfl rfl
  refine TL.nil ?_
  refine TE.next ?_
  refine TC.seq ?_
  refine TC.region ?_
  refine' TL.y rfl rfl rfl ?hy3 ?_
  case hy3 => first | exact Yl.field0 (k := 0) 0 rfl rfl Try.underlying28 rfl (by kernel_rfl) rfl | exact Yl.field (k := 0) 0 rfl rfl Try.underlying28 rfl (by kernel_rfl) rfl
  refine' TL.y rfl rfl rfl ?hy4 ?_
  case hy4 => exact Yl.load rfl rfl (by kernel_rfl) (by first | exact Hp.oldB hg rfl (fun h => h) | exact Hp.cell mem0 rfl | exact Hp.cell mem1 rfl | exact Hp.cell mem2 rfl | exact Hp.cell mem3 rfl | exact Hp.cell mem4 rfl | exact Hp.rowAt mem0 (by omega) rfl | exact Hp.rowAt mem1 (by omega) rfl | exact Hp.rowAt mem2 (by omega) rfl | exact Hp.rowAt mem3 (by omega) rfl | exact Hp.rowAt mem4 (by omega) rfl)
  refine' TL.y rfl rfl rfl ?hy5 ?_
  case hy5 => exact Yl.load rfl rfl (by kernel_rfl) (by first | exact Hp.oldB hg rfl (fun h => h) | exact Hp.cell mem0 rfl | exact Hp.cell mem1 rfl | exact Hp.cell mem2 rfl | exact Hp.cell mem3 rfl | exact Hp.cell mem4 rfl | exact Hp.rowAt mem0 (by omega) rfl | exact Hp.rowAt mem1 (by omega) rfl | exact Hp.rowAt mem2 (by omega) rfl | exact Hp.rowAt mem3 (by omega) rfl | exact Hp.rowAt mem4 (by omega) rfl)
  refine' TL.y rfl rfl rfl ?hy6 ?_
  case hy6 => exact Yl.bin rfl rfl rfl (Bin.leq _ _ _ _)
  refine' TL.y rfl rfl rfl ?hy7 ?_
  case hy7 => exact Yl.move rfl rfl
  refine TL.split (i := 8) rfl (fun hs8 => ?_) (fun hs8 => ?_)
  · skip
    (try simp only [nrm] at hs8)
    refine' TL.y rfl rfl rfl ?hy8 ?_
    case hy8 => exact Yl.load rfl rfl (by kernel_rfl) (by first | exact Hp.oldB hg rfl (fun h => h) | exact Hp.cell mem0 rfl | exact Hp.cell mem1 rfl | exact Hp.cell mem2 rfl | exact Hp.cell mem3 rfl | exact Hp.cell mem4 rfl | exact Hp.rowAt mem0 (by omega) rfl | exact Hp.rowAt mem1 (by omega) rfl | exact Hp.rowAt mem2 (by omega) rfl | exact Hp.rowAt mem3 (by omega) rfl | exact Hp.rowAt mem4 (by omega) rfl)
    refine' TL.y rfl rfl rfl ?hy9 ?_
    case hy9 => first | exact Yl.field0 (k := 0) 1 rfl rfl Try.underlying28 rfl (by kernel_rfl) rfl | exact Yl.field (k := 0) 1 rfl rfl Try.underlying28 rfl (by kernel_rfl) rfl
    refine' TL.y rfl rfl rfl ?hy10 ?_
    case hy10 => exact Yl.load rfl rfl (by kernel_rfl) (by first | exact Hp.oldB hg rfl (fun h => h) | exact Hp.cell mem0 rfl | exact Hp.cell mem1 rfl | exact Hp.cell mem2 rfl | exact Hp.cell mem3 rfl | exact Hp.cell mem4 rfl | exact Hp.rowAt mem0 (by omega) rfl | exact Hp.rowAt mem1 (by omega) rfl | exact Hp.rowAt mem2 (by omega) rfl | exact Hp.rowAt mem3 (by omega) rfl | exact Hp.rowAt mem4 (by omega) rfl)
    refine' TL.y rfl rfl rfl ?hy11 ?_
    case hy11 => exact Yl.bin rfl rfl rfl (Bin.lss _ _ _ _)
    refine' TL.y rfl rfl rfl ?hy12 ?_
    case hy12 => exact Yl.pickT rfl rfl rfl
    refine' TL.y rfl rfl rfl ?hy13 ?_
    case hy13 => exact Yl.assign rfl rfl
    refine TL.nil ?_
    refine TE.next ?_
    refine TC.ret ?_
    refine TE.ret1 rfl rfl ?_
    have hb : inB n x = decide (n < x.f1) := by unfold inB; rw [decide_eq_true (by omega : x.f0 ≤ n)]; rfl
    exact fun w h => ⟨by rw [hb], (h.sub (List.nil_sublist _)).below⟩
  · skip
    (try simp only [nrm] at hs8)
    refine TL.skip rfl rfl rfl ?_
    refine TL.skip rfl rfl rfl ?_
    refine TL.skip rfl rfl rfl ?_
    refine TL.skip rfl rfl rfl ?_
    refine' TL.y rfl rfl rfl ?hy14 ?_
    case hy14 => exact Yl.pickF rfl rfl rfl
    refine' TL.y rfl rfl rfl ?hy15 ?_
    case hy15 => exact Yl.assign rfl rfl
    refine TL.nil ?_
    refine TE.next ?_
    refine TC.ret ?_
    refine TE.ret1 rfl rfl ?_
    have hb : inB n x = false := by unfold inB; rw [decide_eq_false (by omega : ¬ x.f0 ≤ n)]; rfl
    exact fun w h => ⟨by rw [hb], (h.sub (List.nil_sublist _)).below⟩
set_option maxRecDepth 100000 in
set_option maxHeartbeats 2000000 in
theorem k_idxA (W : World) {l : List S25} {A : Option Addr} {cp : Nat} (hS : Sl W A (Rw l)) (hm : l.length ≤ 100000) {g : Nat} {y : S25} (hg : W.heap[g]? = some (.cells #[.int .i64 (y).f0, .int .i64 (y).f1, .int .i64 (y).f2, .int .i64 (y).f3, .int .i64 (y).f4, .bool (y).f5] 28 (0, 0))) : Calls Try.prog 64 #[.slice A l.length cp, .func (.func 65) #[] #[.pointer (some ⟨g, 0, none⟩)]] W fun e w' => e = .returned (.int .i64 (fidx (afterB y) l)) ∧ Below W.heap.size W w' := by
  have hM : Hp W (fun _ => False) [] W := Hp.start
  refine TC.enter (n := 19) Try.func64 rfl rfl rfl hM ?_
  refine TC.seq ?_
  refine TC.region ?_
  refine' TL.y rfl rfl rfl ?hy1 ?_
  case hy1 => exact Yl.assign rfl rfl
  refine TL.nil ?_
  refine TE.next ?_
  refine TC.seq ?_
  refine TC.seq ?_
  refine TC.region ?_
  refine' TL.y rfl rfl rfl ?hy2 ?_
  case hy2 => exact Yl.move rfl rfl
  refine' TL.y rfl rfl rfl ?hy3 ?_
  case hy3 => exact Yl.len rfl rfl Try.underlying44
  refine' TL.y rfl rfl rfl ?hy4 ?_
  case hy4 => exact Yl.move rfl rfl
  refine TL.nil ?_
  refine TE.next ?_
  refine TC.block ?_
  refine TC.loop (σ := Nat) (fun i => [(0, .slice A l.length cp), (1, .func (.func 65) #[] #[.pointer (some ⟨g, 0, none⟩)]), (7, .int .i64 (l.length : Int)), (8, .int .i64 (i : Int))]) (fun i => Hp W (fun _ => False) []) (fun i => i ≤ l.length ∧ ∀ j, j < i → (afterB y) (atG l j) = false) (fun i => l.length - i) 0 ?hF5 ?hs5 ?hm5 ?round5
  case hF5 => exact ⟨Nat.zero_le _, fun j hj => by omega⟩
  case hs5 => exact ⟨rfl, rfl, rfl, rfl, trivial⟩
  case hm5 => exact fun _ h => h
  case round5 =>
    rintro i ⟨hi, hF⟩
    refine TC.seq ?_
    refine TC.region ?_
    refine' TL.y rfl rfl rfl ?hy6 ?_
    case hy6 => exact Yl.bin rfl rfl rfl (Bin.lss _ _ _ _)
    refine TL.nil ?_
    refine TE.next ?_
    refine TC.seq ?_
    refine TC.cond rfl (fun hs9 => ?_) (fun hs9 => ?_)
    · skip
      (try simp only [nrm] at hs9)
      obtain ⟨b, o, rfl⟩ := Sl.some2 hS (by rw [Rw_length]; omega)
      refine TC.skip ?_
      refine TE.next ?_
      refine TC.seq ?_
      refine TC.block ?_
      refine TC.seq ?_
      refine TC.region ?_
      refine' TL.y rfl rfl rfl ?hy7 ?_
      case hy7 => exact Yl.move rfl rfl
      refine' TL.y rfl rfl rfl ?hy8 ?_
      case hy8 => exact Yl.assign rfl rfl
      refine TL.nil ?_
      refine TE.next ?_
      refine TC.seq ?_
      refine TC.region ?_
      refine' TL.y rfl rfl rfl ?hy9 ?_
      case hy9 => exact Yl.move rfl rfl
      refine' TL.y rfl rfl rfl ?hy10 ?_
      case hy10 => exact Yl.move rfl rfl
      refine' TL.y rfl rfl rfl ?hy11 ?_
      case hy11 => exact Yl.move rfl rfl
      refine' TL.y rfl rfl rfl ?hy12 ?_
      case hy12 => first | exact Yl.ixkn (k := 6) rfl rfl rfl Try.underlying44 (by kernel_rfl) (by omega) | exact Yl.ixkz (k := 6) rfl rfl rfl Try.underlying44 (by kernel_rfl) (by omega) (by omega)
      refine' TL.y rfl rfl rfl ?hy13 ?_
      case hy13 => exact Yl.loads (cs := [.int .i64 (atG l i).f0, .int .i64 (atG l i).f1, .int .i64 (atG l i).f2, .int .i64 (atG l i).f3, .int .i64 (atG l i).f4, .bool (atG l i).f5]) rfl rfl (by kernel_rfl) (by kernel_rfl) (Sl.rgs hS (i := i) (by omega))
      refine' TL.c rfl rfl rfl ?hy14 ?_
      case hy14 => exact Yc.callx rfl rfl Try.func65 rfl rfl rfl (Hp.calls (fun w h => by rw [cat1]; exact k_after w ((h.below.block _ (blk_lt hg)).trans hg) (atG l i)))
      intro _
      refine TL.nil ?_
      refine TE.next ?_
      refine TC.cond rfl (fun hs16 => ?_) (fun hs16 => ?_)
      · skip
        (try simp only [nrm] at hs16)
        refine TC.seq ?_
        refine TC.region ?_
        refine' TL.y rfl rfl rfl ?hy15 ?_
        case hy15 => exact Yl.move rfl rfl
        refine' TL.y rfl rfl rfl ?hy16 ?_
        case hy16 => exact Yl.assign rfl rfl
        refine TL.nil ?_
        refine TE.next ?_
        refine TC.ret ?_
        refine TE.inRet ?_
        refine TE.thenRet ?_
        refine TE.thenRet ?_
        refine TE.inRet ?_
        refine TE.thenRet ?_
        refine TE.ret1 rfl rfl ?_
        have hx := fidx_at (P := (afterB y)) (show i < l.length by omega) (by simpa using hs16) hF
        exact fun w h => ⟨by unfold fidx; rw [hx, if_pos (by omega)], h.below⟩
      · skip
        (try simp only [nrm] at hs16)
        refine TC.skip ?_
        refine TE.inNormal ?_
        refine TE.next ?_
        refine TC.region ?_
        refine' TL.y rfl rfl rfl ?hy17 ?_
        case hy17 => first | (refine Yl.val (Yl.bin rfl rfl rfl (Bin.add _ _ _ _)) (congrArg (Value.int .i64) (i64in ?_ ?_)) <;> omega) | exact Yl.bin rfl rfl rfl (Bin.add _ _ _ _)
        refine' TL.y rfl rfl rfl ?hy18 ?_
        case hy18 => exact Yl.move rfl rfl
        refine TL.nil ?_
        refine TE.round (i + 1) ?hF19 ?hlt19 ?hs19 ?hm19
        case hF19 => exact ⟨by omega, fun j hj => by
          by_cases e : j = i
          · rw [e]; simpa using hs16
          · exact hF j (by omega)⟩
        case hlt19 => omega
        case hs19 => exact ⟨rfl, rfl, rfl, rfl, trivial⟩
        case hm19 => exact fun _ h => h
    · skip
      (try simp only [nrm] at hs9)
      refine TC.exit ?_
      refine TE.thenExit ?_
      refine TE.thenExit ?_
      refine TE.inHere ?_
      refine TE.next ?_
      refine TC.seq ?_
      refine TC.region ?_
      refine' TL.y rfl rfl rfl ?hy20 ?_
      case hy20 => exact Yl.assign rfl rfl
      refine TL.nil ?_
      refine TE.next ?_
      refine TC.ret ?_
      refine TE.ret1 rfl rfl ?_
      obtain rfl : i = l.length := by omega
      have hx := fidx_none (P := (afterB y)) hF
      exact fun w h => ⟨by unfold fidx; rw [hx, if_neg (by omega)], h.below⟩
set_option maxRecDepth 100000 in
set_option maxHeartbeats 2000000 in
theorem k_idxF (W : World) {l : List S25} {A : Option Addr} {cp : Nat} (hS : Sl W A (Rw l)) (hm : l.length ≤ 100000) {g : Nat} {n : Int} (hg : W.heap[g]? = some (.cells #[.int .i64 n] 3 (0, 0))) : Calls Try.prog 64 #[.slice A l.length cp, .func (.func 77) #[] #[.pointer (some ⟨g, 0, none⟩)]] W fun e w' => e = .returned (.int .i64 (fidx (inB n) l)) ∧ Below W.heap.size W w' := by
  have hM : Hp W (fun _ => False) [] W := Hp.start
  refine TC.enter (n := 19) Try.func64 rfl rfl rfl hM ?_
  refine TC.seq ?_
  refine TC.region ?_
  refine' TL.y rfl rfl rfl ?hy1 ?_
  case hy1 => exact Yl.assign rfl rfl
  refine TL.nil ?_
  refine TE.next ?_
  refine TC.seq ?_
  refine TC.seq ?_
  refine TC.region ?_
  refine' TL.y rfl rfl rfl ?hy2 ?_
  case hy2 => exact Yl.move rfl rfl
  refine' TL.y rfl rfl rfl ?hy3 ?_
  case hy3 => exact Yl.len rfl rfl Try.underlying44
  refine' TL.y rfl rfl rfl ?hy4 ?_
  case hy4 => exact Yl.move rfl rfl
  refine TL.nil ?_
  refine TE.next ?_
  refine TC.block ?_
  refine TC.loop (σ := Nat) (fun i => [(0, .slice A l.length cp), (1, .func (.func 77) #[] #[.pointer (some ⟨g, 0, none⟩)]), (7, .int .i64 (l.length : Int)), (8, .int .i64 (i : Int))]) (fun i => Hp W (fun _ => False) []) (fun i => i ≤ l.length ∧ ∀ j, j < i → (inB n) (atG l j) = false) (fun i => l.length - i) 0 ?hF5 ?hs5 ?hm5 ?round5
  case hF5 => exact ⟨Nat.zero_le _, fun j hj => by omega⟩
  case hs5 => exact ⟨rfl, rfl, rfl, rfl, trivial⟩
  case hm5 => exact fun _ h => h
  case round5 =>
    rintro i ⟨hi, hF⟩
    refine TC.seq ?_
    refine TC.region ?_
    refine' TL.y rfl rfl rfl ?hy6 ?_
    case hy6 => exact Yl.bin rfl rfl rfl (Bin.lss _ _ _ _)
    refine TL.nil ?_
    refine TE.next ?_
    refine TC.seq ?_
    refine TC.cond rfl (fun hs9 => ?_) (fun hs9 => ?_)
    · skip
      (try simp only [nrm] at hs9)
      obtain ⟨b, o, rfl⟩ := Sl.some2 hS (by rw [Rw_length]; omega)
      refine TC.skip ?_
      refine TE.next ?_
      refine TC.seq ?_
      refine TC.block ?_
      refine TC.seq ?_
      refine TC.region ?_
      refine' TL.y rfl rfl rfl ?hy7 ?_
      case hy7 => exact Yl.move rfl rfl
      refine' TL.y rfl rfl rfl ?hy8 ?_
      case hy8 => exact Yl.assign rfl rfl
      refine TL.nil ?_
      refine TE.next ?_
      refine TC.seq ?_
      refine TC.region ?_
      refine' TL.y rfl rfl rfl ?hy9 ?_
      case hy9 => exact Yl.move rfl rfl
      refine' TL.y rfl rfl rfl ?hy10 ?_
      case hy10 => exact Yl.move rfl rfl
      refine' TL.y rfl rfl rfl ?hy11 ?_
      case hy11 => exact Yl.move rfl rfl
      refine' TL.y rfl rfl rfl ?hy12 ?_
      case hy12 => first | exact Yl.ixkn (k := 6) rfl rfl rfl Try.underlying44 (by kernel_rfl) (by omega) | exact Yl.ixkz (k := 6) rfl rfl rfl Try.underlying44 (by kernel_rfl) (by omega) (by omega)
      refine' TL.y rfl rfl rfl ?hy13 ?_
      case hy13 => exact Yl.loads (cs := [.int .i64 (atG l i).f0, .int .i64 (atG l i).f1, .int .i64 (atG l i).f2, .int .i64 (atG l i).f3, .int .i64 (atG l i).f4, .bool (atG l i).f5]) rfl rfl (by kernel_rfl) (by kernel_rfl) (Sl.rgs hS (i := i) (by omega))
      refine' TL.c rfl rfl rfl ?hy14 ?_
      case hy14 => exact Yc.callx rfl rfl Try.func77 rfl rfl rfl (Hp.calls (fun w h => by rw [cat1]; exact k_inb w ((h.below.block _ (blk_lt hg)).trans hg) (atG l i)))
      intro _
      refine TL.nil ?_
      refine TE.next ?_
      refine TC.cond rfl (fun hs16 => ?_) (fun hs16 => ?_)
      · skip
        (try simp only [nrm] at hs16)
        refine TC.seq ?_
        refine TC.region ?_
        refine' TL.y rfl rfl rfl ?hy15 ?_
        case hy15 => exact Yl.move rfl rfl
        refine' TL.y rfl rfl rfl ?hy16 ?_
        case hy16 => exact Yl.assign rfl rfl
        refine TL.nil ?_
        refine TE.next ?_
        refine TC.ret ?_
        refine TE.inRet ?_
        refine TE.thenRet ?_
        refine TE.thenRet ?_
        refine TE.inRet ?_
        refine TE.thenRet ?_
        refine TE.ret1 rfl rfl ?_
        have hx := fidx_at (P := (inB n)) (show i < l.length by omega) (by simpa using hs16) hF
        exact fun w h => ⟨by unfold fidx; rw [hx, if_pos (by omega)], h.below⟩
      · skip
        (try simp only [nrm] at hs16)
        refine TC.skip ?_
        refine TE.inNormal ?_
        refine TE.next ?_
        refine TC.region ?_
        refine' TL.y rfl rfl rfl ?hy17 ?_
        case hy17 => first | (refine Yl.val (Yl.bin rfl rfl rfl (Bin.add _ _ _ _)) (congrArg (Value.int .i64) (i64in ?_ ?_)) <;> omega) | exact Yl.bin rfl rfl rfl (Bin.add _ _ _ _)
        refine' TL.y rfl rfl rfl ?hy18 ?_
        case hy18 => exact Yl.move rfl rfl
        refine TL.nil ?_
        refine TE.round (i + 1) ?hF19 ?hlt19 ?hs19 ?hm19
        case hF19 => exact ⟨by omega, fun j hj => by
          by_cases e : j = i
          · rw [e]; simpa using hs16
          · exact hF j (by omega)⟩
        case hlt19 => omega
        case hs19 => exact ⟨rfl, rfl, rfl, rfl, trivial⟩
        case hm19 => exact fun _ h => h
    · skip
      (try simp only [nrm] at hs9)
      refine TC.exit ?_
      refine TE.thenExit ?_
      refine TE.thenExit ?_
      refine TE.inHere ?_
      refine TE.next ?_
      refine TC.seq ?_
      refine TC.region ?_
      refine' TL.y rfl rfl rfl ?hy20 ?_
      case hy20 => exact Yl.assign rfl rfl
      refine TL.nil ?_
      refine TE.next ?_
      refine TC.ret ?_
      refine TE.ret1 rfl rfl ?_
      obtain rfl : i = l.length := by omega
      have hx := fidx_none (P := (inB n)) hF
      exact fun w h => ⟨by unfold fidx; rw [hx, if_neg (by omega)], h.below⟩
def fnd (l : List S25) (n : Int) : Option S25 := if rightB l = true then l.find? (inB n) else none
set_option maxRecDepth 100000 in
set_option maxHeartbeats 2000000 in
theorem k_gfind (W : World) {l : List S25} {A : Option Addr} {cp : Nat} (hS : Sl W A (Rw l)) (hm : l.length ≤ 100000) (n : Int) : Calls Try.prog 44 #[.slice A l.length cp, .int .i64 n] W fun e w' => e = .returned (.tuple #[.agg #[.int .i64 (((fnd l n).getD z25)).f0, .int .i64 (((fnd l n).getD z25)).f1, .int .i64 (((fnd l n).getD z25)).f2, .int .i64 (((fnd l n).getD z25)).f3, .int .i64 (((fnd l n).getD z25)).f4, .bool (((fnd l n).getD z25)).f5], .bool (fnd l n).isSome]) ∧ Below W.heap.size W w' := by
  have hM : Hp W (fun _ => False) [] W := Hp.start
  refine TC.enter (n := 22) Try.func44 rfl rfl rfl hM ?_
  refine TC.seq ?_
  refine TC.region ?_
  refine' TL.mx rfl rfl rfl ?hy1 ?_
  case hy1 => exact Ym.box rfl rfl
  intro b3
  refine' TL.mx rfl rfl rfl ?hy2 ?_
  case hy2 => exact Ym.alloc (z := .agg #[.int .i64 0, .int .i64 0, .int .i64 0, .int .i64 0, .int .i64 0, .bool false]) rfl (by kernel_rfl)
  intro b4
  refine' TL.y rfl rfl rfl ?hy3 ?_
  case hy3 => exact Yl.assign rfl rfl
  refine TL.nil ?_
  refine TE.next ?_
  refine TC.seq ?_
  refine TC.region ?_
  refine' TL.y rfl rfl rfl ?hy4 ?_
  case hy4 => exact Yl.move rfl rfl
  refine' TL.y rfl rfl rfl ?hy5 ?_
  case hy5 => exact Yl.makeFunc rfl rfl rfl
  refine' TL.c rfl rfl rfl ?hy6 ?_
  case hy6 => exact Yc.call rfl Try.func64 (by kernel_rfl) rfl rfl (Hp.calls (fun w h => k_idxF w (hS.below h.below) hm (h.all _ mem1)))
  intro _
  refine' TL.y rfl rfl rfl ?hy7 ?_
  case hy7 => exact Yl.assign rfl rfl
  refine TL.nil ?_
  refine TE.next ?_
  refine TC.seq ?_
  refine TC.seq ?_
  refine TC.region ?_
  refine' TL.y rfl rfl rfl ?hy8 ?_
  case hy8 => exact Yl.move rfl rfl
  refine' TL.y rfl rfl rfl ?hy9 ?_
  case hy9 => exact Yl.bin rfl rfl rfl (Bin.lss _ _ _ _)
  refine' TL.y rfl rfl rfl ?hy10 ?_
  case hy10 => exact Yl.move rfl rfl
  refine TL.split (i := 12) rfl (fun hs12 => ?_) (fun hs12 => ?_)
  · skip
    (try simp only [nrm] at hs12)
    refine TL.skip rfl rfl rfl ?_
    refine TL.skip rfl rfl rfl ?_
    refine TL.skip rfl rfl rfl ?_
    refine' TL.y rfl rfl rfl ?hy11 ?_
    case hy11 => exact Yl.pickT rfl rfl rfl
    refine TL.nil ?_
    refine TE.next ?_
    refine TC.yes rfl rfl ?_
    refine TC.seq ?_
    refine TC.region ?_
    refine' TL.y rfl rfl rfl ?hy12 ?_
    case hy12 => exact Yl.build (z := .agg #[.int .i64 0, .int .i64 0, .int .i64 0, .int .i64 0, .int .i64 0, .bool false]) [(0, 1), (1, 1), (2, 1), (3, 1), (4, 1), (5, 1)] rfl (by kernel_rfl) Try.underlying28 (by kernel_rfl) rfl rfl
    refine' TL.s rfl rfl ?hy13 ?_
    case hy13 => exact Ys.store (seg := [.int .i64 0, .int .i64 0, .int .i64 0, .int .i64 0, .int .i64 0, .bool false]) (c' := #[.int .i64 0, .int .i64 0, .int .i64 0, .int .i64 0, .int .i64 0, .bool false]) rfl rfl rfl (by simp [Value.cells]) (by kernel_rfl) (by simp [Value.oneCell']) foc0 (by simp [Value.cells]) rfl
    refine' TL.y rfl rfl rfl ?hy14 ?_
    case hy14 => exact Yl.assign rfl rfl
    refine TL.nil ?_
    refine TE.next ?_
    refine TC.ret ?_
    refine TE.thenRet ?_
    have hb : fnd l n = none := by
      unfold fnd
      split
      · rw [find_idx, if_neg (by unfold fidx at hs12; split at hs12 <;> omega)]
      · rfl
    refine TE.retCAT [.int .i64 0, .int .i64 0, .int .i64 0, .int .i64 0, .int .i64 0, .bool false] rfl rfl rfl (by kernel_rfl) (by kernel_rfl) (Hp.cells mem0 (fun j v hj => by simpa using hj)) ?_
    exact fun w h => ⟨by rw [hb]; rfl, (h.sub (List.nil_sublist _)).below⟩
  · skip
    (try simp only [nrm] at hs12)
    refine' TL.y rfl rfl rfl ?hy15 ?_
    case hy15 => exact Yl.move rfl rfl
    refine' TL.c rfl rfl rfl ?hy16 ?_
    case hy16 => exact Yc.call rfl Try.func62 (by kernel_rfl) rfl rfl (Hp.calls (fun w h => k_gright w (hS.below h.below) hm))
    intro _
    refine' TL.y rfl rfl rfl ?hy17 ?_
    case hy17 => exact Yl.not rfl rfl
    refine' TL.y rfl rfl rfl ?hy18 ?_
    case hy18 => exact Yl.pickF rfl rfl rfl
    refine TL.nil ?_
    refine TE.next ?_
    refine TC.cond rfl (fun hs16 => ?_) (fun hs16 => ?_)
    · skip
      (try simp only [nrm] at hs16)
      refine TC.seq ?_
      refine TC.region ?_
      refine' TL.y rfl rfl rfl ?hy19 ?_
      case hy19 => exact Yl.build (z := .agg #[.int .i64 0, .int .i64 0, .int .i64 0, .int .i64 0, .int .i64 0, .bool false]) [(0, 1), (1, 1), (2, 1), (3, 1), (4, 1), (5, 1)] rfl (by kernel_rfl) Try.underlying28 (by kernel_rfl) rfl rfl
      refine' TL.s rfl rfl ?hy20 ?_
      case hy20 => exact Ys.store (seg := [.int .i64 0, .int .i64 0, .int .i64 0, .int .i64 0, .int .i64 0, .bool false]) (c' := #[.int .i64 0, .int .i64 0, .int .i64 0, .int .i64 0, .int .i64 0, .bool false]) rfl rfl rfl (by simp [Value.cells]) (by kernel_rfl) (by simp [Value.oneCell']) foc0 (by simp [Value.cells]) rfl
      refine' TL.y rfl rfl rfl ?hy21 ?_
      case hy21 => exact Yl.assign rfl rfl
      refine TL.nil ?_
      refine TE.next ?_
      refine TC.ret ?_
      refine TE.thenRet ?_
      have hb : fnd l n = none := by
        unfold fnd
        rw [if_neg (by simpa using hs16)]
      refine TE.retCAT [.int .i64 0, .int .i64 0, .int .i64 0, .int .i64 0, .int .i64 0, .bool false] rfl rfl rfl (by kernel_rfl) (by kernel_rfl) (Hp.cells mem0 (fun j v hj => by simpa using hj)) ?_
      exact fun w h => ⟨by rw [hb]; rfl, (h.sub (List.nil_sublist _)).below⟩
    · skip
      (try simp only [nrm] at hs16)
      have hlt : l.findIdx (inB n) < l.length := by unfold fidx at hs12; split at hs12; assumption; omega
      have hix : fidx (inB n) l = (l.findIdx (inB n) : Int) := by unfold fidx; rw [if_pos hlt]
      have hrt : rightB l = true := by simpa using hs16
      have hb : fnd l n = some (atG l (l.findIdx (inB n))) := by unfold fnd; rw [if_pos hrt, find_idx, if_pos hlt]
      obtain ⟨b, o, rfl⟩ := Sl.some2 hS (by rw [Rw_length]; omega)
      rw [hix]
      refine TC.skip ?_
      refine TE.next ?_
      refine TC.seq ?_
      refine TC.region ?_
      refine' TL.y rfl rfl rfl ?hy22 ?_
      case hy22 => exact Yl.move rfl rfl
      refine' TL.y rfl rfl rfl ?hy23 ?_
      case hy23 => exact Yl.move rfl rfl
      refine' TL.y rfl rfl rfl ?hy24 ?_
      case hy24 => first | exact Yl.ixkn (k := 6) rfl rfl rfl Try.underlying44 (by kernel_rfl) (by omega) | exact Yl.ixkz (k := 6) rfl rfl rfl Try.underlying44 (by kernel_rfl) (by omega) (by omega)
      refine' TL.y rfl rfl rfl ?hy25 ?_
      case hy25 => exact Yl.loads (cs := [.int .i64 (atG l (l.findIdx (inB n))).f0, .int .i64 (atG l (l.findIdx (inB n))).f1, .int .i64 (atG l (l.findIdx (inB n))).f2, .int .i64 (atG l (l.findIdx (inB n))).f3, .int .i64 (atG l (l.findIdx (inB n))).f4, .bool (atG l (l.findIdx (inB n))).f5]) rfl rfl (by kernel_rfl) (by kernel_rfl) (Sl.rgs hS (i := l.findIdx (inB n)) hlt)
      refine' TL.s rfl rfl ?hy26 ?_
      case hy26 => exact Ys.store (seg := [.int .i64 ((atG l (l.findIdx (inB n)))).f0, .int .i64 ((atG l (l.findIdx (inB n)))).f1, .int .i64 ((atG l (l.findIdx (inB n)))).f2, .int .i64 ((atG l (l.findIdx (inB n)))).f3, .int .i64 ((atG l (l.findIdx (inB n)))).f4, .bool ((atG l (l.findIdx (inB n)))).f5]) (c' := #[.int .i64 ((atG l (l.findIdx (inB n)))).f0, .int .i64 ((atG l (l.findIdx (inB n)))).f1, .int .i64 ((atG l (l.findIdx (inB n)))).f2, .int .i64 ((atG l (l.findIdx (inB n)))).f3, .int .i64 ((atG l (l.findIdx (inB n)))).f4, .bool ((atG l (l.findIdx (inB n)))).f5]) rfl rfl rfl (by simp [Value.cells]) (by kernel_rfl) (by simp [Value.oneCell']) foc0 (by simp [Value.cells]) rfl
      refine' TL.y rfl rfl rfl ?hy27 ?_
      case hy27 => exact Yl.assign rfl rfl
      refine TL.nil ?_
      refine TE.next ?_
      refine TC.ret ?_
      refine TE.retCAT [.int .i64 (atG l (l.findIdx (inB n))).f0, .int .i64 (atG l (l.findIdx (inB n))).f1, .int .i64 (atG l (l.findIdx (inB n))).f2, .int .i64 (atG l (l.findIdx (inB n))).f3, .int .i64 (atG l (l.findIdx (inB n))).f4, .bool (atG l (l.findIdx (inB n))).f5] rfl rfl rfl (by kernel_rfl) (by kernel_rfl) (Hp.cells mem0 (fun j v hj => by simpa using hj)) ?_
      exact fun w h => ⟨by rw [hb]; rfl, (h.sub (List.nil_sublist _)).below⟩
end Go.Proofs.Ytabjdjkkpbkpfaa.Pk
