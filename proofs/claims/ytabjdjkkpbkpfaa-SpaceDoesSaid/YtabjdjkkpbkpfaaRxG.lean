/- The row of words, as the document has it. -/
import Derived.Test.YtabjdjkkpbkpfaaRxF
import Derived.Test.YtabjdjkkpbkpfaaRxN
import Derived.Test.YtabjdjkkpbkpfaaProg
import Derived.RowKit3
namespace Go.Proofs.Ytabjdjkkpbkpfaa.Pk
open Go Go.RowKit Go.Proofs.Ytabjdjkkpbkpfaa.HL Go.Proofs.Ytabjdjkkpbkpfaa.Ev Go.Proofs.YtabjdjkkpbkpfaaW.PrintWords Go.Proofs.RxP
set_option linter.unusedVariables false
set_option linter.unusedSimpArgs false
/-- A row of pages and words. -/
def Pw (l : List (Int × Int)) : List Value := l.flatMap fun e => [.int .i64 e.1, .int .u64 e.2]
theorem Pw_app (a b : List (Int × Int)) : Pw (a ++ b) = Pw a ++ Pw b := by unfold Pw; rw [List.flatMap_append]
theorem Pw_one (e : Int × Int) : Pw [e] = [.int .i64 e.1, .int .u64 e.2] := rfl
theorem Pw_length : ∀ l, (Pw l).length = l.length * 2
  | [] => rfl
  | e :: l => by rw [show e :: l = [e] ++ l from rfl, Pw_app, List.length_append, Pw_length l, Pw_one]; simp; omega
theorem Pw_get : ∀ (l : List (Int × Int)) (i j : Nat), i < l.length → j < 2 → (Pw l)[i * 2 + j]? = some (if j = 0 then .int .i64 (at_ l i).1 else .int .u64 (at_ l i).2)
  | [], i, j, h, _ => by simp at h
  | e :: l, 0, j, h, hj => by
    rw [show e :: l = [e] ++ l from rfl, Pw_app, List.getElem?_append_left (by rw [Pw_one]; simp; omega), Pw_one]
    rcases (by omega : j = 0 ∨ j = 1) with rfl | rfl <;> rfl
  | e :: l, i + 1, j, h, hj => by
    have hl : (Pw [e]).length = 2 := rfl
    rw [show e :: l = [e] ++ l from rfl, Pw_app, List.getElem?_append_right (by omega), hl, show (i + 1) * 2 + j - 2 = i * 2 + j by omega, Pw_get l i j (by simpa using h) hj]
    rfl
section
variable {W0 w : World} {T : Nat → Prop} {H : List Res}
theorem Sl.pw {b c i j q : Nat} {l : List (Int × Int)} (hs : Sl W0 (.some ⟨b, c, none⟩) (Pw l)) (hq : c + i * 2 + j = q) (hi : i < l.length) (hj : j < 2) : ∀ w, Hp W0 (fun _ => False) H w → w.cell? ⟨b, q, none⟩ = .some (if j = 0 then .int .i64 (at_ l i).1 else .int .u64 (at_ l i).2) := Sl.cellAt hs (Pw_get l i j hi hj) (fun _ h => h) (by omega)
theorem Hp.pw {e : TypeId} {g cap m i j q : Nat} {l : List (Int × Int)} (hr : ownR e 2 (.slice (some ⟨g, 0, none⟩) m cap) m (Pw l) ∈ H) (hq : i * 2 + j = q) (hi : i < l.length) (hj : j < 2) : ∀ w, Hp W0 T H w → w.cell? ⟨g, q, none⟩ = some (if j = 0 then .int .i64 (at_ l i).1 else .int .u64 (at_ l i).2) := hq ▸ Hp.ownCell hr (Pw_get l i j hi hj)
theorem Hp.pws {e : TypeId} {g cap m i q : Nat} {l : List (Int × Int)} (hr : ownR e 2 (.slice (some ⟨g, 0, none⟩) m cap) m (Pw l) ∈ H) (hq : i * 2 = q) (hi : i < l.length) : ∀ w, Hp W0 T H w → ∀ j v, [Value.int .i64 (at_ l i).1, .int .u64 (at_ l i).2][j]? = some v → w.cell? ((⟨g, q, none⟩ : Addr).add j) = some v := fun w h j v hj => by
  subst hq
  have hj2 : j < 2 := by
    rcases Nat.lt_or_ge j 2 with h | h
    · exact h
    · rw [List.getElem?_eq_none (by simpa using h)] at hj; cases hj
  rw [Addr.at_, Hp.pw hr rfl hi hj2 w h]
  rcases (by omega : j = 0 ∨ j = 1) with rfl | rfl
  · simpa using hj
  · simpa using hj
end
/-- The document's table. -/
def rowP (v : Value) (l : List (Int × Int)) : Res := ownR 83 2 v l.length (Pw l)
theorem rowP_snoc (v : Value) (l : List (Int × Int)) (x : Int × Int) : ownR 83 2 v (l.length + 1) (Pw l ++ [.int .i64 x.1, .int .u64 x.2]) = rowP v (l ++ [x]) := by unfold rowP; rw [Pw_app, Pw_one, List.length_append]; rfl
theorem rowP_nil {W0 w : World} {T : Nat → Prop} {H : List Res} (h : Hp W0 T H w) : Hp W0 T (rowP (.slice none 0 0) [] :: H) w := h.nil
def Rf (b : Nat) (v : Value) (S : Sf) : Res := star (blk b (.cells #[v] 59 (0, 0))) (rowP v (ents S 65536))
/-- What is read of it. -/
structure RfAt (W : World) (b : Nat) (A : Option Addr) (c : Nat) (S : Sf) : Prop where
  blk : W.heap[b]? = some (.cells #[.slice A (rk S 65536) c] 59 (0, 0))
  sl : Sl W A (Pw (ents S 65536))
theorem ofOwnN {w : World} {e : TypeId} {s : Nat} {A : Option Addr} {m c : Nat} {xs : List Value} (h : (ownR e s (.slice A m c) m xs).holds w) : Sl w A xs := fun j v hj => by
  rcases h.2 with ⟨h1, h2⟩ | ⟨g, cap, cur, h1, _, hh, _, _, _, htk⟩
  · have := h.1
    rw [h2] at this
    have : xs = [] := List.eq_nil_of_length_eq_zero (by simpa using this)
    rw [this] at hj; simp at hj
  · injection h1 with h1
    subst h1
    refine ⟨_, rfl, ?_⟩
    rw [Addr.at_, Nat.zero_add, blk_cell hh]
    rw [← htk, List.getElem?_take] at hj
    split at hj
    · simpa using hj
    · cases hj
theorem Rf.at_ {W : World} {b : Nat} {v : Value} {S : Sf} (h : (Rf b v S).holds W) : ∃ A c, RfAt W b A c S := by
  have h1 : W.heap[b]? = some (.cells #[v] 59 (0, 0)) := h.1
  have h2 : (rowP v (ents S 65536)).holds W := h.2.1
  obtain ⟨A, c, rfl⟩ := Hp.ownSl (W0 := W) (T := (rowP v (ents S 65536)).foot) (H := [rowP v (ents S 65536)]) (e := 83) (size := 2) (m := (ents S 65536).length) (xs := Pw (ents S 65536)) mem0 W (Hp.enter h2)
  exact ⟨A, c, h1, ofOwnN h2⟩
theorem Rf.len {S : Sf} : (ents S 65536).length = rk S 65536 := rfl
attribute [local irreducible] btw rowA nth ents Pw at_
set_option maxRecDepth 100000 in
set_option maxHeartbeats 2000000 in
theorem k_rget (W : World) {b : Nat} {A : Option Addr} {c : Nat} {S : Sf} (hR : RfAt W b A c S) (n : Int) : Calls Try.prog 56 #[.pointer (some ⟨b, 0, none⟩), .int .i64 n] W fun e w' => e = .returned (.tuple #[.int .u64 ((gt S n).getD 0), .bool (gt S n).isSome]) ∧ Below W.heap.size W w' := by
  have hM : Hp W (fun _ => False) [] W := Hp.start
  refine TC.enter (n := 34) Try.func56 rfl rfl rfl hM ?_
  refine TC.seq ?_
  refine TC.region ?_
  refine' TL.y rfl rfl rfl ?hy1 ?_
  case hy1 => exact Yl.assign rfl rfl
  refine' TL.y rfl rfl rfl ?hy2 ?_
  case hy2 => exact Yl.assign rfl rfl
  refine TL.nil ?_
  refine TE.next ?_
  refine TC.seq ?_
  refine TC.seq ?_
  refine TC.region ?_
  refine' TL.y rfl rfl rfl ?hy3 ?_
  case hy3 => exact Yl.assign rfl rfl
  refine TL.nil ?_
  refine TE.next ?_
  refine TC.block ?_
  refine TC.loop (σ := Nat) (fun i => [(0, .pointer (some ⟨b, 0, none⟩)), (1, .int .i64 n), (6, .int .i64 (i : Int))]) (fun i => Hp W (fun _ => False) []) (fun i => i ≤ rk S 65536 ∧ ∀ j, j < i → (at_ (ents S 65536) j).1 ≠ n) (fun i => rk S 65536 - i) 0 ?hF4 ?hs4 ?hm4 ?round4
  case hF4 => exact ⟨Nat.zero_le _, fun j hj => by omega⟩
  case hs4 => exact ⟨rfl, rfl, rfl, trivial⟩
  case hm4 => exact fun _ h => h
  case round4 =>
    rintro i ⟨hi, hF⟩
    refine TC.seq ?_
    refine TC.seq ?_
    refine TC.region ?_
    refine' TL.y rfl rfl rfl ?hy5 ?_
    case hy5 => exact Yl.move rfl rfl
    refine' TL.y rfl rfl rfl ?hy6 ?_
    case hy6 => exact Yl.move rfl rfl
    refine' TL.y rfl rfl rfl ?hy7 ?_
    case hy7 => exact Yl.nilCheck rfl rfl
    refine' TL.y rfl rfl rfl ?hy8 ?_
    case hy8 => first | exact Yl.field0 (k := 0) 0 rfl rfl Try.underlying59 rfl (by kernel_rfl) rfl | exact Yl.field (k := 0) 0 rfl rfl Try.underlying59 rfl (by kernel_rfl) rfl
    refine' TL.y rfl rfl rfl ?hy9 ?_
    case hy9 => exact Yl.load rfl rfl (by kernel_rfl) (by first | exact Hp.oldB hR.blk rfl (fun h => h) | exact Hp.cell mem0 rfl | exact Hp.cell mem1 rfl | exact Hp.cell mem2 rfl | exact Hp.cell mem3 rfl | exact Hp.cell mem4 rfl | exact Hp.rowAt mem0 (by omega) rfl | exact Hp.rowAt mem1 (by omega) rfl | exact Hp.rowAt mem2 (by omega) rfl | exact Hp.rowAt mem3 (by omega) rfl | exact Hp.rowAt mem4 (by omega) rfl)
    refine' TL.y rfl rfl rfl ?hy10 ?_
    case hy10 => exact Yl.len rfl rfl Try.underlying57
    refine' TL.y rfl rfl rfl ?hy11 ?_
    case hy11 => exact Yl.bin rfl rfl rfl (Bin.lss _ _ _ _)
    refine TL.nil ?_
    refine TE.next ?_
    refine TC.cond rfl (fun hs13 => ?_) (fun hs13 => ?_)
    · skip
      (try simp only [nrm] at hs13)
      have hil : i < rk S 65536 := by omega
      have hrl := rk_le S 65536
      obtain ⟨g, o, rfl⟩ := Sl.some2 hR.sl (by rw [Pw_length, Rf.len]; omega)
      refine TC.skip ?_
      refine TE.next ?_
      refine TC.seq ?_
      refine TC.block ?_
      refine TC.seq ?_
      refine TC.region ?_
      refine' TL.y rfl rfl rfl ?hy12 ?_
      case hy12 => exact Yl.move rfl rfl
      refine' TL.y rfl rfl rfl ?hy13 ?_
      case hy13 => exact Yl.nilCheck rfl rfl
      refine' TL.y rfl rfl rfl ?hy14 ?_
      case hy14 => first | exact Yl.field0 (k := 0) 0 rfl rfl Try.underlying59 rfl (by kernel_rfl) rfl | exact Yl.field (k := 0) 0 rfl rfl Try.underlying59 rfl (by kernel_rfl) rfl
      refine' TL.y rfl rfl rfl ?hy15 ?_
      case hy15 => exact Yl.load rfl rfl (by kernel_rfl) (by first | exact Hp.oldB hR.blk rfl (fun h => h) | exact Hp.cell mem0 rfl | exact Hp.cell mem1 rfl | exact Hp.cell mem2 rfl | exact Hp.cell mem3 rfl | exact Hp.cell mem4 rfl | exact Hp.rowAt mem0 (by omega) rfl | exact Hp.rowAt mem1 (by omega) rfl | exact Hp.rowAt mem2 (by omega) rfl | exact Hp.rowAt mem3 (by omega) rfl | exact Hp.rowAt mem4 (by omega) rfl)
      refine' TL.y rfl rfl rfl ?hy16 ?_
      case hy16 => exact Yl.move rfl rfl
      refine' TL.y rfl rfl rfl ?hy17 ?_
      case hy17 => first | exact Yl.ixkn (k := 2) rfl rfl rfl Try.underlying57 (by kernel_rfl) (by omega) | exact Yl.ixkz (k := 2) rfl rfl rfl Try.underlying57 (by kernel_rfl) (by omega) (by omega)
      refine' TL.y rfl rfl rfl ?hy18 ?_
      case hy18 => first | exact Yl.field0 (k := 0) 0 rfl rfl Try.underlying83 rfl (by kernel_rfl) rfl | exact Yl.field (k := 0) 0 rfl rfl Try.underlying83 rfl (by kernel_rfl) rfl
      refine' TL.y rfl rfl rfl ?hy19 ?_
      case hy19 => exact Yl.load rfl rfl (by kernel_rfl) (Sl.pw hR.sl (i := i) (j := 0) (by omega) (by rw [Rf.len]; omega) (by decide))
      refine TL.re (i := 23) (v' := .int .i64 (at_ (ents S 65536) i).1) rfl rfl ?_
      refine' TL.y rfl rfl rfl ?hy20 ?_
      case hy20 => exact Yl.move rfl rfl
      refine' TL.y rfl rfl rfl ?hy21 ?_
      case hy21 => exact Yl.bin rfl rfl rfl (Bin.eql _ _ _ _)
      refine TL.nil ?_
      refine TE.next ?_
      refine TC.cond rfl (fun hs25 => ?_) (fun hs25 => ?_)
      · skip
        (try simp only [nrm] at hs25)
        refine TC.seq ?_
        refine TC.region ?_
        refine' TL.y rfl rfl rfl ?hy22 ?_
        case hy22 => exact Yl.move rfl rfl
        refine' TL.y rfl rfl rfl ?hy23 ?_
        case hy23 => exact Yl.nilCheck rfl rfl
        refine' TL.y rfl rfl rfl ?hy24 ?_
        case hy24 => first | exact Yl.field0 (k := 0) 0 rfl rfl Try.underlying59 rfl (by kernel_rfl) rfl | exact Yl.field (k := 0) 0 rfl rfl Try.underlying59 rfl (by kernel_rfl) rfl
        refine' TL.y rfl rfl rfl ?hy25 ?_
        case hy25 => exact Yl.load rfl rfl (by kernel_rfl) (by first | exact Hp.oldB hR.blk rfl (fun h => h) | exact Hp.cell mem0 rfl | exact Hp.cell mem1 rfl | exact Hp.cell mem2 rfl | exact Hp.cell mem3 rfl | exact Hp.cell mem4 rfl | exact Hp.rowAt mem0 (by omega) rfl | exact Hp.rowAt mem1 (by omega) rfl | exact Hp.rowAt mem2 (by omega) rfl | exact Hp.rowAt mem3 (by omega) rfl | exact Hp.rowAt mem4 (by omega) rfl)
        refine' TL.y rfl rfl rfl ?hy26 ?_
        case hy26 => exact Yl.move rfl rfl
        refine' TL.y rfl rfl rfl ?hy27 ?_
        case hy27 => first | exact Yl.ixkn (k := 2) rfl rfl rfl Try.underlying57 (by kernel_rfl) (by omega) | exact Yl.ixkz (k := 2) rfl rfl rfl Try.underlying57 (by kernel_rfl) (by omega) (by omega)
        refine' TL.y rfl rfl rfl ?hy28 ?_
        case hy28 => first | exact Yl.field0 (k := 0) 1 rfl rfl Try.underlying83 rfl (by kernel_rfl) rfl | exact Yl.field (k := 0) 1 rfl rfl Try.underlying83 rfl (by kernel_rfl) rfl
        refine' TL.y rfl rfl rfl ?hy29 ?_
        case hy29 => exact Yl.load rfl rfl (by kernel_rfl) (Sl.pw hR.sl (i := i) (j := 1) (by omega) (by rw [Rf.len]; omega) (by decide))
        refine TL.re (i := 33) (v' := .int .u64 (at_ (ents S 65536) i).2) rfl rfl ?_
        refine' TL.y rfl rfl rfl ?hy30 ?_
        case hy30 => exact Yl.assign rfl rfl
        refine' TL.y rfl rfl rfl ?hy31 ?_
        case hy31 => exact Yl.assign rfl rfl
        refine TL.nil ?_
        refine TE.next ?_
        refine TC.ret ?_
        refine TE.inRet ?_
        refine TE.thenRet ?_
        refine TE.thenRet ?_
        refine TE.inRet ?_
        refine TE.thenRet ?_
        refine TE.ret2 rfl rfl rfl ?_
        obtain ⟨p, x, h1, h2, h3, h4⟩ := at_ents (S := S) (n := 65536) hil
        exact fun w h => ⟨by rw [h4] at hs25 ⊢; rw [gt_some h1 h2 hs25]; rfl, h.below⟩
      · skip
        (try simp only [nrm] at hs25)
        refine TC.skip ?_
        refine TE.inNormal ?_
        refine TE.next ?_
        refine TC.region ?_
        refine' TL.y rfl rfl rfl ?hy32 ?_
        case hy32 => exact Yl.move rfl rfl
        refine' TL.y rfl rfl rfl ?hy33 ?_
        case hy33 => first | (refine Yl.val (Yl.bin rfl rfl rfl (Bin.add _ _ _ _)) (congrArg (Value.int .i64) (i64in ?_ ?_)) <;> omega) | exact Yl.bin rfl rfl rfl (Bin.add _ _ _ _)
        refine' TL.y rfl rfl rfl ?hy34 ?_
        case hy34 => exact Yl.assign rfl rfl
        refine TL.nil ?_
        refine TE.round (i + 1) ?hF35 ?hlt35 ?hs35 ?hm35
        case hF35 => exact ⟨by omega, fun j hj => by
          by_cases e : j = i
          · rw [e]; first | exact hs25 | omega
          · exact hF j (by omega)⟩
        case hlt35 => omega
        case hs35 => exact ⟨rfl, rfl, rfl, trivial⟩
        case hm35 => exact fun _ h => h
    · skip
      (try simp only [nrm] at hs13)
      refine TC.exit ?_
      refine TE.thenExit ?_
      refine TE.thenExit ?_
      refine TE.inHere ?_
      refine TE.next ?_
      refine TC.seq ?_
      refine TC.region ?_
      refine' TL.y rfl rfl rfl ?hy36 ?_
      case hy36 => exact Yl.assign rfl rfl
      refine' TL.y rfl rfl rfl ?hy37 ?_
      case hy37 => exact Yl.assign rfl rfl
      refine TL.nil ?_
      refine TE.next ?_
      refine TC.ret ?_
      refine TE.ret2 rfl rfl rfl ?_
      exact fun w h => ⟨by rw [gt_none (fun j hj => hF j (by omega))]; rfl, h.below⟩
def wr (S : Sf) (a t : Int) (i : Nat) : List Int := ((ents S 65536).take i |>.map (·.1)).filter (inW a t)
theorem wr_yes {S : Sf} {a t : Int} {i : Nat} (hi : i < rk S 65536) (h1 : a ≤ (at_ (ents S 65536) i).1) (h2 : (at_ (ents S 65536) i).1 < t) : wr S a t (i + 1) = wr S a t i ++ [(at_ (ents S 65536) i).1] := by
  unfold wr; rw [at_take hi, List.map_append, List.filter_append]; simp [inW, h1, h2]
theorem wr_no {S : Sf} {a t : Int} {i : Nat} (hi : i < rk S 65536) (h : (at_ (ents S 65536) i).1 < a ∨ t ≤ (at_ (ents S 65536) i).1) : wr S a t (i + 1) = wr S a t i := by
  unfold wr; rw [at_take hi, List.map_append, List.filter_append]
  have : inW a t (at_ (ents S 65536) i).1 = false := by unfold inW; rcases h with h | h <;> simp <;> omega
  simp [this]
theorem wr_all (S : Sf) (a t : Int) : wr S a t (rk S 65536) = walkL S a t := by unfold wr walkL pagesL; rw [show rk S 65536 = (ents S 65536).length from rfl, List.take_length]
theorem wr_len (S : Sf) (a t : Int) (i : Nat) : (wr S a t i).length ≤ i := by
  unfold wr
  refine Nat.le_trans (List.length_filter_le _ _) ?_
  rw [List.length_map, List.length_take]; omega
set_option maxRecDepth 100000 in
set_option maxHeartbeats 2000000 in
theorem k_rwalk (W : World) {b : Nat} {A : Option Addr} {c : Nat} {S : Sf} (hR : RfAt W b A c S) (a t : Int) : Calls Try.prog 51 #[.pointer (some ⟨b, 0, none⟩), .int .i64 a, .int .i64 t] W fun e w' => ∃ v : Value, e = .returned v ∧ (rowI v (walkL S a t)).holds w' ∧ Below W.heap.size W w' ∧ ∀ k, (rowI v (walkL S a t)).foot k → W.heap.size ≤ k := by
  have hM : Hp W (fun _ => False) [] W := Hp.start
  refine TC.enter (n := 52) Try.func51 rfl rfl rfl hM ?_
  refine TC.seq ?_
  refine TC.region ?_
  refine' TL.y rfl rfl rfl ?hy1 ?_
  case hy1 => exact Yl.assign rfl rfl
  refine TL.nil ?_
  refine TE.next ?_
  refine TC.seq ?_
  refine TC.region ?_
  refine' TL.y rfl rfl rfl ?hy2 ?_
  case hy2 => exact Yl.assign rfl rfl
  refine TL.nil ?_
  refine TE.next ?_
  refine TC.seq ?_
  refine TC.seq ?_
  refine TC.region ?_
  refine' TL.y rfl rfl rfl ?hy3 ?_
  case hy3 => exact Yl.assign rfl rfl
  refine TL.nil ?_
  refine TE.next ?_
  refine TC.block ?_
  refine TC.loop (σ := Nat × Value) (fun s => [(0, .pointer (some ⟨b, 0, none⟩)), (1, .int .i64 a), (2, .int .i64 t), (7, s.2), (8, .int .i64 (s.1 : Int))]) (fun s => Hp W (fun _ => False) [rowI s.2 (wr S a t s.1)]) (fun s => s.1 ≤ rk S 65536) (fun s => rk S 65536 - s.1) (0, .slice none 0 0) ?hF4 ?hs4 ?hm4 ?round4
  case hF4 => exact Nat.zero_le _
  case hs4 => exact ⟨rfl, rfl, rfl, rfl, rfl, trivial⟩
  case hm4 => exact fun w h => h.nil
  case round4 =>
    rintro ⟨i, v⟩ hi
    dsimp only at hi ⊢
    have hrl := rk_le S 65536
    have hwl := wr_len S a t i
    refine TC.seq ?_
    refine TC.seq ?_
    refine TC.region ?_
    refine' TL.y rfl rfl rfl ?hy5 ?_
    case hy5 => exact Yl.move rfl rfl
    refine' TL.y rfl rfl rfl ?hy6 ?_
    case hy6 => exact Yl.move rfl rfl
    refine' TL.y rfl rfl rfl ?hy7 ?_
    case hy7 => exact Yl.nilCheck rfl rfl
    refine' TL.y rfl rfl rfl ?hy8 ?_
    case hy8 => first | exact Yl.field0 (k := 0) 0 rfl rfl Try.underlying59 rfl (by kernel_rfl) rfl | exact Yl.field (k := 0) 0 rfl rfl Try.underlying59 rfl (by kernel_rfl) rfl
    refine' TL.y rfl rfl rfl ?hy9 ?_
    case hy9 => exact Yl.load rfl rfl (by kernel_rfl) (by first | exact Hp.oldB hR.blk rfl (fun h => h) | exact Hp.cell mem0 rfl | exact Hp.cell mem1 rfl | exact Hp.cell mem2 rfl | exact Hp.cell mem3 rfl | exact Hp.cell mem4 rfl | exact Hp.rowAt mem0 (by omega) rfl | exact Hp.rowAt mem1 (by omega) rfl | exact Hp.rowAt mem2 (by omega) rfl | exact Hp.rowAt mem3 (by omega) rfl | exact Hp.rowAt mem4 (by omega) rfl)
    refine' TL.y rfl rfl rfl ?hy10 ?_
    case hy10 => exact Yl.len rfl rfl Try.underlying57
    refine' TL.y rfl rfl rfl ?hy11 ?_
    case hy11 => exact Yl.bin rfl rfl rfl (Bin.lss _ _ _ _)
    refine TL.nil ?_
    refine TE.next ?_
    refine TC.cond rfl (fun hs15 => ?_) (fun hs15 => ?_)
    · skip
      (try simp only [nrm] at hs15)
      have hil : i < rk S 65536 := by omega
      obtain ⟨g, o, rfl⟩ := Sl.some2 hR.sl (by rw [Pw_length, Rf.len]; omega)
      refine TC.skip ?_
      refine TE.next ?_
      refine TC.seq ?_
      refine TC.block ?_
      refine TC.seq ?_
      refine TC.region ?_
      refine' TL.y rfl rfl rfl ?hy12 ?_
      case hy12 => exact Yl.move rfl rfl
      refine' TL.y rfl rfl rfl ?hy13 ?_
      case hy13 => exact Yl.nilCheck rfl rfl
      refine' TL.y rfl rfl rfl ?hy14 ?_
      case hy14 => first | exact Yl.field0 (k := 0) 0 rfl rfl Try.underlying59 rfl (by kernel_rfl) rfl | exact Yl.field (k := 0) 0 rfl rfl Try.underlying59 rfl (by kernel_rfl) rfl
      refine' TL.y rfl rfl rfl ?hy15 ?_
      case hy15 => exact Yl.load rfl rfl (by kernel_rfl) (by first | exact Hp.oldB hR.blk rfl (fun h => h) | exact Hp.cell mem0 rfl | exact Hp.cell mem1 rfl | exact Hp.cell mem2 rfl | exact Hp.cell mem3 rfl | exact Hp.cell mem4 rfl | exact Hp.rowAt mem0 (by omega) rfl | exact Hp.rowAt mem1 (by omega) rfl | exact Hp.rowAt mem2 (by omega) rfl | exact Hp.rowAt mem3 (by omega) rfl | exact Hp.rowAt mem4 (by omega) rfl)
      refine' TL.y rfl rfl rfl ?hy16 ?_
      case hy16 => exact Yl.move rfl rfl
      refine' TL.y rfl rfl rfl ?hy17 ?_
      case hy17 => first | exact Yl.ixkn (k := 2) rfl rfl rfl Try.underlying57 (by kernel_rfl) (by omega) | exact Yl.ixkz (k := 2) rfl rfl rfl Try.underlying57 (by kernel_rfl) (by omega) (by omega)
      refine' TL.y rfl rfl rfl ?hy18 ?_
      case hy18 => first | exact Yl.field0 (k := 0) 0 rfl rfl Try.underlying83 rfl (by kernel_rfl) rfl | exact Yl.field (k := 0) 0 rfl rfl Try.underlying83 rfl (by kernel_rfl) rfl
      refine' TL.y rfl rfl rfl ?hy19 ?_
      case hy19 => exact Yl.load rfl rfl (by kernel_rfl) (Sl.pw hR.sl (i := i) (j := 0) (by omega) (by rw [Rf.len]; omega) (by decide))
      refine TL.re (i := 25) (v' := .int .i64 (at_ (ents S 65536) i).1) rfl rfl ?_
      refine' TL.y rfl rfl rfl ?hy20 ?_
      case hy20 => exact Yl.move rfl rfl
      refine' TL.y rfl rfl rfl ?hy21 ?_
      case hy21 => exact Yl.bin rfl rfl rfl (Bin.geq _ _ _ _)
      refine' TL.y rfl rfl rfl ?hy22 ?_
      case hy22 => exact Yl.move rfl rfl
      refine TL.split (i := 28) rfl (fun hs28 => ?_) (fun hs28 => ?_)
      · skip
        (try simp only [nrm] at hs28)
        refine' TL.y rfl rfl rfl ?hy23 ?_
        case hy23 => exact Yl.move rfl rfl
        refine' TL.y rfl rfl rfl ?hy24 ?_
        case hy24 => exact Yl.nilCheck rfl rfl
        refine' TL.y rfl rfl rfl ?hy25 ?_
        case hy25 => first | exact Yl.field0 (k := 0) 0 rfl rfl Try.underlying59 rfl (by kernel_rfl) rfl | exact Yl.field (k := 0) 0 rfl rfl Try.underlying59 rfl (by kernel_rfl) rfl
        refine' TL.y rfl rfl rfl ?hy26 ?_
        case hy26 => exact Yl.load rfl rfl (by kernel_rfl) (by first | exact Hp.oldB hR.blk rfl (fun h => h) | exact Hp.cell mem0 rfl | exact Hp.cell mem1 rfl | exact Hp.cell mem2 rfl | exact Hp.cell mem3 rfl | exact Hp.cell mem4 rfl | exact Hp.rowAt mem0 (by omega) rfl | exact Hp.rowAt mem1 (by omega) rfl | exact Hp.rowAt mem2 (by omega) rfl | exact Hp.rowAt mem3 (by omega) rfl | exact Hp.rowAt mem4 (by omega) rfl)
        refine' TL.y rfl rfl rfl ?hy27 ?_
        case hy27 => exact Yl.move rfl rfl
        refine' TL.y rfl rfl rfl ?hy28 ?_
        case hy28 => first | exact Yl.ixkn (k := 2) rfl rfl rfl Try.underlying57 (by kernel_rfl) (by omega) | exact Yl.ixkz (k := 2) rfl rfl rfl Try.underlying57 (by kernel_rfl) (by omega) (by omega)
        refine' TL.y rfl rfl rfl ?hy29 ?_
        case hy29 => first | exact Yl.field0 (k := 0) 0 rfl rfl Try.underlying83 rfl (by kernel_rfl) rfl | exact Yl.field (k := 0) 0 rfl rfl Try.underlying83 rfl (by kernel_rfl) rfl
        refine' TL.y rfl rfl rfl ?hy30 ?_
        case hy30 => exact Yl.load rfl rfl (by kernel_rfl) (Sl.pw hR.sl (i := i) (j := 0) (by omega) (by rw [Rf.len]; omega) (by decide))
        refine TL.re (i := 36) (v' := .int .i64 (at_ (ents S 65536) i).1) rfl rfl ?_
        refine' TL.y rfl rfl rfl ?hy31 ?_
        case hy31 => exact Yl.move rfl rfl
        refine' TL.y rfl rfl rfl ?hy32 ?_
        case hy32 => exact Yl.bin rfl rfl rfl (Bin.lss _ _ _ _)
        refine' TL.y rfl rfl rfl ?hy33 ?_
        case hy33 => exact Yl.pickT rfl rfl rfl
        refine TL.nil ?_
        refine TE.next ?_
        refine TC.cond rfl (fun hs39 => ?_) (fun hs39 => ?_)
        · skip
          (try simp only [nrm] at hs39)
          refine TC.region ?_
          refine' TL.y rfl rfl rfl ?hy34 ?_
          case hy34 => exact Yl.move rfl rfl
          refine' TL.y rfl rfl rfl ?hy35 ?_
          case hy35 => exact Yl.move rfl rfl
          refine' TL.y rfl rfl rfl ?hy36 ?_
          case hy36 => exact Yl.nilCheck rfl rfl
          refine' TL.y rfl rfl rfl ?hy37 ?_
          case hy37 => first | exact Yl.field0 (k := 0) 0 rfl rfl Try.underlying59 rfl (by kernel_rfl) rfl | exact Yl.field (k := 0) 0 rfl rfl Try.underlying59 rfl (by kernel_rfl) rfl
          refine' TL.y rfl rfl rfl ?hy38 ?_
          case hy38 => exact Yl.load rfl rfl (by kernel_rfl) (by first | exact Hp.oldB hR.blk rfl (fun h => h) | exact Hp.cell mem0 rfl | exact Hp.cell mem1 rfl | exact Hp.cell mem2 rfl | exact Hp.cell mem3 rfl | exact Hp.cell mem4 rfl | exact Hp.rowAt mem0 (by omega) rfl | exact Hp.rowAt mem1 (by omega) rfl | exact Hp.rowAt mem2 (by omega) rfl | exact Hp.rowAt mem3 (by omega) rfl | exact Hp.rowAt mem4 (by omega) rfl)
          refine' TL.y rfl rfl rfl ?hy39 ?_
          case hy39 => exact Yl.move rfl rfl
          refine' TL.y rfl rfl rfl ?hy40 ?_
          case hy40 => first | exact Yl.ixkn (k := 2) rfl rfl rfl Try.underlying57 (by kernel_rfl) (by omega) | exact Yl.ixkz (k := 2) rfl rfl rfl Try.underlying57 (by kernel_rfl) (by omega) (by omega)
          refine' TL.y rfl rfl rfl ?hy41 ?_
          case hy41 => first | exact Yl.field0 (k := 0) 0 rfl rfl Try.underlying83 rfl (by kernel_rfl) rfl | exact Yl.field (k := 0) 0 rfl rfl Try.underlying83 rfl (by kernel_rfl) rfl
          refine' TL.y rfl rfl rfl ?hy42 ?_
          case hy42 => exact Yl.load rfl rfl (by kernel_rfl) (Sl.pw hR.sl (i := i) (j := 0) (by omega) (by rw [Rf.len]; omega) (by decide))
          refine TL.re (i := 48) (v' := .int .i64 (at_ (ents S 65536) i).1) rfl rfl ?_
          refine' TL.mx rfl rfl rfl ?hy43 ?_
          case hy43 => exact Ym.buildSlice (cells := #[.int .i64 (at_ (ents S 65536) i).1]) (z := .int .i64 0) (size := 1) #[.int .i64 0] rfl Try.underlying36 (by kernel_rfl) (by decide) (by decide) (by kernel_rfl) rfl rfl
          intro b49
          refine' TL.mx rfl rfl rfl ?hy44 ?_
          case hy44 => exact Ym.append (news := [.int .i64 (at_ (ents S 65536) i).1]) (m := (wr S a t i).length) (xs := Iw (wr S a t i)) rfl Try.underlying36 (by kernel_rfl) (z := .int .i64 0) (size := 1) (bytes := 8) rfl (by decide) (by decide) rfl rfl rfl (Hp.cells mem0 (fun j v hj => by simpa using hj)) (by simp [Value.oneCell']) (by omega) (fun v' => foc1)
          intro v50
          refine' TL.y rfl rfl rfl ?hy45 ?_
          case hy45 => exact Yl.assign rfl rfl
          refine TL.nil ?_
          refine TE.inNormal ?_
          refine TE.next ?_
          refine TC.region ?_
          refine' TL.y rfl rfl rfl ?hy46 ?_
          case hy46 => exact Yl.move rfl rfl
          refine' TL.y rfl rfl rfl ?hy47 ?_
          case hy47 => first | (refine Yl.val (Yl.bin rfl rfl rfl (Bin.add _ _ _ _)) (congrArg (Value.int .i64) (i64in ?_ ?_)) <;> omega) | exact Yl.bin rfl rfl rfl (Bin.add _ _ _ _)
          refine' TL.y rfl rfl rfl ?hy48 ?_
          case hy48 => exact Yl.assign rfl rfl
          refine TL.nil ?_
          refine TE.round (i + 1, v50) ?hF49 ?hlt49 ?hs49 ?hm49
          case hF49 => dsimp only; omega
          case hlt49 => dsimp only; omega
          case hs49 => exact ⟨rfl, rfl, rfl, rfl, rfl, trivial⟩
          case hm49 => exact (fun w h => by
            dsimp only
            rw [wr_yes hil (by omega) (by omega), ← rowI_snoc]
            exact h.sub (List.sublist_cons_self _ _))
        · skip
          (try simp only [nrm] at hs39)
          refine TC.skip ?_
          refine TE.inNormal ?_
          refine TE.next ?_
          refine TC.region ?_
          refine' TL.y rfl rfl rfl ?hy50 ?_
          case hy50 => exact Yl.move rfl rfl
          refine' TL.y rfl rfl rfl ?hy51 ?_
          case hy51 => first | (refine Yl.val (Yl.bin rfl rfl rfl (Bin.add _ _ _ _)) (congrArg (Value.int .i64) (i64in ?_ ?_)) <;> omega) | exact Yl.bin rfl rfl rfl (Bin.add _ _ _ _)
          refine' TL.y rfl rfl rfl ?hy52 ?_
          case hy52 => exact Yl.assign rfl rfl
          refine TL.nil ?_
          refine TE.round (i + 1, v) ?hF53 ?hlt53 ?hs53 ?hm53
          case hF53 => dsimp only; omega
          case hlt53 => dsimp only; omega
          case hs53 => exact ⟨rfl, rfl, rfl, rfl, rfl, trivial⟩
          case hm53 => exact fun w h => by dsimp only; rw [wr_no hil (by omega)]; exact h
      · skip
        (try simp only [nrm] at hs28)
        refine TL.skip rfl rfl rfl ?_
        refine TL.skip rfl rfl rfl ?_
        refine TL.skip rfl rfl rfl ?_
        refine TL.skip rfl rfl rfl ?_
        refine TL.skip rfl rfl rfl ?_
        refine TL.skip rfl rfl rfl ?_
        refine TL.skip rfl rfl rfl ?_
        refine TL.skip rfl rfl rfl ?_
        refine TL.skip rfl rfl rfl ?_
        refine TL.skip rfl rfl rfl ?_
        refine' TL.y rfl rfl rfl ?hy54 ?_
        case hy54 => exact Yl.pickF rfl rfl rfl
        refine TL.nil ?_
        refine TE.next ?_
        refine TC.no rfl rfl ?_
        refine TC.skip ?_
        refine TE.inNormal ?_
        refine TE.next ?_
        refine TC.region ?_
        refine' TL.y rfl rfl rfl ?hy55 ?_
        case hy55 => exact Yl.move rfl rfl
        refine' TL.y rfl rfl rfl ?hy56 ?_
        case hy56 => first | (refine Yl.val (Yl.bin rfl rfl rfl (Bin.add _ _ _ _)) (congrArg (Value.int .i64) (i64in ?_ ?_)) <;> omega) | exact Yl.bin rfl rfl rfl (Bin.add _ _ _ _)
        refine' TL.y rfl rfl rfl ?hy57 ?_
        case hy57 => exact Yl.assign rfl rfl
        refine TL.nil ?_
        refine TE.round (i + 1, v) ?hF58 ?hlt58 ?hs58 ?hm58
        case hF58 => dsimp only; omega
        case hlt58 => dsimp only; omega
        case hs58 => exact ⟨rfl, rfl, rfl, rfl, rfl, trivial⟩
        case hm58 => exact fun w h => by dsimp only; rw [wr_no hil (by omega)]; exact h
    · skip
      (try simp only [nrm] at hs15)
      refine TC.exit ?_
      refine TE.thenExit ?_
      refine TE.thenExit ?_
      refine TE.inHere ?_
      refine TE.next ?_
      refine TC.seq ?_
      refine TC.region ?_
      refine' TL.y rfl rfl rfl ?hy59 ?_
      case hy59 => exact Yl.move rfl rfl
      refine' TL.y rfl rfl rfl ?hy60 ?_
      case hy60 => exact Yl.assign rfl rfl
      refine TL.nil ?_
      refine TE.next ?_
      refine TC.ret ?_
      refine TE.ret1 rfl rfl ?_
      obtain rfl : i = rk S 65536 := by omega
      exact fun w h => ⟨v, rfl, by rw [← wr_all]; exact h.leaveNew⟩

end Go.Proofs.Ytabjdjkkpbkpfaa.Pk
