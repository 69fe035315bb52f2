/- Spaces: the example; acts that came in. -/
import Derived.Test.YtabjdjkkpbkpfaaSpG
import Derived.Test.YtabjdjkkpbkpfaaSpX
import Derived.Test.YtabjdjkkpbkpfaaProg
import Derived.RowKit3
namespace Go.Proofs.Ytabjdjkkpbkpfaa.Pk
open Go Go.RowKit Go.Proofs.Ytabjdjkkpbkpfaa.HL Go.Proofs.Ytabjdjkkpbkpfaa.Ev Go.Proofs.YtabjdjkkpbkpfaaW.PrintWords Go.Proofs.RgP Go.Proofs.RxP Go.Proofs.Ytabjdjkkpbkpfaa.BM
set_option linter.unusedVariables false
set_option linter.unusedSimpArgs false
/-! ### A row of acts -/
structure A18 where
  k : Int
  x : S25
  e : En
  a : Int
  b : Int
def zA : A18 := ⟨0, z25, zEn, 0, 0⟩
def cellsA (y : A18) : List Value := [.int .i64 (y).k, .int .i64 (y).x.f0, .int .i64 (y).x.f1, .int .i64 (y).x.f2, .int .i64 (y).x.f3, .int .i64 (y).x.f4, .bool (y).x.f5, .int .i64 (y).e.k, .int .i64 (y).e.pg, .bool (y).e.w, .bool (y).e.t, .int .i64 (y).a, .int .i64 (y).b]
def fA (y : A18) : Nat → Value
  | 0 => .int .i64 (y).k
  | 1 => .int .i64 (y).x.f0
  | 2 => .int .i64 (y).x.f1
  | 3 => .int .i64 (y).x.f2
  | 4 => .int .i64 (y).x.f3
  | 5 => .int .i64 (y).x.f4
  | 6 => .bool (y).x.f5
  | 7 => .int .i64 (y).e.k
  | 8 => .int .i64 (y).e.pg
  | 9 => .bool (y).e.w
  | 10 => .bool (y).e.t
  | 11 => .int .i64 (y).a
  | _ => .int .i64 (y).b
def atA (l : List A18) (i : Nat) : A18 := (l[i]?).getD zA
theorem atA_get {l : List A18} {i : Nat} (h : i < l.length) : l[i]? = some (atA l i) := by unfold atA; rw [List.getElem?_eq_getElem h]; rfl
theorem cA_get (y : A18) {j : Nat} (h : j < 13) : (cellsA y)[j]? = some (fA y j) := by
  rcases (by omega : j = 0 ∨ j = 1 ∨ j = 2 ∨ j = 3 ∨ j = 4 ∨ j = 5 ∨ j = 6 ∨ j = 7 ∨ j = 8 ∨ j = 9 ∨ j = 10 ∨ j = 11 ∨ j = 12) with rfl | rfl | rfl | rfl | rfl | rfl | rfl | rfl | rfl | rfl | rfl | rfl | rfl <;> rfl
def Aw (l : List A18) : List Value := l.flatMap cellsA
theorem Aw_cons (y : A18) (l : List A18) : Aw (y :: l) = cellsA y ++ Aw l := rfl
theorem Aw_length : ∀ l, (Aw l).length = l.length * 13
  | [] => rfl
  | y :: l => by rw [Aw_cons, List.length_append, Aw_length l]; simp [cellsA]; omega
theorem Aw_get : ∀ (l : List A18) (i j : Nat), i < l.length → j < 13 → (Aw l)[i * 13 + j]? = some (fA (atA l i) j)
  | [], i, j, h, _ => by simp at h
  | y :: l, 0, j, h, hj => by
    rw [Aw_cons, List.getElem?_append_left (by simp [cellsA]; omega), Nat.zero_mul, Nat.zero_add]
    exact cA_get y hj
  | y :: l, i + 1, j, h, hj => by
    have hl : (cellsA y).length = 13 := rfl
    rw [Aw_cons, List.getElem?_append_right (by omega), hl, show (i + 1) * 13 + j - 13 = i * 13 + j by omega, Aw_get l i j (by simpa using h) hj]
    rfl
section
variable {W0 : World} {H : List Res}
theorem Sl.aw {b c i q : Nat} {j : Nat} {l : List A18} (hs : Sl W0 (.some ⟨b, c, none⟩) (Aw l)) (hq : c + i * 13 + j = q) (hi : i < l.length) (hj : j < 13) : ∀ w, Hp W0 (fun _ => False) H w → w.cell? ⟨b, q, none⟩ = .some (fA (atA l i) j) := Sl.cellAt hs (Aw_get l i j hi hj) (fun _ h => h) (by omega)
end
attribute [local irreducible] Rw atG ents Iw Aw
set_option maxRecDepth 100000 in
set_option maxHeartbeats 2000000 in
theorem k_rowV (W : World) {m m2 : Nat} {u v : Nat → Int} {A B : Option Addr} {cp cq : Nat} (hS : Sl W A (Vw m u)) (hS2 : Sl W B (Vw m2 v)) (hm : m ≤ 9223372036854775807) : Calls Try.prog 24 #[.slice A m cp, .slice B m2 cq] W fun e w' => e = .returned (.bool (decide (m = m2 ∧ ∀ j, j < m → u j = v j))) ∧ Below W.heap.size W w' := by
  have hM : Hp W (fun _ => False) [] W := Hp.start
  refine TC.enter (n := 26) Try.func24 rfl rfl rfl hM ?_
  refine TC.seq ?_
  refine TC.region ?_
  refine' TL.y rfl rfl rfl ?hy1 ?_
  case hy1 => exact Yl.assign rfl rfl
  refine TL.nil ?_
  refine TE.next ?_
  refine TC.seq ?_
  refine TC.seq ?_
  refine TC.region ?_
  refine' TL.y rfl rfl rfl ?hy2 ?_
  case hy2 => exact Yl.move rfl rfl
  refine' TL.y rfl rfl rfl ?hy3 ?_
  case hy3 => exact Yl.len rfl rfl Try.underlying36
  refine' TL.y rfl rfl rfl ?hy4 ?_
  case hy4 => exact Yl.move rfl rfl
  refine' TL.y rfl rfl rfl ?hy5 ?_
  case hy5 => exact Yl.len rfl rfl Try.underlying36
  refine' TL.y rfl rfl rfl ?hy6 ?_
  case hy6 => exact Yl.bin rfl rfl rfl (Bin.neq _ _ _ _)
  refine TL.nil ?_
  refine TE.next ?_
  refine TC.cond rfl (fun hs10 => ?_) (fun hs10 => ?_)
  · skip
    (try simp only [nrm] at hs10)
    refine TC.seq ?_
    refine TC.region ?_
    refine' TL.y rfl rfl rfl ?hy7 ?_
    case hy7 => exact Yl.assign rfl rfl
    refine TL.nil ?_
    refine TE.next ?_
    refine TC.ret ?_
    refine TE.thenRet ?_
    refine TE.ret1 rfl rfl ?_
    exact fun w h => ⟨by rw [decide_eq_false (fun e => by omega)], h.below⟩
  · skip
    (try simp only [nrm] at hs10)
    obtain rfl : m = m2 := by omega
    refine TC.skip ?_
    refine TE.next ?_
    refine TC.seq ?_
    refine TC.seq ?_
    refine TC.region ?_
    refine' TL.y rfl rfl rfl ?hy8 ?_
    case hy8 => exact Yl.assign rfl rfl
    refine TL.nil ?_
    refine TE.next ?_
    refine TC.block ?_
    refine TC.loop (σ := Nat) (fun i => [(0, .slice A m cp), (1, .slice B m cq), (5, .int .i64 (i : Int))]) (fun i => Hp W (fun _ => False) []) (fun i => i ≤ m ∧ ∀ j, j < i → u j = v j) (fun i => m - i) 0 ?hF9 ?hs9 ?hm9 ?round9
    case hF9 => exact ⟨Nat.zero_le _, fun j hj => by omega⟩
    case hs9 => exact ⟨rfl, rfl, rfl, trivial⟩
    case hm9 => exact fun _ h => h
    case round9 =>
      rintro i ⟨hi, hF⟩
      refine TC.seq ?_
      refine TC.seq ?_
      refine TC.region ?_
      refine' TL.y rfl rfl rfl ?hy10 ?_
      case hy10 => exact Yl.move rfl rfl
      refine' TL.y rfl rfl rfl ?hy11 ?_
      case hy11 => exact Yl.move rfl rfl
      refine' TL.y rfl rfl rfl ?hy12 ?_
      case hy12 => exact Yl.len rfl rfl Try.underlying36
      refine' TL.y rfl rfl rfl ?hy13 ?_
      case hy13 => exact Yl.bin rfl rfl rfl (Bin.lss _ _ _ _)
      refine TL.nil ?_
      refine TE.next ?_
      refine TC.cond rfl (fun hs14 => ?_) (fun hs14 => ?_)
      · skip
        (try simp only [nrm] at hs14)
        obtain ⟨b, o, rfl⟩ := Sl.some2 hS (by rw [Vw_length]; omega)
        obtain ⟨b2, o2, rfl⟩ := Sl.some2 hS2 (by rw [Vw_length]; omega)
        refine TC.skip ?_
        refine TE.next ?_
        refine TC.seq ?_
        refine TC.block ?_
        refine TC.seq ?_
        refine TC.draw (k := 9) _ [] #[false, false, false, false, false, false, false, false, false] (by kernel_rfl) rfl rfl (fun _ h => h.drew) (fun _ h => h) ?_
        refine' TA.y (i := 0) #[true, false, false, false, false, false, false, false, false] rfl rfl rfl (by kernel_rfl) (fun _ _ _ h => h) (fun _ h => by exact Hp.sub h (by repeat (first | exact sR _ | apply sC))) rfl ?hy14 ?_
        case hy14 => exact Yl.move rfl rfl
        refine' TA.y (i := 1) #[true, true, false, false, false, false, false, false, false] rfl rfl rfl (by kernel_rfl) (fun _ _ _ h => h) (fun _ h => by exact Hp.sub h (by repeat (first | exact sR _ | apply sC))) rfl ?hy15 ?_
        case hy15 => exact Yl.move rfl rfl
        refine' TA.y (i := 2) #[true, true, true, false, false, false, false, false, false] rfl rfl rfl (by kernel_rfl) (fun _ _ _ h => h) (fun _ h => by exact Hp.sub h (by repeat (first | exact sR _ | apply sC))) rfl ?hy16 ?_
        case hy16 => first | exact Yl.ixn rfl rfl rfl Try.underlying36 (by kernel_rfl) (by omega) | exact Yl.ixz rfl rfl rfl Try.underlying36 (by kernel_rfl) (by omega) (by omega) | exact Yl.ixcn rfl rfl rfl Try.underlying36 (by kernel_rfl) (by omega) | exact Yl.ixcz rfl rfl rfl Try.underlying36 (by kernel_rfl) (by omega) (by omega)
        refine' TA.y (i := 3) #[true, true, true, true, false, false, false, false, false] rfl rfl rfl (by kernel_rfl) (fun _ _ _ h => h) (fun _ h => by exact Hp.sub h (by repeat (first | exact sR _ | apply sC))) rfl ?hy17 ?_
        case hy17 => exact Yl.load rfl rfl (by kernel_rfl) (by first | exact Sl.vw hS rfl (by omega) (fun _ h => h) | exact Sl.vw hS2 rfl (by omega) (fun _ h => h) | exact Hp.cell mem0 rfl | exact Hp.cell mem1 rfl | exact Hp.cell mem2 rfl | exact Hp.cell mem3 rfl | exact Hp.cell mem4 rfl | exact Hp.rowAt mem0 (by omega) rfl | exact Hp.rowAt mem1 (by omega) rfl | exact Hp.rowAt mem2 (by omega) rfl | exact Hp.rowAt mem3 (by omega) rfl | exact Hp.rowAt mem4 (by omega) rfl)
        refine' TA.y (i := 4) #[true, true, true, true, true, false, false, false, false] rfl rfl rfl (by kernel_rfl) (fun _ _ _ h => h) (fun _ h => by exact Hp.sub h (by repeat (first | exact sR _ | apply sC))) rfl ?hy18 ?_
        case hy18 => exact Yl.move rfl rfl
        refine' TA.y (i := 5) #[true, true, true, true, true, true, false, false, false] rfl rfl rfl (by kernel_rfl) (fun _ _ _ h => h) (fun _ h => by exact Hp.sub h (by repeat (first | exact sR _ | apply sC))) rfl ?hy19 ?_
        case hy19 => exact Yl.move rfl rfl
        refine' TA.y (i := 6) #[true, true, true, true, true, true, true, false, false] rfl rfl rfl (by kernel_rfl) (fun _ _ _ h => h) (fun _ h => by exact Hp.sub h (by repeat (first | exact sR _ | apply sC))) rfl ?hy20 ?_
        case hy20 => first | exact Yl.ixn rfl rfl rfl Try.underlying36 (by kernel_rfl) (by omega) | exact Yl.ixz rfl rfl rfl Try.underlying36 (by kernel_rfl) (by omega) (by omega) | exact Yl.ixcn rfl rfl rfl Try.underlying36 (by kernel_rfl) (by omega) | exact Yl.ixcz rfl rfl rfl Try.underlying36 (by kernel_rfl) (by omega) (by omega)
        refine' TA.y (i := 7) #[true, true, true, true, true, true, true, true, false] rfl rfl rfl (by kernel_rfl) (fun _ _ _ h => h) (fun _ h => by exact Hp.sub h (by repeat (first | exact sR _ | apply sC))) rfl ?hy21 ?_
        case hy21 => exact Yl.load rfl rfl (by kernel_rfl) (by first | exact Sl.vw hS rfl (by omega) (fun _ h => h) | exact Sl.vw hS2 rfl (by omega) (fun _ h => h) | exact Hp.cell mem0 rfl | exact Hp.cell mem1 rfl | exact Hp.cell mem2 rfl | exact Hp.cell mem3 rfl | exact Hp.cell mem4 rfl | exact Hp.rowAt mem0 (by omega) rfl | exact Hp.rowAt mem1 (by omega) rfl | exact Hp.rowAt mem2 (by omega) rfl | exact Hp.rowAt mem3 (by omega) rfl | exact Hp.rowAt mem4 (by omega) rfl)
        refine' TA.y (i := 8) #[true, true, true, true, true, true, true, true, true] rfl rfl rfl (by kernel_rfl) (fun _ _ _ h => h) (fun _ h => by exact Hp.sub h (by repeat (first | exact sR _ | apply sC))) rfl ?hy22 ?_
        case hy22 => exact Yl.bin rfl rfl rfl (Bin.neq _ _ _ _)
        refine TA.done (by kernel_rfl) ?_
        refine TE.next ?_
        refine TC.cond rfl (fun hs25 => ?_) (fun hs25 => ?_)
        · skip
          (try simp only [nrm] at hs25)
          refine TC.seq ?_
          refine TC.region ?_
          refine' TL.y rfl rfl rfl ?hy23 ?_
          case hy23 => exact Yl.assign rfl rfl
          refine TL.nil ?_
          refine TE.next ?_
          refine TC.ret ?_
          refine TE.inRet ?_
          refine TE.thenRet ?_
          refine TE.thenRet ?_
          refine TE.inRet ?_
          refine TE.thenRet ?_
          refine TE.ret1 rfl rfl ?_
          exact fun w h => ⟨by rw [decide_eq_false (fun e => hs25 (e.2 i (by omega)))], h.below⟩
        · skip
          (try simp only [nrm] at hs25)
          refine TC.skip ?_
          refine TE.inNormal ?_
          refine TE.next ?_
          refine TC.region ?_
          refine' TL.y rfl rfl rfl ?hy24 ?_
          case hy24 => exact Yl.move rfl rfl
          refine' TL.y rfl rfl rfl ?hy25 ?_
          case hy25 => first | (refine Yl.val (Yl.bin rfl rfl rfl (Bin.add _ _ _ _)) (congrArg (Value.int .i64) (i64in ?_ ?_)) <;> omega) | exact Yl.bin rfl rfl rfl (Bin.add _ _ _ _)
          refine' TL.y rfl rfl rfl ?hy26 ?_
          case hy26 => exact Yl.assign rfl rfl
          refine TL.nil ?_
          refine TE.round (i + 1) ?hF27 ?hlt27 ?hs27 ?hm27
          case hF27 => exact ⟨by omega, fun j hj => by
            by_cases e : j = i
            · rw [e]; omega
            · exact hF j (by omega)⟩
          case hlt27 => omega
          case hs27 => exact ⟨rfl, rfl, rfl, trivial⟩
          case hm27 => exact fun _ h => h
      · skip
        (try simp only [nrm] at hs14)
        refine TC.exit ?_
        refine TE.thenExit ?_
        refine TE.thenExit ?_
        refine TE.inHere ?_
        refine TE.next ?_
        refine TC.seq ?_
        refine TC.region ?_
        refine' TL.y rfl rfl rfl ?hy28 ?_
        case hy28 => exact Yl.assign rfl rfl
        refine TL.nil ?_
        refine TE.next ?_
        refine TC.ret ?_
        refine TE.ret1 rfl rfl ?_
        exact fun w h => ⟨by rw [decide_eq_true ⟨rfl, fun j hj => hF j (by omega)⟩], h.below⟩
section
attribute [local semireducible] Iw
theorem Iw_v (l : List Int) : Iw l = Vw l.length (fun j => l.getD j 0) := Vw_of l
end
theorem k_rowL (W : World) {l l2 : List Int} {A B : Option Addr} {cp cq : Nat} (hS : Sl W A (Iw l)) (hS2 : Sl W B (Iw l2)) (hm : l.length ≤ 9223372036854775807) : Calls Go.Proofs.Try.prog 24 #[.slice A l.length cp, .slice B l2.length cq] W fun e w' => e = .returned (.bool (decide (l = l2))) ∧ Below W.heap.size W w' := by
  rw [Iw_v] at hS hS2
  have h := k_rowV W hS hS2 hm (cp := cp) (cq := cq)
  have e : decide (l.length = l2.length ∧ ∀ j, j < l.length → l.getD j 0 = l2.getD j 0) = decide (l = l2) := by
    apply decide_eq_decide.2
    constructor
    · rintro ⟨h1, h2⟩
      apply List.ext_getElem h1
      intro j h3 h4
      have := h2 j h3
      simpa [List.getD_eq_getElem?_getD, h3, h4] using this
    · rintro rfl; exact ⟨rfl, fun _ _ => rfl⟩
  rw [e] at h
  exact h
theorem sz_w : sizeS (srest (stouch u2 3)) = 1 := by rw [size_rest, size_touch, size_w]
theorem sz5_w : sizeS (scut (srest (stouch u2 3)) 2 5) = 0 := by have := cut_size (srest (stouch u2 3)) 2 5; rw [ids_w, sz_w, List.length_singleton] at this; omega
theorem reg5_w : (scut (srest (stouch u2 3)) 2 5).G = [partS y0 0 2, partS y0 5 9] := reg_w
set_option maxRecDepth 100000 in
set_option maxHeartbeats 2000000 in
theorem k_works (W : World) : Calls Try.prog 9 #[] W fun e w' => e = .returned (.bool true) ∧ Below W.heap.size W w' := by
  have hM : Hp W (fun _ => False) [] W := Hp.start
  refine TC.enter (n := 91) Try.func9 rfl rfl rfl hM ?_
  refine TC.seq ?_
  refine TC.region ?_
  refine' TL.y rfl rfl rfl ?hy1 ?_
  case hy1 => exact Yl.assign rfl rfl
  refine TL.nil ?_
  refine TE.next ?_
  refine TC.seq ?_
  refine TC.region ?_
  refine' TL.c rfl rfl rfl ?hy2 ?_
  case hy2 => exact Yc.call rfl Try.func10 (by kernel_rfl) rfl rfl (Hp.news (fun w h => k_snew w))
  intro ⟨x1, hx1⟩
  dsimp only
  refine' TL.y rfl rfl rfl ?hy3 ?_
  case hy3 => exact Yl.assign rfl rfl
  refine TL.nil ?_
  refine TE.next ?_
  refine TC.seq ?_
  refine TC.seq ?_
  refine TC.region ?_
  refine' TL.y rfl rfl rfl ?hy4 ?_
  case hy4 => exact Yl.move rfl rfl
  refine' TL.y rfl rfl rfl ?hy5 ?_
  case hy5 => exact Yl.bin rfl rfl rfl (Bin.eqlP _ _ _ Try.underlying24)
  refine TL.nil ?_
  refine TE.next ?_
  refine TC.no rfl (rfl) ?_
  refine TC.skip ?_
  refine TE.next ?_
  refine TC.seq ?_
  refine TC.region ?_
  refine' TL.y rfl rfl rfl ?hy6 ?_
  case hy6 => exact Yl.move rfl rfl
  refine' TL.y rfl rfl rfl ?hy7 ?_
  case hy7 => exact Yl.build (z := .agg #[.int .i64 0, .int .i64 0, .int .i64 0, .int .i64 0, .int .i64 0, .bool false]) [(0, 1), (1, 1), (2, 1), (3, 1), (4, 1), (5, 1)] rfl (by kernel_rfl) Try.underlying28 (by kernel_rfl) rfl rfl
  refine' TL.c rfl rfl rfl ?hy8 ?_
  case hy8 => exact Yc.call rfl Try.func11 (by kernel_rfl) rfl rfl (Hp.turnx mem0 (fun s => foc0) (k_smap hx1 y0))
  intro ⟨x2, hx2⟩
  dsimp only
  rw [map_w] at hx2
  rw [map_w, addL_w]
  refine' TL.y rfl rfl rfl ?hy9 ?_
  case hy9 => exact Yl.assign rfl rfl
  refine TL.nil ?_
  refine TE.next ?_
  refine TC.seq ?_
  refine TC.region ?_
  refine' TL.y rfl rfl rfl ?hy10 ?_
  case hy10 => exact Yl.move rfl rfl
  refine' TL.y rfl rfl rfl ?hy11 ?_
  case hy11 => exact Yl.build (z := .agg #[.int .i64 0, .int .i64 0, .bool false, .bool false]) [(0, 1), (1, 1), (2, 1), (3, 1)] rfl (by kernel_rfl) Try.underlying30 (by kernel_rfl) rfl rfl
  refine' TL.c rfl rfl rfl ?hy12 ?_
  case hy12 => exact Yc.call rfl Try.func12 (by kernel_rfl) rfl rfl (Hp.turnx mem0 (fun s => foc0) (k_sset hx2 3 e0 (by unfold wfI; decide)))
  intro ⟨x3, hx3⟩
  dsimp only
  rw [set_w] at hx3
  rw [set_w]
  dsimp only at hx3 ⊢
  refine' TL.y rfl rfl rfl ?hy13 ?_
  case hy13 => exact Yl.assign rfl rfl
  refine TL.nil ?_
  refine TE.next ?_
  refine TC.seq ?_
  refine TC.region ?_
  refine' TL.y rfl rfl rfl ?hy14 ?_
  case hy14 => exact Yl.move rfl rfl
  refine' TL.c rfl rfl rfl ?hy15 ?_
  case hy15 => exact Yc.call rfl Try.func14 (by kernel_rfl) rfl rfl (Hp.calls (fun w h => k_sentry w (h.all _ mem0) hx3 3))
  intro _
  rw [get_w]
  dsimp only [Option.getD_some, Option.isSome_some]
  refine' TL.y rfl rfl rfl ?hy16 ?_
  case hy16 => exact Yl.move rfl rfl
  refine' TL.y rfl rfl rfl ?hy17 ?_
  case hy17 => exact Yl.extract rfl rfl rfl
  refine' TL.y rfl rfl rfl ?hy18 ?_
  case hy18 => exact Yl.extract rfl rfl rfl
  refine' TL.mx rfl rfl rfl ?hy19 ?_
  case hy19 => exact Ym.alloc (z := .agg #[.int .i64 0, .int .i64 0, .bool false, .bool false]) rfl (by kernel_rfl)
  intro b4
  refine' TL.s rfl rfl ?hy20 ?_
  case hy20 => exact Ys.store (seg := [.int .i64 (e0).k, .int .i64 (e0).pg, .bool (e0).w, .bool (e0).t]) (c' := #[.int .i64 (e0).k, .int .i64 (e0).pg, .bool (e0).w, .bool (e0).t]) rfl rfl rfl (by simp [Value.cells]) (by kernel_rfl) (by simp [Value.oneCell']) foc0 (by simp [Value.cells]) rfl
  refine' TL.y rfl rfl rfl ?hy21 ?_
  case hy21 => exact Yl.assign rfl rfl
  refine TL.nil ?_
  refine TE.next ?_
  refine TC.seq ?_
  refine TC.region ?_
  refine' TL.y rfl rfl rfl ?hy22 ?_
  case hy22 => exact Yl.move rfl rfl
  refine' TL.c rfl rfl rfl ?hy23 ?_
  case hy23 => exact Yc.call rfl Try.func19 (by kernel_rfl) rfl rfl (Hp.turnx mem1 (fun s => foc1) (k_stouch hx3 3))
  intro ⟨x4, hx4⟩
  dsimp only
  rw [get_w]
  dsimp only [Option.isSome_some]
  refine' TL.y rfl rfl rfl ?hy24 ?_
  case hy24 => exact Yl.assign rfl rfl
  refine TL.nil ?_
  refine TE.next ?_
  refine TC.seq ?_
  refine TC.region ?_
  refine' TL.y rfl rfl rfl ?hy25 ?_
  case hy25 => exact Yl.move rfl rfl
  refine' TL.c rfl rfl rfl ?hy26 ?_
  case hy26 => exact Yc.call rfl Try.func16 (by kernel_rfl) rfl rfl (Hp.calls (fun w h => k_ssize w (h.all _ mem1) hx4))
  intro _
  rw [size_touch, size_w]
  refine' TL.y rfl rfl rfl ?hy27 ?_
  case hy27 => exact Yl.assign rfl rfl
  refine TL.nil ?_
  refine TE.next ?_
  refine TC.seq ?_
  refine TC.region ?_
  refine' TL.y rfl rfl rfl ?hy28 ?_
  case hy28 => exact Yl.move rfl rfl
  refine' TL.c rfl rfl rfl ?hy29 ?_
  case hy29 => exact Yc.call rfl Try.func20 (by kernel_rfl) rfl rfl (Hp.turnx mem1 (fun s => foc1) (k_srest hx4))
  intro ⟨x5, hx5⟩
  dsimp only
  rw [rest_w]
  refine' TL.y rfl rfl rfl ?hy30 ?_
  case hy30 => exact Yl.assign rfl rfl
  refine TL.nil ?_
  refine TE.next ?_
  refine TC.seq ?_
  refine TC.region ?_
  refine' TL.y rfl rfl rfl ?hy31 ?_
  case hy31 => exact Yl.move rfl rfl
  refine' TL.c rfl rfl rfl ?hy32 ?_
  case hy32 => exact Yc.call rfl Try.func17 (by kernel_rfl) rfl rfl (Hp.news (fun w h => k_sclone w (h.all _ mem1) hx5))
  intro ⟨x6, hx6⟩
  dsimp only
  refine' TL.y rfl rfl rfl ?hy33 ?_
  case hy33 => exact Yl.assign rfl rfl
  refine TL.nil ?_
  refine TE.next ?_
  refine TC.seq ?_
  refine TC.region ?_
  refine' TL.y rfl rfl rfl ?hy34 ?_
  case hy34 => exact Yl.move rfl rfl
  refine' TL.c rfl rfl rfl ?hy35 ?_
  case hy35 => exact Yc.call rfl Try.func13 (by kernel_rfl) rfl rfl (Hp.turnx mem2 (fun s => foc2) (k_scut hx5 2 5))
  intro ⟨⟨v34, x7⟩, hx7⟩
  dsimp only at hx7 ⊢
  refine TL.wk (M' := Hp W (fun _ => False) [rowI v34 (idsL (srest (stouch u2 3)) 2 5), spR x7 (scut (srest (stouch u2 3)) 2 5), spR x6 (srest (stouch u2 3)), blk b4 (.cells #[.int .i64 (e0).k, .int .i64 (e0).pg, .bool (e0).w, .bool (e0).t] 30 (0, 0))]) (fun w h => h.swap1.swap.unstar) ?_
  rw [ids_w]
  refine TL.fact (fun w h => Hp.rowShape mem0 w h) ?_
  rintro ⟨A34, c34, rfl⟩
  refine TL.fact (fun w h => Hp.rowSome mem0 (by decide) w h) ?_
  rintro ⟨g34, rfl⟩
  refine' TL.y rfl rfl rfl ?hy36 ?_
  case hy36 => exact Yl.assign rfl rfl
  refine TL.nil ?_
  refine TE.next ?_
  refine TC.seq ?_
  refine TC.region ?_
  refine' TL.y rfl rfl rfl ?hy37 ?_
  case hy37 => exact Yl.move rfl rfl
  refine' TL.y rfl rfl rfl ?hy38 ?_
  case hy38 => exact Yl.bin rfl rfl rfl (Bin.eql _ _ _ _)
  refine' TL.y rfl rfl rfl ?hy39 ?_
  case hy39 => exact Yl.move rfl rfl
  refine TL.re (i := 37) (v' := .bool true) rfl (congrArg Value.bool (rfl)) ?_
  refine' TL.y rfl rfl rfl ?hy40 ?_
  case hy40 => exact Yl.move rfl rfl
  refine' TL.y rfl rfl rfl ?hy41 ?_
  case hy41 => exact Yl.bin rfl rfl rfl (Bin.eql _ _ _ _)
  refine' TL.y rfl rfl rfl ?hy42 ?_
  case hy42 => exact Yl.pickT rfl rfl rfl
  refine' TL.y rfl rfl rfl ?hy43 ?_
  case hy43 => exact Yl.move rfl rfl
  refine TL.re (i := 41) (v' := .bool true) rfl (congrArg Value.bool (rfl)) ?_
  refine' TL.y rfl rfl rfl ?hy44 ?_
  case hy44 => exact Yl.move rfl rfl
  refine' TL.y rfl rfl rfl ?hy45 ?_
  case hy45 => exact Yl.pickT rfl rfl rfl
  refine' TL.y rfl rfl rfl ?hy46 ?_
  case hy46 => exact Yl.move rfl rfl
  refine' TL.y rfl rfl rfl ?hy47 ?_
  case hy47 => first | exact Yl.field0 (k := 0) 1 rfl rfl Try.underlying30 rfl (by kernel_rfl) rfl | exact Yl.field (k := 0) 1 rfl rfl Try.underlying30 rfl (by kernel_rfl) rfl
  refine' TL.y rfl rfl rfl ?hy48 ?_
  case hy48 => exact Yl.load rfl rfl (by kernel_rfl) (by first | exact Hp.rowAtI mem0 (by decide) | exact Hp.cell mem0 rfl | exact Hp.cell mem1 rfl | exact Hp.cell mem2 rfl | exact Hp.cell mem3 rfl | exact Hp.cell mem4 rfl | exact Hp.rowAt mem0 (by omega) rfl | exact Hp.rowAt mem1 (by omega) rfl | exact Hp.rowAt mem2 (by omega) rfl | exact Hp.rowAt mem3 (by omega) rfl | exact Hp.rowAt mem4 (by omega) rfl)
  refine' TL.y rfl rfl rfl ?hy49 ?_
  case hy49 => exact Yl.bin rfl rfl rfl (Bin.eql _ _ _ _)
  refine' TL.y rfl rfl rfl ?hy50 ?_
  case hy50 => exact Yl.pickT rfl rfl rfl
  refine' TL.y rfl rfl rfl ?hy51 ?_
  case hy51 => exact Yl.move rfl rfl
  refine TL.re (i := 49) (v' := .bool true) rfl (congrArg Value.bool (rfl)) ?_
  refine' TL.y rfl rfl rfl ?hy52 ?_
  case hy52 => exact Yl.move rfl rfl
  refine' TL.y rfl rfl rfl ?hy53 ?_
  case hy53 => exact Yl.pickT rfl rfl rfl
  refine' TL.y rfl rfl rfl ?hy54 ?_
  case hy54 => exact Yl.move rfl rfl
  refine' TL.y rfl rfl rfl ?hy55 ?_
  case hy55 => exact Yl.move rfl rfl
  refine' TL.y rfl rfl rfl ?hy56 ?_
  case hy56 => exact Yl.bin rfl rfl rfl (Bin.eql _ _ _ _)
  refine' TL.y rfl rfl rfl ?hy57 ?_
  case hy57 => exact Yl.pickT rfl rfl rfl
  refine' TL.y rfl rfl rfl ?hy58 ?_
  case hy58 => exact Yl.move rfl rfl
  refine TL.re (i := 56) (v' := .bool true) rfl (congrArg Value.bool (rfl)) ?_
  refine' TL.y rfl rfl rfl ?hy59 ?_
  case hy59 => exact Yl.move rfl rfl
  refine' TL.y rfl rfl rfl ?hy60 ?_
  case hy60 => exact Yl.bin rfl rfl rfl (Bin.eql _ _ _ _)
  refine' TL.y rfl rfl rfl ?hy61 ?_
  case hy61 => exact Yl.pickT rfl rfl rfl
  refine' TL.y rfl rfl rfl ?hy62 ?_
  case hy62 => exact Yl.move rfl rfl
  refine TL.re (i := 60) (v' := .bool true) rfl (congrArg Value.bool (rfl)) ?_
  refine' TL.y rfl rfl rfl ?hy63 ?_
  case hy63 => exact Yl.move rfl rfl
  refine' TL.y rfl rfl rfl ?hy64 ?_
  case hy64 => exact Yl.bin rfl rfl rfl (Bin.neqP _ _ _ Try.underlying24)
  refine' TL.y rfl rfl rfl ?hy65 ?_
  case hy65 => exact Yl.pickT rfl rfl rfl
  refine' TL.y rfl rfl rfl ?hy66 ?_
  case hy66 => exact Yl.move rfl rfl
  refine TL.re (i := 64) (v' := .bool true) rfl (congrArg Value.bool (rfl)) ?_
  refine' TL.y rfl rfl rfl ?hy67 ?_
  case hy67 => exact Yl.move rfl rfl
  refine' TL.c rfl rfl rfl ?hy68 ?_
  case hy68 => exact Yc.call rfl Try.func16 (by kernel_rfl) rfl rfl (Hp.calls (fun w h => k_ssize w (h.all _ mem2) hx6))
  intro _
  rw [sz_w]
  refine' TL.y rfl rfl rfl ?hy69 ?_
  case hy69 => exact Yl.bin rfl rfl rfl (Bin.eql _ _ _ _)
  refine' TL.y rfl rfl rfl ?hy70 ?_
  case hy70 => exact Yl.pickT rfl rfl rfl
  refine' TL.y rfl rfl rfl ?hy71 ?_
  case hy71 => exact Yl.move rfl rfl
  refine TL.re (i := 69) (v' := .bool true) rfl (congrArg Value.bool (rfl)) ?_
  refine' TL.y rfl rfl rfl ?hy72 ?_
  case hy72 => exact Yl.move rfl rfl
  refine' TL.y rfl rfl rfl ?hy73 ?_
  case hy73 => exact Yl.len rfl rfl Try.underlying36
  refine' TL.y rfl rfl rfl ?hy74 ?_
  case hy74 => exact Yl.bin rfl rfl rfl (Bin.eql _ _ _ _)
  refine' TL.y rfl rfl rfl ?hy75 ?_
  case hy75 => exact Yl.pickT rfl rfl rfl
  refine' TL.y rfl rfl rfl ?hy76 ?_
  case hy76 => exact Yl.move rfl rfl
  refine TL.re (i := 74) (v' := .bool true) rfl (congrArg Value.bool (rfl)) ?_
  refine' TL.y rfl rfl rfl ?hy77 ?_
  case hy77 => exact Yl.move rfl rfl
  refine' TL.y rfl rfl rfl ?hy78 ?_
  case hy78 => exact Yl.ixz rfl rfl rfl Try.underlying36 (by kernel_rfl) (by decide) (by decide)
  refine' TL.y rfl rfl rfl ?hy79 ?_
  case hy79 => exact Yl.load rfl rfl (by kernel_rfl) (by first | exact Hp.rowAtI mem0 (by decide) | exact Hp.cell mem0 rfl | exact Hp.cell mem1 rfl | exact Hp.cell mem2 rfl | exact Hp.cell mem3 rfl | exact Hp.cell mem4 rfl | exact Hp.rowAt mem0 (by omega) rfl | exact Hp.rowAt mem1 (by omega) rfl | exact Hp.rowAt mem2 (by omega) rfl | exact Hp.rowAt mem3 (by omega) rfl | exact Hp.rowAt mem4 (by omega) rfl)
  refine' TL.y rfl rfl rfl ?hy80 ?_
  case hy80 => exact Yl.bin rfl rfl rfl (Bin.eql _ _ _ _)
  refine' TL.y rfl rfl rfl ?hy81 ?_
  case hy81 => exact Yl.pickT rfl rfl rfl
  refine' TL.y rfl rfl rfl ?hy82 ?_
  case hy82 => exact Yl.move rfl rfl
  refine TL.re (i := 80) (v' := .bool true) rfl (congrArg Value.bool (rfl)) ?_
  refine' TL.y rfl rfl rfl ?hy83 ?_
  case hy83 => exact Yl.move rfl rfl
  refine' TL.c rfl rfl rfl ?hy84 ?_
  case hy84 => exact Yc.call rfl Try.func16 (by kernel_rfl) rfl rfl (Hp.calls (fun w h => k_ssize w (h.all _ mem1) hx7))
  intro _
  rw [sz5_w]
  refine' TL.y rfl rfl rfl ?hy85 ?_
  case hy85 => exact Yl.bin rfl rfl rfl (Bin.eql _ _ _ _)
  refine' TL.y rfl rfl rfl ?hy86 ?_
  case hy86 => exact Yl.pickT rfl rfl rfl
  refine' TL.y rfl rfl rfl ?hy87 ?_
  case hy87 => exact Yl.move rfl rfl
  refine TL.re (i := 85) (v' := .bool true) rfl (congrArg Value.bool (rfl)) ?_
  refine' TL.y rfl rfl rfl ?hy88 ?_
  case hy88 => exact Yl.move rfl rfl
  refine' TL.c rfl rfl rfl ?hy89 ?_
  case hy89 => exact Yc.call rfl Try.func18 (by kernel_rfl) rfl rfl (Hp.news (fun w h => k_sregions w (h.all _ mem1) hx7))
  intro v87
  rw [reg5_w]
  refine TL.fact (fun w h => Hp.rowGsh mem0 w h) ?_
  rintro ⟨A87, c87, rfl⟩
  refine' TL.y rfl rfl rfl ?hy90 ?_
  case hy90 => exact Yl.len rfl rfl Try.underlying44
  refine' TL.y rfl rfl rfl ?hy91 ?_
  case hy91 => exact Yl.bin rfl rfl rfl (Bin.eql _ _ _ _)
  refine' TL.y rfl rfl rfl ?hy92 ?_
  case hy92 => exact Yl.pickT rfl rfl rfl
  refine' TL.y rfl rfl rfl ?hy93 ?_
  case hy93 => exact Yl.assign rfl rfl
  refine TL.nil ?_
  refine TE.next ?_
  refine TC.ret ?_
  refine TE.ret1 rfl rfl ?_
  exact fun w h => ⟨rfl, (h.sub (List.nil_sublist _)).below⟩
end Go.Proofs.Ytabjdjkkpbkpfaa.Pk
