/- Whatever is done, each answers as the document says. -/
import Derived.Test.YtabjdjkkpbkpfaaSpW
import Derived.Test.YtabjdjkkpbkpfaaSrG
import Derived.Test.YtabjdjkkpbkpfaaProg
import Derived.RowKit3
namespace Go.Proofs.Ytabjdjkkpbkpfaa.Pk
open Go Go.RowKit Go.Proofs.Ytabjdjkkpbkpfaa.HL Go.Proofs.Ytabjdjkkpbkpfaa.Ev Go.Proofs.YtabjdjkkpbkpfaaW.PrintWords Go.Proofs.RgP Go.Proofs.RxP Go.Proofs.Ytabjdjkkpbkpfaa.BM
set_option linter.unusedVariables false
set_option linter.unusedSimpArgs false
theorem Sl.awL {W0 : World} {H : List Res} {b c i q : Nat} {l : List A18} (hs : Sl W0 (.some ⟨b, c, none⟩) (Aw l)) (hq : c + i * 13 = q) (hi : i < l.length) : ∀ w, Hp W0 (fun _ => False) H w → ∀ j v, (cellsA (atA l i))[j]? = some v → w.cell? ((⟨b, q, none⟩ : Addr).add j) = .some v := fun w h j v hj => by
  have hj2 : j < 13 := by
    rcases Nat.lt_or_ge j 13 with h | h
    · exact h
    · rw [List.getElem?_eq_none (show (cellsA (atA l i)).length ≤ j from h)] at hj; cases hj
  rw [cA_get _ hj2] at hj
  rw [Addr.at_, Sl.aw hs (j := j) (by omega) hi hj2 w h]; exact hj
theorem cX_at (y : A18) : ∀ j v, [.int .i64 (y.x).f0, .int .i64 (y.x).f1, .int .i64 (y.x).f2, .int .i64 (y.x).f3, .int .i64 (y.x).f4, .bool (y.x).f5][j]? = some v → (#[.int .i64 (y).k, .int .i64 (y).x.f0, .int .i64 (y).x.f1, .int .i64 (y).x.f2, .int .i64 (y).x.f3, .int .i64 (y).x.f4, .bool (y).x.f5, .int .i64 (y).e.k, .int .i64 (y).e.pg, .bool (y).e.w, .bool (y).e.t, .int .i64 (y).a, .int .i64 (y).b] : Array Value)[1 + j]? = some v := fun j v hj => by
  have hj2 : j < 6 := by
    rcases Nat.lt_or_ge j 6 with h | h
    · exact h
    · rw [List.getElem?_eq_none (by simpa using h)] at hj; cases hj
  rcases (by omega : j = 0 ∨ j = 1 ∨ j = 2 ∨ j = 3 ∨ j = 4 ∨ j = 5) with rfl | rfl | rfl | rfl | rfl | rfl <;> exact hj
theorem cE_at (y : A18) : ∀ j v, [.int .i64 (y.e).k, .int .i64 (y.e).pg, .bool (y.e).w, .bool (y.e).t][j]? = some v → (#[.int .i64 (y).k, .int .i64 (y).x.f0, .int .i64 (y).x.f1, .int .i64 (y).x.f2, .int .i64 (y).x.f3, .int .i64 (y).x.f4, .bool (y).x.f5, .int .i64 (y).e.k, .int .i64 (y).e.pg, .bool (y).e.w, .bool (y).e.t, .int .i64 (y).a, .int .i64 (y).b] : Array Value)[7 + j]? = some v := fun j v hj => by
  have hj2 : j < 4 := by
    rcases Nat.lt_or_ge j 4 with h | h
    · exact h
    · rw [List.getElem?_eq_none (by simpa using h)] at hj; cases hj
  rcases (by omega : j = 0 ∨ j = 1 ∨ j = 2 ∨ j = 3) with rfl | rfl | rfl | rfl <;> exact hj
section
variable {W0 : World} {T : Nat → Prop} {H : List Res}
theorem Hp.dpc0 {x : Dp} {u : SS} {s : Nat} (hx : x.Is u s) (hm : dpR x u ∈ H) : ∀ w, Hp W0 T H w → w.cell? ⟨s, 0, none⟩ = some x.v := fun w h => by
  obtain ⟨A, c, _, _, _, h1, _⟩ := dpR_open (h.all _ hm)
  rw [← hx.s, blk_cell h1]; rfl
theorem Hp.dpc1 {x : Dp} {u : SS} {s : Nat} (hx : x.Is u s) (hm : dpR x u ∈ H) : ∀ w, Hp W0 T H w → w.cell? ⟨s, 1, none⟩ = some (.pointer (some ⟨x.b, 0, none⟩)) := fun w h => by
  obtain ⟨A, c, _, _, _, h1, _⟩ := dpR_open (h.all _ hm)
  rw [← hx.s, blk_cell h1]; rfl
theorem Hp.dpt {x : Dp} {u : SS} (hm : dpR x u ∈ H) : ∀ w, Hp W0 T H w → w.cell? ⟨x.b, 0, none⟩ = some x.w := fun w h => by
  obtain ⟨A, c, _, _, _, _, h1, _⟩ := dpR_open (h.all _ hm)
  rw [blk_cell (show w.heap[x.b]? = some (.cells #[x.w] 59 (0, 0)) from h1)]; rfl
theorem Hp.dpv {x : Dp} {u : SS} (hm : dpR x u ∈ H) : ∀ w, Hp W0 T H w → ∃ A c, x.v = .slice A u.G.length c := fun w h => by
  obtain ⟨A, c, h1, _⟩ := dpR_open (h.all _ hm)
  exact ⟨A, c, h1⟩
theorem Hp.dpw {x : Dp} {u : SS} (hm : dpR x u ∈ H) : ∀ w, Hp W0 T H w → ∃ B c, x.w = .slice B (sizeS u) c := fun w h => by
  obtain ⟨A, c, _, _, _, _, h1⟩ := dpR_open (h.all _ hm)
  have h2 : w.heap[x.b]? = some (.cells #[x.w] 59 (0, 0)) := h1.1
  obtain ⟨B, c, h3⟩ := Rf.at_ h1
  have h4 := h2.symm.trans h3.blk
  have h5 := Option.some.inj h4
  injection h5 with h5
  exact ⟨B, c, by have := congrArg (fun a : Array Value => a[0]?) h5; exact Option.some.inj this⟩
theorem Hp.dpsl {s b c : Nat} {wv : Value} {A : Option Addr} {u : SS} (hm : dpR ⟨s, .slice A u.G.length c, b, wv⟩ u ∈ H) : ∀ w, Hp W0 T H w → Sl w A (Rw u.G) := fun w h => by
  obtain ⟨A', c', h1, _, h2, _⟩ := dpR_open (h.all _ hm)
  injection h1 with h1
  rw [h1]; exact h2
end
attribute [local irreducible] Rw atG ents Iw Aw atA pgsE idsL restC sizeS cutL addL Pw at_ restQ
set_option maxRecDepth 100000 in
set_option maxHeartbeats 2000000 in
theorem law_does (W : World) {l : List A18} {A : Option Addr} {cp : Nat} (hS : Sl W A (Aw l)) (hm : l.length ≤ 9223372036854775807) (hw : ∀ i, i < l.length → wfI (vsE (atA l i).e)) (n : Int) : Calls Try.prog 7 #[.slice A l.length cp, .int .i64 n] W fun e w' => e = .returned (.bool true) ∧ Below W.heap.size W w' := by
  have hM : Hp W (fun _ => False) [] W := Hp.start
  refine TC.enter (n := 209) Try.func7 rfl rfl rfl hM ?_
  refine TC.seq ?_
  refine TC.region ?_
  refine' TL.y rfl rfl rfl ?hy1 ?_
  case hy1 => exact Yl.assign rfl rfl
  refine TL.nil ?_
  refine TE.next ?_
  refine TC.seq ?_
  refine TC.region ?_
  refine' TL.c rfl rfl rfl ?hy2 ?_
  case hy2 => exact Yc.call rfl Try.func9 (by kernel_rfl) rfl rfl (Hp.calls (fun w h => k_works w))
  intro _
  refine' TL.y rfl rfl rfl ?hy3 ?_
  case hy3 => exact Yl.assign rfl rfl
  refine TL.nil ?_
  refine TE.next ?_
  refine TC.seq ?_
  refine TC.seq ?_
  refine TC.region ?_
  refine' TL.y rfl rfl rfl ?hy4 ?_
  case hy4 => exact Yl.move rfl rfl
  refine' TL.y rfl rfl rfl ?hy5 ?_
  case hy5 => exact Yl.not rfl rfl
  refine TL.nil ?_
  refine TE.next ?_
  refine TC.no rfl rfl ?_
  refine TC.skip ?_
  refine TE.next ?_
  refine TC.seq ?_
  refine TC.seq ?_
  refine TC.region ?_
  refine' TL.y rfl rfl rfl ?hy6 ?_
  case hy6 => exact Yl.move rfl rfl
  refine' TL.y rfl rfl rfl ?hy7 ?_
  case hy7 => exact Yl.len rfl rfl Try.underlying22
  refine' TL.y rfl rfl rfl ?hy8 ?_
  case hy8 => exact Yl.bin rfl rfl rfl (Bin.gtr _ _ _ _)
  refine TL.nil ?_
  refine TE.next ?_
  refine TC.cond rfl (fun hs36 => ?_) (fun hs36 => ?_)
  · skip
    (try simp only [nrm] at hs36)
    refine TC.seq ?_
    refine TC.region ?_
    refine' TL.y rfl rfl rfl ?hy9 ?_
    case hy9 => exact Yl.move rfl rfl
    refine' TL.y rfl rfl rfl ?hy10 ?_
    case hy10 => exact Yl.assign rfl rfl
    refine TL.nil ?_
    refine TE.next ?_
    refine TC.ret ?_
    refine TE.thenRet ?_
    refine TE.ret1 rfl rfl ?_
    exact fun w h => ⟨rfl, (h.sub (List.nil_sublist _)).below⟩
  · skip
    (try simp only [nrm] at hs36)
    refine TC.skip ?_
    refine TE.next ?_
    refine TC.seq ?_
    refine TC.region ?_
    refine' TL.c rfl rfl rfl ?hy11 ?_
    case hy11 => exact Yc.call rfl Try.func10 (by kernel_rfl) rfl rfl (Hp.news (fun w h => k_snew w))
    intro ⟨x1, hx1⟩
    dsimp only
    refine' TL.y rfl rfl rfl ?hy12 ?_
    case hy12 => exact Yl.assign rfl rfl
    refine TL.nil ?_
    refine TE.next ?_
    refine TC.seq ?_
    refine TC.region ?_
    refine' TL.c rfl rfl rfl ?hy13 ?_
    case hy13 => exact Yc.call rfl Try.func21 (by kernel_rfl) rfl rfl (Hp.news (fun w h => k_dnew w))
    intro ⟨d1, hd1⟩
    dsimp only
    refine' TL.y rfl rfl rfl ?hy14 ?_
    case hy14 => exact Yl.assign rfl rfl
    refine TL.nil ?_
    refine TE.next ?_
    refine TC.seq ?_
    refine TC.seq ?_
    refine TC.region ?_
    refine' TL.y rfl rfl rfl ?hy15 ?_
    case hy15 => exact Yl.assign rfl rfl
    refine TL.nil ?_
    refine TE.next ?_
    refine TC.block ?_
    refine TC.loop (σ := Nat × Nat × Nat × Sp × Dp × SS) (fun q => [(0, .slice A l.length cp), (1, .int .i64 n), (5, .bool true), (6, .pointer (some ⟨q.2.1, 0, none⟩)), (7, .pointer (some ⟨q.2.2.1, 0, none⟩)), (8, .int .i64 (q.1 : Int))]) (fun q => Hp W (fun _ => False) [spR q.2.2.2.1 q.2.2.2.2.2, dpR q.2.2.2.2.1 q.2.2.2.2.2]) (fun q => q.1 ≤ l.length ∧ q.2.2.2.1.Is q.2.2.2.2.2 q.2.1 ∧ q.2.2.2.2.1.Is q.2.2.2.2.2 q.2.2.1) (fun q => l.length - q.1) (0, x1.s, d1.s, x1, d1, newS) ?hF16 ?hs16 ?hm16 ?round16
    case hF16 => exact ⟨Nat.zero_le _, hx1, hd1⟩
    case hs16 => exact ⟨rfl, rfl, rfl, rfl, rfl, rfl, trivial⟩
    case hm16 => exact fun w h => h.swap
    case round16 =>
      rintro ⟨i, s, e, x, ⟨ds, dv, db, dw⟩, u⟩ ⟨hi, hx, hd⟩
      dsimp only at hi hx hd ⊢
      refine TC.seq ?_
      refine TC.seq ?_
      refine TC.region ?_
      refine' TL.y rfl rfl rfl ?hy17 ?_
      case hy17 => exact Yl.move rfl rfl
      refine' TL.y rfl rfl rfl ?hy18 ?_
      case hy18 => exact Yl.move rfl rfl
      refine' TL.y rfl rfl rfl ?hy19 ?_
      case hy19 => exact Yl.len rfl rfl Try.underlying22
      refine' TL.y rfl rfl rfl ?hy20 ?_
      case hy20 => exact Yl.bin rfl rfl rfl (Bin.lss _ _ _ _)
      refine TL.nil ?_
      refine TE.next ?_
      refine TC.cond rfl (fun hs43 => ?_) (fun hs43 => ?_)
      · skip
        (try simp only [nrm] at hs43)
        obtain ⟨b0, o0, rfl⟩ := Sl.some2 hS (by rw [Aw_length]; omega)
        refine TC.skip ?_
        refine TE.next ?_
        refine TC.seq ?_
        refine TC.block ?_
        refine TC.seq ?_
        refine TC.region ?_
        refine' TL.y rfl rfl rfl ?hy21 ?_
        case hy21 => exact Yl.move rfl rfl
        refine' TL.y rfl rfl rfl ?hy22 ?_
        case hy22 => exact Yl.move rfl rfl
        refine' TL.y rfl rfl rfl ?hy23 ?_
        case hy23 => first | exact Yl.ixkn (k := 13) rfl rfl rfl Try.underlying22 (by kernel_rfl) (by omega) | exact Yl.ixkz (k := 13) rfl rfl rfl Try.underlying22 (by kernel_rfl) (by omega) (by omega)
        refine' TL.y rfl rfl rfl ?hy24 ?_
        case hy24 => exact Yl.loads (cs := [.int .i64 ((atA l i)).k, .int .i64 ((atA l i)).x.f0, .int .i64 ((atA l i)).x.f1, .int .i64 ((atA l i)).x.f2, .int .i64 ((atA l i)).x.f3, .int .i64 ((atA l i)).x.f4, .bool ((atA l i)).x.f5, .int .i64 ((atA l i)).e.k, .int .i64 ((atA l i)).e.pg, .bool ((atA l i)).e.w, .bool ((atA l i)).e.t, .int .i64 ((atA l i)).a, .int .i64 ((atA l i)).b]) rfl rfl (by kernel_rfl) (by kernel_rfl) (Sl.awL hS (i := i) rfl (by omega))
        refine' TL.mx rfl rfl rfl ?hy25 ?_
        case hy25 => exact Ym.alloc (z := .agg #[.int .i64 0, .int .i64 0, .int .i64 0, .int .i64 0, .int .i64 0, .int .i64 0, .bool false, .int .i64 0, .int .i64 0, .bool false, .bool false, .int .i64 0, .int .i64 0]) rfl (by kernel_rfl)
        intro b9
        refine' TL.s rfl rfl ?hy26 ?_
        case hy26 => exact Ys.store (seg := [.int .i64 ((atA l i)).k, .int .i64 ((atA l i)).x.f0, .int .i64 ((atA l i)).x.f1, .int .i64 ((atA l i)).x.f2, .int .i64 ((atA l i)).x.f3, .int .i64 ((atA l i)).x.f4, .bool ((atA l i)).x.f5, .int .i64 ((atA l i)).e.k, .int .i64 ((atA l i)).e.pg, .bool ((atA l i)).e.w, .bool ((atA l i)).e.t, .int .i64 ((atA l i)).a, .int .i64 ((atA l i)).b]) (c' := #[.int .i64 ((atA l i)).k, .int .i64 ((atA l i)).x.f0, .int .i64 ((atA l i)).x.f1, .int .i64 ((atA l i)).x.f2, .int .i64 ((atA l i)).x.f3, .int .i64 ((atA l i)).x.f4, .bool ((atA l i)).x.f5, .int .i64 ((atA l i)).e.k, .int .i64 ((atA l i)).e.pg, .bool ((atA l i)).e.w, .bool ((atA l i)).e.t, .int .i64 ((atA l i)).a, .int .i64 ((atA l i)).b]) rfl rfl rfl (by simp [Value.cells]) (by kernel_rfl) (by simp [Value.oneCell']) foc0 (by simp [Value.cells]) (by kernel_rfl)
        refine TL.nil ?_
        refine TE.next ?_
        refine TC.meet (σ := Nat × Nat × Sp × Dp × SS) (fun z => [(0, .slice (some ⟨b0, o0, none⟩) l.length cp), (1, .int .i64 n), (5, .bool true), (6, .pointer (some ⟨z.1, 0, none⟩)), (7, .pointer (some ⟨z.2.1, 0, none⟩)), (8, .int .i64 (i : Int)), (9, .pointer (some ⟨b9, 0, none⟩))]) (fun z => Hp W (fun _ => False) [spR z.2.2.1 z.2.2.2.2, dpR z.2.2.2.1 z.2.2.2.2, blk b9 (.cells #[.int .i64 ((atA l i)).k, .int .i64 ((atA l i)).x.f0, .int .i64 ((atA l i)).x.f1, .int .i64 ((atA l i)).x.f2, .int .i64 ((atA l i)).x.f3, .int .i64 ((atA l i)).x.f4, .bool ((atA l i)).x.f5, .int .i64 ((atA l i)).e.k, .int .i64 ((atA l i)).e.pg, .bool ((atA l i)).e.w, .bool ((atA l i)).e.t, .int .i64 ((atA l i)).a, .int .i64 ((atA l i)).b] 32 (0, 0))]) (fun z => z.2.2.1.Is z.2.2.2.2 z.1 ∧ z.2.2.2.1.Is z.2.2.2.2 z.2.1) ?hx27 ?hy27
        case hx27 =>
          refine TC.seq ?_
          refine TC.region ?_
          refine' TL.y rfl rfl rfl ?hy28 ?_
          case hy28 => first | exact Yl.field0 (k := 0) 0 rfl rfl Try.underlying32 rfl (by kernel_rfl) rfl | exact Yl.field (k := 0) 0 rfl rfl Try.underlying32 rfl (by kernel_rfl) rfl
          refine' TL.y rfl rfl rfl ?hy29 ?_
          case hy29 => exact Yl.load rfl rfl (by kernel_rfl) (by first | exact Hp.cell mem0 rfl | exact Hp.cell mem1 rfl | exact Hp.cell mem2 rfl | exact Hp.cell mem3 rfl | exact Hp.cell mem4 rfl | exact Hp.cell mem5 rfl | exact Hp.cell mem6 rfl | exact Hp.cell mem7 rfl | exact Hp.rowAt mem0 (by omega) rfl | exact Hp.rowAt mem1 (by omega) rfl | exact Hp.rowAt mem2 (by omega) rfl | exact Hp.rowAt mem3 (by omega) rfl | exact Hp.rowAt mem4 (by omega) rfl | exact Hp.rowAt mem5 (by omega) rfl | exact Hp.rowAt mem6 (by omega) rfl | exact Hp.rowAt mem7 (by omega) rfl)
          refine TL.wk (M' := Hp W (fun _ => False) [spR x u, dpR ⟨ds, dv, db, dw⟩ u, blk b9 (.cells #[.int .i64 ((atA l i)).k, .int .i64 ((atA l i)).x.f0, .int .i64 ((atA l i)).x.f1, .int .i64 ((atA l i)).x.f2, .int .i64 ((atA l i)).x.f3, .int .i64 ((atA l i)).x.f4, .bool ((atA l i)).x.f5, .int .i64 ((atA l i)).e.k, .int .i64 ((atA l i)).e.pg, .bool ((atA l i)).e.w, .bool ((atA l i)).e.t, .int .i64 ((atA l i)).a, .int .i64 ((atA l i)).b] 32 (0, 0))]) (fun w h => h.swap.swap1) ?_
          refine' TL.y rfl rfl rfl ?hy30 ?_
          case hy30 => exact Yl.bin rfl rfl rfl (Bin.rem _ _ _ _ (by omega))
          refine TL.nil ?_
          refine TE.next ?_
          refine TC.block ?_
          refine TC.seq ?_
          refine TC.region ?_
          refine' TL.y rfl rfl rfl ?hy31 ?_
          case hy31 => exact Yl.bin rfl rfl rfl (Bin.eql _ _ _ _)
          refine' TL.y rfl rfl rfl ?hy32 ?_
          case hy32 => exact Yl.assign rfl rfl
          refine TL.nil ?_
          refine TE.next ?_
          refine TC.cond rfl (fun hs59 => ?_) (fun hs59 => ?_)
          · skip
            (try simp only [nrm] at hs59)
            refine TC.seq ?_
            refine TC.region ?_
            refine' TL.y rfl rfl rfl ?hy33 ?_
            case hy33 => exact Yl.move rfl rfl
            refine' TL.y rfl rfl rfl ?hy34 ?_
            case hy34 => first | exact Yl.field0 (k := 5) 1 rfl rfl Try.underlying32 rfl (by kernel_rfl) rfl | exact Yl.field (k := 5) 1 rfl rfl Try.underlying32 rfl (by kernel_rfl) rfl
            refine' TL.y rfl rfl rfl ?hy35 ?_
            case hy35 => first | exact Yl.loads (cs := [.int .i64 ((atA l i).x).f0, .int .i64 ((atA l i).x).f1, .int .i64 ((atA l i).x).f2, .int .i64 ((atA l i).x).f3, .int .i64 ((atA l i).x).f4, .bool ((atA l i).x).f5]) rfl rfl (by kernel_rfl) (by kernel_rfl) (Hp.cells (off := 1) mem2 (cX_at _))
            refine' TL.c rfl rfl rfl ?hy36 ?_
            case hy36 => exact Yc.call rfl Try.func11 (by kernel_rfl) rfl rfl (Hp.turnx mem0 (fun s => foc0) (k_smap hx (atA l i).x))
            intro ⟨x2, hx2⟩
            dsimp only
            refine' TL.y rfl rfl rfl ?hy37 ?_
            case hy37 => exact Yl.assign rfl rfl
            refine TL.nil ?_
            refine TE.next ?_
            refine TC.seq ?_
            refine TC.region ?_
            refine' TL.y rfl rfl rfl ?hy38 ?_
            case hy38 => exact Yl.move rfl rfl
            refine' TL.y rfl rfl rfl ?hy39 ?_
            case hy39 => first | exact Yl.field0 (k := 5) 1 rfl rfl Try.underlying32 rfl (by kernel_rfl) rfl | exact Yl.field (k := 5) 1 rfl rfl Try.underlying32 rfl (by kernel_rfl) rfl
            refine' TL.y rfl rfl rfl ?hy40 ?_
            case hy40 => first | exact Yl.loads (cs := [.int .i64 ((atA l i).x).f0, .int .i64 ((atA l i).x).f1, .int .i64 ((atA l i).x).f2, .int .i64 ((atA l i).x).f3, .int .i64 ((atA l i).x).f4, .bool ((atA l i).x).f5]) rfl rfl (by kernel_rfl) (by kernel_rfl) (Hp.cells (off := 1) mem2 (cX_at _))
            refine' TL.c rfl rfl rfl ?hy41 ?_
            case hy41 => exact Yc.call rfl Try.func22 (by kernel_rfl) rfl rfl (Hp.turnx mem1 (fun s => foc1) (k_dmap hd (atA l i).x))
            intro ⟨d2, hd2⟩
            dsimp only
            refine' TL.y rfl rfl rfl ?hy42 ?_
            case hy42 => exact Yl.assign rfl rfl
            refine TL.nil ?_
            refine TE.next ?_
            refine TC.seq ?_
            refine TC.region ?_
            refine' TL.y rfl rfl rfl ?hy43 ?_
            case hy43 => exact Yl.move rfl rfl
            refine' TL.y rfl rfl rfl ?hy44 ?_
            case hy44 => exact Yl.move rfl rfl
            refine' TL.y rfl rfl rfl ?hy45 ?_
            case hy45 => exact Yl.bin rfl rfl rfl (Bin.neq _ _ _ _)
            refine TL.nil ?_
            refine TE.next ?_
            refine TC.no rfl (by simp) ?_
            refine TC.skip ?_
            refine TE.inNormal ?_
            refine TE.met (s, e, x2, d2, mapS u (atA l i).x) ?hF46 ?hs46 ?hm46
            case hF46 => exact ⟨hx2, hd2⟩
            case hs46 => exact ⟨rfl, rfl, rfl, rfl, rfl, rfl, rfl, trivial⟩
            case hm46 => exact fun w h => h
          · skip
            (try simp only [nrm] at hs59)
            refine TC.seq ?_
            refine TC.region ?_
            refine' TL.y rfl rfl rfl ?hy47 ?_
            case hy47 => exact Yl.bin rfl rfl rfl (Bin.eql _ _ _ _)
            refine' TL.y rfl rfl rfl ?hy48 ?_
            case hy48 => exact Yl.assign rfl rfl
            refine TL.nil ?_
            refine TE.next ?_
            refine TC.cond rfl (fun hs72 => ?_) (fun hs72 => ?_)
            · skip
              (try simp only [nrm] at hs72)
              refine TC.seq ?_
              refine TC.region ?_
              refine' TL.y rfl rfl rfl ?hy49 ?_
              case hy49 => exact Yl.move rfl rfl
              refine' TL.y rfl rfl rfl ?hy50 ?_
              case hy50 => first | exact Yl.field0 (k := 0) 11 rfl rfl Try.underlying32 rfl (by kernel_rfl) rfl | exact Yl.field (k := 0) 11 rfl rfl Try.underlying32 rfl (by kernel_rfl) rfl
              refine' TL.y rfl rfl rfl ?hy51 ?_
              case hy51 => exact Yl.load (v := .int .i64 (atA l i).a) rfl rfl (by kernel_rfl) (Hp.cell mem2 rfl)
              refine' TL.y rfl rfl rfl ?hy52 ?_
              case hy52 => first | exact Yl.field0 (k := 0) 12 rfl rfl Try.underlying32 rfl (by kernel_rfl) rfl | exact Yl.field (k := 0) 12 rfl rfl Try.underlying32 rfl (by kernel_rfl) rfl
              refine' TL.y rfl rfl rfl ?hy53 ?_
              case hy53 => exact Yl.load (v := .int .i64 (atA l i).b) rfl rfl (by kernel_rfl) (Hp.cell mem2 rfl)
              refine' TL.c rfl rfl rfl ?hy54 ?_
              case hy54 => exact Yc.call rfl Try.func13 (by kernel_rfl) rfl rfl (Hp.turnx mem0 (fun s => foc0) (k_scut hx (atA l i).a (atA l i).b))
              intro ⟨⟨v79, x2⟩, hx2⟩
              dsimp only at hx2 ⊢
              refine TL.wk (M' := Hp W (fun _ => False) [dpR ⟨ds, dv, db, dw⟩ u, rowI v79 (idsL u (atA l i).a (atA l i).b), spR x2 (scut u (atA l i).a (atA l i).b), blk b9 (.cells #[.int .i64 ((atA l i)).k, .int .i64 ((atA l i)).x.f0, .int .i64 ((atA l i)).x.f1, .int .i64 ((atA l i)).x.f2, .int .i64 ((atA l i)).x.f3, .int .i64 ((atA l i)).x.f4, .bool ((atA l i)).x.f5, .int .i64 ((atA l i)).e.k, .int .i64 ((atA l i)).e.pg, .bool ((atA l i)).e.w, .bool ((atA l i)).e.t, .int .i64 ((atA l i)).a, .int .i64 ((atA l i)).b] 32 (0, 0))]) (fun w h => h.unstar.swap1.swap) ?_
              refine' TL.y rfl rfl rfl ?hy55 ?_
              case hy55 => exact Yl.assign rfl rfl
              refine TL.nil ?_
              refine TE.next ?_
              refine TC.seq ?_
              refine TC.region ?_
              refine' TL.y rfl rfl rfl ?hy56 ?_
              case hy56 => exact Yl.move rfl rfl
              refine' TL.y rfl rfl rfl ?hy57 ?_
              case hy57 => first | exact Yl.field0 (k := 0) 11 rfl rfl Try.underlying32 rfl (by kernel_rfl) rfl | exact Yl.field (k := 0) 11 rfl rfl Try.underlying32 rfl (by kernel_rfl) rfl
              refine' TL.y rfl rfl rfl ?hy58 ?_
              case hy58 => exact Yl.load (v := .int .i64 (atA l i).a) rfl rfl (by kernel_rfl) (Hp.cell mem3 rfl)
              refine' TL.y rfl rfl rfl ?hy59 ?_
              case hy59 => first | exact Yl.field0 (k := 0) 12 rfl rfl Try.underlying32 rfl (by kernel_rfl) rfl | exact Yl.field (k := 0) 12 rfl rfl Try.underlying32 rfl (by kernel_rfl) rfl
              refine' TL.y rfl rfl rfl ?hy60 ?_
              case hy60 => exact Yl.load (v := .int .i64 (atA l i).b) rfl rfl (by kernel_rfl) (Hp.cell mem3 rfl)
              refine' TL.c rfl rfl rfl ?hy61 ?_
              case hy61 => exact Yc.call rfl Try.func23 (by kernel_rfl) rfl rfl (Hp.turnx mem0 (fun s => foc0) (k_dcut hd (atA l i).a (atA l i).b))
              intro ⟨⟨v85, d2⟩, hd2⟩
              dsimp only at hd2 ⊢
              refine TL.wk (M' := Hp W (fun _ => False) [rowI v85 (idsL u (atA l i).a (atA l i).b), dpR d2 (scut u (atA l i).a (atA l i).b), rowI v79 (idsL u (atA l i).a (atA l i).b), spR x2 (scut u (atA l i).a (atA l i).b), blk b9 (.cells #[.int .i64 ((atA l i)).k, .int .i64 ((atA l i)).x.f0, .int .i64 ((atA l i)).x.f1, .int .i64 ((atA l i)).x.f2, .int .i64 ((atA l i)).x.f3, .int .i64 ((atA l i)).x.f4, .bool ((atA l i)).x.f5, .int .i64 ((atA l i)).e.k, .int .i64 ((atA l i)).e.pg, .bool ((atA l i)).e.w, .bool ((atA l i)).e.t, .int .i64 ((atA l i)).a, .int .i64 ((atA l i)).b] 32 (0, 0))]) (fun w h => h.unstar) ?_
              refine TL.fact (fun w h => Hp.rowShape mem0 w h) ?_
              rintro ⟨A85, c85, rfl⟩
              refine TL.fact (fun w h => Hp.rowShape mem2 w h) ?_
              rintro ⟨A79, c79, rfl⟩
              have hil : (idsL u (atA l i).a (atA l i).b).length ≤ 65536 := by rw [ids_len]; exact pgs_len2 u _ _
              refine' TL.y rfl rfl rfl ?hy62 ?_
              case hy62 => exact Yl.assign rfl rfl
              refine TL.nil ?_
              refine TE.next ?_
              refine TC.seq ?_
              refine TC.region ?_
              refine' TL.y rfl rfl rfl ?hy63 ?_
              case hy63 => exact Yl.move rfl rfl
              refine' TL.y rfl rfl rfl ?hy64 ?_
              case hy64 => exact Yl.move rfl rfl
              refine' TL.c rfl rfl rfl ?hy65 ?_
              case hy65 => exact Yc.call rfl Try.func24 (by kernel_rfl) rfl rfl (Hp.calls (fun w h => k_rowL w (Hp.rowSl mem2 w h) (Hp.rowSl mem0 w h) (by omega)))
              intro _
              rw [decide_eq_true rfl]
              refine' TL.y rfl rfl rfl ?hy66 ?_
              case hy66 => exact Yl.assign rfl rfl
              refine TL.nil ?_
              refine TE.next ?_
              refine TC.seq ?_
              refine TC.region ?_
              refine' TL.y rfl rfl rfl ?hy67 ?_
              case hy67 => exact Yl.move rfl rfl
              refine' TL.y rfl rfl rfl ?hy68 ?_
              case hy68 => exact Yl.not rfl rfl
              refine TL.nil ?_
              refine TE.next ?_
              refine TC.no rfl rfl ?_
              refine TC.skip ?_
              refine TE.inNormal ?_
              refine TE.met (s, e, x2, d2, scut u (atA l i).a (atA l i).b) ?hF69 ?hs69 ?hm69
              case hF69 => exact ⟨hx2, hd2⟩
              case hs69 => exact ⟨rfl, rfl, rfl, rfl, rfl, rfl, rfl, trivial⟩
              case hm69 => exact fun w h => (Hp.sub h (H' := [dpR d2 (scut u (atA l i).a (atA l i).b), spR x2 (scut u (atA l i).a (atA l i).b), blk b9 (.cells #[.int .i64 ((atA l i)).k, .int .i64 ((atA l i)).x.f0, .int .i64 ((atA l i)).x.f1, .int .i64 ((atA l i)).x.f2, .int .i64 ((atA l i)).x.f3, .int .i64 ((atA l i)).x.f4, .bool ((atA l i)).x.f5, .int .i64 ((atA l i)).e.k, .int .i64 ((atA l i)).e.pg, .bool ((atA l i)).e.w, .bool ((atA l i)).e.t, .int .i64 ((atA l i)).a, .int .i64 ((atA l i)).b] 32 (0, 0))]) (by repeat (first | exact sR _ | exact sN _ | apply sK | apply sC))).swap
            · skip
              (try simp only [nrm] at hs72)
              refine TC.seq ?_
              refine TC.region ?_
              refine' TL.y rfl rfl rfl ?hy70 ?_
              case hy70 => exact Yl.bin rfl rfl rfl (Bin.eql _ _ _ _)
              refine' TL.y rfl rfl rfl ?hy71 ?_
              case hy71 => exact Yl.assign rfl rfl
              refine TL.nil ?_
              refine TE.next ?_
              refine TC.cond rfl (fun hs91 => ?_) (fun hs91 => ?_)
              · skip
                (try simp only [nrm] at hs91)
                refine TC.seq ?_
                refine TC.region ?_
                refine' TL.y rfl rfl rfl ?hy72 ?_
                case hy72 => exact Yl.move rfl rfl
                refine' TL.y rfl rfl rfl ?hy73 ?_
                case hy73 => first | exact Yl.field0 (k := 0) 11 rfl rfl Try.underlying32 rfl (by kernel_rfl) rfl | exact Yl.field (k := 0) 11 rfl rfl Try.underlying32 rfl (by kernel_rfl) rfl
                refine' TL.y rfl rfl rfl ?hy74 ?_
                case hy74 => exact Yl.load (v := .int .i64 (atA l i).a) rfl rfl (by kernel_rfl) (Hp.cell mem2 rfl)
                refine' TL.y rfl rfl rfl ?hy75 ?_
                case hy75 => first | exact Yl.field0 (k := 3) 7 rfl rfl Try.underlying32 rfl (by kernel_rfl) rfl | exact Yl.field (k := 3) 7 rfl rfl Try.underlying32 rfl (by kernel_rfl) rfl
                refine' TL.y rfl rfl rfl ?hy76 ?_
                case hy76 => exact Yl.loads (cs := [.int .i64 ((atA l i).e).k, .int .i64 ((atA l i).e).pg, .bool ((atA l i).e).w, .bool ((atA l i).e).t]) rfl rfl (by kernel_rfl) (by kernel_rfl) (Hp.cells (off := 7) mem2 (cE_at _))
                refine' TL.c rfl rfl rfl ?hy77 ?_
                case hy77 => exact Yc.call rfl Try.func12 (by kernel_rfl) rfl rfl (Hp.turnx mem0 (fun s => foc0) (k_sset hx (atA l i).a (atA l i).e (hw i (by omega))))
                intro ⟨x2, hx2⟩
                dsimp only
                refine' TL.y rfl rfl rfl ?hy78 ?_
                case hy78 => exact Yl.assign rfl rfl
                refine TL.nil ?_
                refine TE.next ?_
                refine TC.seq ?_
                refine TC.region ?_
                refine' TL.y rfl rfl rfl ?hy79 ?_
                case hy79 => exact Yl.move rfl rfl
                refine' TL.y rfl rfl rfl ?hy80 ?_
                case hy80 => first | exact Yl.field0 (k := 0) 11 rfl rfl Try.underlying32 rfl (by kernel_rfl) rfl | exact Yl.field (k := 0) 11 rfl rfl Try.underlying32 rfl (by kernel_rfl) rfl
                refine' TL.y rfl rfl rfl ?hy81 ?_
                case hy81 => exact Yl.load (v := .int .i64 (atA l i).a) rfl rfl (by kernel_rfl) (Hp.cell mem2 rfl)
                refine' TL.y rfl rfl rfl ?hy82 ?_
                case hy82 => first | exact Yl.field0 (k := 3) 7 rfl rfl Try.underlying32 rfl (by kernel_rfl) rfl | exact Yl.field (k := 3) 7 rfl rfl Try.underlying32 rfl (by kernel_rfl) rfl
                refine' TL.y rfl rfl rfl ?hy83 ?_
                case hy83 => exact Yl.loads (cs := [.int .i64 ((atA l i).e).k, .int .i64 ((atA l i).e).pg, .bool ((atA l i).e).w, .bool ((atA l i).e).t]) rfl rfl (by kernel_rfl) (by kernel_rfl) (Hp.cells (off := 7) mem2 (cE_at _))
                refine' TL.c rfl rfl rfl ?hy84 ?_
                case hy84 => exact Yc.call rfl Try.func25 (by kernel_rfl) rfl rfl (Hp.turnx mem1 (fun s => foc1) (k_dset hd (atA l i).a (atA l i).e (hw i (by omega))))
                intro ⟨d2, hd2⟩
                dsimp only
                refine' TL.y rfl rfl rfl ?hy85 ?_
                case hy85 => exact Yl.assign rfl rfl
                refine TL.nil ?_
                refine TE.next ?_
                refine TC.seq ?_
                refine TC.region ?_
                refine' TL.y rfl rfl rfl ?hy86 ?_
                case hy86 => exact Yl.move rfl rfl
                refine' TL.y rfl rfl rfl ?hy87 ?_
                case hy87 => exact Yl.move rfl rfl
                refine' TL.y rfl rfl rfl ?hy88 ?_
                case hy88 => exact Yl.bin rfl rfl rfl (Bin.neq _ _ _ _)
                refine TL.nil ?_
                refine TE.next ?_
                refine TC.no rfl (by simp) ?_
                refine TC.skip ?_
                refine TE.inNormal ?_
                refine TE.met (s, e, x2, d2, (sset u (atA l i).a (atA l i).e).1) ?hF89 ?hs89 ?hm89
                case hF89 => exact ⟨hx2, hd2⟩
                case hs89 => exact ⟨rfl, rfl, rfl, rfl, rfl, rfl, rfl, trivial⟩
                case hm89 => exact fun w h => h
              · skip
                (try simp only [nrm] at hs91)
                refine TC.seq ?_
                refine TC.region ?_
                refine' TL.y rfl rfl rfl ?hy90 ?_
                case hy90 => exact Yl.bin rfl rfl rfl (Bin.eql _ _ _ _)
                refine' TL.y rfl rfl rfl ?hy91 ?_
                case hy91 => exact Yl.assign rfl rfl
                refine TL.nil ?_
                refine TE.next ?_
                refine TC.cond rfl (fun hs108 => ?_) (fun hs108 => ?_)
                · skip
                  (try simp only [nrm] at hs108)
                  refine TC.seq ?_
                  refine TC.region ?_
                  refine' TL.y rfl rfl rfl ?hy92 ?_
                  case hy92 => exact Yl.move rfl rfl
                  refine' TL.y rfl rfl rfl ?hy93 ?_
                  case hy93 => first | exact Yl.field0 (k := 0) 11 rfl rfl Try.underlying32 rfl (by kernel_rfl) rfl | exact Yl.field (k := 0) 11 rfl rfl Try.underlying32 rfl (by kernel_rfl) rfl
                  refine' TL.y rfl rfl rfl ?hy94 ?_
                  case hy94 => exact Yl.load (v := .int .i64 (atA l i).a) rfl rfl (by kernel_rfl) (Hp.cell mem2 rfl)
                  refine' TL.c rfl rfl rfl ?hy95 ?_
                  case hy95 => exact Yc.call rfl Try.func19 (by kernel_rfl) rfl rfl (Hp.turnx mem0 (fun s => foc0) (k_stouch hx (atA l i).a))
                  intro ⟨x2, hx2⟩
                  dsimp only
                  refine' TL.y rfl rfl rfl ?hy96 ?_
                  case hy96 => exact Yl.assign rfl rfl
                  refine TL.nil ?_
                  refine TE.next ?_
                  refine TC.seq ?_
                  refine TC.region ?_
                  refine' TL.y rfl rfl rfl ?hy97 ?_
                  case hy97 => exact Yl.move rfl rfl
                  refine' TL.y rfl rfl rfl ?hy98 ?_
                  case hy98 => first | exact Yl.field0 (k := 0) 11 rfl rfl Try.underlying32 rfl (by kernel_rfl) rfl | exact Yl.field (k := 0) 11 rfl rfl Try.underlying32 rfl (by kernel_rfl) rfl
                  refine' TL.y rfl rfl rfl ?hy99 ?_
                  case hy99 => exact Yl.load (v := .int .i64 (atA l i).a) rfl rfl (by kernel_rfl) (Hp.cell mem2 rfl)
                  refine' TL.c rfl rfl rfl ?hy100 ?_
                  case hy100 => exact Yc.call rfl Try.func26 (by kernel_rfl) rfl rfl (Hp.turnx mem1 (fun s => foc1) (k_dtouch hd (atA l i).a))
                  intro ⟨d2, hd2⟩
                  dsimp only
                  refine' TL.y rfl rfl rfl ?hy101 ?_
                  case hy101 => exact Yl.assign rfl rfl
                  refine TL.nil ?_
                  refine TE.next ?_
                  refine TC.seq ?_
                  refine TC.region ?_
                  refine' TL.y rfl rfl rfl ?hy102 ?_
                  case hy102 => exact Yl.move rfl rfl
                  refine' TL.y rfl rfl rfl ?hy103 ?_
                  case hy103 => exact Yl.move rfl rfl
                  refine' TL.y rfl rfl rfl ?hy104 ?_
                  case hy104 => exact Yl.bin rfl rfl rfl (Bin.neqB _ _ _ (by kernel_rfl))
                  refine TL.nil ?_
                  refine TE.next ?_
                  refine TC.no rfl (by simp) ?_
                  refine TC.skip ?_
                  refine TE.inNormal ?_
                  refine TE.met (s, e, x2, d2, stouch u (atA l i).a) ?hF105 ?hs105 ?hm105
                  case hF105 => exact ⟨hx2, hd2⟩
                  case hs105 => exact ⟨rfl, rfl, rfl, rfl, rfl, rfl, rfl, trivial⟩
                  case hm105 => exact fun w h => h
                · skip
                  (try simp only [nrm] at hs108)
                  refine TC.seq ?_
                  refine TC.region ?_
                  refine' TL.y rfl rfl rfl ?hy106 ?_
                  case hy106 => exact Yl.bin rfl rfl rfl (Bin.eql _ _ _ _)
                  refine' TL.y rfl rfl rfl ?hy107 ?_
                  case hy107 => exact Yl.assign rfl rfl
                  refine TL.nil ?_
                  refine TE.next ?_
                  refine TC.cond rfl (fun hs121 => ?_) (fun hs121 => ?_)
                  · skip
                    (try simp only [nrm] at hs121)
                    refine TC.seq ?_
                    refine TC.region ?_
                    refine' TL.y rfl rfl rfl ?hy108 ?_
                    case hy108 => exact Yl.move rfl rfl
                    refine' TL.c rfl rfl rfl ?hy109 ?_
                    case hy109 => exact Yc.call rfl Try.func20 (by kernel_rfl) rfl rfl (Hp.turnx mem0 (fun s => foc0) (k_srest hx))
                    intro ⟨x2, hx2⟩
                    dsimp only
                    refine' TL.y rfl rfl rfl ?hy110 ?_
                    case hy110 => exact Yl.assign rfl rfl
                    refine TL.nil ?_
                    refine TE.next ?_
                    refine TC.seq ?_
                    refine TC.region ?_
                    refine' TL.y rfl rfl rfl ?hy111 ?_
                    case hy111 => exact Yl.move rfl rfl
                    refine' TL.c rfl rfl rfl ?hy112 ?_
                    case hy112 => exact Yc.call rfl Try.func27 (by kernel_rfl) rfl rfl (Hp.turnx mem1 (fun s => foc1) (k_drest hd))
                    intro ⟨d2, hd2⟩
                    dsimp only
                    refine' TL.y rfl rfl rfl ?hy113 ?_
                    case hy113 => exact Yl.assign rfl rfl
                    refine TL.nil ?_
                    refine TE.next ?_
                    refine TC.seq ?_
                    refine TC.region ?_
                    refine' TL.y rfl rfl rfl ?hy114 ?_
                    case hy114 => exact Yl.move rfl rfl
                    refine' TL.y rfl rfl rfl ?hy115 ?_
                    case hy115 => exact Yl.move rfl rfl
                    refine' TL.y rfl rfl rfl ?hy116 ?_
                    case hy116 => exact Yl.bin rfl rfl rfl (Bin.neq _ _ _ _)
                    refine TL.nil ?_
                    refine TE.next ?_
                    refine TC.no rfl (by simp) ?_
                    refine TC.skip ?_
                    refine TE.inNormal ?_
                    refine TE.met (s, e, x2, d2, srest u) ?hF117 ?hs117 ?hm117
                    case hF117 => exact ⟨hx2, hd2⟩
                    case hs117 => exact ⟨rfl, rfl, rfl, rfl, rfl, rfl, rfl, trivial⟩
                    case hm117 => exact fun w h => h
                  · skip
                    (try simp only [nrm] at hs121)
                    refine TC.seq ?_
                    refine TC.region ?_
                    refine' TL.y rfl rfl rfl ?hy118 ?_
                    case hy118 => exact Yl.move rfl rfl
                    refine' TL.c rfl rfl rfl ?hy119 ?_
                    case hy119 => exact Yc.call rfl Try.func17 (by kernel_rfl) rfl rfl (Hp.news (fun w h => k_sclone w (h.all _ mem0) hx))
                    intro ⟨x2, hx2⟩
                    dsimp only
                    refine' TL.y rfl rfl rfl ?hy120 ?_
                    case hy120 => exact Yl.assign rfl rfl
                    refine TL.nil ?_
                    refine TE.next ?_
                    refine TC.seq ?_
                    refine TC.region ?_
                    refine' TL.y rfl rfl rfl ?hy121 ?_
                    case hy121 => exact Yl.move rfl rfl
                    refine' TL.c rfl rfl rfl ?hy122 ?_
                    case hy122 => exact Yc.call rfl Try.func28 (by kernel_rfl) rfl rfl (Hp.news (fun w h => k_dspclone w (h.all _ mem2) hd))
                    intro ⟨d2, hd2⟩
                    dsimp only
                    refine' TL.y rfl rfl rfl ?hy123 ?_
                    case hy123 => exact Yl.assign rfl rfl
                    refine TL.nil ?_
                    refine TE.next ?_
                    refine TC.seq ?_
                    refine TC.region ?_
                    refine' TL.y rfl rfl rfl ?hy124 ?_
                    case hy124 => exact Yl.move rfl rfl
                    refine' TL.y rfl rfl rfl ?hy125 ?_
                    case hy125 => exact Yl.bin rfl rfl rfl (Bin.eqlP _ _ _ Try.underlying24)
                    refine TL.nil ?_
                    refine TE.next ?_
                    refine TC.no rfl (rfl) ?_
                    refine TC.skip ?_
                    refine TE.inNormal ?_
                    refine TE.met (x2.s, d2.s, x2, d2, u) ?hF126 ?hs126 ?hm126
                    case hF126 => exact ⟨hx2, hd2⟩
                    case hs126 => exact ⟨rfl, rfl, rfl, rfl, rfl, rfl, rfl, trivial⟩
                    case hm126 => exact fun w h => (Hp.sub h (H' := [dpR d2 u, spR x2 u, blk b9 (.cells #[.int .i64 ((atA l i)).k, .int .i64 ((atA l i)).x.f0, .int .i64 ((atA l i)).x.f1, .int .i64 ((atA l i)).x.f2, .int .i64 ((atA l i)).x.f3, .int .i64 ((atA l i)).x.f4, .bool ((atA l i)).x.f5, .int .i64 ((atA l i)).e.k, .int .i64 ((atA l i)).e.pg, .bool ((atA l i)).e.w, .bool ((atA l i)).e.t, .int .i64 ((atA l i)).a, .int .i64 ((atA l i)).b] 32 (0, 0))]) (by repeat (first | exact sR _ | exact sN _ | apply sK | apply sC))).swap
        case hy27 =>
          rintro ⟨s, e, x, ⟨ds, dv, db, dw⟩, u⟩ ⟨hx, hd⟩
          dsimp only at hx hd ⊢
          have hlg := hd.ok.len
          refine TC.fact (fun w h => Hp.dpv mem1 w h) ?_
          rintro ⟨A2, c2, hA2⟩
          dsimp only at hA2
          subst hA2
          refine TC.fact (fun w h => Hp.dpw mem1 w h) ?_
          rintro ⟨B2, cb, hB2⟩
          dsimp only at hB2
          subst hB2
          refine TC.seq ?_
          refine TC.region ?_
          refine' TL.y rfl rfl rfl ?hy127 ?_
          case hy127 => exact Yl.move rfl rfl
          refine' TL.y rfl rfl rfl ?hy128 ?_
          case hy128 => exact Yl.move rfl rfl
          refine' TL.c rfl rfl rfl ?hy129 ?_
          case hy129 => exact Yc.call rfl Try.func14 (by kernel_rfl) rfl rfl (Hp.calls (fun w h => k_sentry w (h.all _ mem0) hx n))
          intro _
          refine' TL.y rfl rfl rfl ?hy130 ?_
          case hy130 => exact Yl.move rfl rfl
          refine' TL.y rfl rfl rfl ?hy131 ?_
          case hy131 => exact Yl.extract rfl rfl rfl
          refine' TL.y rfl rfl rfl ?hy132 ?_
          case hy132 => exact Yl.extract rfl rfl rfl
          refine' TL.mx rfl rfl rfl ?hy133 ?_
          case hy133 => exact Ym.alloc (z := .agg #[.int .i64 0, .int .i64 0, .bool false, .bool false]) rfl (by kernel_rfl)
          intro b21
          refine' TL.s rfl rfl ?hy134 ?_
          case hy134 => exact Ys.store (seg := [.int .i64 (((gE (u) n).getD zEn)).k, .int .i64 (((gE (u) n).getD zEn)).pg, .bool (((gE (u) n).getD zEn)).w, .bool (((gE (u) n).getD zEn)).t]) (c' := #[.int .i64 (((gE (u) n).getD zEn)).k, .int .i64 (((gE (u) n).getD zEn)).pg, .bool (((gE (u) n).getD zEn)).w, .bool (((gE (u) n).getD zEn)).t]) rfl rfl rfl (by simp [Value.cells]) (by kernel_rfl) (by simp [Value.oneCell']) foc0 (by simp [Value.cells]) (by kernel_rfl)
          refine' TL.y rfl rfl rfl ?hy135 ?_
          case hy135 => exact Yl.assign rfl rfl
          refine TL.nil ?_
          refine TE.next ?_
          refine TC.seq ?_
          refine TC.region ?_
          refine' TL.y rfl rfl rfl ?hy136 ?_
          case hy136 => exact Yl.move rfl rfl
          refine' TL.y rfl rfl rfl ?hy137 ?_
          case hy137 => exact Yl.move rfl rfl
          refine' TL.c rfl rfl rfl ?hy138 ?_
          case hy138 => exact Yc.call rfl Try.func29 (by kernel_rfl) rfl rfl (Hp.calls (fun w h => k_dentry w (h.all _ mem2) hd n))
          intro _
          refine' TL.y rfl rfl rfl ?hy139 ?_
          case hy139 => exact Yl.move rfl rfl
          refine' TL.y rfl rfl rfl ?hy140 ?_
          case hy140 => exact Yl.extract rfl rfl rfl
          refine' TL.y rfl rfl rfl ?hy141 ?_
          case hy141 => exact Yl.extract rfl rfl rfl
          refine' TL.mx rfl rfl rfl ?hy142 ?_
          case hy142 => exact Ym.alloc (z := .agg #[.int .i64 0, .int .i64 0, .bool false, .bool false]) rfl (by kernel_rfl)
          intro b23
          refine' TL.s rfl rfl ?hy143 ?_
          case hy143 => exact Ys.store (seg := [.int .i64 (((gE (u) n).getD zEn)).k, .int .i64 (((gE (u) n).getD zEn)).pg, .bool (((gE (u) n).getD zEn)).w, .bool (((gE (u) n).getD zEn)).t]) (c' := #[.int .i64 (((gE (u) n).getD zEn)).k, .int .i64 (((gE (u) n).getD zEn)).pg, .bool (((gE (u) n).getD zEn)).w, .bool (((gE (u) n).getD zEn)).t]) rfl rfl rfl (by simp [Value.cells]) (by kernel_rfl) (by simp [Value.oneCell']) foc0 (by simp [Value.cells]) (by kernel_rfl)
          refine' TL.y rfl rfl rfl ?hy144 ?_
          case hy144 => exact Yl.assign rfl rfl
          refine TL.nil ?_
          refine TE.next ?_
          refine TC.seq ?_
          refine TC.region ?_
          refine' TL.y rfl rfl rfl ?hy145 ?_
          case hy145 => exact Yl.move rfl rfl
          refine' TL.y rfl rfl rfl ?hy146 ?_
          case hy146 => first | exact Yl.field0 (k := 0) 11 rfl rfl Try.underlying32 rfl (by kernel_rfl) rfl | exact Yl.field (k := 0) 11 rfl rfl Try.underlying32 rfl (by kernel_rfl) rfl
          refine' TL.y rfl rfl rfl ?hy147 ?_
          case hy147 => exact Yl.load (v := .int .i64 (atA l i).a) rfl rfl (by kernel_rfl) (Hp.cell mem4 rfl)
          refine' TL.c rfl rfl rfl ?hy148 ?_
          case hy148 => exact Yc.call rfl Try.func15 (by kernel_rfl) rfl rfl (Hp.calls (fun w h => k_swhere w (h.all _ mem2) hx (atA l i).a))
          intro _
          refine' TL.y rfl rfl rfl ?hy149 ?_
          case hy149 => exact Yl.move rfl rfl
          refine' TL.y rfl rfl rfl ?hy150 ?_
          case hy150 => exact Yl.extract rfl rfl rfl
          refine' TL.y rfl rfl rfl ?hy151 ?_
          case hy151 => exact Yl.extract rfl rfl rfl
          refine' TL.mx rfl rfl rfl ?hy152 ?_
          case hy152 => exact Ym.alloc (z := .agg #[.int .i64 0, .int .i64 0, .int .i64 0, .int .i64 0, .int .i64 0, .bool false]) rfl (by kernel_rfl)
          intro b25
          refine' TL.s rfl rfl ?hy153 ?_
          case hy153 => exact Ys.store (seg := [.int .i64 (((fnd (u).G (atA l i).a).getD z25)).f0, .int .i64 (((fnd (u).G (atA l i).a).getD z25)).f1, .int .i64 (((fnd (u).G (atA l i).a).getD z25)).f2, .int .i64 (((fnd (u).G (atA l i).a).getD z25)).f3, .int .i64 (((fnd (u).G (atA l i).a).getD z25)).f4, .bool (((fnd (u).G (atA l i).a).getD z25)).f5]) (c' := #[.int .i64 (((fnd (u).G (atA l i).a).getD z25)).f0, .int .i64 (((fnd (u).G (atA l i).a).getD z25)).f1, .int .i64 (((fnd (u).G (atA l i).a).getD z25)).f2, .int .i64 (((fnd (u).G (atA l i).a).getD z25)).f3, .int .i64 (((fnd (u).G (atA l i).a).getD z25)).f4, .bool (((fnd (u).G (atA l i).a).getD z25)).f5]) rfl rfl rfl (by simp [Value.cells]) (by kernel_rfl) (by simp [Value.oneCell']) foc0 (by simp [Value.cells]) (by kernel_rfl)
          refine' TL.y rfl rfl rfl ?hy154 ?_
          case hy154 => exact Yl.assign rfl rfl
          refine TL.nil ?_
          refine TE.next ?_
          refine TC.seq ?_
          refine TC.draw (k := 13) (Hp W (fun _ => False) [dpR ⟨ds, .slice A2 u.G.length c2, db, .slice B2 (sizeS u) cb⟩ u, blk b9 (.cells #[.int .i64 ((atA l i)).k, .int .i64 ((atA l i)).x.f0, .int .i64 ((atA l i)).x.f1, .int .i64 ((atA l i)).x.f2, .int .i64 ((atA l i)).x.f3, .int .i64 ((atA l i)).x.f4, .bool ((atA l i)).x.f5, .int .i64 ((atA l i)).e.k, .int .i64 ((atA l i)).e.pg, .bool ((atA l i)).e.w, .bool ((atA l i)).e.t, .int .i64 ((atA l i)).a, .int .i64 ((atA l i)).b] 32 (0, 0))]) [11] #[false, false, false, false, false, false, false, false, false, false, false, false, false] (by kernel_rfl) rfl rfl (fun _ h => h.drew) (fun _ h => by exact Hp.sub h (by repeat (first | exact sR _ | exact sN _ | apply sK | apply sC))) ?_
          refine' TA.p (i := 0) #[true, false, false, false, false, false, false, false, false, false, false, false, false] rfl rfl rfl (by kernel_rfl) (fun _ _ _ h => h) rfl ?hy155 ?_
          case hy155 => exact Yl.move rfl rfl
          refine' TA.p (i := 1) #[true, true, false, false, false, false, false, false, false, false, false, false, false] rfl rfl rfl (by kernel_rfl) (fun _ _ _ h => h) rfl ?hy156 ?_
          case hy156 => exact Yl.nilCheck rfl rfl
          refine' TA.p (i := 2) #[true, true, true, false, false, false, false, false, false, false, false, false, false] rfl rfl rfl (by kernel_rfl) (fun _ _ _ h => h) rfl ?hy157 ?_
          case hy157 => first | exact Yl.field0 (k := 0) 0 rfl rfl Try.underlying56 rfl (by kernel_rfl) rfl | exact Yl.field (k := 0) 0 rfl rfl Try.underlying56 rfl (by kernel_rfl) rfl
          refine' TA.y (i := 3) #[true, true, true, true, false, false, false, false, false, false, false, false, false] rfl rfl rfl (by kernel_rfl) (fun _ _ _ h => h) (fun _ h => by exact Hp.sub h (by repeat (first | exact sR _ | exact sN _ | apply sK | apply sC))) rfl ?hy158 ?_
          case hy158 => exact Yl.load (v := .slice A2 u.G.length c2) rfl rfl (by kernel_rfl) (Hp.dpc0 hd mem0)
          refine' TA.p (i := 4) #[true, true, true, true, true, false, false, false, false, false, false, false, false] rfl rfl rfl (by kernel_rfl) (fun _ _ _ h => h) rfl ?hy159 ?_
          case hy159 => first | exact Yl.field0 (k := 0) 11 rfl rfl Try.underlying32 rfl (by kernel_rfl) rfl | exact Yl.field (k := 0) 11 rfl rfl Try.underlying32 rfl (by kernel_rfl) rfl
          refine' TA.y (i := 5) #[true, true, true, true, true, true, false, false, false, false, false, false, false] rfl rfl rfl (by kernel_rfl) (fun _ _ _ h => h) (fun _ h => by exact Hp.sub h (by repeat (first | exact sR _ | exact sN _ | apply sK | apply sC))) rfl ?hy160 ?_
          case hy160 => exact Yl.load (v := .int .i64 (atA l i).a) rfl rfl (by kernel_rfl) (Hp.cell mem1 rfl)
          refine' TA.twoCM (i := 6) (j := 10) #[true, true, true, true, true, true, true, false, false, false, false, false, false] #[true, true, true, true, true, true, false, false, false, false, true, false, false] rfl rfl rfl rfl rfl rfl (by kernel_rfl) (by decide) (by decide) rfl rfl ?hy161 ?hs161 ?hz161 ?hq161 ?hF161 ?hm161
          case hy161 => exact Yc.call rfl Try.func30 (by kernel_rfl) rfl rfl (Hp.calls (fun w h => by first | exact k_rfind w (Hp.dpsl mem4 w h) (by omega) (atA l i).a | exact k_rfind w (Hp.dpsl mem5 w h) (by omega) (atA l i).a))
          case hs161 => exact Ym.alloc (z := .agg #[.int .i64 0, .int .i64 0, .int .i64 0, .int .i64 0, .int .i64 0, .bool false]) rfl (by kernel_rfl)
          case hz161 => exact (fun _ _ h => by exact Hp.sub h (by repeat (first | exact sR _ | exact sN _ | apply sK | apply sC)))
          case hq161 => exact (fun _ _ h => by exact Hp.sub h (by repeat (first | exact sR _ | apply sC)))
          case hF161 =>
            intro _
            refine' TA.p (i := 7) #[true, true, true, true, true, true, true, true, false, false, false, false, false] rfl rfl rfl (by kernel_rfl) (fun _ _ _ h => h) rfl ?hy162 ?_
            case hy162 => exact Yl.move rfl rfl
            refine' TA.p (i := 8) #[true, true, true, true, true, true, true, true, true, false, false, false, false] rfl rfl rfl (by kernel_rfl) (fun _ _ _ h => h) rfl ?hy163 ?_
            case hy163 => exact Yl.extract rfl rfl rfl
            refine' TA.p (i := 9) #[true, true, true, true, true, true, true, true, true, true, false, false, false] rfl rfl rfl (by kernel_rfl) (fun _ _ _ h => h) rfl ?hy164 ?_
            case hy164 => exact Yl.extract rfl rfl rfl
            refine' TA.mx (i := 10) #[true, true, true, true, true, true, true, true, true, true, true, false, false] rfl rfl rfl (by kernel_rfl) (by decide) rfl ?hy165 ?hz165 ?_
            case hy165 => exact Ym.alloc (z := .agg #[.int .i64 0, .int .i64 0, .int .i64 0, .int .i64 0, .int .i64 0, .bool false]) rfl (by kernel_rfl)
            case hz165 => exact (fun _ _ h => by exact Hp.sub h (by repeat (first | exact sR _ | exact sN _ | apply sK | apply sC)))
            intro b27
            refine' TA.sl (i := 11) #[true, true, true, true, true, true, true, true, true, true, true, true, false] rfl rfl (by kernel_rfl) (by decide) rfl ?hy166 ?_
            case hy166 => exact Ys.store (seg := [.int .i64 (((fnd (u).G (atA l i).a).getD z25)).f0, .int .i64 (((fnd (u).G (atA l i).a).getD z25)).f1, .int .i64 (((fnd (u).G (atA l i).a).getD z25)).f2, .int .i64 (((fnd (u).G (atA l i).a).getD z25)).f3, .int .i64 (((fnd (u).G (atA l i).a).getD z25)).f4, .bool (((fnd (u).G (atA l i).a).getD z25)).f5]) (c' := #[.int .i64 (((fnd (u).G (atA l i).a).getD z25)).f0, .int .i64 (((fnd (u).G (atA l i).a).getD z25)).f1, .int .i64 (((fnd (u).G (atA l i).a).getD z25)).f2, .int .i64 (((fnd (u).G (atA l i).a).getD z25)).f3, .int .i64 (((fnd (u).G (atA l i).a).getD z25)).f4, .bool (((fnd (u).G (atA l i).a).getD z25)).f5]) rfl rfl rfl (by simp [Value.cells]) (by kernel_rfl) (by simp [Value.oneCell']) foc0 (by simp [Value.cells]) (by kernel_rfl)
            refine' TA.p (i := 12) #[true, true, true, true, true, true, true, true, true, true, true, true, true] rfl rfl rfl (by kernel_rfl) (fun _ _ _ h => h) rfl ?hy167 ?_
            case hy167 => exact Yl.assign rfl rfl
            refine TA.done (by kernel_rfl) ?_
            refine TE.next ?_
            refine TC.seq ?_
            refine TC.draw (k := 31) _ [] #[false, false, false, false, false, false, false, false, false, false, false, false, false, false, false, false, false, false, false, false, false, false, false, false, false, false, false, false, false, false, false] (by kernel_rfl) rfl rfl (fun _ h => h.drew) (fun _ h => h) ?_
            refine' TA.y (i := 0) #[true, false, false, false, false, false, false, false, false, false, false, false, false, false, false, false, false, false, false, false, false, false, false, false, false, false, false, false, false, false, false] rfl rfl rfl (by kernel_rfl) (fun _ _ _ h => h) (fun _ h => by exact Hp.sub h (by repeat (first | exact sR _ | apply sC))) rfl ?hy168 ?_
            case hy168 => exact Yl.loads (cs := [.int .i64 (((gE (u) n).getD zEn)).k, .int .i64 (((gE (u) n).getD zEn)).pg, .bool (((gE (u) n).getD zEn)).w, .bool (((gE (u) n).getD zEn)).t]) rfl rfl (by kernel_rfl) (by kernel_rfl) (Hp.cells mem3 (fun j v hj => by simpa [Value.cells] using hj))
            refine' TA.y (i := 1) #[true, true, false, false, false, false, false, false, false, false, false, false, false, false, false, false, false, false, false, false, false, false, false, false, false, false, false, false, false, false, false] rfl rfl rfl (by kernel_rfl) (fun _ _ _ h => h) (fun _ h => by exact Hp.sub h (by repeat (first | exact sR _ | apply sC))) rfl ?hy169 ?_
            case hy169 => exact Yl.loads (cs := [.int .i64 (((gE (u) n).getD zEn)).k, .int .i64 (((gE (u) n).getD zEn)).pg, .bool (((gE (u) n).getD zEn)).w, .bool (((gE (u) n).getD zEn)).t]) rfl rfl (by kernel_rfl) (by kernel_rfl) (Hp.cells mem2 (fun j v hj => by simpa [Value.cells] using hj))
            refine' TA.y (i := 2) #[true, true, true, false, false, false, false, false, false, false, false, false, false, false, false, false, false, false, false, false, false, false, false, false, false, false, false, false, false, false, false] rfl rfl rfl (by kernel_rfl) (fun _ _ _ h => h) (fun _ h => by exact Hp.sub h (by repeat (first | exact sR _ | apply sC))) rfl ?hy170 ?_
            case hy170 => exact Yl.bin rfl rfl rfl (Bin.neqE _ _ _ _ _ _ _ _)
            refine' TA.y (i := 3) #[true, true, true, true, false, false, false, false, false, false, false, false, false, false, false, false, false, false, false, false, false, false, false, false, false, false, false, false, false, false, false] rfl rfl rfl (by kernel_rfl) (fun _ _ _ h => h) (fun _ h => by exact Hp.sub h (by repeat (first | exact sR _ | apply sC))) rfl ?hy171 ?_
            case hy171 => exact Yl.move rfl rfl
            refine TA.re (i := 162) (v' := .bool false) rfl (congrArg Value.bool (by simp)) ?_
            refine' TA.y (i := 4) #[true, true, true, true, true, false, false, false, false, false, false, false, false, false, false, false, false, false, false, false, false, false, false, false, false, false, false, false, false, false, false] rfl rfl rfl (by kernel_rfl) (fun _ _ _ h => h) (fun _ h => by exact Hp.sub h (by repeat (first | exact sR _ | apply sC))) rfl ?hy172 ?_
            case hy172 => exact Yl.move rfl rfl
            refine' TA.y (i := 5) #[true, true, true, true, true, true, false, false, false, false, false, false, false, false, false, false, false, false, false, false, false, false, false, false, false, false, false, false, false, false, false] rfl rfl rfl (by kernel_rfl) (fun _ _ _ h => h) (fun _ h => by exact Hp.sub h (by repeat (first | exact sR _ | apply sC))) rfl ?hy173 ?_
            case hy173 => exact Yl.move rfl rfl
            refine' TA.y (i := 6) #[true, true, true, true, true, true, true, false, false, false, false, false, false, false, false, false, false, false, false, false, false, false, false, false, false, false, false, false, false, false, false] rfl rfl rfl (by kernel_rfl) (fun _ _ _ h => h) (fun _ h => by exact Hp.sub h (by repeat (first | exact sR _ | apply sC))) rfl ?hy174 ?_
            case hy174 => exact Yl.bin rfl rfl rfl (Bin.neqB _ _ _ (by kernel_rfl))
            refine' TA.y (i := 7) #[true, true, true, true, true, true, true, true, false, false, false, false, false, false, false, false, false, false, false, false, false, false, false, false, false, false, false, false, false, false, false] rfl rfl rfl (by kernel_rfl) (fun _ _ _ h => h) (fun _ h => by exact Hp.sub h (by repeat (first | exact sR _ | apply sC))) rfl ?hy175 ?_
            case hy175 => exact Yl.pickF rfl rfl rfl
            refine' TA.y (i := 8) #[true, true, true, true, true, true, true, true, true, false, false, false, false, false, false, false, false, false, false, false, false, false, false, false, false, false, false, false, false, false, false] rfl rfl rfl (by kernel_rfl) (fun _ _ _ h => h) (fun _ h => by exact Hp.sub h (by repeat (first | exact sR _ | apply sC))) rfl ?hy176 ?_
            case hy176 => exact Yl.move rfl rfl
            refine TA.re (i := 167) (v' := .bool false) rfl (congrArg Value.bool (by simp)) ?_
            refine' TA.y (i := 9) #[true, true, true, true, true, true, true, true, true, true, false, false, false, false, false, false, false, false, false, false, false, false, false, false, false, false, false, false, false, false, false] rfl rfl rfl (by kernel_rfl) (fun _ _ _ h => h) (fun _ h => by exact Hp.sub h (by repeat (first | exact sR _ | apply sC))) rfl ?hy177 ?_
            case hy177 => exact Yl.loads (cs := [.int .i64 (((fnd (u).G (atA l i).a).getD z25)).f0, .int .i64 (((fnd (u).G (atA l i).a).getD z25)).f1, .int .i64 (((fnd (u).G (atA l i).a).getD z25)).f2, .int .i64 (((fnd (u).G (atA l i).a).getD z25)).f3, .int .i64 (((fnd (u).G (atA l i).a).getD z25)).f4, .bool (((fnd (u).G (atA l i).a).getD z25)).f5]) rfl rfl (by kernel_rfl) (by kernel_rfl) (Hp.cells mem1 (fun j v hj => by simpa [Value.cells] using hj))
            refine' TA.y (i := 10) #[true, true, true, true, true, true, true, true, true, true, true, false, false, false, false, false, false, false, false, false, false, false, false, false, false, false, false, false, false, false, false] rfl rfl rfl (by kernel_rfl) (fun _ _ _ h => h) (fun _ h => by exact Hp.sub h (by repeat (first | exact sR _ | apply sC))) rfl ?hy178 ?_
            case hy178 => exact Yl.loads (cs := [.int .i64 (((fnd (u).G (atA l i).a).getD z25)).f0, .int .i64 (((fnd (u).G (atA l i).a).getD z25)).f1, .int .i64 (((fnd (u).G (atA l i).a).getD z25)).f2, .int .i64 (((fnd (u).G (atA l i).a).getD z25)).f3, .int .i64 (((fnd (u).G (atA l i).a).getD z25)).f4, .bool (((fnd (u).G (atA l i).a).getD z25)).f5]) rfl rfl (by kernel_rfl) (by kernel_rfl) (Hp.cells mem0 (fun j v hj => by simpa [Value.cells] using hj))
            refine' TA.y (i := 11) #[true, true, true, true, true, true, true, true, true, true, true, true, false, false, false, false, false, false, false, false, false, false, false, false, false, false, false, false, false, false, false] rfl rfl rfl (by kernel_rfl) (fun _ _ _ h => h) (fun _ h => by exact Hp.sub h (by repeat (first | exact sR _ | apply sC))) rfl ?hy179 ?_
            case hy179 => exact Yl.bin rfl rfl rfl (Bin.neqG _ _ _ _ _ _ _ _ _ _ _ _)
            refine' TA.y (i := 12) #[true, true, true, true, true, true, true, true, true, true, true, true, true, false, false, false, false, false, false, false, false, false, false, false, false, false, false, false, false, false, false] rfl rfl rfl (by kernel_rfl) (fun _ _ _ h => h) (fun _ h => by exact Hp.sub h (by repeat (first | exact sR _ | apply sC))) rfl ?hy180 ?_
            case hy180 => exact Yl.pickF rfl rfl rfl
            refine' TA.y (i := 13) #[true, true, true, true, true, true, true, true, true, true, true, true, true, true, false, false, false, false, false, false, false, false, false, false, false, false, false, false, false, false, false] rfl rfl rfl (by kernel_rfl) (fun _ _ _ h => h) (fun _ h => by exact Hp.sub h (by repeat (first | exact sR _ | apply sC))) rfl ?hy181 ?_
            case hy181 => exact Yl.move rfl rfl
            refine TA.re (i := 172) (v' := .bool false) rfl (congrArg Value.bool (by simp)) ?_
            refine' TA.y (i := 14) #[true, true, true, true, true, true, true, true, true, true, true, true, true, true, true, false, false, false, false, false, false, false, false, false, false, false, false, false, false, false, false] rfl rfl rfl (by kernel_rfl) (fun _ _ _ h => h) (fun _ h => by exact Hp.sub h (by repeat (first | exact sR _ | apply sC))) rfl ?hy182 ?_
            case hy182 => exact Yl.move rfl rfl
            refine' TA.y (i := 15) #[true, true, true, true, true, true, true, true, true, true, true, true, true, true, true, true, false, false, false, false, false, false, false, false, false, false, false, false, false, false, false] rfl rfl rfl (by kernel_rfl) (fun _ _ _ h => h) (fun _ h => by exact Hp.sub h (by repeat (first | exact sR _ | apply sC))) rfl ?hy183 ?_
            case hy183 => exact Yl.move rfl rfl
            refine' TA.y (i := 16) #[true, true, true, true, true, true, true, true, true, true, true, true, true, true, true, true, true, false, false, false, false, false, false, false, false, false, false, false, false, false, false] rfl rfl rfl (by kernel_rfl) (fun _ _ _ h => h) (fun _ h => by exact Hp.sub h (by repeat (first | exact sR _ | apply sC))) rfl ?hy184 ?_
            case hy184 => exact Yl.bin rfl rfl rfl (Bin.neqB _ _ _ (by kernel_rfl))
            refine' TA.y (i := 17) #[true, true, true, true, true, true, true, true, true, true, true, true, true, true, true, true, true, true, false, false, false, false, false, false, false, false, false, false, false, false, false] rfl rfl rfl (by kernel_rfl) (fun _ _ _ h => h) (fun _ h => by exact Hp.sub h (by repeat (first | exact sR _ | apply sC))) rfl ?hy185 ?_
            case hy185 => exact Yl.pickF rfl rfl rfl
            refine' TA.y (i := 18) #[true, true, true, true, true, true, true, true, true, true, true, true, true, true, true, true, true, true, true, false, false, false, false, false, false, false, false, false, false, false, false] rfl rfl rfl (by kernel_rfl) (fun _ _ _ h => h) (fun _ h => by exact Hp.sub h (by repeat (first | exact sR _ | apply sC))) rfl ?hy186 ?_
            case hy186 => exact Yl.move rfl rfl
            refine TA.re (i := 177) (v' := .bool false) rfl (congrArg Value.bool (by simp)) ?_
            refine' TA.y (i := 19) #[true, true, true, true, true, true, true, true, true, true, true, true, true, true, true, true, true, true, true, true, false, false, false, false, false, false, false, false, false, false, false] rfl rfl rfl (by kernel_rfl) (fun _ _ _ h => h) (fun _ h => by exact Hp.sub h (by repeat (first | exact sR _ | apply sC))) rfl ?hy187 ?_
            case hy187 => exact Yl.move rfl rfl
            refine' TA.y (i := 21) #[true, true, true, true, true, true, true, true, true, true, true, true, true, true, true, true, true, true, true, true, false, true, false, false, false, false, false, false, false, false, false] rfl rfl rfl (by kernel_rfl) (fun _ _ _ h => h) (fun _ h => by exact Hp.sub h (by repeat (first | exact sR _ | apply sC))) rfl ?hy188 ?_
            case hy188 => exact Yl.move rfl rfl
            refine' TA.y (i := 22) #[true, true, true, true, true, true, true, true, true, true, true, true, true, true, true, true, true, true, true, true, false, true, true, false, false, false, false, false, false, false, false] rfl rfl rfl (by kernel_rfl) (fun _ _ _ h => h) (fun _ h => by exact Hp.sub h (by repeat (first | exact sR _ | apply sC))) rfl ?hy189 ?_
            case hy189 => exact Yl.nilCheck rfl rfl
            refine' TA.y (i := 23) #[true, true, true, true, true, true, true, true, true, true, true, true, true, true, true, true, true, true, true, true, false, true, true, true, false, false, false, false, false, false, false] rfl rfl rfl (by kernel_rfl) (fun _ _ _ h => h) (fun _ h => by exact Hp.sub h (by repeat (first | exact sR _ | apply sC))) rfl ?hy190 ?_
            case hy190 => first | exact Yl.field0 (k := 0) 1 rfl rfl Try.underlying56 rfl (by kernel_rfl) rfl | exact Yl.field (k := 0) 1 rfl rfl Try.underlying56 rfl (by kernel_rfl) rfl
            refine' TA.y (i := 24) #[true, true, true, true, true, true, true, true, true, true, true, true, true, true, true, true, true, true, true, true, false, true, true, true, true, false, false, false, false, false, false] rfl rfl rfl (by kernel_rfl) (fun _ _ _ h => h) (fun _ h => by exact Hp.sub h (by repeat (first | exact sR _ | apply sC))) rfl ?hy191 ?_
            case hy191 => exact Yl.load (v := .pointer (some ⟨db, 0, none⟩)) rfl rfl (by kernel_rfl) (Hp.dpc1 hd mem5)
            refine' TA.y (i := 25) #[true, true, true, true, true, true, true, true, true, true, true, true, true, true, true, true, true, true, true, true, false, true, true, true, true, true, false, false, false, false, false] rfl rfl rfl (by kernel_rfl) (fun _ _ _ h => h) (fun _ h => by exact Hp.sub h (by repeat (first | exact sR _ | apply sC))) rfl ?hy192 ?_
            case hy192 => exact Yl.nilCheck rfl rfl
            refine' TA.y (i := 26) #[true, true, true, true, true, true, true, true, true, true, true, true, true, true, true, true, true, true, true, true, false, true, true, true, true, true, true, false, false, false, false] rfl rfl rfl (by kernel_rfl) (fun _ _ _ h => h) (fun _ h => by exact Hp.sub h (by repeat (first | exact sR _ | apply sC))) rfl ?hy193 ?_
            case hy193 => first | exact Yl.field0 (k := 0) 0 rfl rfl Try.underlying59 rfl (by kernel_rfl) rfl | exact Yl.field (k := 0) 0 rfl rfl Try.underlying59 rfl (by kernel_rfl) rfl
            refine' TA.y (i := 27) #[true, true, true, true, true, true, true, true, true, true, true, true, true, true, true, true, true, true, true, true, false, true, true, true, true, true, true, true, false, false, false] rfl rfl rfl (by kernel_rfl) (fun _ _ _ h => h) (fun _ h => by exact Hp.sub h (by repeat (first | exact sR _ | apply sC))) rfl ?hy194 ?_
            case hy194 => exact Yl.load (v := .slice B2 (sizeS u) cb) rfl rfl (by kernel_rfl) (Hp.dpt mem5)
            refine' TA.y (i := 28) #[true, true, true, true, true, true, true, true, true, true, true, true, true, true, true, true, true, true, true, true, false, true, true, true, true, true, true, true, true, false, false] rfl rfl rfl (by kernel_rfl) (fun _ _ _ h => h) (fun _ h => by exact Hp.sub h (by repeat (first | exact sR _ | apply sC))) rfl ?hy195 ?_
            case hy195 => exact Yl.len rfl rfl Try.underlying57
            refine' TA.c (i := 20) #[true, true, true, true, true, true, true, true, true, true, true, true, true, true, true, true, true, true, true, true, true, true, true, true, true, true, true, true, true, false, false] rfl rfl rfl (by kernel_rfl) (by decide) rfl ?hy196 ?hz196 ?_
            case hy196 => exact Yc.call rfl Try.func16 (by kernel_rfl) rfl rfl (Hp.calls (fun w h => k_ssize w (h.all _ mem4) hx))
            case hz196 => exact (fun _ _ h => by exact Hp.sub h (by repeat (first | exact sR _ | exact sN _ | apply sK | apply sC)))
            intro _
            refine' TA.y (i := 29) #[true, true, true, true, true, true, true, true, true, true, true, true, true, true, true, true, true, true, true, true, true, true, true, true, true, true, true, true, true, true, false] rfl rfl rfl (by kernel_rfl) (fun _ _ _ h => h) (fun _ h => by exact Hp.sub h (by repeat (first | exact sR _ | apply sC))) rfl ?hy197 ?_
            case hy197 => exact Yl.bin rfl rfl rfl (Bin.neq _ _ _ _)
            refine' TA.y (i := 30) #[true, true, true, true, true, true, true, true, true, true, true, true, true, true, true, true, true, true, true, true, true, true, true, true, true, true, true, true, true, true, true] rfl rfl rfl (by kernel_rfl) (fun _ _ _ h => h) (fun _ h => by exact Hp.sub h (by repeat (first | exact sR _ | apply sC))) rfl ?hy198 ?_
            case hy198 => exact Yl.pickF rfl rfl rfl
            refine TA.done (by kernel_rfl) ?_
            refine TE.next ?_
            refine TC.no rfl (by simp) ?_
            refine TC.skip ?_
            refine TE.inNormal ?_
            refine TE.next ?_
            refine TC.region ?_
            refine' TL.y rfl rfl rfl ?hy199 ?_
            case hy199 => exact Yl.move rfl rfl
            refine' TL.y rfl rfl rfl ?hy200 ?_
            case hy200 => first | (refine Yl.val (Yl.bin rfl rfl rfl (Bin.add _ _ _ _)) (congrArg (Value.int .i64) (i64in ?_ ?_)) <;> omega) | exact Yl.bin rfl rfl rfl (Bin.add _ _ _ _)
            refine' TL.y rfl rfl rfl ?hy201 ?_
            case hy201 => exact Yl.assign rfl rfl
            refine TL.nil ?_
            refine TE.round (i + 1, s, e, x, ⟨ds, .slice A2 u.G.length c2, db, .slice B2 (sizeS u) cb⟩, u) ?hF202 ?hlt202 ?hs202 ?hm202
            case hF202 => exact ⟨by dsimp only; omega, hx, hd⟩
            case hlt202 => dsimp only; omega
            case hs202 => exact ⟨rfl, rfl, rfl, rfl, rfl, rfl, trivial⟩
            case hm202 => exact (fun _ h => by exact Hp.sub h (by repeat (first | exact sR _ | exact sN _ | apply sK | apply sC)))
          case hm161 =>
            intro b27
            refine' TA.c (i := 6) #[true, true, true, true, true, true, true, false, false, false, true, false, false] rfl rfl rfl (by kernel_rfl) (by decide) rfl ?hy203 ?hz203 ?_
            case hy203 => exact Yc.call rfl Try.func30 (by kernel_rfl) rfl rfl (Hp.calls (fun w h => by first | exact k_rfind w (Hp.dpsl mem4 w h) (by omega) (atA l i).a | exact k_rfind w (Hp.dpsl mem5 w h) (by omega) (atA l i).a))
            case hz203 => exact (fun _ _ h => by exact Hp.sub h (by repeat (first | exact sR _ | exact sN _ | apply sK | apply sC)))
            intro _
            refine' TA.p (i := 7) #[true, true, true, true, true, true, true, true, false, false, true, false, false] rfl rfl rfl (by kernel_rfl) (fun _ _ _ h => h) rfl ?hy204 ?_
            case hy204 => exact Yl.move rfl rfl
            refine' TA.p (i := 8) #[true, true, true, true, true, true, true, true, true, false, true, false, false] rfl rfl rfl (by kernel_rfl) (fun _ _ _ h => h) rfl ?hy205 ?_
            case hy205 => exact Yl.extract rfl rfl rfl
            refine' TA.p (i := 9) #[true, true, true, true, true, true, true, true, true, true, true, false, false] rfl rfl rfl (by kernel_rfl) (fun _ _ _ h => h) rfl ?hy206 ?_
            case hy206 => exact Yl.extract rfl rfl rfl
            refine' TA.sl (i := 11) #[true, true, true, true, true, true, true, true, true, true, true, true, false] rfl rfl (by kernel_rfl) (by decide) rfl ?hy207 ?_
            case hy207 => exact Ys.store (seg := [.int .i64 (((fnd (u).G (atA l i).a).getD z25)).f0, .int .i64 (((fnd (u).G (atA l i).a).getD z25)).f1, .int .i64 (((fnd (u).G (atA l i).a).getD z25)).f2, .int .i64 (((fnd (u).G (atA l i).a).getD z25)).f3, .int .i64 (((fnd (u).G (atA l i).a).getD z25)).f4, .bool (((fnd (u).G (atA l i).a).getD z25)).f5]) (c' := #[.int .i64 (((fnd (u).G (atA l i).a).getD z25)).f0, .int .i64 (((fnd (u).G (atA l i).a).getD z25)).f1, .int .i64 (((fnd (u).G (atA l i).a).getD z25)).f2, .int .i64 (((fnd (u).G (atA l i).a).getD z25)).f3, .int .i64 (((fnd (u).G (atA l i).a).getD z25)).f4, .bool (((fnd (u).G (atA l i).a).getD z25)).f5]) rfl rfl rfl (by simp [Value.cells]) (by kernel_rfl) (by simp [Value.oneCell']) foc0 (by simp [Value.cells]) (by kernel_rfl)
            refine' TA.p (i := 12) #[true, true, true, true, true, true, true, true, true, true, true, true, true] rfl rfl rfl (by kernel_rfl) (fun _ _ _ h => h) rfl ?hy208 ?_
            case hy208 => exact Yl.assign rfl rfl
            refine TA.done (by kernel_rfl) ?_
            refine TE.next ?_
            refine TC.seq ?_
            refine TC.draw (k := 31) _ [] #[false, false, false, false, false, false, false, false, false, false, false, false, false, false, false, false, false, false, false, false, false, false, false, false, false, false, false, false, false, false, false] (by kernel_rfl) rfl rfl (fun _ h => h.drew) (fun _ h => h) ?_
            refine' TA.y (i := 0) #[true, false, false, false, false, false, false, false, false, false, false, false, false, false, false, false, false, false, false, false, false, false, false, false, false, false, false, false, false, false, false] rfl rfl rfl (by kernel_rfl) (fun _ _ _ h => h) (fun _ h => by exact Hp.sub h (by repeat (first | exact sR _ | apply sC))) rfl ?hy209 ?_
            case hy209 => exact Yl.loads (cs := [.int .i64 (((gE (u) n).getD zEn)).k, .int .i64 (((gE (u) n).getD zEn)).pg, .bool (((gE (u) n).getD zEn)).w, .bool (((gE (u) n).getD zEn)).t]) rfl rfl (by kernel_rfl) (by kernel_rfl) (Hp.cells mem3 (fun j v hj => by simpa [Value.cells] using hj))
            refine' TA.y (i := 1) #[true, true, false, false, false, false, false, false, false, false, false, false, false, false, false, false, false, false, false, false, false, false, false, false, false, false, false, false, false, false, false] rfl rfl rfl (by kernel_rfl) (fun _ _ _ h => h) (fun _ h => by exact Hp.sub h (by repeat (first | exact sR _ | apply sC))) rfl ?hy210 ?_
            case hy210 => exact Yl.loads (cs := [.int .i64 (((gE (u) n).getD zEn)).k, .int .i64 (((gE (u) n).getD zEn)).pg, .bool (((gE (u) n).getD zEn)).w, .bool (((gE (u) n).getD zEn)).t]) rfl rfl (by kernel_rfl) (by kernel_rfl) (Hp.cells mem2 (fun j v hj => by simpa [Value.cells] using hj))
            refine' TA.y (i := 2) #[true, true, true, false, false, false, false, false, false, false, false, false, false, false, false, false, false, false, false, false, false, false, false, false, false, false, false, false, false, false, false] rfl rfl rfl (by kernel_rfl) (fun _ _ _ h => h) (fun _ h => by exact Hp.sub h (by repeat (first | exact sR _ | apply sC))) rfl ?hy211 ?_
            case hy211 => exact Yl.bin rfl rfl rfl (Bin.neqE _ _ _ _ _ _ _ _)
            refine' TA.y (i := 3) #[true, true, true, true, false, false, false, false, false, false, false, false, false, false, false, false, false, false, false, false, false, false, false, false, false, false, false, false, false, false, false] rfl rfl rfl (by kernel_rfl) (fun _ _ _ h => h) (fun _ h => by exact Hp.sub h (by repeat (first | exact sR _ | apply sC))) rfl ?hy212 ?_
            case hy212 => exact Yl.move rfl rfl
            refine TA.re (i := 162) (v' := .bool false) rfl (congrArg Value.bool (by simp)) ?_
            refine' TA.y (i := 4) #[true, true, true, true, true, false, false, false, false, false, false, false, false, false, false, false, false, false, false, false, false, false, false, false, false, false, false, false, false, false, false] rfl rfl rfl (by kernel_rfl) (fun _ _ _ h => h) (fun _ h => by exact Hp.sub h (by repeat (first | exact sR _ | apply sC))) rfl ?hy213 ?_
            case hy213 => exact Yl.move rfl rfl
            refine' TA.y (i := 5) #[true, true, true, true, true, true, false, false, false, false, false, false, false, false, false, false, false, false, false, false, false, false, false, false, false, false, false, false, false, false, false] rfl rfl rfl (by kernel_rfl) (fun _ _ _ h => h) (fun _ h => by exact Hp.sub h (by repeat (first | exact sR _ | apply sC))) rfl ?hy214 ?_
            case hy214 => exact Yl.move rfl rfl
            refine' TA.y (i := 6) #[true, true, true, true, true, true, true, false, false, false, false, false, false, false, false, false, false, false, false, false, false, false, false, false, false, false, false, false, false, false, false] rfl rfl rfl (by kernel_rfl) (fun _ _ _ h => h) (fun _ h => by exact Hp.sub h (by repeat (first | exact sR _ | apply sC))) rfl ?hy215 ?_
            case hy215 => exact Yl.bin rfl rfl rfl (Bin.neqB _ _ _ (by kernel_rfl))
            refine' TA.y (i := 7) #[true, true, true, true, true, true, true, true, false, false, false, false, false, false, false, false, false, false, false, false, false, false, false, false, false, false, false, false, false, false, false] rfl rfl rfl (by kernel_rfl) (fun _ _ _ h => h) (fun _ h => by exact Hp.sub h (by repeat (first | exact sR _ | apply sC))) rfl ?hy216 ?_
            case hy216 => exact Yl.pickF rfl rfl rfl
            refine' TA.y (i := 8) #[true, true, true, true, true, true, true, true, true, false, false, false, false, false, false, false, false, false, false, false, false, false, false, false, false, false, false, false, false, false, false] rfl rfl rfl (by kernel_rfl) (fun _ _ _ h => h) (fun _ h => by exact Hp.sub h (by repeat (first | exact sR _ | apply sC))) rfl ?hy217 ?_
            case hy217 => exact Yl.move rfl rfl
            refine TA.re (i := 167) (v' := .bool false) rfl (congrArg Value.bool (by simp)) ?_
            refine' TA.y (i := 9) #[true, true, true, true, true, true, true, true, true, true, false, false, false, false, false, false, false, false, false, false, false, false, false, false, false, false, false, false, false, false, false] rfl rfl rfl (by kernel_rfl) (fun _ _ _ h => h) (fun _ h => by exact Hp.sub h (by repeat (first | exact sR _ | apply sC))) rfl ?hy218 ?_
            case hy218 => exact Yl.loads (cs := [.int .i64 (((fnd (u).G (atA l i).a).getD z25)).f0, .int .i64 (((fnd (u).G (atA l i).a).getD z25)).f1, .int .i64 (((fnd (u).G (atA l i).a).getD z25)).f2, .int .i64 (((fnd (u).G (atA l i).a).getD z25)).f3, .int .i64 (((fnd (u).G (atA l i).a).getD z25)).f4, .bool (((fnd (u).G (atA l i).a).getD z25)).f5]) rfl rfl (by kernel_rfl) (by kernel_rfl) (Hp.cells mem1 (fun j v hj => by simpa [Value.cells] using hj))
            refine' TA.y (i := 10) #[true, true, true, true, true, true, true, true, true, true, true, false, false, false, false, false, false, false, false, false, false, false, false, false, false, false, false, false, false, false, false] rfl rfl rfl (by kernel_rfl) (fun _ _ _ h => h) (fun _ h => by exact Hp.sub h (by repeat (first | exact sR _ | apply sC))) rfl ?hy219 ?_
            case hy219 => exact Yl.loads (cs := [.int .i64 (((fnd (u).G (atA l i).a).getD z25)).f0, .int .i64 (((fnd (u).G (atA l i).a).getD z25)).f1, .int .i64 (((fnd (u).G (atA l i).a).getD z25)).f2, .int .i64 (((fnd (u).G (atA l i).a).getD z25)).f3, .int .i64 (((fnd (u).G (atA l i).a).getD z25)).f4, .bool (((fnd (u).G (atA l i).a).getD z25)).f5]) rfl rfl (by kernel_rfl) (by kernel_rfl) (Hp.cells mem0 (fun j v hj => by simpa [Value.cells] using hj))
            refine' TA.y (i := 11) #[true, true, true, true, true, true, true, true, true, true, true, true, false, false, false, false, false, false, false, false, false, false, false, false, false, false, false, false, false, false, false] rfl rfl rfl (by kernel_rfl) (fun _ _ _ h => h) (fun _ h => by exact Hp.sub h (by repeat (first | exact sR _ | apply sC))) rfl ?hy220 ?_
            case hy220 => exact Yl.bin rfl rfl rfl (Bin.neqG _ _ _ _ _ _ _ _ _ _ _ _)
            refine' TA.y (i := 12) #[true, true, true, true, true, true, true, true, true, true, true, true, true, false, false, false, false, false, false, false, false, false, false, false, false, false, false, false, false, false, false] rfl rfl rfl (by kernel_rfl) (fun _ _ _ h => h) (fun _ h => by exact Hp.sub h (by repeat (first | exact sR _ | apply sC))) rfl ?hy221 ?_
            case hy221 => exact Yl.pickF rfl rfl rfl
            refine' TA.y (i := 13) #[true, true, true, true, true, true, true, true, true, true, true, true, true, true, false, false, false, false, false, false, false, false, false, false, false, false, false, false, false, false, false] rfl rfl rfl (by kernel_rfl) (fun _ _ _ h => h) (fun _ h => by exact Hp.sub h (by repeat (first | exact sR _ | apply sC))) rfl ?hy222 ?_
            case hy222 => exact Yl.move rfl rfl
            refine TA.re (i := 172) (v' := .bool false) rfl (congrArg Value.bool (by simp)) ?_
            refine' TA.y (i := 14) #[true, true, true, true, true, true, true, true, true, true, true, true, true, true, true, false, false, false, false, false, false, false, false, false, false, false, false, false, false, false, false] rfl rfl rfl (by kernel_rfl) (fun _ _ _ h => h) (fun _ h => by exact Hp.sub h (by repeat (first | exact sR _ | apply sC))) rfl ?hy223 ?_
            case hy223 => exact Yl.move rfl rfl
            refine' TA.y (i := 15) #[true, true, true, true, true, true, true, true, true, true, true, true, true, true, true, true, false, false, false, false, false, false, false, false, false, false, false, false, false, false, false] rfl rfl rfl (by kernel_rfl) (fun _ _ _ h => h) (fun _ h => by exact Hp.sub h (by repeat (first | exact sR _ | apply sC))) rfl ?hy224 ?_
            case hy224 => exact Yl.move rfl rfl
            refine' TA.y (i := 16) #[true, true, true, true, true, true, true, true, true, true, true, true, true, true, true, true, true, false, false, false, false, false, false, false, false, false, false, false, false, false, false] rfl rfl rfl (by kernel_rfl) (fun _ _ _ h => h) (fun _ h => by exact Hp.sub h (by repeat (first | exact sR _ | apply sC))) rfl ?hy225 ?_
            case hy225 => exact Yl.bin rfl rfl rfl (Bin.neqB _ _ _ (by kernel_rfl))
            refine' TA.y (i := 17) #[true, true, true, true, true, true, true, true, true, true, true, true, true, true, true, true, true, true, false, false, false, false, false, false, false, false, false, false, false, false, false] rfl rfl rfl (by kernel_rfl) (fun _ _ _ h => h) (fun _ h => by exact Hp.sub h (by repeat (first | exact sR _ | apply sC))) rfl ?hy226 ?_
            case hy226 => exact Yl.pickF rfl rfl rfl
            refine' TA.y (i := 18) #[true, true, true, true, true, true, true, true, true, true, true, true, true, true, true, true, true, true, true, false, false, false, false, false, false, false, false, false, false, false, false] rfl rfl rfl (by kernel_rfl) (fun _ _ _ h => h) (fun _ h => by exact Hp.sub h (by repeat (first | exact sR _ | apply sC))) rfl ?hy227 ?_
            case hy227 => exact Yl.move rfl rfl
            refine TA.re (i := 177) (v' := .bool false) rfl (congrArg Value.bool (by simp)) ?_
            refine' TA.y (i := 19) #[true, true, true, true, true, true, true, true, true, true, true, true, true, true, true, true, true, true, true, true, false, false, false, false, false, false, false, false, false, false, false] rfl rfl rfl (by kernel_rfl) (fun _ _ _ h => h) (fun _ h => by exact Hp.sub h (by repeat (first | exact sR _ | apply sC))) rfl ?hy228 ?_
            case hy228 => exact Yl.move rfl rfl
            refine' TA.y (i := 21) #[true, true, true, true, true, true, true, true, true, true, true, true, true, true, true, true, true, true, true, true, false, true, false, false, false, false, false, false, false, false, false] rfl rfl rfl (by kernel_rfl) (fun _ _ _ h => h) (fun _ h => by exact Hp.sub h (by repeat (first | exact sR _ | apply sC))) rfl ?hy229 ?_
            case hy229 => exact Yl.move rfl rfl
            refine' TA.y (i := 22) #[true, true, true, true, true, true, true, true, true, true, true, true, true, true, true, true, true, true, true, true, false, true, true, false, false, false, false, false, false, false, false] rfl rfl rfl (by kernel_rfl) (fun _ _ _ h => h) (fun _ h => by exact Hp.sub h (by repeat (first | exact sR _ | apply sC))) rfl ?hy230 ?_
            case hy230 => exact Yl.nilCheck rfl rfl
            refine' TA.y (i := 23) #[true, true, true, true, true, true, true, true, true, true, true, true, true, true, true, true, true, true, true, true, false, true, true, true, false, false, false, false, false, false, false] rfl rfl rfl (by kernel_rfl) (fun _ _ _ h => h) (fun _ h => by exact Hp.sub h (by repeat (first | exact sR _ | apply sC))) rfl ?hy231 ?_
            case hy231 => first | exact Yl.field0 (k := 0) 1 rfl rfl Try.underlying56 rfl (by kernel_rfl) rfl | exact Yl.field (k := 0) 1 rfl rfl Try.underlying56 rfl (by kernel_rfl) rfl
            refine' TA.y (i := 24) #[true, true, true, true, true, true, true, true, true, true, true, true, true, true, true, true, true, true, true, true, false, true, true, true, true, false, false, false, false, false, false] rfl rfl rfl (by kernel_rfl) (fun _ _ _ h => h) (fun _ h => by exact Hp.sub h (by repeat (first | exact sR _ | apply sC))) rfl ?hy232 ?_
            case hy232 => exact Yl.load (v := .pointer (some ⟨db, 0, none⟩)) rfl rfl (by kernel_rfl) (Hp.dpc1 hd mem5)
            refine' TA.y (i := 25) #[true, true, true, true, true, true, true, true, true, true, true, true, true, true, true, true, true, true, true, true, false, true, true, true, true, true, false, false, false, false, false] rfl rfl rfl (by kernel_rfl) (fun _ _ _ h => h) (fun _ h => by exact Hp.sub h (by repeat (first | exact sR _ | apply sC))) rfl ?hy233 ?_
            case hy233 => exact Yl.nilCheck rfl rfl
            refine' TA.y (i := 26) #[true, true, true, true, true, true, true, true, true, true, true, true, true, true, true, true, true, true, true, true, false, true, true, true, true, true, true, false, false, false, false] rfl rfl rfl (by kernel_rfl) (fun _ _ _ h => h) (fun _ h => by exact Hp.sub h (by repeat (first | exact sR _ | apply sC))) rfl ?hy234 ?_
            case hy234 => first | exact Yl.field0 (k := 0) 0 rfl rfl Try.underlying59 rfl (by kernel_rfl) rfl | exact Yl.field (k := 0) 0 rfl rfl Try.underlying59 rfl (by kernel_rfl) rfl
            refine' TA.y (i := 27) #[true, true, true, true, true, true, true, true, true, true, true, true, true, true, true, true, true, true, true, true, false, true, true, true, true, true, true, true, false, false, false] rfl rfl rfl (by kernel_rfl) (fun _ _ _ h => h) (fun _ h => by exact Hp.sub h (by repeat (first | exact sR _ | apply sC))) rfl ?hy235 ?_
            case hy235 => exact Yl.load (v := .slice B2 (sizeS u) cb) rfl rfl (by kernel_rfl) (Hp.dpt mem5)
            refine' TA.y (i := 28) #[true, true, true, true, true, true, true, true, true, true, true, true, true, true, true, true, true, true, true, true, false, true, true, true, true, true, true, true, true, false, false] rfl rfl rfl (by kernel_rfl) (fun _ _ _ h => h) (fun _ h => by exact Hp.sub h (by repeat (first | exact sR _ | apply sC))) rfl ?hy236 ?_
            case hy236 => exact Yl.len rfl rfl Try.underlying57
            refine' TA.c (i := 20) #[true, true, true, true, true, true, true, true, true, true, true, true, true, true, true, true, true, true, true, true, true, true, true, true, true, true, true, true, true, false, false] rfl rfl rfl (by kernel_rfl) (by decide) rfl ?hy237 ?hz237 ?_
            case hy237 => exact Yc.call rfl Try.func16 (by kernel_rfl) rfl rfl (Hp.calls (fun w h => k_ssize w (h.all _ mem4) hx))
            case hz237 => exact (fun _ _ h => by exact Hp.sub h (by repeat (first | exact sR _ | exact sN _ | apply sK | apply sC)))
            intro _
            refine' TA.y (i := 29) #[true, true, true, true, true, true, true, true, true, true, true, true, true, true, true, true, true, true, true, true, true, true, true, true, true, true, true, true, true, true, false] rfl rfl rfl (by kernel_rfl) (fun _ _ _ h => h) (fun _ h => by exact Hp.sub h (by repeat (first | exact sR _ | apply sC))) rfl ?hy238 ?_
            case hy238 => exact Yl.bin rfl rfl rfl (Bin.neq _ _ _ _)
            refine' TA.y (i := 30) #[true, true, true, true, true, true, true, true, true, true, true, true, true, true, true, true, true, true, true, true, true, true, true, true, true, true, true, true, true, true, true] rfl rfl rfl (by kernel_rfl) (fun _ _ _ h => h) (fun _ h => by exact Hp.sub h (by repeat (first | exact sR _ | apply sC))) rfl ?hy239 ?_
            case hy239 => exact Yl.pickF rfl rfl rfl
            refine TA.done (by kernel_rfl) ?_
            refine TE.next ?_
            refine TC.no rfl (by simp) ?_
            refine TC.skip ?_
            refine TE.inNormal ?_
            refine TE.next ?_
            refine TC.region ?_
            refine' TL.y rfl rfl rfl ?hy240 ?_
            case hy240 => exact Yl.move rfl rfl
            refine' TL.y rfl rfl rfl ?hy241 ?_
            case hy241 => first | (refine Yl.val (Yl.bin rfl rfl rfl (Bin.add _ _ _ _)) (congrArg (Value.int .i64) (i64in ?_ ?_)) <;> omega) | exact Yl.bin rfl rfl rfl (Bin.add _ _ _ _)
            refine' TL.y rfl rfl rfl ?hy242 ?_
            case hy242 => exact Yl.assign rfl rfl
            refine TL.nil ?_
            refine TE.round (i + 1, s, e, x, ⟨ds, .slice A2 u.G.length c2, db, .slice B2 (sizeS u) cb⟩, u) ?hF243 ?hlt243 ?hs243 ?hm243
            case hF243 => exact ⟨by dsimp only; omega, hx, hd⟩
            case hlt243 => dsimp only; omega
            case hs243 => exact ⟨rfl, rfl, rfl, rfl, rfl, rfl, trivial⟩
            case hm243 => exact (fun _ h => by exact Hp.sub h (by repeat (first | exact sR _ | exact sN _ | apply sK | apply sC)))
      · skip
        (try simp only [nrm] at hs43)
        refine TC.exit ?_
        refine TE.thenExit ?_
        refine TE.thenExit ?_
        refine TE.inHere ?_
        refine TE.next ?_
        refine TC.seq ?_
        have hlg := hd.ok.len
        refine TC.fact (fun w h => Hp.dpv mem1 w h) ?_
        rintro ⟨A2, c2, hA2⟩
        dsimp only at hA2
        subst hA2
        refine TC.draw (k := 8) (Hp W (fun _ => False) [dpR ⟨ds, .slice A2 u.G.length c2, db, dw⟩ u]) [] #[false, false, false, false, false, false, false, false] (by kernel_rfl) rfl rfl (fun _ h => h.drew) (fun _ h => by exact Hp.sub h (by repeat (first | exact sR _ | exact sN _ | apply sK | apply sC))) ?_
        refine' TA.y (i := 0) #[true, false, false, false, false, false, false, false] rfl rfl rfl (by kernel_rfl) (fun _ _ _ h => h) (fun _ h => by exact Hp.sub h (by repeat (first | exact sR _ | exact sN _ | apply sK | apply sC))) rfl ?hy244 ?_
        case hy244 => exact Yl.move rfl rfl
        refine' TA.y (i := 2) #[true, false, true, false, false, false, false, false] rfl rfl rfl (by kernel_rfl) (fun _ _ _ h => h) (fun _ h => by exact Hp.sub h (by repeat (first | exact sR _ | exact sN _ | apply sK | apply sC))) rfl ?hy245 ?_
        case hy245 => exact Yl.move rfl rfl
        refine' TA.y (i := 3) #[true, false, true, true, false, false, false, false] rfl rfl rfl (by kernel_rfl) (fun _ _ _ h => h) (fun _ h => by exact Hp.sub h (by repeat (first | exact sR _ | exact sN _ | apply sK | apply sC))) rfl ?hy246 ?_
        case hy246 => exact Yl.nilCheck rfl rfl
        refine' TA.y (i := 4) #[true, false, true, true, true, false, false, false] rfl rfl rfl (by kernel_rfl) (fun _ _ _ h => h) (fun _ h => by exact Hp.sub h (by repeat (first | exact sR _ | exact sN _ | apply sK | apply sC))) rfl ?hy247 ?_
        case hy247 => first | exact Yl.field0 (k := 0) 0 rfl rfl Try.underlying56 rfl (by kernel_rfl) rfl | exact Yl.field (k := 0) 0 rfl rfl Try.underlying56 rfl (by kernel_rfl) rfl
        refine' TA.y (i := 5) #[true, false, true, true, true, true, false, false] rfl rfl rfl (by kernel_rfl) (fun _ _ _ h => h) (fun _ h => by exact Hp.sub h (by repeat (first | exact sR _ | exact sN _ | apply sK | apply sC))) rfl ?hy248 ?_
        case hy248 => exact Yl.load (v := .slice A2 u.G.length c2) rfl rfl (by kernel_rfl) (Hp.dpc0 hd mem0)
        refine' TA.c (i := 1) #[true, true, true, true, true, true, false, false] rfl rfl rfl (by kernel_rfl) (by decide) rfl ?hy249 ?hz249 ?_
        case hy249 => exact Yc.call rfl Try.func18 (by kernel_rfl) rfl rfl (Hp.news (fun w h => k_sregions w (h.all _ mem0) hx))
        case hz249 => exact (fun _ _ h => by exact Hp.sub h (by repeat (first | exact sR _ | exact sN _ | apply sK | apply sC)))
        intro v191
        refine TA.fact (fun w h => Hp.rowGsh mem0 w h) ?_
        rintro ⟨A191, c191, rfl⟩
        refine' TA.c (i := 6) #[true, true, true, true, true, true, true, false] rfl rfl rfl (by kernel_rfl) (by decide) rfl ?hy250 ?hz250 ?_
        case hy250 => exact Yc.call rfl Try.func31 (by kernel_rfl) rfl rfl (Hp.calls (fun w h => k_rsame w (Hp.rowGsl mem0 w h) (by omega) (Hp.dpsl mem2 w h)))
        case hz250 => exact (fun _ _ h => by exact Hp.sub h (by repeat (first | exact sR _ | exact sN _ | apply sK | apply sC)))
        intro _
        rw [decide_eq_true rfl]
        refine' TA.y (i := 7) #[true, true, true, true, true, true, true, true] rfl rfl rfl (by kernel_rfl) (fun _ _ _ h => h) (fun _ h => by exact Hp.sub h (by repeat (first | exact sR _ | exact sN _ | apply sK | apply sC))) rfl ?hy251 ?_
        case hy251 => exact Yl.assign rfl rfl
        refine TA.done (by kernel_rfl) ?_
        refine TE.next ?_
        refine TC.seq ?_
        refine TC.region ?_
        refine' TL.y rfl rfl rfl ?hy252 ?_
        case hy252 => exact Yl.move rfl rfl
        refine' TL.c rfl rfl rfl ?hy253 ?_
        case hy253 => exact Yc.call rfl Try.func32 (by kernel_rfl) rfl rfl (Hp.news (fun w h => k_sIDs w (h.all _ mem1) hx))
        intro v198
        refine TL.fact (fun w h => Hp.rowShape mem0 w h) ?_
        rintro ⟨A198, c198, rfl⟩
        refine' TL.y rfl rfl rfl ?hy254 ?_
        case hy254 => exact Yl.move rfl rfl
        refine' TL.c rfl rfl rfl ?hy255 ?_
        case hy255 => exact Yc.call rfl Try.func33 (by kernel_rfl) rfl rfl (Hp.news (fun w h => k_dids w (h.all _ mem3) hd 0 65536))
        intro v200
        refine TL.fact (fun w h => Hp.rowShape mem0 w h) ?_
        rintro ⟨A200, c200, rfl⟩
        have hil : (idsL u 0 65536).length ≤ 65536 := by rw [ids_len]; exact pgs_len2 u _ _
        refine' TL.c rfl rfl rfl ?hy256 ?_
        case hy256 => exact Yc.call rfl Try.func24 (by kernel_rfl) rfl rfl (Hp.calls (fun w h => k_rowL w (Hp.rowSl mem1 w h) (Hp.rowSl mem0 w h) (by omega)))
        intro _
        rw [decide_eq_true rfl]
        refine' TL.y rfl rfl rfl ?hy257 ?_
        case hy257 => exact Yl.assign rfl rfl
        refine TL.nil ?_
        refine TE.next ?_
        refine TC.seq ?_
        refine TC.region ?_
        refine' TL.y rfl rfl rfl ?hy258 ?_
        case hy258 => exact Yl.move rfl rfl
        refine' TL.y rfl rfl rfl ?hy259 ?_
        case hy259 => exact Yl.move rfl rfl
        refine' TL.y rfl rfl rfl ?hy260 ?_
        case hy260 => exact Yl.move rfl rfl
        refine' TL.y rfl rfl rfl ?hy261 ?_
        case hy261 => exact Yl.pickT rfl rfl rfl
        refine' TL.y rfl rfl rfl ?hy262 ?_
        case hy262 => exact Yl.move rfl rfl
        refine' TL.y rfl rfl rfl ?hy263 ?_
        case hy263 => exact Yl.move rfl rfl
        refine' TL.y rfl rfl rfl ?hy264 ?_
        case hy264 => exact Yl.pickT rfl rfl rfl
        refine' TL.y rfl rfl rfl ?hy265 ?_
        case hy265 => exact Yl.assign rfl rfl
        refine TL.nil ?_
        refine TE.next ?_
        refine TC.ret ?_
        refine TE.ret1 rfl rfl ?_
        exact fun w h => ⟨rfl, (h.sub (List.nil_sublist _)).below⟩
end Go.Proofs.Ytabjdjkkpbkpfaa.Pk
