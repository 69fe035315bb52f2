/- Spaces: their functions. -/
import Derived.Test.YtabjdjkkpbkpfaaSpE
import Derived.Test.YtabjdjkkpbkpfaaProg
import Derived.RowKit3
namespace Go.Proofs.Ytabjdjkkpbkpfaa.Pk
open Go Go.RowKit Go.Proofs.Ytabjdjkkpbkpfaa.HL Go.Proofs.Ytabjdjkkpbkpfaa.Ev Go.Proofs.YtabjdjkkpbkpfaaW.PrintWords Go.Proofs.RgP Go.Proofs.RxP
set_option linter.unusedVariables false
set_option linter.unusedSimpArgs false
theorem k_getT (W : World) {st : St} {S : Sf} {b : Nat} (hR : Rep W st) (hT : Tab st S b) (n : Int) : Calls Go.Proofs.Try.prog 42 #[.pointer (some ⟨b, 0, none⟩), .int .i64 n] W fun e w' => e = .returned (.tuple #[.int .u64 ((gt S n).getD 0), .bool (gt S n).isSome]) ∧ Below W.heap.size W w' := hT.root ▸ k_get W hR hT.tree n
theorem k_lenT (W : World) {st : St} {S : Sf} {b : Nat} (hR : Rep W st) (hT : Tab st S b) : Calls Go.Proofs.Try.prog 45 #[.pointer (some ⟨b, 0, none⟩)] W fun e w' => e = .returned (.int .i64 (rk S 65536 : Nat)) ∧ Below W.heap.size W w' := hT.root ▸ k_len W hR hT.tree
theorem k_walkT (W : World) {st : St} {S : Sf} {b : Nat} (hR : Rep W st) (hT : Tab st S b) (a t : Int) : Calls Go.Proofs.Try.prog 39 #[.pointer (some ⟨b, 0, none⟩), .int .i64 a, .int .i64 t] W fun e w' => ∃ v : Value, e = .returned v ∧ (rowI v (walkL S a t)).holds w' ∧ Below W.heap.size W w' ∧ ∀ k, (rowI v (walkL S a t)).foot k → W.heap.size ≤ k := hT.root ▸ k_walk W hR hT.tree a t
theorem k_cloneT (W : World) {st : St} {S : Sf} {b : Nat} (hR : Rep W st) (hT : Tab st S b) : Calls Go.Proofs.Try.prog 47 #[.pointer (some ⟨b, 0, none⟩)] W fun e w' => ∃ x : {x : Nat × St // Tab x.2 S x.1}, e = .returned (.pointer (some ⟨x.1.1, 0, none⟩)) ∧ (tabR x.1.2).holds w' ∧ Below W.heap.size W w' ∧ ∀ k, (tabR x.1.2).foot k → W.heap.size ≤ k := hT.root ▸ k_clone W hR hT.tree
section
variable {W0 w : World} {T : Nat → Prop} {H : List Res}
theorem Hp.rowSl {A : Option Addr} {m c : Nat} {l : List Int} (hr : rowI (.slice A m c) l ∈ H) : ∀ w, Hp W0 T H w → Sl w A (Iw l) := fun w h => by
  have h1 : (ownR 3 1 (.slice A m c) l.length (Iw l)).holds w := h.all _ hr
  obtain ⟨A2, c2, e⟩ := Hp.ownSl (W0 := w) (T := (ownR 3 1 (.slice A m c) l.length (Iw l)).foot) (H := [ownR 3 1 (.slice A m c) l.length (Iw l)]) mem0 w (Hp.enter h1)
  injection e with _ e2
  subst e2
  exact gOwnN h1
theorem Hp.rowAtI {g i c : Nat} {l : List Int} (hr : rowI (.slice (some ⟨g, 0, none⟩) l.length c) l ∈ H) (hi : i < l.length) : ∀ w, Hp W0 T H w → w.cell? ⟨g, i, none⟩ = some (.int .i64 (gI l i)) :=
  Hp.ownCell (e := 3) (size := 1) (m := l.length) (xs := Iw l) hr (by unfold Iw; rw [List.getElem?_map, gI_get hi]; rfl)
theorem Hp.rowShape {v : Value} {l : List Int} (hr : rowI v l ∈ H) : ∀ w, Hp W0 T H w → ∃ A c, v = .slice A l.length c := fun w h => h.ownSl (e := 3) (size := 1) (m := l.length) (xs := Iw l) hr
theorem Hp.rowSome {A : Option Addr} {c : Nat} {l : List Int} (hr : rowI (.slice A l.length c) l ∈ H) (hl : 0 < l.length) : ∀ w, Hp W0 T H w → ∃ g, A = some ⟨g, 0, none⟩ := fun w h => h.ownSome' (e := 3) (size := 1) (m := l.length) (xs := Iw l) hr hl
end
attribute [local irreducible] Rw atG ents Iw
set_option maxRecDepth 100000 in
set_option maxHeartbeats 2000000 in
theorem k_snew (W : World) : Calls Try.prog 10 #[] W fun e w' => ∃ x : {x : Sp // x.Is newS x.s}, e = .returned (.pointer (some ⟨x.1.s, 0, none⟩)) ∧ (spR x.1 newS).holds w' ∧ Below W.heap.size W w' ∧ ∀ k, (spR x.1 newS).foot k → W.heap.size ≤ k := by
  have hM : Hp W (fun _ => False) [] W := Hp.start
  refine TC.enter (n := 4) Try.func10 rfl rfl rfl hM ?_
  refine TC.seq ?_
  refine TC.region ?_
  refine' TL.y rfl rfl rfl ?hy1 ?_
  case hy1 => exact Yl.assign rfl rfl
  refine TL.nil ?_
  refine TE.next ?_
  refine TC.seq ?_
  refine TC.region ?_
  refine' TL.c rfl rfl rfl ?hy2 ?_
  case hy2 => exact Yc.call rfl Try.func34 (by kernel_rfl) rfl rfl (Hp.news (fun w h => k_new w))
  intro b1
  refine' TL.y rfl rfl rfl ?hy3 ?_
  case hy3 => exact Yl.build (z := .agg #[.slice none 0 0, .pointer none]) [(0, 1), (1, 1)] rfl (by kernel_rfl) Try.underlying67 (by kernel_rfl) rfl rfl
  refine' TL.mx rfl rfl rfl ?hy4 ?_
  case hy4 => exact Ym.box rfl rfl
  intro b3
  refine' TL.y rfl rfl rfl ?hy5 ?_
  case hy5 => exact Yl.assign rfl rfl
  refine TL.nil ?_
  refine TE.next ?_
  refine TC.ret ?_
  refine TE.ret1 rfl rfl ?_
  exact fun w h => ⟨⟨⟨b3, .slice none 0 0, b1, st0 b1⟩, ⟨rfl, Tab.new b1, newS_ok⟩⟩, rfl, ((rowG_nil h).swap.tostar.tostar).leaveNew⟩
set_option maxRecDepth 100000 in
set_option maxHeartbeats 2000000 in
theorem k_swhere (W : World) {x : Sp} {u : SS} {s : Nat} (hR : (spR x u).holds W) (hx : x.Is u s) (n : Int) : Calls Try.prog 15 #[.pointer (some ⟨s, 0, none⟩), .int .i64 n] W fun e w' => e = .returned (.tuple #[.agg #[.int .i64 (((fnd u.G n).getD z25)).f0, .int .i64 (((fnd u.G n).getD z25)).f1, .int .i64 (((fnd u.G n).getD z25)).f2, .int .i64 (((fnd u.G n).getD z25)).f3, .int .i64 (((fnd u.G n).getD z25)).f4, .bool (((fnd u.G n).getD z25)).f5], .bool (fnd u.G n).isSome]) ∧ Below W.heap.size W w' := by
  obtain ⟨hxs, hT, hu⟩ := hx
  obtain ⟨s', v, b, st⟩ := x
  obtain rfl : s' = s := hxs
  obtain ⟨A, c, hv, hcp, hS, hb, hRep⟩ := spR_open hR
  obtain rfl : v = .slice A u.G.length c := hv
  dsimp only at hT hb hRep
  have hlen := hu.len
  have hM : Hp W (fun _ => False) [] W := Hp.start
  refine TC.enter (n := 14) Try.func15 rfl rfl rfl hM ?_
  refine TC.seq ?_
  refine TC.region ?_
  refine' TL.mx rfl rfl rfl ?hy1 ?_
  case hy1 => exact Ym.alloc (z := .agg #[.int .i64 0, .int .i64 0, .int .i64 0, .int .i64 0, .int .i64 0, .bool false]) rfl (by kernel_rfl)
  intro b4
  refine' TL.y rfl rfl rfl ?hy2 ?_
  case hy2 => exact Yl.assign rfl rfl
  refine TL.nil ?_
  refine TE.next ?_
  refine TC.seq ?_
  refine TC.region ?_
  refine' TL.y rfl rfl rfl ?hy3 ?_
  case hy3 => exact Yl.move rfl rfl
  refine' TL.y rfl rfl rfl ?hy4 ?_
  case hy4 => exact Yl.nilCheck rfl rfl
  refine' TL.y rfl rfl rfl ?hy5 ?_
  case hy5 => first | exact Yl.field0 (k := 0) 0 rfl rfl Try.underlying67 rfl (by kernel_rfl) rfl | exact Yl.field (k := 0) 0 rfl rfl Try.underlying67 rfl (by kernel_rfl) rfl
  refine' TL.y rfl rfl rfl ?hy6 ?_
  case hy6 => exact Yl.load rfl rfl (by kernel_rfl) (by first | exact Hp.oldB hb rfl (fun h => h) | exact Hp.cell mem0 rfl | exact Hp.cell mem1 rfl | exact Hp.cell mem2 rfl | exact Hp.cell mem3 rfl | exact Hp.cell mem4 rfl | exact Hp.rowAt mem0 (by omega) rfl | exact Hp.rowAt mem1 (by omega) rfl | exact Hp.rowAt mem2 (by omega) rfl | exact Hp.rowAt mem3 (by omega) rfl | exact Hp.rowAt mem4 (by omega) rfl)
  refine' TL.y rfl rfl rfl ?hy7 ?_
  case hy7 => exact Yl.move rfl rfl
  refine' TL.c rfl rfl rfl ?hy8 ?_
  case hy8 => exact Yc.call rfl Try.func44 (by kernel_rfl) rfl rfl (Hp.calls (fun w h => k_gfind w (hS.below h.below) (by omega) n))
  intro _
  refine' TL.y rfl rfl rfl ?hy9 ?_
  case hy9 => exact Yl.extract rfl rfl rfl
  refine' TL.y rfl rfl rfl ?hy10 ?_
  case hy10 => exact Yl.extract rfl rfl rfl
  refine' TL.s rfl rfl ?hy11 ?_
  case hy11 => exact Ys.store (seg := [.int .i64 (((fnd u.G n).getD z25)).f0, .int .i64 (((fnd u.G n).getD z25)).f1, .int .i64 (((fnd u.G n).getD z25)).f2, .int .i64 (((fnd u.G n).getD z25)).f3, .int .i64 (((fnd u.G n).getD z25)).f4, .bool (((fnd u.G n).getD z25)).f5]) (c' := #[.int .i64 (((fnd u.G n).getD z25)).f0, .int .i64 (((fnd u.G n).getD z25)).f1, .int .i64 (((fnd u.G n).getD z25)).f2, .int .i64 (((fnd u.G n).getD z25)).f3, .int .i64 (((fnd u.G n).getD z25)).f4, .bool (((fnd u.G n).getD z25)).f5]) rfl rfl rfl (by simp [Value.cells]) (by kernel_rfl) (by simp [Value.oneCell']) foc0 (by simp [Value.cells]) rfl
  refine' TL.y rfl rfl rfl ?hy12 ?_
  case hy12 => exact Yl.assign rfl rfl
  refine TL.nil ?_
  refine TE.next ?_
  refine TC.ret ?_
  refine TE.retCAT [.int .i64 (((fnd u.G n).getD z25)).f0, .int .i64 (((fnd u.G n).getD z25)).f1, .int .i64 (((fnd u.G n).getD z25)).f2, .int .i64 (((fnd u.G n).getD z25)).f3, .int .i64 (((fnd u.G n).getD z25)).f4, .bool (((fnd u.G n).getD z25)).f5] rfl rfl rfl (by kernel_rfl) (by kernel_rfl) (Hp.cells mem0 (fun j v hj => by simpa using hj)) ?_
  exact fun w h => ⟨rfl, (h.sub (List.nil_sublist _)).below⟩
set_option maxRecDepth 100000 in
set_option maxHeartbeats 2000000 in
theorem k_sentry (W : World) {x : Sp} {u : SS} {s : Nat} (hR : (spR x u).holds W) (hx : x.Is u s) (n : Int) : Calls Try.prog 14 #[.pointer (some ⟨s, 0, none⟩), .int .i64 n] W fun e w' => e = .returned (.tuple #[.agg #[.int .i64 (((gE u n).getD zEn)).k, .int .i64 (((gE u n).getD zEn)).pg, .bool (((gE u n).getD zEn)).w, .bool (((gE u n).getD zEn)).t], .bool (gE u n).isSome]) ∧ Below W.heap.size W w' := by
  obtain ⟨hxs, hT, hu⟩ := hx
  obtain ⟨s', v, b, st⟩ := x
  obtain rfl : s' = s := hxs
  obtain ⟨A, c, hv, hcp, hS, hb, hRep⟩ := spR_open hR
  obtain rfl : v = .slice A u.G.length c := hv
  dsimp only at hT hb hRep
  have hlen := hu.len
  have hM : Hp W (fun _ => False) [] W := Hp.start
  refine TC.enter (n := 28) Try.func14 rfl rfl rfl hM ?_
  refine TC.seq ?_
  refine TC.region ?_
  refine' TL.mx rfl rfl rfl ?hy1 ?_
  case hy1 => exact Ym.alloc (z := .agg #[.int .i64 0, .int .i64 0, .bool false, .bool false]) rfl (by kernel_rfl)
  intro b4
  refine' TL.y rfl rfl rfl ?hy2 ?_
  case hy2 => exact Yl.assign rfl rfl
  refine TL.nil ?_
  refine TE.next ?_
  refine TC.seq ?_
  refine TC.region ?_
  refine' TL.y rfl rfl rfl ?hy3 ?_
  case hy3 => exact Yl.move rfl rfl
  refine' TL.y rfl rfl rfl ?hy4 ?_
  case hy4 => exact Yl.nilCheck rfl rfl
  refine' TL.y rfl rfl rfl ?hy5 ?_
  case hy5 => first | exact Yl.field0 (k := 0) 1 rfl rfl Try.underlying67 rfl (by kernel_rfl) rfl | exact Yl.field (k := 0) 1 rfl rfl Try.underlying67 rfl (by kernel_rfl) rfl
  refine' TL.y rfl rfl rfl ?hy6 ?_
  case hy6 => exact Yl.load rfl rfl (by kernel_rfl) (by first | exact Hp.oldB hb rfl (fun h => h) | exact Hp.cell mem0 rfl | exact Hp.cell mem1 rfl | exact Hp.cell mem2 rfl | exact Hp.cell mem3 rfl | exact Hp.cell mem4 rfl | exact Hp.rowAt mem0 (by omega) rfl | exact Hp.rowAt mem1 (by omega) rfl | exact Hp.rowAt mem2 (by omega) rfl | exact Hp.rowAt mem3 (by omega) rfl | exact Hp.rowAt mem4 (by omega) rfl)
  refine' TL.y rfl rfl rfl ?hy7 ?_
  case hy7 => exact Yl.move rfl rfl
  refine' TL.c rfl rfl rfl ?hy8 ?_
  case hy8 => exact Yc.call rfl Try.func42 (by kernel_rfl) rfl rfl (Hp.calls (fun w h => k_getT w (hRep.below h.below) hT n))
  intro _
  rw [gt_enc]
  refine' TL.y rfl rfl rfl ?hy9 ?_
  case hy9 => exact Yl.move rfl rfl
  refine' TL.y rfl rfl rfl ?hy10 ?_
  case hy10 => exact Yl.extract rfl rfl rfl
  refine' TL.y rfl rfl rfl ?hy11 ?_
  case hy11 => exact Yl.extract rfl rfl rfl
  refine' TL.y rfl rfl rfl ?hy12 ?_
  case hy12 => exact Yl.assign rfl rfl
  refine' TL.y rfl rfl rfl ?hy13 ?_
  case hy13 => exact Yl.assign rfl rfl
  refine TL.nil ?_
  refine TE.next ?_
  refine TC.seq ?_
  refine TC.seq ?_
  refine TC.region ?_
  refine' TL.y rfl rfl rfl ?hy14 ?_
  case hy14 => exact Yl.move rfl rfl
  refine' TL.y rfl rfl rfl ?hy15 ?_
  case hy15 => exact Yl.not rfl rfl
  refine TL.nil ?_
  refine TE.next ?_
  refine TC.cond rfl (fun hs20 => ?_) (fun hs20 => ?_)
  · skip
    (try simp only [nrm] at hs20)
    have he : gE u n = none := by simpa using hs20
    refine TC.seq ?_
    refine TC.region ?_
    refine' TL.y rfl rfl rfl ?hy16 ?_
    case hy16 => exact Yl.build (z := .agg #[.int .i64 0, .int .i64 0, .bool false, .bool false]) [(0, 1), (1, 1), (2, 1), (3, 1)] rfl (by kernel_rfl) Try.underlying30 (by kernel_rfl) rfl rfl
    refine' TL.s rfl rfl ?hy17 ?_
    case hy17 => exact Ys.store (seg := [.int .i64 0, .int .i64 0, .bool false, .bool false]) (c' := #[.int .i64 0, .int .i64 0, .bool false, .bool false]) rfl rfl rfl (by simp [Value.cells]) (by kernel_rfl) (by simp [Value.oneCell']) foc0 (by simp [Value.cells]) rfl
    refine' TL.y rfl rfl rfl ?hy18 ?_
    case hy18 => exact Yl.assign rfl rfl
    refine TL.nil ?_
    refine TE.next ?_
    refine TC.ret ?_
    refine TE.thenRet ?_
    refine TE.retCAT [.int .i64 0, .int .i64 0, .bool false, .bool false] rfl rfl rfl (by kernel_rfl) (by kernel_rfl) (Hp.cells mem0 (fun j v hj => by simpa using hj)) ?_
    exact fun w h => ⟨by rw [he]; rfl, (h.sub (List.nil_sublist _)).below⟩
  · skip
    (try simp only [nrm] at hs20)
    obtain ⟨en, he⟩ : ∃ en, gE u n = some en := Option.isSome_iff_exists.1 (by simpa using hs20)
    rw [he]
    dsimp only [Option.map_some, Option.getD_some, Option.isSome_some]
    refine TC.skip ?_
    refine TE.next ?_
    refine TC.seq ?_
    refine TC.region ?_
    refine' TL.y rfl rfl rfl ?hy19 ?_
    case hy19 => exact Yl.move rfl rfl
    refine' TL.c rfl rfl rfl ?hy20 ?_
    case hy20 => exact Yc.call rfl Try.func43 (by kernel_rfl) rfl rfl (Hp.calls (fun w h => k_eunpack w (gE_ok hu he)))
    intro _
    refine' TL.y rfl rfl rfl ?hy21 ?_
    case hy21 => exact Yl.move rfl rfl
    refine' TL.y rfl rfl rfl ?hy22 ?_
    case hy22 => exact Yl.extract rfl rfl rfl
    refine' TL.y rfl rfl rfl ?hy23 ?_
    case hy23 => exact Yl.extract rfl rfl rfl
    refine' TL.mx rfl rfl rfl ?hy24 ?_
    case hy24 => exact Ym.alloc (z := .agg #[.int .i64 0, .int .i64 0, .bool false, .bool false]) rfl (by kernel_rfl)
    intro b8
    refine' TL.s rfl rfl ?hy25 ?_
    case hy25 => exact Ys.store (seg := [.int .i64 (en).k, .int .i64 (en).pg, .bool (en).w, .bool (en).t]) (c' := #[.int .i64 (en).k, .int .i64 (en).pg, .bool (en).w, .bool (en).t]) rfl rfl rfl (by simp [Value.cells]) (by kernel_rfl) (by simp [Value.oneCell']) foc0 (by simp [Value.cells]) rfl
    refine' TL.y rfl rfl rfl ?hy26 ?_
    case hy26 => exact Yl.assign rfl rfl
    refine TL.nil ?_
    refine TE.next ?_
    refine TC.seq ?_
    refine TC.region ?_
    refine' TL.y rfl rfl rfl ?hy27 ?_
    case hy27 => exact Yl.loads (cs := [.int .i64 (en).k, .int .i64 (en).pg, .bool (en).w, .bool (en).t]) rfl rfl (by kernel_rfl) (by kernel_rfl) (Hp.cells mem0 (fun j v hj => by simpa [Value.cells] using hj))
    refine' TL.s rfl rfl ?hy28 ?_
    case hy28 => exact Ys.store (seg := [.int .i64 (en).k, .int .i64 (en).pg, .bool (en).w, .bool (en).t]) (c' := #[.int .i64 (en).k, .int .i64 (en).pg, .bool (en).w, .bool (en).t]) rfl rfl rfl (by simp [Value.cells]) (by kernel_rfl) (by simp [Value.oneCell']) foc1 (by simp [Value.cells]) rfl
    refine' TL.y rfl rfl rfl ?hy29 ?_
    case hy29 => exact Yl.assign rfl rfl
    refine TL.nil ?_
    refine TE.next ?_
    refine TC.ret ?_
    refine TE.retCAT [.int .i64 (en).k, .int .i64 (en).pg, .bool (en).w, .bool (en).t] rfl rfl rfl (by kernel_rfl) (by kernel_rfl) (Hp.cells mem1 (fun j v hj => by simpa using hj)) ?_
    exact fun w h => ⟨rfl, (h.sub (List.nil_sublist _)).below⟩
set_option maxRecDepth 100000 in
set_option maxHeartbeats 2000000 in
theorem k_ssize (W : World) {x : Sp} {u : SS} {s : Nat} (hR : (spR x u).holds W) (hx : x.Is u s) : Calls Try.prog 16 #[.pointer (some ⟨s, 0, none⟩)] W fun e w' => e = .returned (.int .i64 (sizeS u : Nat)) ∧ Below W.heap.size W w' := by
  obtain ⟨hxs, hT, hu⟩ := hx
  obtain ⟨s', v, b, st⟩ := x
  obtain rfl : s' = s := hxs
  obtain ⟨A, c, hv, hcp, hS, hb, hRep⟩ := spR_open hR
  obtain rfl : v = .slice A u.G.length c := hv
  dsimp only at hT hb hRep
  have hlen := hu.len
  have hM : Hp W (fun _ => False) [] W := Hp.start
  refine TC.enter (n := 8) Try.func16 rfl rfl rfl hM ?_
  refine TC.seq ?_
  refine TC.region ?_
  refine' TL.y rfl rfl rfl ?hy1 ?_
  case hy1 => exact Yl.assign rfl rfl
  refine TL.nil ?_
  refine TE.next ?_
  refine TC.seq ?_
  refine TC.region ?_
  refine' TL.y rfl rfl rfl ?hy2 ?_
  case hy2 => exact Yl.move rfl rfl
  refine' TL.y rfl rfl rfl ?hy3 ?_
  case hy3 => exact Yl.nilCheck rfl rfl
  refine' TL.y rfl rfl rfl ?hy4 ?_
  case hy4 => first | exact Yl.field0 (k := 0) 1 rfl rfl Try.underlying67 rfl (by kernel_rfl) rfl | exact Yl.field (k := 0) 1 rfl rfl Try.underlying67 rfl (by kernel_rfl) rfl
  refine' TL.y rfl rfl rfl ?hy5 ?_
  case hy5 => exact Yl.load rfl rfl (by kernel_rfl) (by first | exact Hp.oldB hb rfl (fun h => h) | exact Hp.cell mem0 rfl | exact Hp.cell mem1 rfl | exact Hp.cell mem2 rfl | exact Hp.cell mem3 rfl | exact Hp.cell mem4 rfl | exact Hp.rowAt mem0 (by omega) rfl | exact Hp.rowAt mem1 (by omega) rfl | exact Hp.rowAt mem2 (by omega) rfl | exact Hp.rowAt mem3 (by omega) rfl | exact Hp.rowAt mem4 (by omega) rfl)
  refine' TL.c rfl rfl rfl ?hy6 ?_
  case hy6 => exact Yc.call rfl Try.func45 (by kernel_rfl) rfl rfl (Hp.calls (fun w h => k_lenT w (hRep.below h.below) hT))
  intro _
  refine' TL.y rfl rfl rfl ?hy7 ?_
  case hy7 => exact Yl.assign rfl rfl
  refine TL.nil ?_
  refine TE.next ?_
  refine TC.ret ?_
  refine TE.ret1 rfl rfl ?_
  exact fun w h => ⟨rfl, h.below⟩
set_option maxRecDepth 100000 in
set_option maxHeartbeats 2000000 in
theorem k_sregions (W : World) {x : Sp} {u : SS} {s : Nat} (hR : (spR x u).holds W) (hx : x.Is u s) : Calls Try.prog 18 #[.pointer (some ⟨s, 0, none⟩)] W fun e w' => ∃ v : Value, e = .returned v ∧ (rowG v (u.G)).holds w' ∧ Below W.heap.size W w' ∧ ∀ k, (rowG v (u.G)).foot k → W.heap.size ≤ k := by
  obtain ⟨hxs, hT, hu⟩ := hx
  obtain ⟨s', v, b, st⟩ := x
  obtain rfl : s' = s := hxs
  obtain ⟨A, c, hv, hcp, hS, hb, hRep⟩ := spR_open hR
  obtain rfl : v = .slice A u.G.length c := hv
  dsimp only at hT hb hRep
  have hlen := hu.len
  have hM : Hp W (fun _ => False) [] W := Hp.start
  refine TC.enter (n := 8) Try.func18 rfl rfl rfl hM ?_
  refine TC.seq ?_
  refine TC.region ?_
  refine' TL.y rfl rfl rfl ?hy1 ?_
  case hy1 => exact Yl.assign rfl rfl
  refine TL.nil ?_
  refine TE.next ?_
  refine TC.seq ?_
  refine TC.region ?_
  refine' TL.y rfl rfl rfl ?hy2 ?_
  case hy2 => exact Yl.move rfl rfl
  refine' TL.y rfl rfl rfl ?hy3 ?_
  case hy3 => exact Yl.nilCheck rfl rfl
  refine' TL.y rfl rfl rfl ?hy4 ?_
  case hy4 => first | exact Yl.field0 (k := 0) 0 rfl rfl Try.underlying67 rfl (by kernel_rfl) rfl | exact Yl.field (k := 0) 0 rfl rfl Try.underlying67 rfl (by kernel_rfl) rfl
  refine' TL.y rfl rfl rfl ?hy5 ?_
  case hy5 => exact Yl.load rfl rfl (by kernel_rfl) (by first | exact Hp.oldB hb rfl (fun h => h) | exact Hp.cell mem0 rfl | exact Hp.cell mem1 rfl | exact Hp.cell mem2 rfl | exact Hp.cell mem3 rfl | exact Hp.cell mem4 rfl | exact Hp.rowAt mem0 (by omega) rfl | exact Hp.rowAt mem1 (by omega) rfl | exact Hp.rowAt mem2 (by omega) rfl | exact Hp.rowAt mem3 (by omega) rfl | exact Hp.rowAt mem4 (by omega) rfl)
  refine' TL.c rfl rfl rfl ?hy6 ?_
  case hy6 => exact Yc.call rfl Try.func46 (by kernel_rfl) rfl rfl (Hp.news (fun w h => k_gclone w (hS.below h.below) (by omega)))
  intro v7
  refine' TL.y rfl rfl rfl ?hy7 ?_
  case hy7 => exact Yl.assign rfl rfl
  refine TL.nil ?_
  refine TE.next ?_
  refine TC.ret ?_
  refine TE.ret1 rfl rfl ?_
  exact fun w h => ⟨v7, rfl, h.leaveNew⟩
set_option maxRecDepth 100000 in
set_option maxHeartbeats 2000000 in
theorem k_sclone (W : World) {x : Sp} {u : SS} {s : Nat} (hR : (spR x u).holds W) (hx : x.Is u s) : Calls Try.prog 17 #[.pointer (some ⟨s, 0, none⟩)] W fun e w' => ∃ x : {x : Sp // x.Is u x.s}, e = .returned (.pointer (some ⟨x.1.s, 0, none⟩)) ∧ (spR x.1 u).holds w' ∧ Below W.heap.size W w' ∧ ∀ k, (spR x.1 u).foot k → W.heap.size ≤ k := by
  obtain ⟨hxs, hT, hu⟩ := hx
  obtain ⟨s', v, b, st⟩ := x
  obtain rfl : s' = s := hxs
  obtain ⟨A, c, hv, hcp, hS, hb, hRep⟩ := spR_open hR
  obtain rfl : v = .slice A u.G.length c := hv
  dsimp only at hT hb hRep
  have hlen := hu.len
  have hM : Hp W (fun _ => False) [] W := Hp.start
  refine TC.enter (n := 15) Try.func17 rfl rfl rfl hM ?_
  refine TC.seq ?_
  refine TC.region ?_
  refine' TL.y rfl rfl rfl ?hy1 ?_
  case hy1 => exact Yl.assign rfl rfl
  refine TL.nil ?_
  refine TE.next ?_
  refine TC.seq ?_
  refine TC.draw (k := 13) (Hp W (fun _ => False) []) [] #[false, false, false, false, false, false, false, false, false, false, false, false, false] (by kernel_rfl) rfl rfl (fun _ h => h.drew) (fun _ h => by exact Hp.sub h (by repeat (first | exact sR _ | exact sN _ | apply sK | apply sC))) ?_
  refine' TA.y (i := 0) #[true, false, false, false, false, false, false, false, false, false, false, false, false] rfl rfl rfl (by kernel_rfl) (fun _ _ _ h => h) (fun _ h => by exact Hp.sub h (by repeat (first | exact sR _ | exact sN _ | apply sK | apply sC))) rfl ?hy2 ?_
  case hy2 => exact Yl.move rfl rfl
  refine' TA.y (i := 1) #[true, true, false, false, false, false, false, false, false, false, false, false, false] rfl rfl rfl (by kernel_rfl) (fun _ _ _ h => h) (fun _ h => by exact Hp.sub h (by repeat (first | exact sR _ | exact sN _ | apply sK | apply sC))) rfl ?hy3 ?_
  case hy3 => exact Yl.nilCheck rfl rfl
  refine' TA.y (i := 2) #[true, true, true, false, false, false, false, false, false, false, false, false, false] rfl rfl rfl (by kernel_rfl) (fun _ _ _ h => h) (fun _ h => by exact Hp.sub h (by repeat (first | exact sR _ | exact sN _ | apply sK | apply sC))) rfl ?hy4 ?_
  case hy4 => first | exact Yl.field0 (k := 0) 0 rfl rfl Try.underlying67 rfl (by kernel_rfl) rfl | exact Yl.field (k := 0) 0 rfl rfl Try.underlying67 rfl (by kernel_rfl) rfl
  refine' TA.y (i := 3) #[true, true, true, true, false, false, false, false, false, false, false, false, false] rfl rfl rfl (by kernel_rfl) (fun _ _ _ h => h) (fun _ h => by exact Hp.sub h (by repeat (first | exact sR _ | exact sN _ | apply sK | apply sC))) rfl ?hy5 ?_
  case hy5 => exact Yl.load rfl rfl (by kernel_rfl) (by first | exact Hp.oldB hb rfl (fun h => h) | exact Hp.cell mem0 rfl | exact Hp.cell mem1 rfl | exact Hp.cell mem2 rfl | exact Hp.cell mem3 rfl | exact Hp.cell mem4 rfl | exact Hp.rowAt mem0 (by omega) rfl | exact Hp.rowAt mem1 (by omega) rfl | exact Hp.rowAt mem2 (by omega) rfl | exact Hp.rowAt mem3 (by omega) rfl | exact Hp.rowAt mem4 (by omega) rfl)
  refine' TA.y (i := 5) #[true, true, true, true, false, true, false, false, false, false, false, false, false] rfl rfl rfl (by kernel_rfl) (fun _ _ _ h => h) (fun _ h => by exact Hp.sub h (by repeat (first | exact sR _ | exact sN _ | apply sK | apply sC))) rfl ?hy6 ?_
  case hy6 => exact Yl.move rfl rfl
  refine' TA.y (i := 6) #[true, true, true, true, false, true, true, false, false, false, false, false, false] rfl rfl rfl (by kernel_rfl) (fun _ _ _ h => h) (fun _ h => by exact Hp.sub h (by repeat (first | exact sR _ | exact sN _ | apply sK | apply sC))) rfl ?hy7 ?_
  case hy7 => exact Yl.nilCheck rfl rfl
  refine' TA.y (i := 7) #[true, true, true, true, false, true, true, true, false, false, false, false, false] rfl rfl rfl (by kernel_rfl) (fun _ _ _ h => h) (fun _ h => by exact Hp.sub h (by repeat (first | exact sR _ | exact sN _ | apply sK | apply sC))) rfl ?hy8 ?_
  case hy8 => first | exact Yl.field0 (k := 0) 1 rfl rfl Try.underlying67 rfl (by kernel_rfl) rfl | exact Yl.field (k := 0) 1 rfl rfl Try.underlying67 rfl (by kernel_rfl) rfl
  refine' TA.y (i := 8) #[true, true, true, true, false, true, true, true, true, false, false, false, false] rfl rfl rfl (by kernel_rfl) (fun _ _ _ h => h) (fun _ h => by exact Hp.sub h (by repeat (first | exact sR _ | exact sN _ | apply sK | apply sC))) rfl ?hy9 ?_
  case hy9 => exact Yl.load rfl rfl (by kernel_rfl) (by first | exact Hp.oldB hb rfl (fun h => h) | exact Hp.cell mem0 rfl | exact Hp.cell mem1 rfl | exact Hp.cell mem2 rfl | exact Hp.cell mem3 rfl | exact Hp.cell mem4 rfl | exact Hp.rowAt mem0 (by omega) rfl | exact Hp.rowAt mem1 (by omega) rfl | exact Hp.rowAt mem2 (by omega) rfl | exact Hp.rowAt mem3 (by omega) rfl | exact Hp.rowAt mem4 (by omega) rfl)
  refine' TA.c (i := 4) #[true, true, true, true, true, true, true, true, true, false, false, false, false] rfl rfl rfl (by kernel_rfl) (by decide) rfl ?hy10 ?hz10 ?_
  case hy10 => exact Yc.call rfl Try.func46 (by kernel_rfl) rfl rfl (Hp.news (fun w h => k_gclone w (hS.below h.below) (by omega)))
  case hz10 => exact (fun _ _ h => by exact Hp.sub h (by repeat (first | exact sR _ | apply sC)))
  intro v7
  refine TA.fact (fun w h => Hp.rowGsh mem0 w h) ?_
  rintro ⟨A7, c7, rfl⟩
  refine' TA.c (i := 9) #[true, true, true, true, true, true, true, true, true, true, false, false, false] rfl rfl rfl (by kernel_rfl) (by decide) rfl ?hy11 ?hz11 ?_
  case hy11 => exact Yc.call rfl Try.func47 (by kernel_rfl) rfl rfl (Hp.news (fun w h => k_cloneT w (hRep.below h.below) hT))
  case hz11 => exact (fun _ _ h => by exact Hp.sub h (by repeat (first | exact sR _ | apply sC)))
  intro ⟨⟨b12, st12⟩, hT12⟩
  refine' TA.y (i := 10) #[true, true, true, true, true, true, true, true, true, true, true, false, false] rfl rfl rfl (by kernel_rfl) (fun _ _ _ h => h) (fun _ h => by exact Hp.sub h (by repeat (first | exact sR _ | exact sN _ | apply sK | apply sC))) rfl ?hy12 ?_
  case hy12 => exact Yl.build (z := .agg #[.slice none 0 0, .pointer none]) [(0, 1), (1, 1)] rfl (by kernel_rfl) Try.underlying67 (by kernel_rfl) rfl rfl
  refine' TA.mx (i := 11) #[true, true, true, true, true, true, true, true, true, true, true, true, false] rfl rfl rfl (by kernel_rfl) (by decide) rfl ?hy13 ?hz13 ?_
  case hy13 => exact Ym.box rfl rfl
  case hz13 => exact (fun _ _ h => by exact Hp.sub h (by repeat (first | exact sR _ | apply sC)))
  intro b14
  refine' TA.y (i := 12) #[true, true, true, true, true, true, true, true, true, true, true, true, true] rfl rfl rfl (by kernel_rfl) (fun _ _ _ h => h) (fun _ h => by exact Hp.sub h (by repeat (first | exact sR _ | exact sN _ | apply sK | apply sC))) rfl ?hy14 ?_
  case hy14 => exact Yl.assign rfl rfl
  refine TA.done (by kernel_rfl) ?_
  refine TE.next ?_
  refine TC.ret ?_
  refine TE.ret1 rfl rfl ?_
  exact fun w h => ⟨⟨⟨b14, .slice A7 u.G.length c7, b12, st12⟩, ⟨rfl, hT12, hu⟩⟩, rfl, (h.swap1.tostar.tostar).leaveNew⟩
end Go.Proofs.Ytabjdjkkpbkpfaa.Pk
