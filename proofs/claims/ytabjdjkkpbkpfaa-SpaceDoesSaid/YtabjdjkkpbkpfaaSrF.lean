/- The document's space: its functions. -/
import Derived.Test.YtabjdjkkpbkpfaaSrE
import Derived.Test.YtabjdjkkpbkpfaaProg
import Derived.RowKit3
namespace Go.Proofs.Ytabjdjkkpbkpfaa.Pk
open Go Go.RowKit Go.Proofs.Ytabjdjkkpbkpfaa.HL Go.Proofs.Ytabjdjkkpbkpfaa.Ev Go.Proofs.YtabjdjkkpbkpfaaW.PrintWords Go.Proofs.RgP Go.Proofs.RxP Go.Proofs.Ytabjdjkkpbkpfaa.BM
set_option linter.unusedVariables false
set_option linter.unusedSimpArgs false
attribute [local irreducible] Rw atG ents Iw Pw at_
set_option maxRecDepth 100000 in
set_option maxHeartbeats 2000000 in
theorem k_dnew (W : World) : Calls Try.prog 21 #[] W fun e w' => ∃ x : {x : Dp // x.Is newS x.s}, e = .returned (.pointer (some ⟨x.1.s, 0, none⟩)) ∧ (dpR x.1 newS).holds w' ∧ Below W.heap.size W w' ∧ ∀ k, (dpR x.1 newS).foot k → W.heap.size ≤ k := by
  have hM : Hp W (fun _ => False) [] W := Hp.start
  refine TC.enter (n := 5) Try.func21 rfl rfl rfl hM ?_
  refine TC.seq ?_
  refine TC.region ?_
  refine' TL.y rfl rfl rfl ?hy1 ?_
  case hy1 => exact Yl.assign rfl rfl
  refine TL.nil ?_
  refine TE.next ?_
  refine TC.seq ?_
  refine TC.region ?_
  refine' TL.y rfl rfl rfl ?hy2 ?_
  case hy2 => exact Yl.build (z := .agg #[.slice none 0 0]) [(0, 1)] rfl (by kernel_rfl) Try.underlying59 (by kernel_rfl) rfl rfl
  refine' TL.mx rfl rfl rfl ?hy3 ?_
  case hy3 => exact Ym.box rfl rfl
  intro b2
  refine' TL.y rfl rfl rfl ?hy4 ?_
  case hy4 => exact Yl.build (z := .agg #[.slice none 0 0, .pointer none]) [(0, 1), (1, 1)] rfl (by kernel_rfl) Try.underlying56 (by kernel_rfl) rfl rfl
  refine' TL.mx rfl rfl rfl ?hy5 ?_
  case hy5 => exact Ym.box rfl rfl
  intro b4
  refine' TL.y rfl rfl rfl ?hy6 ?_
  case hy6 => exact Yl.assign rfl rfl
  refine TL.nil ?_
  refine TE.next ?_
  refine TC.ret ?_
  refine TE.ret1 rfl rfl ?_
  exact fun w h => ⟨⟨⟨b4, .slice none 0 0, b2, .slice none 0 0⟩, ⟨rfl, newS_ok⟩⟩, rfl, ((Rf_nil ((rowG_nil h).swap.tostar.swap)).swap.tostar).leaveNew⟩
set_option maxRecDepth 100000 in
set_option maxHeartbeats 2000000 in
theorem k_dentry (W : World) {x : Dp} {u : SS} {s : Nat} (hR : (dpR x u).holds W) (hx : x.Is u s) (n : Int) : Calls Try.prog 29 #[.pointer (some ⟨s, 0, none⟩), .int .i64 n] W fun e w' => e = .returned (.tuple #[.agg #[.int .i64 (((gE u n).getD zEn)).k, .int .i64 (((gE u n).getD zEn)).pg, .bool (((gE u n).getD zEn)).w, .bool (((gE u n).getD zEn)).t], .bool (gE u n).isSome]) ∧ Below W.heap.size W w' := by
  obtain ⟨hxs, hu⟩ := hx
  obtain ⟨s', v, b, wv⟩ := x
  obtain rfl : s' = s := hxs
  obtain ⟨A, c, hv, hcp, hS, hb, hRf⟩ := dpR_open hR
  obtain rfl : v = .slice A u.G.length c := hv
  dsimp only at hb hRf
  have hlen := hu.len
  have hM : Hp W (fun _ => False) [] W := Hp.start
  refine TC.enter (n := 28) Try.func29 rfl rfl rfl hM ?_
  refine TC.seq ?_
  refine TC.region ?_
  refine' TL.mx rfl rfl rfl ?hy1 ?_
  case hy1 => exact Ym.alloc (z := .agg #[.int .i64 0, .int .i64 0, .bool false, .bool false]) rfl (by kernel_rfl)
  intro b4
  refine' TL.y rfl rfl rfl ?hy2 ?_
  case hy2 => exact Yl.assign rfl rfl
  refine TL.nil ?_
  refine TE.next ?_
  refine TC.seq ?_
  refine TC.region ?_
  refine' TL.y rfl rfl rfl ?hy3 ?_
  case hy3 => exact Yl.move rfl rfl
  refine' TL.y rfl rfl rfl ?hy4 ?_
  case hy4 => exact Yl.nilCheck rfl rfl
  refine' TL.y rfl rfl rfl ?hy5 ?_
  case hy5 => first | exact Yl.field0 (k := 0) 1 rfl rfl Try.underlying56 rfl (by kernel_rfl) rfl | exact Yl.field (k := 0) 1 rfl rfl Try.underlying56 rfl (by kernel_rfl) rfl
  refine' TL.y rfl rfl rfl ?hy6 ?_
  case hy6 => exact Yl.load rfl rfl (by kernel_rfl) (by first | exact Hp.oldB hb rfl (fun h => h) | exact Hp.cell mem0 rfl | exact Hp.cell mem1 rfl | exact Hp.cell mem2 rfl | exact Hp.cell mem3 rfl | exact Hp.cell mem4 rfl | exact Hp.rowAt mem0 (by omega) rfl | exact Hp.rowAt mem1 (by omega) rfl | exact Hp.rowAt mem2 (by omega) rfl | exact Hp.rowAt mem3 (by omega) rfl | exact Hp.rowAt mem4 (by omega) rfl)
  refine' TL.y rfl rfl rfl ?hy7 ?_
  case hy7 => exact Yl.move rfl rfl
  refine' TL.c rfl rfl rfl ?hy8 ?_
  case hy8 => exact Yc.call rfl Try.func56 (by kernel_rfl) rfl rfl (Hp.calls (fun w h => k_dget w (Res.below hRf h.below) n))
  intro _
  rw [gt_enc]
  refine' TL.y rfl rfl rfl ?hy9 ?_
  case hy9 => exact Yl.move rfl rfl
  refine' TL.y rfl rfl rfl ?hy10 ?_
  case hy10 => exact Yl.extract rfl rfl rfl
  refine' TL.y rfl rfl rfl ?hy11 ?_
  case hy11 => exact Yl.extract rfl rfl rfl
  refine' TL.y rfl rfl rfl ?hy12 ?_
  case hy12 => exact Yl.assign rfl rfl
  refine' TL.y rfl rfl rfl ?hy13 ?_
  case hy13 => exact Yl.assign rfl rfl
  refine TL.nil ?_
  refine TE.next ?_
  refine TC.seq ?_
  refine TC.seq ?_
  refine TC.region ?_
  refine' TL.y rfl rfl rfl ?hy14 ?_
  case hy14 => exact Yl.move rfl rfl
  refine' TL.y rfl rfl rfl ?hy15 ?_
  case hy15 => exact Yl.not rfl rfl
  refine TL.nil ?_
  refine TE.next ?_
  refine TC.cond rfl (fun hs20 => ?_) (fun hs20 => ?_)
  · skip
    (try simp only [nrm] at hs20)
    have he : gE u n = none := by simpa using hs20
    refine TC.seq ?_
    refine TC.region ?_
    refine' TL.y rfl rfl rfl ?hy16 ?_
    case hy16 => exact Yl.build (z := .agg #[.int .i64 0, .int .i64 0, .bool false, .bool false]) [(0, 1), (1, 1), (2, 1), (3, 1)] rfl (by kernel_rfl) Try.underlying30 (by kernel_rfl) rfl rfl
    refine' TL.s rfl rfl ?hy17 ?_
    case hy17 => exact Ys.store (seg := [.int .i64 0, .int .i64 0, .bool false, .bool false]) (c' := #[.int .i64 0, .int .i64 0, .bool false, .bool false]) rfl rfl rfl (by simp [Value.cells]) (by kernel_rfl) (by simp [Value.oneCell']) foc0 (by simp [Value.cells]) (by kernel_rfl)
    refine' TL.y rfl rfl rfl ?hy18 ?_
    case hy18 => exact Yl.assign rfl rfl
    refine TL.nil ?_
    refine TE.next ?_
    refine TC.ret ?_
    refine TE.thenRet ?_
    refine TE.retCAT [.int .i64 0, .int .i64 0, .bool false, .bool false] rfl rfl rfl (by kernel_rfl) (by kernel_rfl) (Hp.cells mem0 (fun j v hj => by simpa using hj)) ?_
    exact fun w h => ⟨by rw [he]; rfl, (h.sub (List.nil_sublist _)).below⟩
  · skip
    (try simp only [nrm] at hs20)
    obtain ⟨en, he⟩ : ∃ en, gE u n = some en := Option.isSome_iff_exists.1 (by simpa using hs20)
    rw [he]
    dsimp only [Option.map_some, Option.getD_some, Option.isSome_some]
    refine TC.skip ?_
    refine TE.next ?_
    refine TC.seq ?_
    refine TC.region ?_
    refine' TL.y rfl rfl rfl ?hy19 ?_
    case hy19 => exact Yl.move rfl rfl
    refine' TL.c rfl rfl rfl ?hy20 ?_
    case hy20 => exact Yc.call rfl Try.func60 (by kernel_rfl) rfl rfl (Hp.calls (fun w h => k_run6 w (gE_ok hu he)))
    intro _
    refine' TL.y rfl rfl rfl ?hy21 ?_
    case hy21 => exact Yl.move rfl rfl
    refine' TL.y rfl rfl rfl ?hy22 ?_
    case hy22 => exact Yl.extract rfl rfl rfl
    refine' TL.y rfl rfl rfl ?hy23 ?_
    case hy23 => exact Yl.extract rfl rfl rfl
    refine' TL.mx rfl rfl rfl ?hy24 ?_
    case hy24 => exact Ym.alloc (z := .agg #[.int .i64 0, .int .i64 0, .bool false, .bool false]) rfl (by kernel_rfl)
    intro b8
    refine' TL.s rfl rfl ?hy25 ?_
    case hy25 => exact Ys.store (seg := [.int .i64 (en).k, .int .i64 (en).pg, .bool (en).w, .bool (en).t]) (c' := #[.int .i64 (en).k, .int .i64 (en).pg, .bool (en).w, .bool (en).t]) rfl rfl rfl (by simp [Value.cells]) (by kernel_rfl) (by simp [Value.oneCell']) foc0 (by simp [Value.cells]) (by kernel_rfl)
    refine' TL.y rfl rfl rfl ?hy26 ?_
    case hy26 => exact Yl.assign rfl rfl
    refine TL.nil ?_
    refine TE.next ?_
    refine TC.seq ?_
    refine TC.region ?_
    refine' TL.y rfl rfl rfl ?hy27 ?_
    case hy27 => exact Yl.loads (cs := [.int .i64 (en).k, .int .i64 (en).pg, .bool (en).w, .bool (en).t]) rfl rfl (by kernel_rfl) (by kernel_rfl) (Hp.cells mem0 (fun j v hj => by simpa [Value.cells] using hj))
    refine' TL.s rfl rfl ?hy28 ?_
    case hy28 => exact Ys.store (seg := [.int .i64 (en).k, .int .i64 (en).pg, .bool (en).w, .bool (en).t]) (c' := #[.int .i64 (en).k, .int .i64 (en).pg, .bool (en).w, .bool (en).t]) rfl rfl rfl (by simp [Value.cells]) (by kernel_rfl) (by simp [Value.oneCell']) foc1 (by simp [Value.cells]) (by kernel_rfl)
    refine' TL.y rfl rfl rfl ?hy29 ?_
    case hy29 => exact Yl.assign rfl rfl
    refine TL.nil ?_
    refine TE.next ?_
    refine TC.ret ?_
    refine TE.retCAT [.int .i64 (en).k, .int .i64 (en).pg, .bool (en).w, .bool (en).t] rfl rfl rfl (by kernel_rfl) (by kernel_rfl) (Hp.cells mem1 (fun j v hj => by simpa using hj)) ?_
    exact fun w h => ⟨rfl, (h.sub (List.nil_sublist _)).below⟩
set_option maxRecDepth 100000 in
set_option maxHeartbeats 2000000 in
theorem k_dids (W : World) {x : Dp} {u : SS} {s : Nat} (hR : (dpR x u).holds W) (hx : x.Is u s) (a t : Int) : Calls Try.prog 33 #[.pointer (some ⟨s, 0, none⟩), .int .i64 a, .int .i64 t] W fun e w' => ∃ v : Value, e = .returned v ∧ (rowI v (idsL u a t)).holds w' ∧ Below W.heap.size W w' ∧ ∀ k, (rowI v (idsL u a t)).foot k → W.heap.size ≤ k := by
  obtain ⟨hxs, hu⟩ := hx
  obtain ⟨s', v, b, wv⟩ := x
  obtain rfl : s' = s := hxs
  obtain ⟨A, c, hv, hcp, hS, hb, hRf⟩ := dpR_open hR
  obtain rfl : v = .slice A u.G.length c := hv
  dsimp only at hb hRf
  have hlen := hu.len
  obtain ⟨B, cb, hD⟩ := Rf.at_ hRf
  have hrl := rk_le (encF u.E) 65536
  have hM : Hp W (fun _ => False) [] W := Hp.start
  refine TC.enter (n := 72) Try.func33 rfl rfl rfl hM ?_
  refine TC.seq ?_
  refine TC.region ?_
  refine' TL.y rfl rfl rfl ?hy1 ?_
  case hy1 => exact Yl.assign rfl rfl
  refine TL.nil ?_
  refine TE.next ?_
  refine TC.seq ?_
  refine TC.region ?_
  refine' TL.y rfl rfl rfl ?hy2 ?_
  case hy2 => exact Yl.assign rfl rfl
  refine TL.nil ?_
  refine TE.next ?_
  refine TC.seq ?_
  refine TC.seq ?_
  refine TC.region ?_
  refine' TL.y rfl rfl rfl ?hy3 ?_
  case hy3 => exact Yl.assign rfl rfl
  refine TL.nil ?_
  refine TE.next ?_
  refine TC.block ?_
  refine TC.loop (σ := Nat × Value) (fun q => [(0, .pointer (some ⟨s', 0, none⟩)), (1, .int .i64 a), (2, .int .i64 t), (7, q.2), (8, .int .i64 (q.1 : Int))]) (fun q => Hp W (fun _ => False) [rowI q.2 ((wr (encF u.E) a t q.1).map (pgE u))]) (fun q => q.1 ≤ rk (encF u.E) 65536) (fun q => rk (encF u.E) 65536 - q.1) (0, .slice none 0 0) ?hF4 ?hs4 ?hm4 ?round4
  case hF4 => exact Nat.zero_le _
  case hs4 => exact ⟨rfl, rfl, rfl, rfl, rfl, trivial⟩
  case hm4 => exact fun w h => by dsimp only; rw [show wr (encF u.E) a t 0 = [] from rfl, List.map_nil, ← rowI_nil]; exact h.nil
  case round4 =>
    rintro ⟨i, v⟩ hi
    dsimp only at hi ⊢
    have hwl := wr_len (encF u.E) a t i
    have hal : ((wr (encF u.E) a t i).map (pgE u)).length ≤ 65536 := by rw [List.length_map]; omega
    refine TC.seq ?_
    refine TC.seq ?_
    refine TC.region ?_
    refine' TL.y rfl rfl rfl ?hy5 ?_
    case hy5 => exact Yl.move rfl rfl
    refine' TL.y rfl rfl rfl ?hy6 ?_
    case hy6 => exact Yl.move rfl rfl
    refine' TL.y rfl rfl rfl ?hy7 ?_
    case hy7 => exact Yl.nilCheck rfl rfl
    refine' TL.y rfl rfl rfl ?hy8 ?_
    case hy8 => first | exact Yl.field0 (k := 0) 1 rfl rfl Try.underlying56 rfl (by kernel_rfl) rfl | exact Yl.field (k := 0) 1 rfl rfl Try.underlying56 rfl (by kernel_rfl) rfl
    refine' TL.y rfl rfl rfl ?hy9 ?_
    case hy9 => exact Yl.load rfl rfl (by kernel_rfl) (by first | exact Hp.oldB hb rfl (fun h => h) | exact Hp.oldB hD.blk rfl (fun h => h) | exact Hp.cell mem0 rfl | exact Hp.cell mem1 rfl | exact Hp.cell mem2 rfl | exact Hp.cell mem3 rfl | exact Hp.cell mem4 rfl | exact Hp.rowAt mem0 (by omega) rfl | exact Hp.rowAt mem1 (by omega) rfl | exact Hp.rowAt mem2 (by omega) rfl | exact Hp.rowAt mem3 (by omega) rfl | exact Hp.rowAt mem4 (by omega) rfl)
    refine' TL.y rfl rfl rfl ?hy10 ?_
    case hy10 => exact Yl.nilCheck rfl rfl
    refine' TL.y rfl rfl rfl ?hy11 ?_
    case hy11 => first | exact Yl.field0 (k := 0) 0 rfl rfl Try.underlying59 rfl (by kernel_rfl) rfl | exact Yl.field (k := 0) 0 rfl rfl Try.underlying59 rfl (by kernel_rfl) rfl
    refine' TL.y rfl rfl rfl ?hy12 ?_
    case hy12 => exact Yl.load rfl rfl (by kernel_rfl) (by first | exact Hp.oldB hb rfl (fun h => h) | exact Hp.oldB hD.blk rfl (fun h => h) | exact Hp.cell mem0 rfl | exact Hp.cell mem1 rfl | exact Hp.cell mem2 rfl | exact Hp.cell mem3 rfl | exact Hp.cell mem4 rfl | exact Hp.rowAt mem0 (by omega) rfl | exact Hp.rowAt mem1 (by omega) rfl | exact Hp.rowAt mem2 (by omega) rfl | exact Hp.rowAt mem3 (by omega) rfl | exact Hp.rowAt mem4 (by omega) rfl)
    refine' TL.y rfl rfl rfl ?hy13 ?_
    case hy13 => exact Yl.len rfl rfl Try.underlying57
    refine' TL.y rfl rfl rfl ?hy14 ?_
    case hy14 => exact Yl.bin rfl rfl rfl (Bin.lss _ _ _ _)
    refine TL.nil ?_
    refine TE.next ?_
    refine TC.cond rfl (fun hs20 => ?_) (fun hs20 => ?_)
    · skip
      (try simp only [nrm] at hs20)
      have hil : i < rk (encF u.E) 65536 := by omega
      obtain ⟨p, en, hp, hE, hat, hge⟩ := at_en hu hil
      obtain ⟨g, o, rfl⟩ := Sl.some2 hD.sl (by rw [Pw_length, Rf.len]; omega)
      refine TC.skip ?_
      refine TE.next ?_
      refine TC.seq ?_
      refine TC.block ?_
      refine TC.seq ?_
      refine TC.region ?_
      refine' TL.y rfl rfl rfl ?hy15 ?_
      case hy15 => exact Yl.move rfl rfl
      refine' TL.y rfl rfl rfl ?hy16 ?_
      case hy16 => exact Yl.nilCheck rfl rfl
      refine' TL.y rfl rfl rfl ?hy17 ?_
      case hy17 => first | exact Yl.field0 (k := 0) 1 rfl rfl Try.underlying56 rfl (by kernel_rfl) rfl | exact Yl.field (k := 0) 1 rfl rfl Try.underlying56 rfl (by kernel_rfl) rfl
      refine' TL.y rfl rfl rfl ?hy18 ?_
      case hy18 => exact Yl.load rfl rfl (by kernel_rfl) (by first | exact Hp.oldB hb rfl (fun h => h) | exact Hp.oldB hD.blk rfl (fun h => h) | exact Hp.cell mem0 rfl | exact Hp.cell mem1 rfl | exact Hp.cell mem2 rfl | exact Hp.cell mem3 rfl | exact Hp.cell mem4 rfl | exact Hp.rowAt mem0 (by omega) rfl | exact Hp.rowAt mem1 (by omega) rfl | exact Hp.rowAt mem2 (by omega) rfl | exact Hp.rowAt mem3 (by omega) rfl | exact Hp.rowAt mem4 (by omega) rfl)
      refine' TL.y rfl rfl rfl ?hy19 ?_
      case hy19 => exact Yl.nilCheck rfl rfl
      refine' TL.y rfl rfl rfl ?hy20 ?_
      case hy20 => first | exact Yl.field0 (k := 0) 0 rfl rfl Try.underlying59 rfl (by kernel_rfl) rfl | exact Yl.field (k := 0) 0 rfl rfl Try.underlying59 rfl (by kernel_rfl) rfl
      refine' TL.y rfl rfl rfl ?hy21 ?_
      case hy21 => exact Yl.load rfl rfl (by kernel_rfl) (by first | exact Hp.oldB hb rfl (fun h => h) | exact Hp.oldB hD.blk rfl (fun h => h) | exact Hp.cell mem0 rfl | exact Hp.cell mem1 rfl | exact Hp.cell mem2 rfl | exact Hp.cell mem3 rfl | exact Hp.cell mem4 rfl | exact Hp.rowAt mem0 (by omega) rfl | exact Hp.rowAt mem1 (by omega) rfl | exact Hp.rowAt mem2 (by omega) rfl | exact Hp.rowAt mem3 (by omega) rfl | exact Hp.rowAt mem4 (by omega) rfl)
      refine' TL.y rfl rfl rfl ?hy22 ?_
      case hy22 => exact Yl.move rfl rfl
      refine' TL.y rfl rfl rfl ?hy23 ?_
      case hy23 => first | exact Yl.ixkn (k := 2) rfl rfl rfl Try.underlying57 (by kernel_rfl) (by omega) | exact Yl.ixkz (k := 2) rfl rfl rfl Try.underlying57 (by kernel_rfl) (by omega) (by omega)
      refine' TL.y rfl rfl rfl ?hy24 ?_
      case hy24 => first | exact Yl.field0 (k := 0) 0 rfl rfl Try.underlying83 rfl (by kernel_rfl) rfl | exact Yl.field (k := 0) 0 rfl rfl Try.underlying83 rfl (by kernel_rfl) rfl
      refine' TL.y rfl rfl rfl ?hy25 ?_
      case hy25 => exact Yl.load (v := .int .i64 ((p : Nat) : Int)) rfl rfl (by kernel_rfl) (fun w h => (Sl.pw hD.sl (i := i) (j := 0) (by omega) (by rw [Rf.len]; omega) (by decide) w (h.sub (List.nil_sublist _))).trans (congrArg some (by rw [hat]; rfl)))
      refine' TL.y rfl rfl rfl ?hy26 ?_
      case hy26 => exact Yl.move rfl rfl
      refine' TL.y rfl rfl rfl ?hy27 ?_
      case hy27 => exact Yl.bin rfl rfl rfl (Bin.geq _ _ _ _)
      refine' TL.y rfl rfl rfl ?hy28 ?_
      case hy28 => exact Yl.move rfl rfl
      refine TL.split (i := 36) rfl (fun hs36 => ?_) (fun hs36 => ?_)
      · skip
        (try simp only [nrm] at hs36)
        refine' TL.y rfl rfl rfl ?hy29 ?_
        case hy29 => exact Yl.move rfl rfl
        refine' TL.y rfl rfl rfl ?hy30 ?_
        case hy30 => exact Yl.nilCheck rfl rfl
        refine' TL.y rfl rfl rfl ?hy31 ?_
        case hy31 => first | exact Yl.field0 (k := 0) 1 rfl rfl Try.underlying56 rfl (by kernel_rfl) rfl | exact Yl.field (k := 0) 1 rfl rfl Try.underlying56 rfl (by kernel_rfl) rfl
        refine' TL.y rfl rfl rfl ?hy32 ?_
        case hy32 => exact Yl.load rfl rfl (by kernel_rfl) (by first | exact Hp.oldB hb rfl (fun h => h) | exact Hp.oldB hD.blk rfl (fun h => h) | exact Hp.cell mem0 rfl | exact Hp.cell mem1 rfl | exact Hp.cell mem2 rfl | exact Hp.cell mem3 rfl | exact Hp.cell mem4 rfl | exact Hp.rowAt mem0 (by omega) rfl | exact Hp.rowAt mem1 (by omega) rfl | exact Hp.rowAt mem2 (by omega) rfl | exact Hp.rowAt mem3 (by omega) rfl | exact Hp.rowAt mem4 (by omega) rfl)
        refine' TL.y rfl rfl rfl ?hy33 ?_
        case hy33 => exact Yl.nilCheck rfl rfl
        refine' TL.y rfl rfl rfl ?hy34 ?_
        case hy34 => first | exact Yl.field0 (k := 0) 0 rfl rfl Try.underlying59 rfl (by kernel_rfl) rfl | exact Yl.field (k := 0) 0 rfl rfl Try.underlying59 rfl (by kernel_rfl) rfl
        refine' TL.y rfl rfl rfl ?hy35 ?_
        case hy35 => exact Yl.load rfl rfl (by kernel_rfl) (by first | exact Hp.oldB hb rfl (fun h => h) | exact Hp.oldB hD.blk rfl (fun h => h) | exact Hp.cell mem0 rfl | exact Hp.cell mem1 rfl | exact Hp.cell mem2 rfl | exact Hp.cell mem3 rfl | exact Hp.cell mem4 rfl | exact Hp.rowAt mem0 (by omega) rfl | exact Hp.rowAt mem1 (by omega) rfl | exact Hp.rowAt mem2 (by omega) rfl | exact Hp.rowAt mem3 (by omega) rfl | exact Hp.rowAt mem4 (by omega) rfl)
        refine' TL.y rfl rfl rfl ?hy36 ?_
        case hy36 => exact Yl.move rfl rfl
        refine' TL.y rfl rfl rfl ?hy37 ?_
        case hy37 => first | exact Yl.ixkn (k := 2) rfl rfl rfl Try.underlying57 (by kernel_rfl) (by omega) | exact Yl.ixkz (k := 2) rfl rfl rfl Try.underlying57 (by kernel_rfl) (by omega) (by omega)
        refine' TL.y rfl rfl rfl ?hy38 ?_
        case hy38 => first | exact Yl.field0 (k := 0) 0 rfl rfl Try.underlying83 rfl (by kernel_rfl) rfl | exact Yl.field (k := 0) 0 rfl rfl Try.underlying83 rfl (by kernel_rfl) rfl
        refine' TL.y rfl rfl rfl ?hy39 ?_
        case hy39 => exact Yl.load (v := .int .i64 ((p : Nat) : Int)) rfl rfl (by kernel_rfl) (fun w h => (Sl.pw hD.sl (i := i) (j := 0) (by omega) (by rw [Rf.len]; omega) (by decide) w (h.sub (List.nil_sublist _))).trans (congrArg some (by rw [hat]; rfl)))
        refine' TL.y rfl rfl rfl ?hy40 ?_
        case hy40 => exact Yl.move rfl rfl
        refine' TL.y rfl rfl rfl ?hy41 ?_
        case hy41 => exact Yl.bin rfl rfl rfl (Bin.lss _ _ _ _)
        refine' TL.y rfl rfl rfl ?hy42 ?_
        case hy42 => exact Yl.pickT rfl rfl rfl
        refine TL.nil ?_
        refine TE.next ?_
        refine TC.cond rfl (fun hs50 => ?_) (fun hs50 => ?_)
        · skip
          (try simp only [nrm] at hs50)
          refine TC.seq ?_
          refine TC.region ?_
          refine' TL.y rfl rfl rfl ?hy43 ?_
          case hy43 => exact Yl.move rfl rfl
          refine' TL.y rfl rfl rfl ?hy44 ?_
          case hy44 => exact Yl.nilCheck rfl rfl
          refine' TL.y rfl rfl rfl ?hy45 ?_
          case hy45 => first | exact Yl.field0 (k := 0) 1 rfl rfl Try.underlying56 rfl (by kernel_rfl) rfl | exact Yl.field (k := 0) 1 rfl rfl Try.underlying56 rfl (by kernel_rfl) rfl
          refine' TL.y rfl rfl rfl ?hy46 ?_
          case hy46 => exact Yl.load rfl rfl (by kernel_rfl) (by first | exact Hp.oldB hb rfl (fun h => h) | exact Hp.oldB hD.blk rfl (fun h => h) | exact Hp.cell mem0 rfl | exact Hp.cell mem1 rfl | exact Hp.cell mem2 rfl | exact Hp.cell mem3 rfl | exact Hp.cell mem4 rfl | exact Hp.rowAt mem0 (by omega) rfl | exact Hp.rowAt mem1 (by omega) rfl | exact Hp.rowAt mem2 (by omega) rfl | exact Hp.rowAt mem3 (by omega) rfl | exact Hp.rowAt mem4 (by omega) rfl)
          refine' TL.y rfl rfl rfl ?hy47 ?_
          case hy47 => exact Yl.nilCheck rfl rfl
          refine' TL.y rfl rfl rfl ?hy48 ?_
          case hy48 => first | exact Yl.field0 (k := 0) 0 rfl rfl Try.underlying59 rfl (by kernel_rfl) rfl | exact Yl.field (k := 0) 0 rfl rfl Try.underlying59 rfl (by kernel_rfl) rfl
          refine' TL.y rfl rfl rfl ?hy49 ?_
          case hy49 => exact Yl.load rfl rfl (by kernel_rfl) (by first | exact Hp.oldB hb rfl (fun h => h) | exact Hp.oldB hD.blk rfl (fun h => h) | exact Hp.cell mem0 rfl | exact Hp.cell mem1 rfl | exact Hp.cell mem2 rfl | exact Hp.cell mem3 rfl | exact Hp.cell mem4 rfl | exact Hp.rowAt mem0 (by omega) rfl | exact Hp.rowAt mem1 (by omega) rfl | exact Hp.rowAt mem2 (by omega) rfl | exact Hp.rowAt mem3 (by omega) rfl | exact Hp.rowAt mem4 (by omega) rfl)
          refine' TL.y rfl rfl rfl ?hy50 ?_
          case hy50 => exact Yl.move rfl rfl
          refine' TL.y rfl rfl rfl ?hy51 ?_
          case hy51 => first | exact Yl.ixkn (k := 2) rfl rfl rfl Try.underlying57 (by kernel_rfl) (by omega) | exact Yl.ixkz (k := 2) rfl rfl rfl Try.underlying57 (by kernel_rfl) (by omega) (by omega)
          refine' TL.y rfl rfl rfl ?hy52 ?_
          case hy52 => first | exact Yl.field0 (k := 0) 1 rfl rfl Try.underlying83 rfl (by kernel_rfl) rfl | exact Yl.field (k := 0) 1 rfl rfl Try.underlying83 rfl (by kernel_rfl) rfl
          refine' TL.y rfl rfl rfl ?hy53 ?_
          case hy53 => exact Yl.load (v := .int .u64 (encE en)) rfl rfl (by kernel_rfl) (fun w h => (Sl.pw hD.sl (i := i) (j := 1) (by omega) (by rw [Rf.len]; omega) (by decide) w (h.sub (List.nil_sublist _))).trans (congrArg some (by rw [hat]; rfl)))
          refine' TL.c rfl rfl rfl ?hy54 ?_
          case hy54 => exact Yc.call rfl Try.func60 (by kernel_rfl) rfl rfl (Hp.calls (fun w h => k_run6 w hE))
          intro _
          refine' TL.y rfl rfl rfl ?hy55 ?_
          case hy55 => exact Yl.move rfl rfl
          refine' TL.y rfl rfl rfl ?hy56 ?_
          case hy56 => exact Yl.extract rfl rfl rfl
          refine' TL.y rfl rfl rfl ?hy57 ?_
          case hy57 => exact Yl.extract rfl rfl rfl
          refine' TL.mx rfl rfl rfl ?hy58 ?_
          case hy58 => exact Ym.alloc (z := .agg #[.int .i64 0, .int .i64 0, .bool false, .bool false]) rfl (by kernel_rfl)
          intro b9
          refine' TL.s rfl rfl ?hy59 ?_
          case hy59 => exact Ys.store (seg := [.int .i64 (en).k, .int .i64 (en).pg, .bool (en).w, .bool (en).t]) (c' := #[.int .i64 (en).k, .int .i64 (en).pg, .bool (en).w, .bool (en).t]) rfl rfl rfl (by simp [Value.cells]) (by kernel_rfl) (by simp [Value.oneCell']) foc0 (by simp [Value.cells]) (by kernel_rfl)
          refine' TL.y rfl rfl rfl ?hy60 ?_
          case hy60 => exact Yl.assign rfl rfl
          refine TL.nil ?_
          refine TE.next ?_
          refine TC.region ?_
          refine' TL.y rfl rfl rfl ?hy61 ?_
          case hy61 => exact Yl.move rfl rfl
          refine' TL.y rfl rfl rfl ?hy62 ?_
          case hy62 => first | exact Yl.field0 (k := 0) 1 rfl rfl Try.underlying30 rfl (by kernel_rfl) rfl | exact Yl.field (k := 0) 1 rfl rfl Try.underlying30 rfl (by kernel_rfl) rfl
          refine' TL.y rfl rfl rfl ?hy63 ?_
          case hy63 => exact Yl.load rfl rfl (by kernel_rfl) (by first | exact Hp.oldB hb rfl (fun h => h) | exact Hp.oldB hD.blk rfl (fun h => h) | exact Hp.cell mem0 rfl | exact Hp.cell mem1 rfl | exact Hp.cell mem2 rfl | exact Hp.cell mem3 rfl | exact Hp.cell mem4 rfl | exact Hp.rowAt mem0 (by omega) rfl | exact Hp.rowAt mem1 (by omega) rfl | exact Hp.rowAt mem2 (by omega) rfl | exact Hp.rowAt mem3 (by omega) rfl | exact Hp.rowAt mem4 (by omega) rfl)
          refine TL.re (i := 68) (v' := .int .i64 (pgE u ((p : Nat) : Int))) rfl (congrArg (Value.int .i64) (by unfold pgE; rw [hge]; rfl)) ?_
          refine' TL.mx rfl rfl rfl ?hy64 ?_
          case hy64 => exact Ym.buildSlice (cells := #[_]) (z := .int .i64 0) (size := 1) #[.int .i64 0] rfl Try.underlying36 (by kernel_rfl) (by decide) (by decide) (by kernel_rfl) rfl rfl
          intro b69
          refine' TL.mx rfl rfl rfl ?hy65 ?_
          case hy65 => exact Ym.append (e := 3) (news := [.int .i64 (pgE u ((p : Nat) : Int))]) (m := ((wr (encF u.E) a t i).map (pgE u)).length) (xs := Iw ((wr (encF u.E) a t i).map (pgE u))) rfl Try.underlying36 (by kernel_rfl) (z := .int .i64 0) (size := 1) (bytes := 8) rfl (by decide) (by decide) rfl rfl rfl (Hp.cells mem0 (fun j v hj => by simpa [Value.cells] using hj)) (by simp [Value.oneCell']) (by omega) (fun v' => foc2)
          intro v70
          refine' TL.y rfl rfl rfl ?hy66 ?_
          case hy66 => exact Yl.assign rfl rfl
          refine TL.nil ?_
          refine TE.inNormal ?_
          refine TE.next ?_
          refine TC.region ?_
          refine' TL.y rfl rfl rfl ?hy67 ?_
          case hy67 => exact Yl.move rfl rfl
          refine' TL.y rfl rfl rfl ?hy68 ?_
          case hy68 => first | (refine Yl.val (Yl.bin rfl rfl rfl (Bin.add _ _ _ _)) (congrArg (Value.int .i64) (i64in ?_ ?_)) <;> omega) | exact Yl.bin rfl rfl rfl (Bin.add _ _ _ _)
          refine' TL.y rfl rfl rfl ?hy69 ?_
          case hy69 => exact Yl.assign rfl rfl
          refine TL.nil ?_
          refine TE.round (i + 1, v70) ?hF70 ?hlt70 ?hs70 ?hm70
          case hF70 => dsimp only; omega
          case hlt70 => dsimp only; omega
          case hs70 => exact ⟨rfl, rfl, rfl, rfl, rfl, trivial⟩
          case hm70 => exact (fun w h => by
            dsimp only
            rw [wr_yes hil (by rw [hat]; omega) (by rw [hat]; omega), List.map_append, List.map_cons, List.map_nil, hat, ← rowI_snoc]
            exact h.sub (by repeat (first | exact sR _ | exact sN _ | apply sK | apply sC)))
        · skip
          (try simp only [nrm] at hs50)
          refine TC.skip ?_
          refine TE.inNormal ?_
          refine TE.next ?_
          refine TC.region ?_
          refine' TL.y rfl rfl rfl ?hy71 ?_
          case hy71 => exact Yl.move rfl rfl
          refine' TL.y rfl rfl rfl ?hy72 ?_
          case hy72 => first | (refine Yl.val (Yl.bin rfl rfl rfl (Bin.add _ _ _ _)) (congrArg (Value.int .i64) (i64in ?_ ?_)) <;> omega) | exact Yl.bin rfl rfl rfl (Bin.add _ _ _ _)
          refine' TL.y rfl rfl rfl ?hy73 ?_
          case hy73 => exact Yl.assign rfl rfl
          refine TL.nil ?_
          refine TE.round (i + 1, v) ?hF74 ?hlt74 ?hs74 ?hm74
          case hF74 => dsimp only; omega
          case hlt74 => dsimp only; omega
          case hs74 => exact ⟨rfl, rfl, rfl, rfl, rfl, trivial⟩
          case hm74 => exact fun w h => by dsimp only; rw [wr_no hil (by rw [hat]; omega)]; exact h
      · skip
        (try simp only [nrm] at hs36)
        refine TL.skip rfl rfl rfl ?_
        refine TL.skip rfl rfl rfl ?_
        refine TL.skip rfl rfl rfl ?_
        refine TL.skip rfl rfl rfl ?_
        refine TL.skip rfl rfl rfl ?_
        refine TL.skip rfl rfl rfl ?_
        refine TL.skip rfl rfl rfl ?_
        refine TL.skip rfl rfl rfl ?_
        refine TL.skip rfl rfl rfl ?_
        refine TL.skip rfl rfl rfl ?_
        refine TL.skip rfl rfl rfl ?_
        refine TL.skip rfl rfl rfl ?_
        refine TL.skip rfl rfl rfl ?_
        refine' TL.y rfl rfl rfl ?hy75 ?_
        case hy75 => exact Yl.pickF rfl rfl rfl
        refine TL.nil ?_
        refine TE.next ?_
        refine TC.no rfl rfl ?_
        refine TC.skip ?_
        refine TE.inNormal ?_
        refine TE.next ?_
        refine TC.region ?_
        refine' TL.y rfl rfl rfl ?hy76 ?_
        case hy76 => exact Yl.move rfl rfl
        refine' TL.y rfl rfl rfl ?hy77 ?_
        case hy77 => first | (refine Yl.val (Yl.bin rfl rfl rfl (Bin.add _ _ _ _)) (congrArg (Value.int .i64) (i64in ?_ ?_)) <;> omega) | exact Yl.bin rfl rfl rfl (Bin.add _ _ _ _)
        refine' TL.y rfl rfl rfl ?hy78 ?_
        case hy78 => exact Yl.assign rfl rfl
        refine TL.nil ?_
        refine TE.round (i + 1, v) ?hF79 ?hlt79 ?hs79 ?hm79
        case hF79 => dsimp only; omega
        case hlt79 => dsimp only; omega
        case hs79 => exact ⟨rfl, rfl, rfl, rfl, rfl, trivial⟩
        case hm79 => exact fun w h => by dsimp only; rw [wr_no hil (by rw [hat]; omega)]; exact h
    · skip
      (try simp only [nrm] at hs20)
      refine TC.exit ?_
      refine TE.thenExit ?_
      refine TE.thenExit ?_
      refine TE.inHere ?_
      refine TE.next ?_
      refine TC.seq ?_
      refine TC.region ?_
      refine' TL.y rfl rfl rfl ?hy80 ?_
      case hy80 => exact Yl.move rfl rfl
      refine' TL.y rfl rfl rfl ?hy81 ?_
      case hy81 => exact Yl.assign rfl rfl
      refine TL.nil ?_
      refine TE.next ?_
      refine TC.ret ?_
      refine TE.ret1 rfl rfl ?_
      obtain rfl : i = rk (encF u.E) 65536 := by omega
      exact fun w h => ⟨v, rfl, by rw [← ids_wr]; exact h.leaveNew⟩
set_option maxRecDepth 100000 in
set_option maxHeartbeats 2000000 in
theorem k_dmap {x : Dp} {u : SS} {s : Nat} (hx : x.Is u s) (y : S25) : Turns Try.prog 22 #[.pointer (some ⟨s, 0, none⟩), .agg #[.int .i64 (y).f0, .int .i64 (y).f1, .int .i64 (y).f2, .int .i64 (y).f3, .int .i64 (y).f4, .bool (y).f5]] (dpR x u) (σ := {z : Dp // z.Is (mapS u y) s}) (fun p => .int .i64 (addL u.G y).2) (fun p => dpR p.1 (mapS u y)) := by
  intro W hR
  obtain ⟨hxs, hu⟩ := hx
  obtain ⟨s', v, b, wv⟩ := x
  obtain rfl : s' = s := hxs
  obtain ⟨A, c, hv, hcp, hS, hb, hRf⟩ := dpR_open hR
  obtain rfl : v = .slice A u.G.length c := hv
  dsimp only at hb hRf
  have hlen := hu.len
  have hM : Hp W (dpR ⟨s', .slice A u.G.length c, b, wv⟩ u).foot [blk s' (.cells #[.slice A u.G.length c, .pointer (some ⟨b, 0, none⟩)] 56 (0, 0)), rowG (.slice A u.G.length c) u.G, Rf b wv (encF u.E)] W := (Hp.enter hR).unstar.unstar
  refine TC.enter (n := 23) Try.func22 rfl rfl rfl hM ?_
  refine TC.seq ?_
  refine TC.region ?_
  refine' TL.mx rfl rfl rfl ?hy1 ?_
  case hy1 => exact Ym.box rfl rfl
  intro b3
  refine' TL.y rfl rfl rfl ?hy2 ?_
  case hy2 => exact Yl.assign rfl rfl
  refine TL.nil ?_
  refine TE.next ?_
  refine TC.seq ?_
  refine TC.draw (k := 11) (Hp W (dpR ⟨s', .slice A u.G.length c, b, wv⟩ u).foot [blk b3 (.cells #[.int .i64 (y).f0, .int .i64 (y).f1, .int .i64 (y).f2, .int .i64 (y).f3, .int .i64 (y).f4, .bool (y).f5] 28 (0, 0)), blk s' (.cells #[.slice A u.G.length c, .pointer (some ⟨b, 0, none⟩)] 56 (0, 0))]) [] #[false, false, false, false, false, false, false, false, false, false, false] (by kernel_rfl) rfl rfl (fun _ h => h.drew) (fun _ h => by exact Hp.sub h (by repeat (first | exact sR _ | exact sN _ | apply sK | apply sC))) ?_
  refine' TA.y (i := 0) #[true, false, false, false, false, false, false, false, false, false, false] rfl rfl rfl (by kernel_rfl) (fun _ _ _ h => h) (fun _ h => by exact Hp.sub h (by repeat (first | exact sR _ | exact sN _ | apply sK | apply sC))) rfl ?hy3 ?_
  case hy3 => exact Yl.move rfl rfl
  refine' TA.y (i := 1) #[true, true, false, false, false, false, false, false, false, false, false] rfl rfl rfl (by kernel_rfl) (fun _ _ _ h => h) (fun _ h => by exact Hp.sub h (by repeat (first | exact sR _ | exact sN _ | apply sK | apply sC))) rfl ?hy4 ?_
  case hy4 => exact Yl.nilCheck rfl rfl
  refine' TA.y (i := 2) #[true, true, true, false, false, false, false, false, false, false, false] rfl rfl rfl (by kernel_rfl) (fun _ _ _ h => h) (fun _ h => by exact Hp.sub h (by repeat (first | exact sR _ | exact sN _ | apply sK | apply sC))) rfl ?hy5 ?_
  case hy5 => first | exact Yl.field0 (k := 0) 0 rfl rfl Try.underlying56 rfl (by kernel_rfl) rfl | exact Yl.field (k := 0) 0 rfl rfl Try.underlying56 rfl (by kernel_rfl) rfl
  refine' TA.y (i := 3) #[true, true, true, true, false, false, false, false, false, false, false] rfl rfl rfl (by kernel_rfl) (fun _ _ _ h => h) (fun _ h => by exact Hp.sub h (by repeat (first | exact sR _ | exact sN _ | apply sK | apply sC))) rfl ?hy6 ?_
  case hy6 => exact Yl.load rfl rfl (by kernel_rfl) (by first | exact Hp.cell mem0 rfl | exact Hp.cell mem1 rfl | exact Hp.cell mem2 rfl | exact Hp.cell mem3 rfl | exact Hp.cell mem4 rfl | exact Hp.rowAt mem0 (by omega) rfl | exact Hp.rowAt mem1 (by omega) rfl | exact Hp.rowAt mem2 (by omega) rfl | exact Hp.rowAt mem3 (by omega) rfl | exact Hp.rowAt mem4 (by omega) rfl)
  refine' TA.y (i := 4) #[true, true, true, true, true, false, false, false, false, false, false] rfl rfl rfl (by kernel_rfl) (fun _ _ _ h => h) (fun _ h => by exact Hp.sub h (by repeat (first | exact sR _ | exact sN _ | apply sK | apply sC))) rfl ?hy7 ?_
  case hy7 => exact Yl.loads (cs := [.int .i64 (y).f0, .int .i64 (y).f1, .int .i64 (y).f2, .int .i64 (y).f3, .int .i64 (y).f4, .bool (y).f5]) rfl rfl (by kernel_rfl) (by kernel_rfl) (Hp.cells mem0 (fun j v hj => by simpa [Value.cells] using hj))
  refine' TA.c (i := 5) #[true, true, true, true, true, true, false, false, false, false, false] rfl rfl rfl (by kernel_rfl) (by decide) rfl ?hy8 ?hz8 ?_
  case hy8 => exact Yc.call rfl Try.func50 (by kernel_rfl) rfl rfl (Hp.news (fun w h => k_radd w (Hp.rowGsl mem2 w h) (by omega) y))
  case hz8 => exact (fun _ _ h => by exact Hp.sub h (by repeat (first | exact sR _ | exact sN _ | apply sK | apply sC)))
  intro v13
  refine TA.fact (fun w h => Hp.rowGsh mem0 w h) ?_
  rintro ⟨A1, c1, rfl⟩
  refine' TA.y (i := 6) #[true, true, true, true, true, true, true, false, false, false, false] rfl rfl rfl (by kernel_rfl) (fun _ _ _ h => h) (fun _ h => by exact Hp.sub h (by repeat (first | exact sR _ | exact sN _ | apply sK | apply sC))) rfl ?hy9 ?_
  case hy9 => exact Yl.move rfl rfl
  refine' TA.y (i := 7) #[true, true, true, true, true, true, true, true, false, false, false] rfl rfl rfl (by kernel_rfl) (fun _ _ _ h => h) (fun _ h => by exact Hp.sub h (by repeat (first | exact sR _ | exact sN _ | apply sK | apply sC))) rfl ?hy10 ?_
  case hy10 => exact Yl.extract rfl rfl rfl
  refine' TA.y (i := 8) #[true, true, true, true, true, true, true, true, true, false, false] rfl rfl rfl (by kernel_rfl) (fun _ _ _ h => h) (fun _ h => by exact Hp.sub h (by repeat (first | exact sR _ | exact sN _ | apply sK | apply sC))) rfl ?hy11 ?_
  case hy11 => exact Yl.extract rfl rfl rfl
  refine' TA.y (i := 9) #[true, true, true, true, true, true, true, true, true, true, false] rfl rfl rfl (by kernel_rfl) (fun _ _ _ h => h) (fun _ h => by exact Hp.sub h (by repeat (first | exact sR _ | exact sN _ | apply sK | apply sC))) rfl ?hy12 ?_
  case hy12 => exact Yl.assign rfl rfl
  refine' TA.y (i := 10) #[true, true, true, true, true, true, true, true, true, true, true] rfl rfl rfl (by kernel_rfl) (fun _ _ _ h => h) (fun _ h => by exact Hp.sub h (by repeat (first | exact sR _ | exact sN _ | apply sK | apply sC))) rfl ?hy13 ?_
  case hy13 => exact Yl.assign rfl rfl
  refine TA.done (by kernel_rfl) ?_
  refine TE.next ?_
  refine TC.seq ?_
  refine TC.seq ?_
  refine TC.region ?_
  refine' TL.y rfl rfl rfl ?hy14 ?_
  case hy14 => exact Yl.move rfl rfl
  refine' TL.y rfl rfl rfl ?hy15 ?_
  case hy15 => exact Yl.bin rfl rfl rfl (Bin.eql _ _ _ _)
  refine TL.nil ?_
  refine TE.next ?_
  refine TC.cond rfl (fun hs17 => ?_) (fun hs17 => ?_)
  · skip
    (try simp only [nrm] at hs17)
    refine TC.region ?_
    refine' TL.y rfl rfl rfl ?hy16 ?_
    case hy16 => exact Yl.move rfl rfl
    refine' TL.y rfl rfl rfl ?hy17 ?_
    case hy17 => exact Yl.move rfl rfl
    refine' TL.y rfl rfl rfl ?hy18 ?_
    case hy18 => exact Yl.nilCheck rfl rfl
    refine' TL.y rfl rfl rfl ?hy19 ?_
    case hy19 => first | exact Yl.field0 (k := 0) 0 rfl rfl Try.underlying56 rfl (by kernel_rfl) rfl | exact Yl.field (k := 0) 0 rfl rfl Try.underlying56 rfl (by kernel_rfl) rfl
    refine' TL.s rfl rfl ?hy20 ?_
    case hy20 => exact Ys.store (seg := [.slice A1 (addL u.G y).1.length c1]) (c' := #[.slice A1 (addL u.G y).1.length c1, .pointer (some ⟨b, 0, none⟩)]) rfl rfl rfl (by simp [Value.cells]) (by kernel_rfl) (by simp [Value.oneCell']) foc2 (by simp [Value.cells]) (by kernel_rfl)
    refine TL.nil ?_
    refine TE.next ?_
    refine TC.seq ?_
    refine TC.region ?_
    refine' TL.y rfl rfl rfl ?hy21 ?_
    case hy21 => exact Yl.move rfl rfl
    refine' TL.y rfl rfl rfl ?hy22 ?_
    case hy22 => exact Yl.assign rfl rfl
    refine TL.nil ?_
    refine TE.next ?_
    refine TC.ret ?_
    refine TE.ret1 rfl rfl ?_
    have hz : (addL u.G y).2 = 0 := by simpa using hs17
    have hmu : mapS u y = ⟨(addL u.G y).1, u.E⟩ := if_pos hz
    have hok := mapS_ok hu y
    rw [hmu] at hok ⊢
    exact fun w h => ⟨⟨⟨s', .slice A1 (addL u.G y).1.length c1, b, wv⟩, ⟨rfl, hok⟩⟩, by first | rfl | rw [hz], ((Hp.sub h (H' := [rowG (.slice A1 (addL u.G y).1.length c1) (addL u.G y).1, blk s' (.cells #[.slice A1 (addL u.G y).1.length c1, .pointer (some ⟨b, 0, none⟩)] 56 (0, 0)), Rf b wv (encF u.E)]) (by repeat (first | exact sR _ | exact sN _ | apply sK | apply sC))).swap.tostar.tostar).leave⟩
  · skip
    (try simp only [nrm] at hs17)
    refine TC.skip ?_
    refine TE.next ?_
    refine TC.seq ?_
    refine TC.region ?_
    refine' TL.y rfl rfl rfl ?hy23 ?_
    case hy23 => exact Yl.move rfl rfl
    refine' TL.y rfl rfl rfl ?hy24 ?_
    case hy24 => exact Yl.assign rfl rfl
    refine TL.nil ?_
    refine TE.next ?_
    refine TC.ret ?_
    refine TE.ret1 rfl rfl ?_
    have hmu : mapS u y = u := if_neg (by simpa using hs17)
    rw [hmu]
    exact fun w h => ⟨⟨⟨s', .slice A u.G.length c, b, wv⟩, ⟨rfl, hu⟩⟩, rfl, ((Hp.sub h (H' := [blk s' (.cells #[.slice A u.G.length c, .pointer (some ⟨b, 0, none⟩)] 56 (0, 0)), rowG (.slice A u.G.length c) u.G, Rf b wv (encF u.E)]) (by repeat (first | exact sR _ | exact sN _ | apply sK | apply sC))).tostar.tostar).leave⟩
set_option maxRecDepth 100000 in
set_option maxHeartbeats 2000000 in
theorem k_dset {x : Dp} {u : SS} {s : Nat} (hx : x.Is u s) (n : Int) (en : En) (hwf : wfI (vsE en)) : Turns Try.prog 25 #[.pointer (some ⟨s, 0, none⟩), .int .i64 n, .agg #[.int .i64 (en).k, .int .i64 (en).pg, .bool (en).w, .bool (en).t]] (dpR x u) (σ := {z : Dp // z.Is ((sset u n en).1) s}) (fun p => .int .i64 (sset u n en).2) (fun p => dpR p.1 ((sset u n en).1)) := by
  intro W hR
  obtain ⟨hxs, hu⟩ := hx
  obtain ⟨s', v, b, wv⟩ := x
  obtain rfl : s' = s := hxs
  obtain ⟨A, c, hv, hcp, hS, hb, hRf⟩ := dpR_open hR
  obtain rfl : v = .slice A u.G.length c := hv
  dsimp only at hb hRf
  have hlen := hu.len
  have hM : Hp W (dpR ⟨s', .slice A u.G.length c, b, wv⟩ u).foot [blk s' (.cells #[.slice A u.G.length c, .pointer (some ⟨b, 0, none⟩)] 56 (0, 0)), rowG (.slice A u.G.length c) u.G, Rf b wv (encF u.E)] W := (Hp.enter hR).unstar.unstar
  refine TC.enter (n := 41) Try.func25 rfl rfl rfl hM ?_
  refine TC.seq ?_
  refine TC.region ?_
  refine' TL.mx rfl rfl rfl ?hy1 ?_
  case hy1 => exact Ym.box rfl rfl
  intro b5
  refine' TL.y rfl rfl rfl ?hy2 ?_
  case hy2 => exact Yl.assign rfl rfl
  refine TL.nil ?_
  refine TE.next ?_
  refine TC.seq ?_
  refine TC.region ?_
  refine' TL.y rfl rfl rfl ?hy3 ?_
  case hy3 => exact Yl.move rfl rfl
  refine' TL.y rfl rfl rfl ?hy4 ?_
  case hy4 => exact Yl.nilCheck rfl rfl
  refine' TL.y rfl rfl rfl ?hy5 ?_
  case hy5 => first | exact Yl.field0 (k := 0) 0 rfl rfl Try.underlying56 rfl (by kernel_rfl) rfl | exact Yl.field (k := 0) 0 rfl rfl Try.underlying56 rfl (by kernel_rfl) rfl
  refine' TL.y rfl rfl rfl ?hy6 ?_
  case hy6 => exact Yl.load rfl rfl (by kernel_rfl) (by first | exact Hp.cell mem0 rfl | exact Hp.cell mem1 rfl | exact Hp.cell mem2 rfl | exact Hp.cell mem3 rfl | exact Hp.cell mem4 rfl | exact Hp.rowAt mem0 (by omega) rfl | exact Hp.rowAt mem1 (by omega) rfl | exact Hp.rowAt mem2 (by omega) rfl | exact Hp.rowAt mem3 (by omega) rfl | exact Hp.rowAt mem4 (by omega) rfl)
  refine' TL.y rfl rfl rfl ?hy7 ?_
  case hy7 => exact Yl.move rfl rfl
  refine' TL.c rfl rfl rfl ?hy8 ?_
  case hy8 => exact Yc.call rfl Try.func30 (by kernel_rfl) rfl rfl (Hp.calls (fun w h => k_rfind w (Hp.rowGsl mem2 w h) (by omega) n))
  intro _
  refine' TL.y rfl rfl rfl ?hy9 ?_
  case hy9 => exact Yl.move rfl rfl
  refine' TL.y rfl rfl rfl ?hy10 ?_
  case hy10 => exact Yl.extract rfl rfl rfl
  refine' TL.y rfl rfl rfl ?hy11 ?_
  case hy11 => exact Yl.extract rfl rfl rfl
  refine' TL.mx rfl rfl rfl ?hy12 ?_
  case hy12 => exact Ym.alloc (z := .agg #[.int .i64 0, .int .i64 0, .int .i64 0, .int .i64 0, .int .i64 0, .bool false]) rfl (by kernel_rfl)
  intro b7
  refine' TL.s rfl rfl ?hy13 ?_
  case hy13 => exact Ys.store (seg := [.int .i64 (((fnd u.G n).getD z25)).f0, .int .i64 (((fnd u.G n).getD z25)).f1, .int .i64 (((fnd u.G n).getD z25)).f2, .int .i64 (((fnd u.G n).getD z25)).f3, .int .i64 (((fnd u.G n).getD z25)).f4, .bool (((fnd u.G n).getD z25)).f5]) (c' := #[.int .i64 (((fnd u.G n).getD z25)).f0, .int .i64 (((fnd u.G n).getD z25)).f1, .int .i64 (((fnd u.G n).getD z25)).f2, .int .i64 (((fnd u.G n).getD z25)).f3, .int .i64 (((fnd u.G n).getD z25)).f4, .bool (((fnd u.G n).getD z25)).f5]) rfl rfl rfl (by simp [Value.cells]) (by kernel_rfl) (by simp [Value.oneCell']) foc0 (by simp [Value.cells]) (by kernel_rfl)
  refine' TL.y rfl rfl rfl ?hy14 ?_
  case hy14 => exact Yl.assign rfl rfl
  refine TL.nil ?_
  refine TE.next ?_
  refine TC.seq ?_
  refine TC.seq ?_
  refine TC.region ?_
  refine' TL.y rfl rfl rfl ?hy15 ?_
  case hy15 => exact Yl.move rfl rfl
  refine' TL.y rfl rfl rfl ?hy16 ?_
  case hy16 => exact Yl.not rfl rfl
  refine TL.nil ?_
  refine TE.next ?_
  refine TC.cond rfl (fun hs21 => ?_) (fun hs21 => ?_)
  · skip
    (try simp only [nrm] at hs21)
    refine TC.seq ?_
    refine TC.region ?_
    refine' TL.y rfl rfl rfl ?hy17 ?_
    case hy17 => exact Yl.assign rfl rfl
    refine TL.nil ?_
    refine TE.next ?_
    refine TC.ret ?_
    refine TE.thenRet ?_
    refine TE.ret1 rfl rfl ?_
    have hw : sset u n en = (u, 14) := if_neg (by simpa using hs21)
    rw [hw]
    exact fun w h => ⟨⟨⟨s', .slice A u.G.length c, b, wv⟩, ⟨rfl, hu⟩⟩, rfl, ((Hp.sub h (H' := [blk s' (.cells #[.slice A u.G.length c, .pointer (some ⟨b, 0, none⟩)] 56 (0, 0)), rowG (.slice A u.G.length c) u.G, Rf b wv (encF u.E)]) (by repeat (first | exact sR _ | exact sN _ | apply sK | apply sC))).tostar.tostar).leave⟩
  · skip
    (try simp only [nrm] at hs21)
    refine TC.skip ?_
    refine TE.next ?_
    refine TC.seq ?_
    refine TC.region ?_
    refine' TL.y rfl rfl rfl ?hy18 ?_
    case hy18 => exact Yl.loads (cs := [.int .i64 (en).k, .int .i64 (en).pg, .bool (en).w, .bool (en).t]) rfl rfl (by kernel_rfl) (by kernel_rfl) (Hp.cells mem1 (fun j v hj => by simpa [Value.cells] using hj))
    refine' TL.c rfl rfl rfl ?hy19 ?_
    case hy19 => exact Yc.call rfl Try.func54 (by kernel_rfl) rfl rfl (Hp.calls (fun w h => k_rpk w en hwf))
    intro _
    refine' TL.y rfl rfl rfl ?hy20 ?_
    case hy20 => exact Yl.move rfl rfl
    refine' TL.y rfl rfl rfl ?hy21 ?_
    case hy21 => exact Yl.extract rfl rfl rfl
    refine' TL.y rfl rfl rfl ?hy22 ?_
    case hy22 => exact Yl.extract rfl rfl rfl
    refine' TL.y rfl rfl rfl ?hy23 ?_
    case hy23 => exact Yl.assign rfl rfl
    refine' TL.y rfl rfl rfl ?hy24 ?_
    case hy24 => exact Yl.assign rfl rfl
    refine TL.nil ?_
    refine TE.next ?_
    refine TC.seq ?_
    refine TC.seq ?_
    refine TC.region ?_
    refine' TL.y rfl rfl rfl ?hy25 ?_
    case hy25 => exact Yl.move rfl rfl
    refine' TL.y rfl rfl rfl ?hy26 ?_
    case hy26 => exact Yl.bin rfl rfl rfl (Bin.neq _ _ _ _)
    refine' TL.y rfl rfl rfl ?hy27 ?_
    case hy27 => exact Yl.move rfl rfl
    refine TL.split (i := 29) rfl (fun hs29 => ?_) (fun hs29 => ?_)
    · skip
      (try simp only [nrm] at hs29)
      refine TL.skip rfl rfl rfl ?_
      refine TL.skip rfl rfl rfl ?_
      refine TL.skip rfl rfl rfl ?_
      refine' TL.y rfl rfl rfl ?hy28 ?_
      case hy28 => exact Yl.pickT rfl rfl rfl
      refine TL.nil ?_
      refine TE.next ?_
      refine TC.yes rfl rfl ?_
      refine TC.seq ?_
      refine TC.region ?_
      refine' TL.y rfl rfl rfl ?hy29 ?_
      case hy29 => exact Yl.assign rfl rfl
      refine TL.nil ?_
      refine TE.next ?_
      refine TC.ret ?_
      refine TE.thenRet ?_
      refine TE.ret1 rfl rfl ?_
      have hw : sset u n en = (u, 1) := by
        unfold sset
        rw [if_pos (by simpa using hs21), if_neg]
        rintro ⟨h1, h2, h3⟩
        rw [pkE_is, if_pos ⟨h1, h2, h3⟩] at hs29; simp at hs29
      rw [hw]
      exact fun w h => ⟨⟨⟨s', .slice A u.G.length c, b, wv⟩, ⟨rfl, hu⟩⟩, rfl, ((Hp.sub h (H' := [blk s' (.cells #[.slice A u.G.length c, .pointer (some ⟨b, 0, none⟩)] 56 (0, 0)), rowG (.slice A u.G.length c) u.G, Rf b wv (encF u.E)]) (by repeat (first | exact sR _ | exact sN _ | apply sK | apply sC))).tostar.tostar).leave⟩
    · skip
      (try simp only [nrm] at hs29)
      refine' TL.y rfl rfl rfl ?hy30 ?_
      case hy30 => first | exact Yl.field0 (k := 0) 0 rfl rfl Try.underlying30 rfl (by kernel_rfl) rfl | exact Yl.field (k := 0) 0 rfl rfl Try.underlying30 rfl (by kernel_rfl) rfl
      refine' TL.y rfl rfl rfl ?hy31 ?_
      case hy31 => exact Yl.load rfl rfl (by kernel_rfl) (by first | exact Hp.cell mem0 rfl | exact Hp.cell mem1 rfl | exact Hp.cell mem2 rfl | exact Hp.cell mem3 rfl | exact Hp.cell mem4 rfl | exact Hp.rowAt mem0 (by omega) rfl | exact Hp.rowAt mem1 (by omega) rfl | exact Hp.rowAt mem2 (by omega) rfl | exact Hp.rowAt mem3 (by omega) rfl | exact Hp.rowAt mem4 (by omega) rfl)
      refine' TL.y rfl rfl rfl ?hy32 ?_
      case hy32 => exact Yl.bin rfl rfl rfl (Bin.eql _ _ _ _)
      refine' TL.y rfl rfl rfl ?hy33 ?_
      case hy33 => exact Yl.pickF rfl rfl rfl
      refine TL.nil ?_
      refine TE.next ?_
      refine TC.cond rfl (fun hs33 => ?_) (fun hs33 => ?_)
      · skip
        (try simp only [nrm] at hs33)
        refine TC.seq ?_
        refine TC.region ?_
        refine' TL.y rfl rfl rfl ?hy34 ?_
        case hy34 => exact Yl.assign rfl rfl
        refine TL.nil ?_
        refine TE.next ?_
        refine TC.ret ?_
        refine TE.thenRet ?_
        refine TE.ret1 rfl rfl ?_
        have hw : sset u n en = (u, 1) := by
          unfold sset
          rw [if_pos (by simpa using hs21), if_neg]
          rintro ⟨h1, h2, h3⟩
          omega
        rw [hw]
        exact fun w h => ⟨⟨⟨s', .slice A u.G.length c, b, wv⟩, ⟨rfl, hu⟩⟩, rfl, ((Hp.sub h (H' := [blk s' (.cells #[.slice A u.G.length c, .pointer (some ⟨b, 0, none⟩)] 56 (0, 0)), rowG (.slice A u.G.length c) u.G, Rf b wv (encF u.E)]) (by repeat (first | exact sR _ | exact sN _ | apply sK | apply sC))).tostar.tostar).leave⟩
      · skip
        (try simp only [nrm] at hs33)
        have hn := fnd_in hu (show (fnd u.G n).isSome = true by simpa using hs21)
        have hE : okE en := by
          have hp := pkE_is en
          split at hp
          · assumption
          · split at hp
            · omega
            · rw [hp] at hs29; simp at hs29
        have hpk : pkE en = (encE en, 0) := by rw [pkE_is]; exact if_pos hE
        rw [hpk]
        dsimp only
        refine TC.skip ?_
        refine TE.next ?_
        refine TC.seq ?_
        refine TC.region ?_
        refine' TL.y rfl rfl rfl ?hy35 ?_
        case hy35 => exact Yl.move rfl rfl
        refine' TL.y rfl rfl rfl ?hy36 ?_
        case hy36 => exact Yl.nilCheck rfl rfl
        refine' TL.y rfl rfl rfl ?hy37 ?_
        case hy37 => first | exact Yl.field0 (k := 0) 1 rfl rfl Try.underlying56 rfl (by kernel_rfl) rfl | exact Yl.field (k := 0) 1 rfl rfl Try.underlying56 rfl (by kernel_rfl) rfl
        refine' TL.y rfl rfl rfl ?hy38 ?_
        case hy38 => exact Yl.load rfl rfl (by kernel_rfl) (by first | exact Hp.cell mem0 rfl | exact Hp.cell mem1 rfl | exact Hp.cell mem2 rfl | exact Hp.cell mem3 rfl | exact Hp.cell mem4 rfl | exact Hp.rowAt mem0 (by omega) rfl | exact Hp.rowAt mem1 (by omega) rfl | exact Hp.rowAt mem2 (by omega) rfl | exact Hp.rowAt mem3 (by omega) rfl | exact Hp.rowAt mem4 (by omega) rfl)
        refine' TL.y rfl rfl rfl ?hy39 ?_
        case hy39 => exact Yl.move rfl rfl
        refine' TL.y rfl rfl rfl ?hy40 ?_
        case hy40 => exact Yl.move rfl rfl
        refine' TL.c rfl rfl rfl ?hy41 ?_
        case hy41 => exact Yc.call rfl Try.func55 (by kernel_rfl) rfl rfl (Hp.turnx mem4 (fun s => foc4) (k_rset n _))
        intro w2
        refine' TL.y rfl rfl rfl ?hy42 ?_
        case hy42 => exact Yl.assign rfl rfl
        refine TL.nil ?_
        refine TE.next ?_
        refine TC.ret ?_
        refine TE.ret1 rfl rfl ?_
        have hw : sset u n en = (⟨u.G, updE u.E n.toNat (some en)⟩, 0) := by
          unfold sset
          rw [if_pos (by simpa using hs21), if_pos hE]
        have hok := sset_ok hu n en
        rw [hw] at hok ⊢
        exact fun w h => ⟨⟨⟨s', .slice A u.G.length c, b, w2⟩, ⟨rfl, hok⟩⟩, by rw [if_pos hn], by rw [enc_set hn] at h; exact ((Hp.sub h (H' := [blk s' (.cells #[.slice A u.G.length c, .pointer (some ⟨b, 0, none⟩)] 56 (0, 0)), rowG (.slice A u.G.length c) u.G, Rf b w2 (encF (updE u.E n.toNat (some en)))]) (by repeat (first | exact sR _ | exact sN _ | apply sK | apply sC))).tostar.tostar).leave⟩
set_option maxRecDepth 100000 in
set_option maxHeartbeats 2000000 in
theorem k_dtouch {x : Dp} {u : SS} {s : Nat} (hx : x.Is u s) (n : Int) : Turns Try.prog 26 #[.pointer (some ⟨s, 0, none⟩), .int .i64 n] (dpR x u) (σ := {z : Dp // z.Is (stouch u n) s}) (fun p => .bool (gE u n).isSome) (fun p => dpR p.1 (stouch u n)) := by
  intro W hR
  obtain ⟨hxs, hu⟩ := hx
  obtain ⟨s', v, b, wv⟩ := x
  obtain rfl : s' = s := hxs
  obtain ⟨A, c, hv, hcp, hS, hb, hRf⟩ := dpR_open hR
  obtain rfl : v = .slice A u.G.length c := hv
  dsimp only at hb hRf
  have hlen := hu.len
  have hM : Hp W (dpR ⟨s', .slice A u.G.length c, b, wv⟩ u).foot [blk s' (.cells #[.slice A u.G.length c, .pointer (some ⟨b, 0, none⟩)] 56 (0, 0)), rowG (.slice A u.G.length c) u.G, Rf b wv (encF u.E)] W := (Hp.enter hR).unstar.unstar
  refine TC.enter (n := 26) Try.func26 rfl rfl rfl hM ?_
  refine TC.seq ?_
  refine TC.region ?_
  refine' TL.y rfl rfl rfl ?hy1 ?_
  case hy1 => exact Yl.assign rfl rfl
  refine TL.nil ?_
  refine TE.next ?_
  refine TC.seq ?_
  refine TC.region ?_
  refine' TL.y rfl rfl rfl ?hy2 ?_
  case hy2 => exact Yl.move rfl rfl
  refine' TL.y rfl rfl rfl ?hy3 ?_
  case hy3 => exact Yl.nilCheck rfl rfl
  refine' TL.y rfl rfl rfl ?hy4 ?_
  case hy4 => first | exact Yl.field0 (k := 0) 1 rfl rfl Try.underlying56 rfl (by kernel_rfl) rfl | exact Yl.field (k := 0) 1 rfl rfl Try.underlying56 rfl (by kernel_rfl) rfl
  refine' TL.y rfl rfl rfl ?hy5 ?_
  case hy5 => exact Yl.load rfl rfl (by kernel_rfl) (by first | exact Hp.cell mem0 rfl | exact Hp.cell mem1 rfl | exact Hp.cell mem2 rfl | exact Hp.cell mem3 rfl | exact Hp.cell mem4 rfl | exact Hp.rowAt mem0 (by omega) rfl | exact Hp.rowAt mem1 (by omega) rfl | exact Hp.rowAt mem2 (by omega) rfl | exact Hp.rowAt mem3 (by omega) rfl | exact Hp.rowAt mem4 (by omega) rfl)
  refine' TL.y rfl rfl rfl ?hy6 ?_
  case hy6 => exact Yl.move rfl rfl
  refine' TL.c rfl rfl rfl ?hy7 ?_
  case hy7 => exact Yc.call rfl Try.func56 (by kernel_rfl) rfl rfl (Hp.calls (fun w h => k_dget w (h.all _ mem2) n))
  intro _
  rw [gt_enc]
  rw [Option.isSome_map]
  refine' TL.y rfl rfl rfl ?hy8 ?_
  case hy8 => exact Yl.move rfl rfl
  refine' TL.y rfl rfl rfl ?hy9 ?_
  case hy9 => exact Yl.extract rfl rfl rfl
  refine' TL.y rfl rfl rfl ?hy10 ?_
  case hy10 => exact Yl.extract rfl rfl rfl
  refine' TL.y rfl rfl rfl ?hy11 ?_
  case hy11 => exact Yl.assign rfl rfl
  refine' TL.y rfl rfl rfl ?hy12 ?_
  case hy12 => exact Yl.assign rfl rfl
  refine TL.nil ?_
  refine TE.next ?_
  refine TC.seq ?_
  refine TC.seq ?_
  refine TC.region ?_
  refine' TL.y rfl rfl rfl ?hy13 ?_
  case hy13 => exact Yl.move rfl rfl
  refine TL.nil ?_
  refine TE.next ?_
  refine TC.cond rfl (fun hs16 => ?_) (fun hs16 => ?_)
  · skip
    (try simp only [nrm] at hs16)
    obtain ⟨en, he⟩ : ∃ en, gE u n = some en := Option.isSome_iff_exists.1 (by simpa using hs16)
    rw [he]
    dsimp only [Option.map_some, Option.getD_some, Option.isSome_some]
    refine TC.draw (k := 8) (Hp W (dpR ⟨s', .slice A u.G.length c, b, wv⟩ u).foot [blk s' (.cells #[.slice A u.G.length c, .pointer (some ⟨b, 0, none⟩)] 56 (0, 0))]) [] #[false, false, false, false, false, false, false, false] (by kernel_rfl) rfl rfl (fun _ h => h.drew) (fun _ h => by exact Hp.sub h (by repeat (first | exact sR _ | exact sN _ | apply sK | apply sC))) ?_
    refine' TA.y (i := 0) #[true, false, false, false, false, false, false, false] rfl rfl rfl (by kernel_rfl) (fun _ _ _ h => h) (fun _ h => by exact Hp.sub h (by repeat (first | exact sR _ | exact sN _ | apply sK | apply sC))) rfl ?hy14 ?_
    case hy14 => exact Yl.move rfl rfl
    refine' TA.y (i := 1) #[true, true, false, false, false, false, false, false] rfl rfl rfl (by kernel_rfl) (fun _ _ _ h => h) (fun _ h => by exact Hp.sub h (by repeat (first | exact sR _ | exact sN _ | apply sK | apply sC))) rfl ?hy15 ?_
    case hy15 => exact Yl.nilCheck rfl rfl
    refine' TA.y (i := 2) #[true, true, true, false, false, false, false, false] rfl rfl rfl (by kernel_rfl) (fun _ _ _ h => h) (fun _ h => by exact Hp.sub h (by repeat (first | exact sR _ | exact sN _ | apply sK | apply sC))) rfl ?hy16 ?_
    case hy16 => first | exact Yl.field0 (k := 0) 1 rfl rfl Try.underlying56 rfl (by kernel_rfl) rfl | exact Yl.field (k := 0) 1 rfl rfl Try.underlying56 rfl (by kernel_rfl) rfl
    refine' TA.y (i := 3) #[true, true, true, true, false, false, false, false] rfl rfl rfl (by kernel_rfl) (fun _ _ _ h => h) (fun _ h => by exact Hp.sub h (by repeat (first | exact sR _ | exact sN _ | apply sK | apply sC))) rfl ?hy17 ?_
    case hy17 => exact Yl.load rfl rfl (by kernel_rfl) (by first | exact Hp.cell mem0 rfl | exact Hp.cell mem1 rfl | exact Hp.cell mem2 rfl | exact Hp.cell mem3 rfl | exact Hp.cell mem4 rfl | exact Hp.rowAt mem0 (by omega) rfl | exact Hp.rowAt mem1 (by omega) rfl | exact Hp.rowAt mem2 (by omega) rfl | exact Hp.rowAt mem3 (by omega) rfl | exact Hp.rowAt mem4 (by omega) rfl)
    refine' TA.y (i := 4) #[true, true, true, true, true, false, false, false] rfl rfl rfl (by kernel_rfl) (fun _ _ _ h => h) (fun _ h => by exact Hp.sub h (by repeat (first | exact sR _ | exact sN _ | apply sK | apply sC))) rfl ?hy18 ?_
    case hy18 => exact Yl.move rfl rfl
    refine' TA.y (i := 5) #[true, true, true, true, true, true, false, false] rfl rfl rfl (by kernel_rfl) (fun _ _ _ h => h) (fun _ h => by exact Hp.sub h (by repeat (first | exact sR _ | exact sN _ | apply sK | apply sC))) rfl ?hy19 ?_
    case hy19 => exact Yl.move rfl rfl
    refine' TA.c (i := 6) #[true, true, true, true, true, true, true, false] rfl rfl rfl (by kernel_rfl) (by decide) rfl ?hy20 ?hz20 ?_
    case hy20 => exact Yc.call rfl Try.func57 (by kernel_rfl) rfl rfl (Hp.calls (fun w h => k_rtouch w (gE_ok hu he)))
    case hz20 => exact (fun _ _ h => by exact Hp.sub h (by repeat (first | exact sR _ | exact sN _ | apply sK | apply sC)))
    intro _
    refine' TA.c (i := 7) #[true, true, true, true, true, true, true, true] rfl rfl rfl (by kernel_rfl) (by decide) rfl ?hy21 ?hz21 ?_
    case hy21 => exact Yc.call rfl Try.func55 (by kernel_rfl) rfl rfl (Hp.turnx mem2 (fun s => foc2) (k_rset n _))
    case hz21 => exact (fun _ _ h => by exact Hp.sub h (by repeat (first | exact sR _ | exact sN _ | apply sK | apply sC)))
    intro w2
    refine TA.done (by kernel_rfl) ?_
    refine TE.next ?_
    refine TC.seq ?_
    refine TC.region ?_
    refine' TL.y rfl rfl rfl ?hy22 ?_
    case hy22 => exact Yl.move rfl rfl
    refine' TL.y rfl rfl rfl ?hy23 ?_
    case hy23 => exact Yl.assign rfl rfl
    refine TL.nil ?_
    refine TE.next ?_
    refine TC.ret ?_
    refine TE.ret1 rfl rfl ?_
    exact fun w h => ⟨⟨⟨s', .slice A u.G.length c, b, w2⟩, ⟨rfl, stouch_ok hu n⟩⟩, rfl, by rw [enc_touch he] at h; exact (h.tostar.tostar).leave⟩
  · skip
    (try simp only [nrm] at hs16)
    refine TC.skip ?_
    refine TE.next ?_
    refine TC.seq ?_
    refine TC.region ?_
    refine' TL.y rfl rfl rfl ?hy24 ?_
    case hy24 => exact Yl.move rfl rfl
    refine' TL.y rfl rfl rfl ?hy25 ?_
    case hy25 => exact Yl.assign rfl rfl
    refine TL.nil ?_
    refine TE.next ?_
    refine TC.ret ?_
    refine TE.ret1 rfl rfl ?_
    have he : gE u n = none := by simpa using hs16
    have hst := stouch_no hu he
    rw [hst]
    exact fun w h => ⟨⟨⟨s', .slice A u.G.length c, b, wv⟩, ⟨rfl, hu⟩⟩, by rw [he]; rfl, (h.tostar.tostar).leave⟩
set_option maxRecDepth 100000 in
set_option maxHeartbeats 2000000 in
theorem k_dspclone (W : World) {x : Dp} {u : SS} {s : Nat} (hR : (dpR x u).holds W) (hx : x.Is u s) : Calls Try.prog 28 #[.pointer (some ⟨s, 0, none⟩)] W fun e w' => ∃ x : {x : Dp // x.Is u x.s}, e = .returned (.pointer (some ⟨x.1.s, 0, none⟩)) ∧ (dpR x.1 u).holds w' ∧ Below W.heap.size W w' ∧ ∀ k, (dpR x.1 u).foot k → W.heap.size ≤ k := by
  obtain ⟨hxs, hu⟩ := hx
  obtain ⟨s', v, b, wv⟩ := x
  obtain rfl : s' = s := hxs
  obtain ⟨A, c, hv, hcp, hS, hb, hRf⟩ := dpR_open hR
  obtain rfl : v = .slice A u.G.length c := hv
  dsimp only at hb hRf
  have hlen := hu.len
  have hM : Hp W (fun _ => False) [] W := Hp.start
  refine TC.enter (n := 24) Try.func28 rfl rfl rfl hM ?_
  refine TC.seq ?_
  refine TC.region ?_
  refine' TL.y rfl rfl rfl ?hy1 ?_
  case hy1 => exact Yl.assign rfl rfl
  refine TL.nil ?_
  refine TE.next ?_
  refine TC.seq ?_
  refine TC.region ?_
  refine' TL.y rfl rfl rfl ?hy2 ?_
  case hy2 => exact Yl.move rfl rfl
  refine' TL.y rfl rfl rfl ?hy3 ?_
  case hy3 => exact Yl.nilCheck rfl rfl
  refine' TL.y rfl rfl rfl ?hy4 ?_
  case hy4 => first | exact Yl.field0 (k := 0) 1 rfl rfl Try.underlying56 rfl (by kernel_rfl) rfl | exact Yl.field (k := 0) 1 rfl rfl Try.underlying56 rfl (by kernel_rfl) rfl
  refine' TL.y rfl rfl rfl ?hy5 ?_
  case hy5 => exact Yl.load rfl rfl (by kernel_rfl) (by first | exact Hp.oldB hb rfl (fun h => h) | exact Hp.cell mem0 rfl | exact Hp.cell mem1 rfl | exact Hp.cell mem2 rfl | exact Hp.cell mem3 rfl | exact Hp.cell mem4 rfl | exact Hp.rowAt mem0 (by omega) rfl | exact Hp.rowAt mem1 (by omega) rfl | exact Hp.rowAt mem2 (by omega) rfl | exact Hp.rowAt mem3 (by omega) rfl | exact Hp.rowAt mem4 (by omega) rfl)
  refine' TL.c rfl rfl rfl ?hy6 ?_
  case hy6 => exact Yc.call rfl Try.func59 (by kernel_rfl) rfl rfl (Hp.news (fun w h => k_dclone w (Res.below hRf h.below)))
  intro x8
  refine' TL.y rfl rfl rfl ?hy7 ?_
  case hy7 => exact Yl.build (z := .agg #[.slice none 0 0, .pointer none]) [(0, 1), (1, 1)] rfl (by kernel_rfl) Try.underlying56 (by kernel_rfl) rfl rfl
  refine' TL.mx rfl rfl rfl ?hy8 ?_
  case hy8 => exact Ym.box rfl rfl
  intro b10
  refine' TL.y rfl rfl rfl ?hy9 ?_
  case hy9 => exact Yl.assign rfl rfl
  refine TL.nil ?_
  refine TE.next ?_
  refine TC.seq ?_
  refine TC.wk (M' := Hp W (fun _ => False) [ownR 28 6 (.slice none 0 0) 0 [], blk b10 (.cells #[.slice none 0 0, .pointer (some ⟨x8.1, 0, none⟩)] 56 (0, 0)), Rf x8.1 x8.2 (encF u.E)]) (fun w h => h.nil) ?_
  refine TC.draw (k := 13) (Hp W (fun _ => False) [blk b10 (.cells #[.slice none 0 0, .pointer (some ⟨x8.1, 0, none⟩)] 56 (0, 0))]) [12] #[false, false, false, false, false, false, false, false, false, false, false, false, false] (by kernel_rfl) rfl rfl (fun _ h => h.drew) (fun _ h => by exact Hp.sub h (by repeat (first | exact sR _ | exact sN _ | apply sK | apply sC))) ?_
  refine' TA.p (i := 0) #[true, false, false, false, false, false, false, false, false, false, false, false, false] rfl rfl rfl (by kernel_rfl) (fun _ _ _ h => h) rfl ?hy10 ?_
  case hy10 => exact Yl.move rfl rfl
  refine' TA.p (i := 1) #[true, true, false, false, false, false, false, false, false, false, false, false, false] rfl rfl rfl (by kernel_rfl) (fun _ _ _ h => h) rfl ?hy11 ?_
  case hy11 => exact Yl.move rfl rfl
  refine' TA.p (i := 2) #[true, true, true, false, false, false, false, false, false, false, false, false, false] rfl rfl rfl (by kernel_rfl) (fun _ _ _ h => h) rfl ?hy12 ?_
  case hy12 => exact Yl.nilCheck rfl rfl
  refine' TA.p (i := 3) #[true, true, true, true, false, false, false, false, false, false, false, false, false] rfl rfl rfl (by kernel_rfl) (fun _ _ _ h => h) rfl ?hy13 ?_
  case hy13 => first | exact Yl.field0 (k := 0) 0 rfl rfl Try.underlying56 rfl (by kernel_rfl) rfl | exact Yl.field (k := 0) 0 rfl rfl Try.underlying56 rfl (by kernel_rfl) rfl
  refine' TA.y (i := 4) #[true, true, true, true, true, false, false, false, false, false, false, false, false] rfl rfl rfl (by kernel_rfl) (fun _ _ _ h => h) (fun _ h => by exact Hp.sub h (by repeat (first | exact sR _ | exact sN _ | apply sK | apply sC))) rfl ?hy14 ?_
  case hy14 => exact Yl.load rfl rfl (by kernel_rfl) (by first | exact Hp.oldB hb rfl (fun h => h) | exact Hp.cell mem0 rfl | exact Hp.cell mem1 rfl | exact Hp.cell mem2 rfl | exact Hp.cell mem3 rfl | exact Hp.cell mem4 rfl | exact Hp.rowAt mem0 (by omega) rfl | exact Hp.rowAt mem1 (by omega) rfl | exact Hp.rowAt mem2 (by omega) rfl | exact Hp.rowAt mem3 (by omega) rfl | exact Hp.rowAt mem4 (by omega) rfl)
  refine' TA.p (i := 5) #[true, true, true, true, true, true, false, false, false, false, false, false, false] rfl rfl rfl (by kernel_rfl) (fun _ _ _ h => h) rfl ?hy15 ?_
  case hy15 => exact Yl.move rfl rfl
  refine' TA.p (i := 6) #[true, true, true, true, true, true, true, false, false, false, false, false, false] rfl rfl rfl (by kernel_rfl) (fun _ _ _ h => h) rfl ?hy16 ?_
  case hy16 => exact Yl.nilCheck rfl rfl
  refine' TA.p (i := 7) #[true, true, true, true, true, true, true, true, false, false, false, false, false] rfl rfl rfl (by kernel_rfl) (fun _ _ _ h => h) rfl ?hy17 ?_
  case hy17 => first | exact Yl.field0 (k := 0) 0 rfl rfl Try.underlying56 rfl (by kernel_rfl) rfl | exact Yl.field (k := 0) 0 rfl rfl Try.underlying56 rfl (by kernel_rfl) rfl
  refine' TA.y (i := 8) #[true, true, true, true, true, true, true, true, true, false, false, false, false] rfl rfl rfl (by kernel_rfl) (fun _ _ _ h => h) (fun _ h => by exact Hp.sub h (by repeat (first | exact sR _ | exact sN _ | apply sK | apply sC))) rfl ?hy18 ?_
  case hy18 => exact Yl.load rfl rfl (by kernel_rfl) (by first | exact Hp.oldB hb rfl (fun h => h) | exact Hp.cell mem0 rfl | exact Hp.cell mem1 rfl | exact Hp.cell mem2 rfl | exact Hp.cell mem3 rfl | exact Hp.cell mem4 rfl | exact Hp.rowAt mem0 (by omega) rfl | exact Hp.rowAt mem1 (by omega) rfl | exact Hp.rowAt mem2 (by omega) rfl | exact Hp.rowAt mem3 (by omega) rfl | exact Hp.rowAt mem4 (by omega) rfl)
  refine' TA.mx (i := 9) #[true, true, true, true, true, true, true, true, true, true, false, false, false] rfl rfl rfl (by kernel_rfl) (by decide) rfl ?hy19 ?hz19 ?_
  case hy19 => exact Ym.appendSl (e := 28) (m := 0) (xs := []) (news := Rw u.G) rfl Try.underlying44 (by kernel_rfl) (z := .agg #[.int .i64 0, .int .i64 0, .int .i64 0, .int .i64 0, .int .i64 0, .bool false]) (size := 6) (bytes := 48) rfl (by decide) (by decide) rfl rfl (by rw [Rw_length]) (fun w h => hS.below h.below) Rw_cell1 (by omega) (fun v' => foc0)
  case hz19 => exact (fun _ _ h => by exact Hp.sub h (by repeat (first | exact sR _ | exact sN _ | apply sK | apply sC)))
  intro v20
  refine TA.wk (M' := Hp W (fun _ => False) [rowG v20 u.G, blk b10 (.cells #[.slice none 0 0, .pointer (some ⟨x8.1, 0, none⟩)] 56 (0, 0)), Rf x8.1 x8.2 (encF u.E)]) (fun w h => by rw [Nat.zero_add, List.nil_append] at h; exact h) ?_
  refine TA.fact (fun w h => Hp.rowGsh mem0 w h) ?_
  rintro ⟨A20, c20, rfl⟩
  refine' TA.p (i := 10) #[true, true, true, true, true, true, true, true, true, true, true, false, false] rfl rfl rfl (by kernel_rfl) (fun _ _ _ h => h) rfl ?hy20 ?_
  case hy20 => exact Yl.nilCheck rfl rfl
  refine' TA.p (i := 11) #[true, true, true, true, true, true, true, true, true, true, true, true, false] rfl rfl rfl (by kernel_rfl) (fun _ _ _ h => h) rfl ?hy21 ?_
  case hy21 => first | exact Yl.field0 (k := 0) 0 rfl rfl Try.underlying56 rfl (by kernel_rfl) rfl | exact Yl.field (k := 0) 0 rfl rfl Try.underlying56 rfl (by kernel_rfl) rfl
  refine' TA.sl (i := 12) #[true, true, true, true, true, true, true, true, true, true, true, true, true] rfl rfl (by kernel_rfl) (by decide) rfl ?hy22 ?_
  case hy22 => exact Ys.store (seg := [.slice A20 u.G.length c20]) (c' := #[.slice A20 u.G.length c20, .pointer (some ⟨x8.1, 0, none⟩)]) rfl rfl rfl (by simp [Value.cells]) (by kernel_rfl) (by simp [Value.oneCell']) foc1 (by simp [Value.cells]) (by kernel_rfl)
  refine TA.done (by kernel_rfl) ?_
  refine TE.next ?_
  refine TC.seq ?_
  refine TC.region ?_
  refine' TL.y rfl rfl rfl ?hy23 ?_
  case hy23 => exact Yl.move rfl rfl
  refine' TL.y rfl rfl rfl ?hy24 ?_
  case hy24 => exact Yl.assign rfl rfl
  refine TL.nil ?_
  refine TE.next ?_
  refine TC.ret ?_
  refine TE.ret1 rfl rfl ?_
  exact fun w h => ⟨⟨⟨b10, .slice A20 u.G.length c20, x8.1, x8.2⟩, ⟨rfl, hu⟩⟩, rfl, (h.swap.tostar.tostar).leaveNew⟩
end Go.Proofs.Ytabjdjkkpbkpfaa.Pk
