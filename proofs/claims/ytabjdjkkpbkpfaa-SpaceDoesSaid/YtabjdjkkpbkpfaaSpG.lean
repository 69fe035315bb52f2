/- Spaces: what changes them. -/
import Derived.Test.YtabjdjkkpbkpfaaSpF
import Derived.Test.YtabjdjkkpbkpfaaProg
import Derived.RowKit3
namespace Go.Proofs.Ytabjdjkkpbkpfaa.Pk
open Go Go.RowKit Go.Proofs.Ytabjdjkkpbkpfaa.HL Go.Proofs.Ytabjdjkkpbkpfaa.Ev Go.Proofs.YtabjdjkkpbkpfaaW.PrintWords Go.Proofs.RgP Go.Proofs.RxP Go.Proofs.Ytabjdjkkpbkpfaa.BM
set_option linter.unusedVariables false
set_option linter.unusedSimpArgs false
attribute [local irreducible] Rw atG ents Iw
set_option maxRecDepth 100000 in
set_option maxHeartbeats 2000000 in
theorem k_smap {x : Sp} {u : SS} {s : Nat} (hx : x.Is u s) (y : S25) : Turns Try.prog 11 #[.pointer (some ⟨s, 0, none⟩), .agg #[.int .i64 (y).f0, .int .i64 (y).f1, .int .i64 (y).f2, .int .i64 (y).f3, .int .i64 (y).f4, .bool (y).f5]] (spR x u) (σ := {z : Sp // z.Is (mapS u y) s}) (fun p => .int .i64 (addL u.G y).2) (fun p => spR p.1 (mapS u y)) := by
  intro W hR
  obtain ⟨hxs, hT, hu⟩ := hx
  obtain ⟨s', v, b, st⟩ := x
  obtain rfl : s' = s := hxs
  obtain ⟨A, c, hv, hcp, hS, hb, hRep⟩ := spR_open hR
  obtain rfl : v = .slice A u.G.length c := hv
  dsimp only at hT hb hRep
  have hlen := hu.len
  have hM : Hp W (spR ⟨s', .slice A u.G.length c, b, st⟩ u).foot [blk s' (.cells #[.slice A u.G.length c, .pointer (some ⟨b, 0, none⟩)] 67 (0, 0)), rowG (.slice A u.G.length c) u.G, tabR st] W := (Hp.enter hR).unstar.unstar
  refine TC.enter (n := 23) Try.func11 rfl rfl rfl hM ?_
  refine TC.seq ?_
  refine TC.region ?_
  refine' TL.mx rfl rfl rfl ?hy1 ?_
  case hy1 => exact Ym.box rfl rfl
  intro b3
  refine' TL.y rfl rfl rfl ?hy2 ?_
  case hy2 => exact Yl.assign rfl rfl
  refine TL.nil ?_
  refine TE.next ?_
  refine TC.seq ?_
  refine TC.draw (k := 11) (Hp W (spR ⟨s', .slice A u.G.length c, b, st⟩ u).foot [blk b3 (.cells #[.int .i64 (y).f0, .int .i64 (y).f1, .int .i64 (y).f2, .int .i64 (y).f3, .int .i64 (y).f4, .bool (y).f5] 28 (0, 0)), blk s' (.cells #[.slice A u.G.length c, .pointer (some ⟨b, 0, none⟩)] 67 (0, 0))]) [] #[false, false, false, false, false, false, false, false, false, false, false] (by kernel_rfl) rfl rfl (fun _ h => h.drew) (fun _ h => by exact Hp.sub h (by repeat (first | exact sR _ | exact sN _ | apply sK | apply sC))) ?_
  refine' TA.y (i := 0) #[true, false, false, false, false, false, false, false, false, false, false] rfl rfl rfl (by kernel_rfl) (fun _ _ _ h => h) (fun _ h => by exact Hp.sub h (by repeat (first | exact sR _ | exact sN _ | apply sK | apply sC))) rfl ?hy3 ?_
  case hy3 => exact Yl.move rfl rfl
  refine' TA.y (i := 1) #[true, true, false, false, false, false, false, false, false, false, false] rfl rfl rfl (by kernel_rfl) (fun _ _ _ h => h) (fun _ h => by exact Hp.sub h (by repeat (first | exact sR _ | exact sN _ | apply sK | apply sC))) rfl ?hy4 ?_
  case hy4 => exact Yl.nilCheck rfl rfl
  refine' TA.y (i := 2) #[true, true, true, false, false, false, false, false, false, false, false] rfl rfl rfl (by kernel_rfl) (fun _ _ _ h => h) (fun _ h => by exact Hp.sub h (by repeat (first | exact sR _ | exact sN _ | apply sK | apply sC))) rfl ?hy5 ?_
  case hy5 => first | exact Yl.field0 (k := 0) 0 rfl rfl Try.underlying67 rfl (by kernel_rfl) rfl | exact Yl.field (k := 0) 0 rfl rfl Try.underlying67 rfl (by kernel_rfl) rfl
  refine' TA.y (i := 3) #[true, true, true, true, false, false, false, false, false, false, false] rfl rfl rfl (by kernel_rfl) (fun _ _ _ h => h) (fun _ h => by exact Hp.sub h (by repeat (first | exact sR _ | exact sN _ | apply sK | apply sC))) rfl ?hy6 ?_
  case hy6 => exact Yl.load rfl rfl (by kernel_rfl) (by first | exact Hp.cell mem0 rfl | exact Hp.cell mem1 rfl | exact Hp.cell mem2 rfl | exact Hp.cell mem3 rfl | exact Hp.cell mem4 rfl | exact Hp.rowAt mem0 (by omega) rfl | exact Hp.rowAt mem1 (by omega) rfl | exact Hp.rowAt mem2 (by omega) rfl | exact Hp.rowAt mem3 (by omega) rfl | exact Hp.rowAt mem4 (by omega) rfl)
  refine' TA.y (i := 4) #[true, true, true, true, true, false, false, false, false, false, false] rfl rfl rfl (by kernel_rfl) (fun _ _ _ h => h) (fun _ h => by exact Hp.sub h (by repeat (first | exact sR _ | exact sN _ | apply sK | apply sC))) rfl ?hy7 ?_
  case hy7 => exact Yl.loads (cs := [.int .i64 (y).f0, .int .i64 (y).f1, .int .i64 (y).f2, .int .i64 (y).f3, .int .i64 (y).f4, .bool (y).f5]) rfl rfl (by kernel_rfl) (by kernel_rfl) (Hp.cells mem0 (fun j v hj => by simpa [Value.cells] using hj))
  refine' TA.c (i := 5) #[true, true, true, true, true, true, false, false, false, false, false] rfl rfl rfl (by kernel_rfl) (by decide) rfl ?hy8 ?hz8 ?_
  case hy8 => exact Yc.call rfl Try.func35 (by kernel_rfl) rfl rfl (Hp.news (fun w h => k_gadd w (Hp.rowGsl mem2 w h) (by omega) hcp y))
  case hz8 => exact (fun _ _ h => by exact Hp.sub h (by repeat (first | exact sR _ | exact sN _ | apply sK | apply sC)))
  intro v13
  refine TA.fact (fun w h => Hp.rowGsh mem0 w h) ?_
  rintro ⟨A1, c1, rfl⟩
  refine' TA.y (i := 6) #[true, true, true, true, true, true, true, false, false, false, false] rfl rfl rfl (by kernel_rfl) (fun _ _ _ h => h) (fun _ h => by exact Hp.sub h (by repeat (first | exact sR _ | exact sN _ | apply sK | apply sC))) rfl ?hy9 ?_
  case hy9 => exact Yl.move rfl rfl
  refine' TA.y (i := 7) #[true, true, true, true, true, true, true, true, false, false, false] rfl rfl rfl (by kernel_rfl) (fun _ _ _ h => h) (fun _ h => by exact Hp.sub h (by repeat (first | exact sR _ | exact sN _ | apply sK | apply sC))) rfl ?hy10 ?_
  case hy10 => exact Yl.extract rfl rfl rfl
  refine' TA.y (i := 8) #[true, true, true, true, true, true, true, true, true, false, false] rfl rfl rfl (by kernel_rfl) (fun _ _ _ h => h) (fun _ h => by exact Hp.sub h (by repeat (first | exact sR _ | exact sN _ | apply sK | apply sC))) rfl ?hy11 ?_
  case hy11 => exact Yl.extract rfl rfl rfl
  refine' TA.y (i := 9) #[true, true, true, true, true, true, true, true, true, true, false] rfl rfl rfl (by kernel_rfl) (fun _ _ _ h => h) (fun _ h => by exact Hp.sub h (by repeat (first | exact sR _ | exact sN _ | apply sK | apply sC))) rfl ?hy12 ?_
  case hy12 => exact Yl.assign rfl rfl
  refine' TA.y (i := 10) #[true, true, true, true, true, true, true, true, true, true, true] rfl rfl rfl (by kernel_rfl) (fun _ _ _ h => h) (fun _ h => by exact Hp.sub h (by repeat (first | exact sR _ | exact sN _ | apply sK | apply sC))) rfl ?hy13 ?_
  case hy13 => exact Yl.assign rfl rfl
  refine TA.done (by kernel_rfl) ?_
  refine TE.next ?_
  refine TC.seq ?_
  refine TC.seq ?_
  refine TC.region ?_
  refine' TL.y rfl rfl rfl ?hy14 ?_
  case hy14 => exact Yl.move rfl rfl
  refine' TL.y rfl rfl rfl ?hy15 ?_
  case hy15 => exact Yl.bin rfl rfl rfl (Bin.eql _ _ _ _)
  refine TL.nil ?_
  refine TE.next ?_
  refine TC.cond rfl (fun hs17 => ?_) (fun hs17 => ?_)
  · skip
    (try simp only [nrm] at hs17)
    refine TC.region ?_
    refine' TL.y rfl rfl rfl ?hy16 ?_
    case hy16 => exact Yl.move rfl rfl
    refine' TL.y rfl rfl rfl ?hy17 ?_
    case hy17 => exact Yl.move rfl rfl
    refine' TL.y rfl rfl rfl ?hy18 ?_
    case hy18 => exact Yl.nilCheck rfl rfl
    refine' TL.y rfl rfl rfl ?hy19 ?_
    case hy19 => first | exact Yl.field0 (k := 0) 0 rfl rfl Try.underlying67 rfl (by kernel_rfl) rfl | exact Yl.field (k := 0) 0 rfl rfl Try.underlying67 rfl (by kernel_rfl) rfl
    refine' TL.s rfl rfl ?hy20 ?_
    case hy20 => exact Ys.store (seg := [.slice A1 (addL u.G y).1.length c1]) (c' := #[.slice A1 (addL u.G y).1.length c1, .pointer (some ⟨b, 0, none⟩)]) rfl rfl rfl (by simp [Value.cells]) (by kernel_rfl) (by simp [Value.oneCell']) foc2 (by simp [Value.cells]) rfl
    refine TL.nil ?_
    refine TE.next ?_
    refine TC.seq ?_
    refine TC.region ?_
    refine' TL.y rfl rfl rfl ?hy21 ?_
    case hy21 => exact Yl.move rfl rfl
    refine' TL.y rfl rfl rfl ?hy22 ?_
    case hy22 => exact Yl.assign rfl rfl
    refine TL.nil ?_
    refine TE.next ?_
    refine TC.ret ?_
    refine TE.ret1 rfl rfl ?_
    have hz : (addL u.G y).2 = 0 := by simpa using hs17
    have hmu : mapS u y = ⟨(addL u.G y).1, u.E⟩ := if_pos hz
    have hok := mapS_ok hu y
    rw [hmu] at hok ⊢
    exact fun w h => ⟨⟨⟨s', .slice A1 (addL u.G y).1.length c1, b, st⟩, ⟨rfl, hT, hok⟩⟩, by first | rfl | rw [hz], ((Hp.sub h (H' := [rowG (.slice A1 (addL u.G y).1.length c1) (addL u.G y).1, blk s' (.cells #[.slice A1 (addL u.G y).1.length c1, .pointer (some ⟨b, 0, none⟩)] 67 (0, 0)), tabR st]) (by repeat (first | exact sR _ | exact sN _ | apply sK | apply sC))).swap.tostar.tostar).leave⟩
  · skip
    (try simp only [nrm] at hs17)
    refine TC.skip ?_
    refine TE.next ?_
    refine TC.seq ?_
    refine TC.region ?_
    refine' TL.y rfl rfl rfl ?hy23 ?_
    case hy23 => exact Yl.move rfl rfl
    refine' TL.y rfl rfl rfl ?hy24 ?_
    case hy24 => exact Yl.assign rfl rfl
    refine TL.nil ?_
    refine TE.next ?_
    refine TC.ret ?_
    refine TE.ret1 rfl rfl ?_
    have hmu : mapS u y = u := if_neg (by simpa using hs17)
    rw [hmu]
    exact fun w h => ⟨⟨⟨s', .slice A u.G.length c, b, st⟩, ⟨rfl, hT, hu⟩⟩, rfl, ((Hp.sub h (H' := [blk s' (.cells #[.slice A u.G.length c, .pointer (some ⟨b, 0, none⟩)] 67 (0, 0)), rowG (.slice A u.G.length c) u.G, tabR st]) (by repeat (first | exact sR _ | exact sN _ | apply sK | apply sC))).tostar.tostar).leave⟩
set_option maxRecDepth 100000 in
set_option maxHeartbeats 2000000 in
theorem k_sset {x : Sp} {u : SS} {s : Nat} (hx : x.Is u s) (n : Int) (en : En) (hwf : wfI (vsE en)) : Turns Try.prog 12 #[.pointer (some ⟨s, 0, none⟩), .int .i64 n, .agg #[.int .i64 (en).k, .int .i64 (en).pg, .bool (en).w, .bool (en).t]] (spR x u) (σ := {z : Sp // z.Is ((sset u n en).1) s}) (fun p => .int .i64 (sset u n en).2) (fun p => spR p.1 ((sset u n en).1)) := by
  intro W hR
  have hM : Hp W (spR x u).foot [spR x u] W := Hp.enter hR
  refine TC.enter (n := 38) Try.func12 rfl rfl rfl hM ?_
  refine TC.seq ?_
  refine TC.region ?_
  refine' TL.mx rfl rfl rfl ?hy1 ?_
  case hy1 => exact Ym.box rfl rfl
  intro b5
  refine' TL.y rfl rfl rfl ?hy2 ?_
  case hy2 => exact Yl.assign rfl rfl
  refine TL.nil ?_
  refine TE.next ?_
  refine TC.seq ?_
  refine TC.seq ?_
  refine TC.region ?_
  refine' TL.y rfl rfl rfl ?hy3 ?_
  case hy3 => exact Yl.move rfl rfl
  refine' TL.y rfl rfl rfl ?hy4 ?_
  case hy4 => exact Yl.move rfl rfl
  refine' TL.c rfl rfl rfl ?hy5 ?_
  case hy5 => exact Yc.call rfl Try.func15 (by kernel_rfl) rfl rfl (Hp.calls (fun w h => k_swhere w (h.all _ mem1) hx n))
  intro _
  refine' TL.y rfl rfl rfl ?hy6 ?_
  case hy6 => exact Yl.move rfl rfl
  refine' TL.y rfl rfl rfl ?hy7 ?_
  case hy7 => exact Yl.extract rfl rfl rfl
  refine' TL.y rfl rfl rfl ?hy8 ?_
  case hy8 => exact Yl.extract rfl rfl rfl
  refine' TL.mx rfl rfl rfl ?hy9 ?_
  case hy9 => exact Ym.alloc (z := .agg #[.int .i64 0, .int .i64 0, .int .i64 0, .int .i64 0, .int .i64 0, .bool false]) rfl (by kernel_rfl)
  intro b7
  refine' TL.s rfl rfl ?hy10 ?_
  case hy10 => exact Ys.store (seg := [.int .i64 (((fnd u.G n).getD z25)).f0, .int .i64 (((fnd u.G n).getD z25)).f1, .int .i64 (((fnd u.G n).getD z25)).f2, .int .i64 (((fnd u.G n).getD z25)).f3, .int .i64 (((fnd u.G n).getD z25)).f4, .bool (((fnd u.G n).getD z25)).f5]) (c' := #[.int .i64 (((fnd u.G n).getD z25)).f0, .int .i64 (((fnd u.G n).getD z25)).f1, .int .i64 (((fnd u.G n).getD z25)).f2, .int .i64 (((fnd u.G n).getD z25)).f3, .int .i64 (((fnd u.G n).getD z25)).f4, .bool (((fnd u.G n).getD z25)).f5]) rfl rfl rfl (by simp [Value.cells]) (by kernel_rfl) (by simp [Value.oneCell']) foc0 (by simp [Value.cells]) rfl
  refine' TL.y rfl rfl rfl ?hy11 ?_
  case hy11 => exact Yl.assign rfl rfl
  refine TL.nil ?_
  refine TE.next ?_
  refine TC.seq ?_
  refine TC.region ?_
  refine' TL.y rfl rfl rfl ?hy12 ?_
  case hy12 => exact Yl.move rfl rfl
  refine' TL.y rfl rfl rfl ?hy13 ?_
  case hy13 => exact Yl.not rfl rfl
  refine TL.nil ?_
  refine TE.next ?_
  refine TC.cond rfl (fun hs18 => ?_) (fun hs18 => ?_)
  · skip
    (try simp only [nrm] at hs18)
    refine TC.seq ?_
    refine TC.region ?_
    refine' TL.y rfl rfl rfl ?hy14 ?_
    case hy14 => exact Yl.assign rfl rfl
    refine TL.nil ?_
    refine TE.next ?_
    refine TC.ret ?_
    refine TE.thenRet ?_
    refine TE.ret1 rfl rfl ?_
    have hw : sset u n en = (u, 14) := if_neg (by simpa using hs18)
    rw [hw]
    exact fun w h => ⟨⟨x, hx⟩, rfl, (Hp.sub h (H' := [spR x u]) (by repeat (first | exact sR _ | exact sN _ | apply sK | apply sC))).leave⟩
  · skip
    (try simp only [nrm] at hs18)
    refine TC.skip ?_
    refine TE.next ?_
    refine TC.seq ?_
    refine TC.region ?_
    refine' TL.y rfl rfl rfl ?hy15 ?_
    case hy15 => exact Yl.loads (cs := [.int .i64 (en).k, .int .i64 (en).pg, .bool (en).w, .bool (en).t]) rfl rfl (by kernel_rfl) (by kernel_rfl) (Hp.cells mem1 (fun j v hj => by simpa [Value.cells] using hj))
    refine' TL.c rfl rfl rfl ?hy16 ?_
    case hy16 => exact Yc.call rfl Try.func36 (by kernel_rfl) rfl rfl (Hp.calls (fun w h => k_epack w en hwf))
    intro _
    refine' TL.y rfl rfl rfl ?hy17 ?_
    case hy17 => exact Yl.move rfl rfl
    refine' TL.y rfl rfl rfl ?hy18 ?_
    case hy18 => exact Yl.extract rfl rfl rfl
    refine' TL.y rfl rfl rfl ?hy19 ?_
    case hy19 => exact Yl.extract rfl rfl rfl
    refine' TL.y rfl rfl rfl ?hy20 ?_
    case hy20 => exact Yl.assign rfl rfl
    refine' TL.y rfl rfl rfl ?hy21 ?_
    case hy21 => exact Yl.assign rfl rfl
    refine TL.nil ?_
    refine TE.next ?_
    refine TC.seq ?_
    refine TC.seq ?_
    refine TC.region ?_
    refine' TL.y rfl rfl rfl ?hy22 ?_
    case hy22 => exact Yl.move rfl rfl
    refine' TL.y rfl rfl rfl ?hy23 ?_
    case hy23 => exact Yl.bin rfl rfl rfl (Bin.neq _ _ _ _)
    refine' TL.y rfl rfl rfl ?hy24 ?_
    case hy24 => exact Yl.move rfl rfl
    refine TL.split (i := 26) rfl (fun hs26 => ?_) (fun hs26 => ?_)
    · skip
      (try simp only [nrm] at hs26)
      refine TL.skip rfl rfl rfl ?_
      refine TL.skip rfl rfl rfl ?_
      refine TL.skip rfl rfl rfl ?_
      refine' TL.y rfl rfl rfl ?hy25 ?_
      case hy25 => exact Yl.pickT rfl rfl rfl
      refine TL.nil ?_
      refine TE.next ?_
      refine TC.yes rfl rfl ?_
      refine TC.seq ?_
      refine TC.region ?_
      refine' TL.y rfl rfl rfl ?hy26 ?_
      case hy26 => exact Yl.assign rfl rfl
      refine TL.nil ?_
      refine TE.next ?_
      refine TC.ret ?_
      refine TE.thenRet ?_
      refine TE.ret1 rfl rfl ?_
      have hw : sset u n en = (u, 1) := by
        unfold sset
        rw [if_pos (by simpa using hs18), if_neg]
        rintro ⟨h1, h2, h3⟩
        rw [pkE_is, if_pos ⟨h1, h2, h3⟩] at hs26; simp at hs26
      rw [hw]
      exact fun w h => ⟨⟨x, hx⟩, rfl, (Hp.sub h (H' := [spR x u]) (by repeat (first | exact sR _ | exact sN _ | apply sK | apply sC))).leave⟩
    · skip
      (try simp only [nrm] at hs26)
      refine' TL.y rfl rfl rfl ?hy27 ?_
      case hy27 => first | exact Yl.field0 (k := 0) 0 rfl rfl Try.underlying30 rfl (by kernel_rfl) rfl | exact Yl.field (k := 0) 0 rfl rfl Try.underlying30 rfl (by kernel_rfl) rfl
      refine' TL.y rfl rfl rfl ?hy28 ?_
      case hy28 => exact Yl.load rfl rfl (by kernel_rfl) (by first | exact Hp.cell mem0 rfl | exact Hp.cell mem1 rfl | exact Hp.cell mem2 rfl | exact Hp.cell mem3 rfl | exact Hp.cell mem4 rfl | exact Hp.rowAt mem0 (by omega) rfl | exact Hp.rowAt mem1 (by omega) rfl | exact Hp.rowAt mem2 (by omega) rfl | exact Hp.rowAt mem3 (by omega) rfl | exact Hp.rowAt mem4 (by omega) rfl)
      refine' TL.y rfl rfl rfl ?hy29 ?_
      case hy29 => exact Yl.bin rfl rfl rfl (Bin.eql _ _ _ _)
      refine' TL.y rfl rfl rfl ?hy30 ?_
      case hy30 => exact Yl.pickF rfl rfl rfl
      refine TL.nil ?_
      refine TE.next ?_
      refine TC.cond rfl (fun hs30 => ?_) (fun hs30 => ?_)
      · skip
        (try simp only [nrm] at hs30)
        refine TC.seq ?_
        refine TC.region ?_
        refine' TL.y rfl rfl rfl ?hy31 ?_
        case hy31 => exact Yl.assign rfl rfl
        refine TL.nil ?_
        refine TE.next ?_
        refine TC.ret ?_
        refine TE.thenRet ?_
        refine TE.ret1 rfl rfl ?_
        have hw : sset u n en = (u, 1) := by
          unfold sset
          rw [if_pos (by simpa using hs18), if_neg]
          rintro ⟨h1, h2, h3⟩
          omega
        rw [hw]
        exact fun w h => ⟨⟨x, hx⟩, rfl, (Hp.sub h (H' := [spR x u]) (by repeat (first | exact sR _ | exact sN _ | apply sK | apply sC))).leave⟩
      · skip
        (try simp only [nrm] at hs30)
        have hn := fnd_in hx.ok (show (fnd u.G n).isSome = true by simpa using hs18)
        have hE : okE en := by
          have hp := pkE_is en
          split at hp
          · assumption
          · split at hp
            · omega
            · rw [hp] at hs26; simp at hs26
        have hpk : pkE en = (encE en, 0) := by rw [pkE_is]; exact if_pos hE
        rw [hpk]
        dsimp only
        obtain ⟨hxs, hT, hu⟩ := hx
        obtain ⟨s', v, b, st⟩ := x
        obtain rfl : s' = s := hxs
        obtain ⟨A, c, hv, hcp, hS, hb, hRep⟩ := spR_open hR
        obtain rfl : v = .slice A u.G.length c := hv
        dsimp only at hT hb hRep
        refine TC.wk (M' := Hp W (spR ⟨s', .slice A u.G.length c, b, st⟩ u).foot [blk s' (.cells #[.slice A u.G.length c, .pointer (some ⟨b, 0, none⟩)] 67 (0, 0)), rowG (.slice A u.G.length c) u.G, tabR st]) (fun w h => (Hp.sub h (H' := [spR ⟨s', .slice A u.G.length c, b, st⟩ u]) (by repeat (first | exact sR _ | exact sN _ | apply sK | apply sC))).unstar.unstar) ?_
        refine TC.skip ?_
        refine TE.next ?_
        refine TC.seq ?_
        refine TC.region ?_
        refine' TL.y rfl rfl rfl ?hy32 ?_
        case hy32 => exact Yl.move rfl rfl
        refine' TL.y rfl rfl rfl ?hy33 ?_
        case hy33 => exact Yl.nilCheck rfl rfl
        refine' TL.y rfl rfl rfl ?hy34 ?_
        case hy34 => first | exact Yl.field0 (k := 0) 1 rfl rfl Try.underlying67 rfl (by kernel_rfl) rfl | exact Yl.field (k := 0) 1 rfl rfl Try.underlying67 rfl (by kernel_rfl) rfl
        refine' TL.y rfl rfl rfl ?hy35 ?_
        case hy35 => exact Yl.load rfl rfl (by kernel_rfl) (by first | exact Hp.cell mem0 rfl | exact Hp.cell mem1 rfl | exact Hp.cell mem2 rfl | exact Hp.cell mem3 rfl | exact Hp.cell mem4 rfl | exact Hp.rowAt mem0 (by omega) rfl | exact Hp.rowAt mem1 (by omega) rfl | exact Hp.rowAt mem2 (by omega) rfl | exact Hp.rowAt mem3 (by omega) rfl | exact Hp.rowAt mem4 (by omega) rfl)
        refine' TL.y rfl rfl rfl ?hy36 ?_
        case hy36 => exact Yl.move rfl rfl
        refine' TL.y rfl rfl rfl ?hy37 ?_
        case hy37 => exact Yl.move rfl rfl
        refine' TL.c rfl rfl rfl ?hy38 ?_
        case hy38 => exact Yc.call rfl Try.func37 (by kernel_rfl) rfl rfl (Hp.turnx mem2 (fun s => foc2) (k_set hT n _))
        intro ⟨st2, hT2⟩
        refine' TL.y rfl rfl rfl ?hy39 ?_
        case hy39 => exact Yl.assign rfl rfl
        refine TL.nil ?_
        refine TE.next ?_
        refine TC.ret ?_
        refine TE.ret1 rfl rfl ?_
        have hw : sset u n en = (⟨u.G, updE u.E n.toNat (some en)⟩, 0) := by
          unfold sset
          rw [if_pos (by simpa using hs18), if_pos hE]
        have hok := sset_ok hu n en
        rw [hw] at hok ⊢
        rw [enc_set hn] at hT2
        exact fun w h => ⟨⟨⟨s', .slice A u.G.length c, b, st2⟩, ⟨rfl, hT2, hok⟩⟩, by rw [if_pos hn], (h.tostar.tostar).leave⟩
set_option maxRecDepth 100000 in
set_option maxHeartbeats 2000000 in
theorem k_stouch {x : Sp} {u : SS} {s : Nat} (hx : x.Is u s) (n : Int) : Turns Try.prog 19 #[.pointer (some ⟨s, 0, none⟩), .int .i64 n] (spR x u) (σ := {z : Sp // z.Is (stouch u n) s}) (fun p => .bool (gE u n).isSome) (fun p => spR p.1 (stouch u n)) := by
  intro W hR
  obtain ⟨hxs, hT, hu⟩ := hx
  obtain ⟨s', v, b, st⟩ := x
  obtain rfl : s' = s := hxs
  obtain ⟨A, c, hv, hcp, hS, hb, hRep⟩ := spR_open hR
  obtain rfl : v = .slice A u.G.length c := hv
  dsimp only at hT hb hRep
  have hlen := hu.len
  have hM : Hp W (spR ⟨s', .slice A u.G.length c, b, st⟩ u).foot [blk s' (.cells #[.slice A u.G.length c, .pointer (some ⟨b, 0, none⟩)] 67 (0, 0)), rowG (.slice A u.G.length c) u.G, tabR st] W := (Hp.enter hR).unstar.unstar
  refine TC.enter (n := 26) Try.func19 rfl rfl rfl hM ?_
  refine TC.seq ?_
  refine TC.region ?_
  refine' TL.y rfl rfl rfl ?hy1 ?_
  case hy1 => exact Yl.assign rfl rfl
  refine TL.nil ?_
  refine TE.next ?_
  refine TC.seq ?_
  refine TC.region ?_
  refine' TL.y rfl rfl rfl ?hy2 ?_
  case hy2 => exact Yl.move rfl rfl
  refine' TL.y rfl rfl rfl ?hy3 ?_
  case hy3 => exact Yl.nilCheck rfl rfl
  refine' TL.y rfl rfl rfl ?hy4 ?_
  case hy4 => first | exact Yl.field0 (k := 0) 1 rfl rfl Try.underlying67 rfl (by kernel_rfl) rfl | exact Yl.field (k := 0) 1 rfl rfl Try.underlying67 rfl (by kernel_rfl) rfl
  refine' TL.y rfl rfl rfl ?hy5 ?_
  case hy5 => exact Yl.load rfl rfl (by kernel_rfl) (by first | exact Hp.cell mem0 rfl | exact Hp.cell mem1 rfl | exact Hp.cell mem2 rfl | exact Hp.cell mem3 rfl | exact Hp.cell mem4 rfl | exact Hp.rowAt mem0 (by omega) rfl | exact Hp.rowAt mem1 (by omega) rfl | exact Hp.rowAt mem2 (by omega) rfl | exact Hp.rowAt mem3 (by omega) rfl | exact Hp.rowAt mem4 (by omega) rfl)
  refine' TL.y rfl rfl rfl ?hy6 ?_
  case hy6 => exact Yl.move rfl rfl
  refine' TL.c rfl rfl rfl ?hy7 ?_
  case hy7 => exact Yc.call rfl Try.func42 (by kernel_rfl) rfl rfl (Hp.calls (fun w h => k_getT w (h.all _ mem2) hT n))
  intro _
  rw [gt_enc]
  rw [Option.isSome_map]
  refine' TL.y rfl rfl rfl ?hy8 ?_
  case hy8 => exact Yl.move rfl rfl
  refine' TL.y rfl rfl rfl ?hy9 ?_
  case hy9 => exact Yl.extract rfl rfl rfl
  refine' TL.y rfl rfl rfl ?hy10 ?_
  case hy10 => exact Yl.extract rfl rfl rfl
  refine' TL.y rfl rfl rfl ?hy11 ?_
  case hy11 => exact Yl.assign rfl rfl
  refine' TL.y rfl rfl rfl ?hy12 ?_
  case hy12 => exact Yl.assign rfl rfl
  refine TL.nil ?_
  refine TE.next ?_
  refine TC.seq ?_
  refine TC.seq ?_
  refine TC.region ?_
  refine' TL.y rfl rfl rfl ?hy13 ?_
  case hy13 => exact Yl.move rfl rfl
  refine TL.nil ?_
  refine TE.next ?_
  refine TC.cond rfl (fun hs16 => ?_) (fun hs16 => ?_)
  · skip
    (try simp only [nrm] at hs16)
    obtain ⟨en, he⟩ : ∃ en, gE u n = some en := Option.isSome_iff_exists.1 (by simpa using hs16)
    rw [he]
    dsimp only [Option.map_some, Option.getD_some, Option.isSome_some]
    refine TC.draw (k := 8) (Hp W (spR ⟨s', .slice A u.G.length c, b, st⟩ u).foot [blk s' (.cells #[.slice A u.G.length c, .pointer (some ⟨b, 0, none⟩)] 67 (0, 0))]) [] #[false, false, false, false, false, false, false, false] (by kernel_rfl) rfl rfl (fun _ h => h.drew) (fun _ h => by exact Hp.sub h (by repeat (first | exact sR _ | exact sN _ | apply sK | apply sC))) ?_
    refine' TA.y (i := 0) #[true, false, false, false, false, false, false, false] rfl rfl rfl (by kernel_rfl) (fun _ _ _ h => h) (fun _ h => by exact Hp.sub h (by repeat (first | exact sR _ | exact sN _ | apply sK | apply sC))) rfl ?hy14 ?_
    case hy14 => exact Yl.move rfl rfl
    refine' TA.y (i := 1) #[true, true, false, false, false, false, false, false] rfl rfl rfl (by kernel_rfl) (fun _ _ _ h => h) (fun _ h => by exact Hp.sub h (by repeat (first | exact sR _ | exact sN _ | apply sK | apply sC))) rfl ?hy15 ?_
    case hy15 => exact Yl.nilCheck rfl rfl
    refine' TA.y (i := 2) #[true, true, true, false, false, false, false, false] rfl rfl rfl (by kernel_rfl) (fun _ _ _ h => h) (fun _ h => by exact Hp.sub h (by repeat (first | exact sR _ | exact sN _ | apply sK | apply sC))) rfl ?hy16 ?_
    case hy16 => first | exact Yl.field0 (k := 0) 1 rfl rfl Try.underlying67 rfl (by kernel_rfl) rfl | exact Yl.field (k := 0) 1 rfl rfl Try.underlying67 rfl (by kernel_rfl) rfl
    refine' TA.y (i := 3) #[true, true, true, true, false, false, false, false] rfl rfl rfl (by kernel_rfl) (fun _ _ _ h => h) (fun _ h => by exact Hp.sub h (by repeat (first | exact sR _ | exact sN _ | apply sK | apply sC))) rfl ?hy17 ?_
    case hy17 => exact Yl.load rfl rfl (by kernel_rfl) (by first | exact Hp.cell mem0 rfl | exact Hp.cell mem1 rfl | exact Hp.cell mem2 rfl | exact Hp.cell mem3 rfl | exact Hp.cell mem4 rfl | exact Hp.rowAt mem0 (by omega) rfl | exact Hp.rowAt mem1 (by omega) rfl | exact Hp.rowAt mem2 (by omega) rfl | exact Hp.rowAt mem3 (by omega) rfl | exact Hp.rowAt mem4 (by omega) rfl)
    refine' TA.y (i := 4) #[true, true, true, true, true, false, false, false] rfl rfl rfl (by kernel_rfl) (fun _ _ _ h => h) (fun _ h => by exact Hp.sub h (by repeat (first | exact sR _ | exact sN _ | apply sK | apply sC))) rfl ?hy18 ?_
    case hy18 => exact Yl.move rfl rfl
    refine' TA.y (i := 5) #[true, true, true, true, true, true, false, false] rfl rfl rfl (by kernel_rfl) (fun _ _ _ h => h) (fun _ h => by exact Hp.sub h (by repeat (first | exact sR _ | exact sN _ | apply sK | apply sC))) rfl ?hy19 ?_
    case hy19 => exact Yl.move rfl rfl
    refine' TA.c (i := 6) #[true, true, true, true, true, true, true, false] rfl rfl rfl (by kernel_rfl) (by decide) rfl ?hy20 ?hz20 ?_
    case hy20 => exact Yc.call rfl Try.func48 (by kernel_rfl) rfl rfl (Hp.calls (fun w h => k_etouch w (gE_ok hu he)))
    case hz20 => exact (fun _ _ h => by exact Hp.sub h (by repeat (first | exact sR _ | exact sN _ | apply sK | apply sC)))
    intro _
    refine' TA.c (i := 7) #[true, true, true, true, true, true, true, true] rfl rfl rfl (by kernel_rfl) (by decide) rfl ?hy21 ?hz21 ?_
    case hy21 => exact Yc.call rfl Try.func37 (by kernel_rfl) rfl rfl (Hp.turnx mem2 (fun s => foc2) (k_set hT n _))
    case hz21 => exact (fun _ _ h => by exact Hp.sub h (by repeat (first | exact sR _ | exact sN _ | apply sK | apply sC)))
    intro ⟨st2, hT2⟩
    refine TA.done (by kernel_rfl) ?_
    refine TE.next ?_
    refine TC.seq ?_
    refine TC.region ?_
    refine' TL.y rfl rfl rfl ?hy22 ?_
    case hy22 => exact Yl.move rfl rfl
    refine' TL.y rfl rfl rfl ?hy23 ?_
    case hy23 => exact Yl.assign rfl rfl
    refine TL.nil ?_
    refine TE.next ?_
    refine TC.ret ?_
    refine TE.ret1 rfl rfl ?_
    rw [enc_touch he] at hT2
    exact fun w h => ⟨⟨⟨s', .slice A u.G.length c, b, st2⟩, ⟨rfl, hT2, stouch_ok hu n⟩⟩, rfl, (h.tostar.tostar).leave⟩
  · skip
    (try simp only [nrm] at hs16)
    refine TC.skip ?_
    refine TE.next ?_
    refine TC.seq ?_
    refine TC.region ?_
    refine' TL.y rfl rfl rfl ?hy24 ?_
    case hy24 => exact Yl.move rfl rfl
    refine' TL.y rfl rfl rfl ?hy25 ?_
    case hy25 => exact Yl.assign rfl rfl
    refine TL.nil ?_
    refine TE.next ?_
    refine TC.ret ?_
    refine TE.ret1 rfl rfl ?_
    have he : gE u n = none := by simpa using hs16
    have hst := stouch_no hu he
    rw [hst]
    exact fun w h => ⟨⟨⟨s', .slice A u.G.length c, b, st⟩, ⟨rfl, hT, hu⟩⟩, by rw [he]; rfl, (h.tostar.tostar).leave⟩
theorem k_walkE (W : World) {st : St} {u : SS} {b : Nat} (hR : Rep W st) (hT : Tab st (encF u.E) b) (a t : Int) : Calls Go.Proofs.Try.prog 39 #[.pointer (some ⟨b, 0, none⟩), .int .i64 a, .int .i64 t] W fun e w' => ∃ v : Value, e = .returned v ∧ (rowI v (pgsE u a t)).holds w' ∧ Below W.heap.size W w' ∧ ∀ k, (rowI v (pgsE u a t)).foot k → W.heap.size ≤ k := k_walkT W hR hT a t
set_option maxRecDepth 100000 in
set_option maxHeartbeats 2000000 in
theorem k_sids (W : World) {x : Sp} {u : SS} {s : Nat} (hR : (spR x u).holds W) (hx : x.Is u s) (a t : Int) : Calls Try.prog 38 #[.pointer (some ⟨s, 0, none⟩), .int .i64 a, .int .i64 t] W fun e w' => ∃ v : Value, e = .returned v ∧ (rowI v (idsL u a t)).holds w' ∧ Below W.heap.size W w' ∧ ∀ k, (rowI v (idsL u a t)).foot k → W.heap.size ≤ k := by
  have hx0 := hx
  obtain ⟨hxs, hT, hu⟩ := hx
  obtain ⟨s', v, b, st⟩ := x
  obtain rfl : s' = s := hxs
  obtain ⟨A, c, hv, hcp, hS, hb, hRep⟩ := spR_open hR
  obtain rfl : v = .slice A u.G.length c := hv
  dsimp only at hT hb hRep
  have hlen := hu.len
  have hM : Hp W (fun _ => False) [] W := Hp.start
  refine TC.enter (n := 37) Try.func38 rfl rfl rfl hM ?_
  refine TC.seq ?_
  refine TC.region ?_
  refine' TL.y rfl rfl rfl ?hy1 ?_
  case hy1 => exact Yl.assign rfl rfl
  refine TL.nil ?_
  refine TE.next ?_
  refine TC.seq ?_
  refine TC.region ?_
  refine' TL.y rfl rfl rfl ?hy2 ?_
  case hy2 => exact Yl.assign rfl rfl
  refine TL.nil ?_
  refine TE.next ?_
  refine TC.seq ?_
  refine TC.seq ?_
  refine TC.region ?_
  refine' TL.y rfl rfl rfl ?hy3 ?_
  case hy3 => exact Yl.move rfl rfl
  refine' TL.y rfl rfl rfl ?hy4 ?_
  case hy4 => exact Yl.nilCheck rfl rfl
  refine' TL.y rfl rfl rfl ?hy5 ?_
  case hy5 => first | exact Yl.field0 (k := 0) 1 rfl rfl Try.underlying67 rfl (by kernel_rfl) rfl | exact Yl.field (k := 0) 1 rfl rfl Try.underlying67 rfl (by kernel_rfl) rfl
  refine' TL.y rfl rfl rfl ?hy6 ?_
  case hy6 => exact Yl.load rfl rfl (by kernel_rfl) (by first | exact Hp.rowAtI mem1 (by omega) | exact Hp.oldB hb rfl (fun h => h) | exact Hp.cell mem0 rfl | exact Hp.cell mem1 rfl | exact Hp.cell mem2 rfl | exact Hp.cell mem3 rfl | exact Hp.cell mem4 rfl | exact Hp.rowAt mem0 (by omega) rfl | exact Hp.rowAt mem1 (by omega) rfl | exact Hp.rowAt mem2 (by omega) rfl | exact Hp.rowAt mem3 (by omega) rfl | exact Hp.rowAt mem4 (by omega) rfl)
  refine' TL.y rfl rfl rfl ?hy7 ?_
  case hy7 => exact Yl.move rfl rfl
  refine' TL.y rfl rfl rfl ?hy8 ?_
  case hy8 => exact Yl.move rfl rfl
  refine' TL.c rfl rfl rfl ?hy9 ?_
  case hy9 => exact Yc.call rfl Try.func39 (by kernel_rfl) rfl rfl (Hp.news (fun w h => k_walkE w (hRep.below h.below) hT a t))
  intro v18
  refine TL.fact (fun w h => Hp.rowShape mem0 w h) ?_
  rintro ⟨A18, c18, rfl⟩
  refine' TL.y rfl rfl rfl ?hy10 ?_
  case hy10 => exact Yl.len rfl rfl Try.underlying36
  refine' TL.y rfl rfl rfl ?hy11 ?_
  case hy11 => exact Yl.move rfl rfl
  refine TL.nil ?_
  refine TE.next ?_
  refine TC.block ?_
  refine TC.loop (σ := Nat × Value) (fun q => [(0, .pointer (some ⟨s', 0, none⟩)), (7, q.2), (18, .slice A18 (pgsE u a t).length c18), (19, .int .i64 ((pgsE u a t).length : Int)), (20, .int .i64 (q.1 : Int))]) (fun q => Hp W (fun _ => False) [rowI q.2 (((pgsE u a t).take q.1).map (pgE u)), rowI (.slice A18 (pgsE u a t).length c18) (pgsE u a t)]) (fun q => q.1 ≤ (pgsE u a t).length) (fun q => (pgsE u a t).length - q.1) (0, .slice none 0 0) ?hF12 ?hs12 ?hm12 ?round12
  case hF12 => exact Nat.zero_le _
  case hs12 => exact ⟨rfl, rfl, rfl, rfl, rfl, trivial⟩
  case hm12 => exact fun w h => by dsimp only; simp only [List.take_zero, List.map_nil]; rw [← rowI_nil]; exact h.nil
  case round12 =>
    rintro ⟨i, v⟩ hi
    dsimp only at hi ⊢
    have hpl := pgs_len2 u a t
    have hal : (((pgsE u a t).take i).map (pgE u)).length ≤ 65536 := by rw [List.length_map, List.length_take]; omega
    refine TC.seq ?_
    refine TC.region ?_
    refine' TL.y rfl rfl rfl ?hy13 ?_
    case hy13 => exact Yl.bin rfl rfl rfl (Bin.lss _ _ _ _)
    refine TL.nil ?_
    refine TE.next ?_
    refine TC.seq ?_
    refine TC.cond rfl (fun hs21 => ?_) (fun hs21 => ?_)
    · skip
      (try simp only [nrm] at hs21)
      have hil : i < (pgsE u a t).length := by omega
      refine TC.fact (fun w h => Hp.rowSome mem1 (by omega) w h) ?_
      rintro ⟨g18, rfl⟩
      refine TC.skip ?_
      refine TE.next ?_
      refine TC.seq ?_
      refine TC.block ?_
      refine TC.seq ?_
      refine TC.region ?_
      refine' TL.y rfl rfl rfl ?hy14 ?_
      case hy14 => exact Yl.ixn rfl rfl rfl Try.underlying36 (by kernel_rfl) (by omega)
      refine' TL.y rfl rfl rfl ?hy15 ?_
      case hy15 => exact Yl.load rfl rfl (by kernel_rfl) (by first | exact Hp.rowAtI mem1 (by omega) | exact Hp.oldB hb rfl (fun h => h) | exact Hp.cell mem0 rfl | exact Hp.cell mem1 rfl | exact Hp.cell mem2 rfl | exact Hp.cell mem3 rfl | exact Hp.cell mem4 rfl | exact Hp.rowAt mem0 (by omega) rfl | exact Hp.rowAt mem1 (by omega) rfl | exact Hp.rowAt mem2 (by omega) rfl | exact Hp.rowAt mem3 (by omega) rfl | exact Hp.rowAt mem4 (by omega) rfl)
      refine' TL.y rfl rfl rfl ?hy16 ?_
      case hy16 => exact Yl.assign rfl rfl
      refine TL.nil ?_
      refine TE.next ?_
      refine TC.seq ?_
      refine TC.region ?_
      refine' TL.y rfl rfl rfl ?hy17 ?_
      case hy17 => exact Yl.move rfl rfl
      refine' TL.y rfl rfl rfl ?hy18 ?_
      case hy18 => exact Yl.move rfl rfl
      refine' TL.c rfl rfl rfl ?hy19 ?_
      case hy19 => exact Yc.call rfl Try.func14 (by kernel_rfl) rfl rfl (Hp.calls (fun w h => k_sentry w (Res.below hR h.below) hx0 (gI (pgsE u a t) i)))
      intro _
      refine' TL.y rfl rfl rfl ?hy20 ?_
      case hy20 => exact Yl.move rfl rfl
      refine' TL.y rfl rfl rfl ?hy21 ?_
      case hy21 => exact Yl.extract rfl rfl rfl
      refine' TL.y rfl rfl rfl ?hy22 ?_
      case hy22 => exact Yl.extract rfl rfl rfl
      refine' TL.mx rfl rfl rfl ?hy23 ?_
      case hy23 => exact Ym.alloc (z := .agg #[.int .i64 0, .int .i64 0, .bool false, .bool false]) rfl (by kernel_rfl)
      intro b10
      refine' TL.s rfl rfl ?hy24 ?_
      case hy24 => exact Ys.store (seg := [.int .i64 (((gE u (gI (pgsE u a t) i)).getD zEn)).k, .int .i64 (((gE u (gI (pgsE u a t) i)).getD zEn)).pg, .bool (((gE u (gI (pgsE u a t) i)).getD zEn)).w, .bool (((gE u (gI (pgsE u a t) i)).getD zEn)).t]) (c' := #[.int .i64 (((gE u (gI (pgsE u a t) i)).getD zEn)).k, .int .i64 (((gE u (gI (pgsE u a t) i)).getD zEn)).pg, .bool (((gE u (gI (pgsE u a t) i)).getD zEn)).w, .bool (((gE u (gI (pgsE u a t) i)).getD zEn)).t]) rfl rfl rfl (by simp [Value.cells]) (by kernel_rfl) (by simp [Value.oneCell']) foc0 (by simp [Value.cells]) rfl
      refine' TL.y rfl rfl rfl ?hy25 ?_
      case hy25 => exact Yl.assign rfl rfl
      refine TL.nil ?_
      refine TE.next ?_
      refine TC.region ?_
      refine' TL.y rfl rfl rfl ?hy26 ?_
      case hy26 => exact Yl.move rfl rfl
      refine' TL.y rfl rfl rfl ?hy27 ?_
      case hy27 => first | exact Yl.field0 (k := 0) 1 rfl rfl Try.underlying30 rfl (by kernel_rfl) rfl | exact Yl.field (k := 0) 1 rfl rfl Try.underlying30 rfl (by kernel_rfl) rfl
      refine' TL.y rfl rfl rfl ?hy28 ?_
      case hy28 => exact Yl.load rfl rfl (by kernel_rfl) (by first | exact Hp.rowAtI mem1 (by omega) | exact Hp.oldB hb rfl (fun h => h) | exact Hp.cell mem0 rfl | exact Hp.cell mem1 rfl | exact Hp.cell mem2 rfl | exact Hp.cell mem3 rfl | exact Hp.cell mem4 rfl | exact Hp.rowAt mem0 (by omega) rfl | exact Hp.rowAt mem1 (by omega) rfl | exact Hp.rowAt mem2 (by omega) rfl | exact Hp.rowAt mem3 (by omega) rfl | exact Hp.rowAt mem4 (by omega) rfl)
      refine TL.re (i := 32) (v' := .int .i64 (pgE u (gI (pgsE u a t) i))) rfl rfl ?_
      refine' TL.mx rfl rfl rfl ?hy29 ?_
      case hy29 => exact Ym.buildSlice (cells := #[_]) (z := .int .i64 0) (size := 1) #[.int .i64 0] rfl Try.underlying36 (by kernel_rfl) (by decide) (by decide) (by kernel_rfl) rfl rfl
      intro b33
      refine' TL.mx rfl rfl rfl ?hy30 ?_
      case hy30 => exact Ym.append (e := 3) (news := [.int .i64 (pgE u (gI (pgsE u a t) i))]) (m := (((pgsE u a t).take i).map (pgE u)).length) (xs := Iw (((pgsE u a t).take i).map (pgE u))) rfl Try.underlying36 (by kernel_rfl) (z := .int .i64 0) (size := 1) (bytes := 8) rfl (by decide) (by decide) rfl rfl rfl (Hp.cells mem0 (fun j v hj => by simpa [Value.cells] using hj)) (by simp [Value.oneCell']) (by omega) (fun v' => foc2)
      intro v34
      refine' TL.y rfl rfl rfl ?hy31 ?_
      case hy31 => exact Yl.assign rfl rfl
      refine TL.nil ?_
      refine TE.inNormal ?_
      refine TE.next ?_
      refine TC.region ?_
      refine' TL.y rfl rfl rfl ?hy32 ?_
      case hy32 => first | (refine Yl.val (Yl.bin rfl rfl rfl (Bin.add _ _ _ _)) (congrArg (Value.int .i64) (i64in ?_ ?_)) <;> omega) | exact Yl.bin rfl rfl rfl (Bin.add _ _ _ _)
      refine' TL.y rfl rfl rfl ?hy33 ?_
      case hy33 => exact Yl.move rfl rfl
      refine TL.nil ?_
      refine TE.round (i + 1, v34) ?hF34 ?hlt34 ?hs34 ?hm34
      case hF34 => dsimp only; omega
      case hlt34 => dsimp only; omega
      case hs34 => exact ⟨rfl, rfl, rfl, rfl, rfl, trivial⟩
      case hm34 => exact (fun w h => by
        dsimp only
        rw [gI_take (by omega), List.map_append, List.map_cons, List.map_nil, ← rowI_snoc]
        exact h.sub (.cons _ (.cons _ (List.Sublist.refl _))))
    · skip
      (try simp only [nrm] at hs21)
      refine TC.exit ?_
      refine TE.thenExit ?_
      refine TE.thenExit ?_
      refine TE.inHere ?_
      refine TE.next ?_
      refine TC.seq ?_
      refine TC.region ?_
      refine' TL.y rfl rfl rfl ?hy35 ?_
      case hy35 => exact Yl.move rfl rfl
      refine' TL.y rfl rfl rfl ?hy36 ?_
      case hy36 => exact Yl.assign rfl rfl
      refine TL.nil ?_
      refine TE.next ?_
      refine TC.ret ?_
      refine TE.ret1 rfl rfl ?_
      have hi2 : i = (pgsE u a t).length := by omega
      exact fun w h => ⟨v, rfl, by rw [hi2, List.take_length] at h; exact (h.sub (.cons_cons _ (List.nil_sublist _))).leaveNew⟩
set_option maxRecDepth 100000 in
set_option maxHeartbeats 2000000 in
theorem k_sIDs (W : World) {x : Sp} {u : SS} {s : Nat} (hR : (spR x u).holds W) (hx : x.Is u s) : Calls Try.prog 32 #[.pointer (some ⟨s, 0, none⟩)] W fun e w' => ∃ v : Value, e = .returned v ∧ (rowI v (idsL u 0 65536)).holds w' ∧ Below W.heap.size W w' ∧ ∀ k, (rowI v (idsL u 0 65536)).foot k → W.heap.size ≤ k := by
  have hM : Hp W (fun _ => False) [] W := Hp.start
  refine TC.enter (n := 5) Try.func32 rfl rfl rfl hM ?_
  refine TC.seq ?_
  refine TC.region ?_
  refine' TL.y rfl rfl rfl ?hy1 ?_
  case hy1 => exact Yl.assign rfl rfl
  refine TL.nil ?_
  refine TE.next ?_
  refine TC.seq ?_
  refine TC.region ?_
  refine' TL.y rfl rfl rfl ?hy2 ?_
  case hy2 => exact Yl.move rfl rfl
  refine' TL.c rfl rfl rfl ?hy3 ?_
  case hy3 => exact Yc.call rfl Try.func38 (by kernel_rfl) rfl rfl (Hp.news (fun w h => k_sids w (Res.below hR h.below) hx 0 65536))
  intro v4
  refine' TL.y rfl rfl rfl ?hy4 ?_
  case hy4 => exact Yl.assign rfl rfl
  refine TL.nil ?_
  refine TE.next ?_
  refine TC.ret ?_
  refine TE.ret1 rfl rfl ?_
  exact fun w h => ⟨v4, rfl, h.leaveNew⟩
set_option maxRecDepth 100000 in
set_option maxHeartbeats 2000000 in
theorem k_scut {x : Sp} {u : SS} {s : Nat} (hx : x.Is u s) (a t : Int) : Turns Try.prog 13 #[.pointer (some ⟨s, 0, none⟩), .int .i64 a, .int .i64 t] (spR x u) (σ := {z : Value × Sp // z.2.Is (scut u a t) s}) (fun p => p.1.1) (fun p => star (rowI p.1.1 (idsL u a t)) (spR p.1.2 (scut u a t))) := by
  intro W hR
  have hx0 := hx
  obtain ⟨hxs, hT, hu⟩ := hx
  obtain ⟨s', v, b, st⟩ := x
  obtain rfl : s' = s := hxs
  obtain ⟨A, c, hv, hcp, hS, hb, hRep⟩ := spR_open hR
  obtain rfl : v = .slice A u.G.length c := hv
  dsimp only at hT hb hRep
  have hlen := hu.len
  have hM : Hp W (spR ⟨s', .slice A u.G.length c, b, st⟩ u).foot [spR ⟨s', .slice A u.G.length c, b, st⟩ u] W := Hp.enter hR
  refine TC.enter (n := 44) Try.func13 rfl rfl rfl hM ?_
  refine TC.seq ?_
  refine TC.region ?_
  refine' TL.y rfl rfl rfl ?hy1 ?_
  case hy1 => exact Yl.assign rfl rfl
  refine TL.nil ?_
  refine TE.next ?_
  refine TC.seq ?_
  refine TC.region ?_
  refine' TL.y rfl rfl rfl ?hy2 ?_
  case hy2 => exact Yl.move rfl rfl
  refine' TL.y rfl rfl rfl ?hy3 ?_
  case hy3 => exact Yl.move rfl rfl
  refine' TL.y rfl rfl rfl ?hy4 ?_
  case hy4 => exact Yl.move rfl rfl
  refine' TL.c rfl rfl rfl ?hy5 ?_
  case hy5 => exact Yc.call rfl Try.func38 (by kernel_rfl) rfl rfl (Hp.news (fun w h => k_sids w (h.all _ mem0) hx0 a t))
  intro v13
  refine TL.wk (M' := Hp W (spR ⟨s', .slice A u.G.length c, b, st⟩ u).foot [blk s' (.cells #[.slice A u.G.length c, .pointer (some ⟨b, 0, none⟩)] 67 (0, 0)), rowG (.slice A u.G.length c) u.G, tabR st, rowI v13 (idsL u a t)]) (fun w h => h.swap.unstar.unstar) ?_
  refine' TL.y rfl rfl rfl ?hy6 ?_
  case hy6 => exact Yl.assign rfl rfl
  refine TL.nil ?_
  refine TE.next ?_
  refine TC.seq ?_
  refine TC.seq ?_
  refine TC.region ?_
  refine' TL.y rfl rfl rfl ?hy7 ?_
  case hy7 => exact Yl.move rfl rfl
  refine' TL.y rfl rfl rfl ?hy8 ?_
  case hy8 => exact Yl.nilCheck rfl rfl
  refine' TL.y rfl rfl rfl ?hy9 ?_
  case hy9 => first | exact Yl.field0 (k := 0) 1 rfl rfl Try.underlying67 rfl (by kernel_rfl) rfl | exact Yl.field (k := 0) 1 rfl rfl Try.underlying67 rfl (by kernel_rfl) rfl
  refine' TL.y rfl rfl rfl ?hy10 ?_
  case hy10 => exact Yl.load rfl rfl (by kernel_rfl) (by first | exact Hp.rowAtI mem0 (by omega) | exact Hp.cell mem0 rfl | exact Hp.cell mem1 rfl | exact Hp.cell mem2 rfl | exact Hp.cell mem3 rfl | exact Hp.cell mem4 rfl | exact Hp.cell mem5 rfl | exact Hp.cell mem6 rfl | exact Hp.rowAt mem0 (by omega) rfl | exact Hp.rowAt mem1 (by omega) rfl | exact Hp.rowAt mem2 (by omega) rfl | exact Hp.rowAt mem3 (by omega) rfl | exact Hp.rowAt mem4 (by omega) rfl | exact Hp.rowAt mem5 (by omega) rfl | exact Hp.rowAt mem6 (by omega) rfl)
  refine' TL.y rfl rfl rfl ?hy11 ?_
  case hy11 => exact Yl.move rfl rfl
  refine' TL.y rfl rfl rfl ?hy12 ?_
  case hy12 => exact Yl.move rfl rfl
  refine' TL.c rfl rfl rfl ?hy13 ?_
  case hy13 => exact Yc.call rfl Try.func39 (by kernel_rfl) rfl rfl (Hp.news (fun w h => k_walkE w (h.all _ mem2) hT a t))
  intro v20
  refine TL.fact (fun w h => Hp.rowShape mem0 w h) ?_
  rintro ⟨A20, c20, rfl⟩
  refine' TL.y rfl rfl rfl ?hy14 ?_
  case hy14 => exact Yl.len rfl rfl Try.underlying36
  refine' TL.y rfl rfl rfl ?hy15 ?_
  case hy15 => exact Yl.move rfl rfl
  refine TL.nil ?_
  refine TE.next ?_
  refine TC.block ?_
  refine TC.loop (σ := Nat × St) (fun q => [(0, .pointer (some ⟨s', 0, none⟩)), (1, .int .i64 a), (2, .int .i64 t), (7, v13), (20, .slice A20 (pgsE u a t).length c20), (21, .int .i64 ((pgsE u a t).length : Int)), (22, .int .i64 (q.1 : Int))]) (fun q => Hp W (spR ⟨s', .slice A u.G.length c, b, st⟩ u).foot [rowI (.slice A20 (pgsE u a t).length c20) (pgsE u a t), blk s' (.cells #[.slice A u.G.length c, .pointer (some ⟨b, 0, none⟩)] 67 (0, 0)), rowG (.slice A u.G.length c) u.G, tabR q.2, rowI v13 (idsL u a t)]) (fun q => q.1 ≤ (pgsE u a t).length ∧ Tab q.2 (offs (encF u.E) ((pgsE u a t).take q.1)) b) (fun q => (pgsE u a t).length - q.1) (0, st) ?hF16 ?hs16 ?hm16 ?round16
  case hF16 => exact ⟨Nat.zero_le _, by dsimp only; rw [List.take_zero, offs_nil]; exact hT⟩
  case hs16 => exact ⟨rfl, rfl, rfl, rfl, rfl, rfl, rfl, trivial⟩
  case hm16 => exact fun w h => h
  case round16 =>
    rintro ⟨i, sti⟩ ⟨hi, hTi⟩
    dsimp only at hi hTi ⊢
    have hpl := pgs_len2 u a t
    refine TC.seq ?_
    refine TC.region ?_
    refine' TL.y rfl rfl rfl ?hy17 ?_
    case hy17 => exact Yl.bin rfl rfl rfl (Bin.lss _ _ _ _)
    refine TL.nil ?_
    refine TE.next ?_
    refine TC.seq ?_
    refine TC.cond rfl (fun hs23 => ?_) (fun hs23 => ?_)
    · skip
      (try simp only [nrm] at hs23)
      have hil : i < (pgsE u a t).length := by omega
      refine TC.fact (fun w h => Hp.rowSome mem0 (by omega) w h) ?_
      rintro ⟨g20, rfl⟩
      refine TC.skip ?_
      refine TE.next ?_
      refine TC.seq ?_
      refine TC.block ?_
      refine TC.seq ?_
      refine TC.region ?_
      refine' TL.y rfl rfl rfl ?hy18 ?_
      case hy18 => exact Yl.ixn rfl rfl rfl Try.underlying36 (by kernel_rfl) (by omega)
      refine' TL.y rfl rfl rfl ?hy19 ?_
      case hy19 => exact Yl.load rfl rfl (by kernel_rfl) (by first | exact Hp.rowAtI mem0 (by omega) | exact Hp.cell mem0 rfl | exact Hp.cell mem1 rfl | exact Hp.cell mem2 rfl | exact Hp.cell mem3 rfl | exact Hp.cell mem4 rfl | exact Hp.cell mem5 rfl | exact Hp.cell mem6 rfl | exact Hp.rowAt mem0 (by omega) rfl | exact Hp.rowAt mem1 (by omega) rfl | exact Hp.rowAt mem2 (by omega) rfl | exact Hp.rowAt mem3 (by omega) rfl | exact Hp.rowAt mem4 (by omega) rfl | exact Hp.rowAt mem5 (by omega) rfl | exact Hp.rowAt mem6 (by omega) rfl)
      refine' TL.y rfl rfl rfl ?hy20 ?_
      case hy20 => exact Yl.assign rfl rfl
      refine TL.nil ?_
      refine TE.next ?_
      refine TC.region ?_
      refine' TL.y rfl rfl rfl ?hy21 ?_
      case hy21 => exact Yl.move rfl rfl
      refine' TL.y rfl rfl rfl ?hy22 ?_
      case hy22 => exact Yl.nilCheck rfl rfl
      refine' TL.y rfl rfl rfl ?hy23 ?_
      case hy23 => first | exact Yl.field0 (k := 0) 1 rfl rfl Try.underlying67 rfl (by kernel_rfl) rfl | exact Yl.field (k := 0) 1 rfl rfl Try.underlying67 rfl (by kernel_rfl) rfl
      refine' TL.y rfl rfl rfl ?hy24 ?_
      case hy24 => exact Yl.load rfl rfl (by kernel_rfl) (by first | exact Hp.rowAtI mem0 (by omega) | exact Hp.cell mem0 rfl | exact Hp.cell mem1 rfl | exact Hp.cell mem2 rfl | exact Hp.cell mem3 rfl | exact Hp.cell mem4 rfl | exact Hp.cell mem5 rfl | exact Hp.cell mem6 rfl | exact Hp.rowAt mem0 (by omega) rfl | exact Hp.rowAt mem1 (by omega) rfl | exact Hp.rowAt mem2 (by omega) rfl | exact Hp.rowAt mem3 (by omega) rfl | exact Hp.rowAt mem4 (by omega) rfl | exact Hp.rowAt mem5 (by omega) rfl | exact Hp.rowAt mem6 (by omega) rfl)
      refine' TL.y rfl rfl rfl ?hy25 ?_
      case hy25 => exact Yl.move rfl rfl
      refine' TL.c rfl rfl rfl ?hy26 ?_
      case hy26 => exact Yc.call rfl Try.func40 (by kernel_rfl) rfl rfl (Hp.turnx mem3 (fun s => foc3) (k_drop hTi _))
      intro ⟨st2, hT2⟩
      refine TL.nil ?_
      refine TE.inNormal ?_
      refine TE.next ?_
      refine TC.region ?_
      refine' TL.y rfl rfl rfl ?hy27 ?_
      case hy27 => first | (refine Yl.val (Yl.bin rfl rfl rfl (Bin.add _ _ _ _)) (congrArg (Value.int .i64) (i64in ?_ ?_)) <;> omega) | exact Yl.bin rfl rfl rfl (Bin.add _ _ _ _)
      refine' TL.y rfl rfl rfl ?hy28 ?_
      case hy28 => exact Yl.move rfl rfl
      refine TL.nil ?_
      refine TE.round (i + 1, st2) ?hF29 ?hlt29 ?hs29 ?hm29
      case hF29 => exact ⟨by dsimp only; omega, by
        dsimp only
        rw [gI_take hil, ← offs_snoc _ _ (pgs_bd hil)]; exact hT2⟩
      case hlt29 => dsimp only; omega
      case hs29 => exact ⟨rfl, rfl, rfl, rfl, rfl, rfl, rfl, trivial⟩
      case hm29 => exact fun w h => h
    · skip
      (try simp only [nrm] at hs23)
      refine TC.exit ?_
      refine TE.thenExit ?_
      refine TE.thenExit ?_
      refine TE.inHere ?_
      refine TE.next ?_
      refine TC.seq ?_
      refine TC.region ?_
      refine' TL.y rfl rfl rfl ?hy30 ?_
      case hy30 => exact Yl.move rfl rfl
      refine' TL.y rfl rfl rfl ?hy31 ?_
      case hy31 => exact Yl.move rfl rfl
      refine' TL.y rfl rfl rfl ?hy32 ?_
      case hy32 => exact Yl.nilCheck rfl rfl
      refine' TL.y rfl rfl rfl ?hy33 ?_
      case hy33 => first | exact Yl.field0 (k := 0) 0 rfl rfl Try.underlying67 rfl (by kernel_rfl) rfl | exact Yl.field (k := 0) 0 rfl rfl Try.underlying67 rfl (by kernel_rfl) rfl
      refine' TL.y rfl rfl rfl ?hy34 ?_
      case hy34 => exact Yl.load rfl rfl (by kernel_rfl) (by first | exact Hp.rowAtI mem0 (by omega) | exact Hp.cell mem0 rfl | exact Hp.cell mem1 rfl | exact Hp.cell mem2 rfl | exact Hp.cell mem3 rfl | exact Hp.cell mem4 rfl | exact Hp.cell mem5 rfl | exact Hp.cell mem6 rfl | exact Hp.rowAt mem0 (by omega) rfl | exact Hp.rowAt mem1 (by omega) rfl | exact Hp.rowAt mem2 (by omega) rfl | exact Hp.rowAt mem3 (by omega) rfl | exact Hp.rowAt mem4 (by omega) rfl | exact Hp.rowAt mem5 (by omega) rfl | exact Hp.rowAt mem6 (by omega) rfl)
      refine' TL.y rfl rfl rfl ?hy35 ?_
      case hy35 => exact Yl.move rfl rfl
      refine' TL.y rfl rfl rfl ?hy36 ?_
      case hy36 => exact Yl.move rfl rfl
      refine' TL.c rfl rfl rfl ?hy37 ?_
      case hy37 => exact Yc.call rfl Try.func41 (by kernel_rfl) rfl rfl (Hp.news (fun w h => k_gcut w (Hp.rowGsl mem2 w h) (by omega) a t))
      intro v40
      refine TL.fact (fun w h => Hp.rowGsh mem0 w h) ?_
      rintro ⟨A40, c40, rfl⟩
      refine' TL.y rfl rfl rfl ?hy38 ?_
      case hy38 => exact Yl.nilCheck rfl rfl
      refine' TL.y rfl rfl rfl ?hy39 ?_
      case hy39 => first | exact Yl.field0 (k := 0) 0 rfl rfl Try.underlying67 rfl (by kernel_rfl) rfl | exact Yl.field (k := 0) 0 rfl rfl Try.underlying67 rfl (by kernel_rfl) rfl
      refine' TL.s rfl rfl ?hy40 ?_
      case hy40 => exact Ys.store (seg := [.slice A40 (cutL u.G a t).length c40]) (c' := #[.slice A40 (cutL u.G a t).length c40, .pointer (some ⟨b, 0, none⟩)]) rfl rfl rfl (by simp [Value.cells]) (by kernel_rfl) (by simp [Value.oneCell']) foc2 (by simp [Value.cells]) rfl
      refine TL.nil ?_
      refine TE.next ?_
      refine TC.seq ?_
      refine TC.region ?_
      refine' TL.y rfl rfl rfl ?hy41 ?_
      case hy41 => exact Yl.move rfl rfl
      refine' TL.y rfl rfl rfl ?hy42 ?_
      case hy42 => exact Yl.assign rfl rfl
      refine TL.nil ?_
      refine TE.next ?_
      refine TC.ret ?_
      refine TE.ret1 rfl rfl ?_
      have hi2 : i = (pgsE u a t).length := by omega
      rw [hi2, List.take_length, enc_cut hu] at hTi
      exact fun w h => ⟨⟨(v13, ⟨s', .slice A40 (cutL u.G a t).length c40, b, sti⟩), ⟨rfl, hTi, scut_ok hu a t⟩⟩, rfl, ((((Hp.sub h (H' := [rowG (.slice A40 (cutL u.G a t).length c40) (cutL u.G a t), blk s' (.cells #[.slice A40 (cutL u.G a t).length c40, .pointer (some ⟨b, 0, none⟩)] 67 (0, 0)), tabR sti, rowI v13 (idsL u a t)]) (by repeat (first | exact sR _ | exact sN _ | apply sK | apply sC))).swap.tostar.tostar).swap).tostar).leave⟩
set_option maxRecDepth 100000 in
set_option maxHeartbeats 2000000 in
theorem k_srest {x : Sp} {u : SS} {s : Nat} (hx : x.Is u s) : Turns Try.prog 20 #[.pointer (some ⟨s, 0, none⟩)] (spR x u) (σ := {z : Sp // z.Is (srest u) s}) (fun p => .int .i64 (restC u : Nat)) (fun p => spR p.1 (srest u)) := by
  intro W hR
  obtain ⟨hxs, hT, hu⟩ := hx
  obtain ⟨s', v, b, st⟩ := x
  obtain rfl : s' = s := hxs
  obtain ⟨A, c, hv, hcp, hS, hb, hRep⟩ := spR_open hR
  obtain rfl : v = .slice A u.G.length c := hv
  dsimp only at hT hb hRep
  have hlen := hu.len
  have hM : Hp W (spR ⟨s', .slice A u.G.length c, b, st⟩ u).foot [blk s' (.cells #[.slice A u.G.length c, .pointer (some ⟨b, 0, none⟩)] 67 (0, 0)), rowG (.slice A u.G.length c) u.G, tabR st] W := (Hp.enter hR).unstar.unstar
  refine TC.enter (n := 46) Try.func20 rfl rfl rfl hM ?_
  refine TC.seq ?_
  refine TC.region ?_
  refine' TL.y rfl rfl rfl ?hy1 ?_
  case hy1 => exact Yl.assign rfl rfl
  refine TL.nil ?_
  refine TE.next ?_
  refine TC.seq ?_
  refine TC.region ?_
  refine' TL.y rfl rfl rfl ?hy2 ?_
  case hy2 => exact Yl.assign rfl rfl
  refine TL.nil ?_
  refine TE.next ?_
  refine TC.seq ?_
  refine TC.seq ?_
  refine TC.region ?_
  refine' TL.y rfl rfl rfl ?hy3 ?_
  case hy3 => exact Yl.move rfl rfl
  refine' TL.y rfl rfl rfl ?hy4 ?_
  case hy4 => exact Yl.nilCheck rfl rfl
  refine' TL.y rfl rfl rfl ?hy5 ?_
  case hy5 => first | exact Yl.field0 (k := 0) 1 rfl rfl Try.underlying67 rfl (by kernel_rfl) rfl | exact Yl.field (k := 0) 1 rfl rfl Try.underlying67 rfl (by kernel_rfl) rfl
  refine' TL.y rfl rfl rfl ?hy6 ?_
  case hy6 => exact Yl.load rfl rfl (by kernel_rfl) (by first | exact Hp.rowAtI mem0 (by omega) | exact Hp.cell mem0 rfl | exact Hp.cell mem1 rfl | exact Hp.cell mem2 rfl | exact Hp.cell mem3 rfl | exact Hp.cell mem4 rfl | exact Hp.rowAt mem0 (by omega) rfl | exact Hp.rowAt mem1 (by omega) rfl | exact Hp.rowAt mem2 (by omega) rfl | exact Hp.rowAt mem3 (by omega) rfl | exact Hp.rowAt mem4 (by omega) rfl)
  refine' TL.c rfl rfl rfl ?hy7 ?_
  case hy7 => exact Yc.call rfl Try.func39 (by kernel_rfl) rfl rfl (Hp.news (fun w h => k_walkE w (h.all _ mem2) hT 0 65536))
  intro v14
  refine TL.fact (fun w h => Hp.rowShape mem0 w h) ?_
  rintro ⟨A14, c14, rfl⟩
  refine' TL.y rfl rfl rfl ?hy8 ?_
  case hy8 => exact Yl.len rfl rfl Try.underlying36
  refine' TL.y rfl rfl rfl ?hy9 ?_
  case hy9 => exact Yl.move rfl rfl
  refine TL.nil ?_
  refine TE.next ?_
  refine TC.block ?_
  refine TC.loop (σ := Nat × St) (fun q => [(0, .pointer (some ⟨s', 0, none⟩)), (3, .int .i64 ((((pgsE u 0 65536).take (q.1)).filter (tchd u)).length : Int)), (14, .slice A14 (pgsE u 0 65536).length c14), (15, .int .i64 ((pgsE u 0 65536).length : Int)), (16, .int .i64 (q.1 : Int))]) (fun q => Hp W (spR ⟨s', .slice A u.G.length c, b, st⟩ u).foot [rowI (.slice A14 (pgsE u 0 65536).length c14) (pgsE u 0 65536), blk s' (.cells #[.slice A u.G.length c, .pointer (some ⟨b, 0, none⟩)] 67 (0, 0)), rowG (.slice A u.G.length c) u.G, tabR q.2]) (fun q => q.1 ≤ (pgsE u 0 65536).length ∧ Tab q.2 (encF (restL u ((pgsE u 0 65536).take q.1))) b) (fun q => (pgsE u 0 65536).length - q.1) (0, st) ?hF10 ?hs10 ?hm10 ?round10
  case hF10 => exact ⟨Nat.zero_le _, by dsimp only; rw [List.take_zero, restL_nil]; exact hT⟩
  case hs10 => exact ⟨rfl, rfl, rfl, rfl, rfl, trivial⟩
  case hm10 => exact fun w h => h
  case round10 =>
    rintro ⟨i, sti⟩ ⟨hi, hTi⟩
    dsimp only at hi hTi ⊢
    have hpl := pgs_len2 u 0 65536
    have hcl : (((pgsE u 0 65536).take i).filter (tchd u)).length ≤ i := Nat.le_trans (List.length_filter_le _ _) (List.length_take_le _ _)
    refine TC.seq ?_
    refine TC.region ?_
    refine' TL.y rfl rfl rfl ?hy11 ?_
    case hy11 => exact Yl.bin rfl rfl rfl (Bin.lss _ _ _ _)
    refine TL.nil ?_
    refine TE.next ?_
    refine TC.seq ?_
    refine TC.cond rfl (fun hs17 => ?_) (fun hs17 => ?_)
    · skip
      (try simp only [nrm] at hs17)
      have hil : i < (pgsE u 0 65536).length := by omega
      refine TC.fact (fun w h => Hp.rowSome mem0 (by omega) w h) ?_
      rintro ⟨g14, rfl⟩
      obtain ⟨en, he⟩ := pgs_get hil
      have hgt : gt (encF (restL u ((pgsE u 0 65536).take i))) (gI (pgsE u 0 65536) i) = some (encE en) := (gt_enc ⟨u.G, restL u ((pgsE u 0 65536).take i)⟩ _).trans (by rw [restL_get (gI_new hil), he]; rfl)
      refine TC.skip ?_
      refine TE.next ?_
      refine TC.seq ?_
      refine TC.block ?_
      refine TC.seq ?_
      refine TC.region ?_
      refine' TL.y rfl rfl rfl ?hy12 ?_
      case hy12 => exact Yl.ixn rfl rfl rfl Try.underlying36 (by kernel_rfl) (by omega)
      refine' TL.y rfl rfl rfl ?hy13 ?_
      case hy13 => exact Yl.load rfl rfl (by kernel_rfl) (by first | exact Hp.rowAtI mem0 (by omega) | exact Hp.cell mem0 rfl | exact Hp.cell mem1 rfl | exact Hp.cell mem2 rfl | exact Hp.cell mem3 rfl | exact Hp.cell mem4 rfl | exact Hp.rowAt mem0 (by omega) rfl | exact Hp.rowAt mem1 (by omega) rfl | exact Hp.rowAt mem2 (by omega) rfl | exact Hp.rowAt mem3 (by omega) rfl | exact Hp.rowAt mem4 (by omega) rfl)
      refine' TL.y rfl rfl rfl ?hy14 ?_
      case hy14 => exact Yl.assign rfl rfl
      refine TL.nil ?_
      refine TE.next ?_
      refine TC.seq ?_
      refine TC.region ?_
      refine' TL.y rfl rfl rfl ?hy15 ?_
      case hy15 => exact Yl.move rfl rfl
      refine' TL.y rfl rfl rfl ?hy16 ?_
      case hy16 => exact Yl.nilCheck rfl rfl
      refine' TL.y rfl rfl rfl ?hy17 ?_
      case hy17 => first | exact Yl.field0 (k := 0) 1 rfl rfl Try.underlying67 rfl (by kernel_rfl) rfl | exact Yl.field (k := 0) 1 rfl rfl Try.underlying67 rfl (by kernel_rfl) rfl
      refine' TL.y rfl rfl rfl ?hy18 ?_
      case hy18 => exact Yl.load rfl rfl (by kernel_rfl) (by first | exact Hp.rowAtI mem0 (by omega) | exact Hp.cell mem0 rfl | exact Hp.cell mem1 rfl | exact Hp.cell mem2 rfl | exact Hp.cell mem3 rfl | exact Hp.cell mem4 rfl | exact Hp.rowAt mem0 (by omega) rfl | exact Hp.rowAt mem1 (by omega) rfl | exact Hp.rowAt mem2 (by omega) rfl | exact Hp.rowAt mem3 (by omega) rfl | exact Hp.rowAt mem4 (by omega) rfl)
      refine' TL.y rfl rfl rfl ?hy19 ?_
      case hy19 => exact Yl.move rfl rfl
      refine' TL.c rfl rfl rfl ?hy20 ?_
      case hy20 => exact Yc.call rfl Try.func42 (by kernel_rfl) rfl rfl (Hp.calls (fun w h => k_getT w (h.all _ mem3) hTi _))
      intro _
      rw [hgt]
      dsimp only [Option.getD_some, Option.isSome_some]
      refine' TL.y rfl rfl rfl ?hy21 ?_
      case hy21 => exact Yl.move rfl rfl
      refine' TL.y rfl rfl rfl ?hy22 ?_
      case hy22 => exact Yl.extract rfl rfl rfl
      refine' TL.y rfl rfl rfl ?hy23 ?_
      case hy23 => exact Yl.extract rfl rfl rfl
      refine' TL.y rfl rfl rfl ?hy24 ?_
      case hy24 => exact Yl.assign rfl rfl
      refine' TL.y rfl rfl rfl ?hy25 ?_
      case hy25 => exact Yl.assign rfl rfl
      refine TL.nil ?_
      refine TE.next ?_
      refine TC.seq ?_
      refine TC.region ?_
      refine' TL.y rfl rfl rfl ?hy26 ?_
      case hy26 => exact Yl.move rfl rfl
      refine' TL.c rfl rfl rfl ?hy27 ?_
      case hy27 => exact Yc.call rfl Try.func49 (by kernel_rfl) rfl rfl (Hp.calls (fun w h => k_erest w (gE_ok hu he)))
      intro _
      refine' TL.y rfl rfl rfl ?hy28 ?_
      case hy28 => exact Yl.move rfl rfl
      refine' TL.y rfl rfl rfl ?hy29 ?_
      case hy29 => exact Yl.extract rfl rfl rfl
      refine' TL.y rfl rfl rfl ?hy30 ?_
      case hy30 => exact Yl.extract rfl rfl rfl
      refine' TL.y rfl rfl rfl ?hy31 ?_
      case hy31 => exact Yl.assign rfl rfl
      refine' TL.y rfl rfl rfl ?hy32 ?_
      case hy32 => exact Yl.assign rfl rfl
      refine TL.nil ?_
      refine TE.next ?_
      refine TC.seq ?_
      refine TC.region ?_
      refine' TL.y rfl rfl rfl ?hy33 ?_
      case hy33 => exact Yl.move rfl rfl
      refine TL.nil ?_
      refine TE.next ?_
      refine TC.cond rfl (fun hs34 => ?_) (fun hs34 => ?_)
      · skip
        (try simp only [nrm] at hs34)
        have htd : tchd u (gI (pgsE u 0 65536) i) = true := by unfold tchd; rw [he]; simpa using hs34
        have hcn : ((((pgsE u 0 65536).take (i + 1)).filter (tchd u)).length : Int) = ((((pgsE u 0 65536).take (i)).filter (tchd u)).length : Int) + 1 := by rw [gI_take hil, List.filter_append, List.length_append]; simp [htd]
        refine TC.seq ?_
        refine TC.region ?_
        refine' TL.y rfl rfl rfl ?hy34 ?_
        case hy34 => exact Yl.move rfl rfl
        refine' TL.y rfl rfl rfl ?hy35 ?_
        case hy35 => exact Yl.nilCheck rfl rfl
        refine' TL.y rfl rfl rfl ?hy36 ?_
        case hy36 => first | exact Yl.field0 (k := 0) 1 rfl rfl Try.underlying67 rfl (by kernel_rfl) rfl | exact Yl.field (k := 0) 1 rfl rfl Try.underlying67 rfl (by kernel_rfl) rfl
        refine' TL.y rfl rfl rfl ?hy37 ?_
        case hy37 => exact Yl.load rfl rfl (by kernel_rfl) (by first | exact Hp.rowAtI mem0 (by omega) | exact Hp.cell mem0 rfl | exact Hp.cell mem1 rfl | exact Hp.cell mem2 rfl | exact Hp.cell mem3 rfl | exact Hp.cell mem4 rfl | exact Hp.rowAt mem0 (by omega) rfl | exact Hp.rowAt mem1 (by omega) rfl | exact Hp.rowAt mem2 (by omega) rfl | exact Hp.rowAt mem3 (by omega) rfl | exact Hp.rowAt mem4 (by omega) rfl)
        refine' TL.y rfl rfl rfl ?hy38 ?_
        case hy38 => exact Yl.move rfl rfl
        refine' TL.y rfl rfl rfl ?hy39 ?_
        case hy39 => exact Yl.move rfl rfl
        refine' TL.c rfl rfl rfl ?hy40 ?_
        case hy40 => exact Yc.call rfl Try.func37 (by kernel_rfl) rfl rfl (Hp.turnx mem3 (fun s => foc3) (k_set hTi _ _))
        intro ⟨st2, hT2⟩
        refine TL.nil ?_
        refine TE.next ?_
        refine TC.region ?_
        refine' TL.y rfl rfl rfl ?hy41 ?_
        case hy41 => exact Yl.move rfl rfl
        refine' TL.y rfl rfl rfl ?hy42 ?_
        case hy42 => first | (refine Yl.val (Yl.bin rfl rfl rfl (Bin.add _ _ _ _)) (congrArg (Value.int .i64) (i64in ?_ ?_)) <;> omega) | exact Yl.bin rfl rfl rfl (Bin.add _ _ _ _)
        refine TL.re (i := 43) (v' := .int .i64 ((((pgsE u 0 65536).take (i + 1)).filter (tchd u)).length : Int)) rfl (congrArg (Value.int .i64) hcn.symm) ?_
        refine' TL.y rfl rfl rfl ?hy43 ?_
        case hy43 => exact Yl.assign rfl rfl
        refine TL.nil ?_
        refine TE.inNormal ?_
        refine TE.next ?_
        refine TC.region ?_
        refine' TL.y rfl rfl rfl ?hy44 ?_
        case hy44 => first | (refine Yl.val (Yl.bin rfl rfl rfl (Bin.add _ _ _ _)) (congrArg (Value.int .i64) (i64in ?_ ?_)) <;> omega) | exact Yl.bin rfl rfl rfl (Bin.add _ _ _ _)
        refine' TL.y rfl rfl rfl ?hy45 ?_
        case hy45 => exact Yl.move rfl rfl
        refine TL.nil ?_
        refine TE.round (i + 1, st2) ?hF46 ?hlt46 ?hs46 ?hm46
        case hF46 => exact ⟨by dsimp only; omega, by
          dsimp only
          rw [gI_take hil, ← restL_set he]; exact hT2⟩
        case hlt46 => dsimp only; omega
        case hs46 => exact ⟨rfl, rfl, rfl, rfl, rfl, trivial⟩
        case hm46 => exact fun w h => h
      · skip
        (try simp only [nrm] at hs34)
        have htd : tchd u (gI (pgsE u 0 65536) i) = false := by unfold tchd; rw [he]; simpa using hs34
        have hcn : ((((pgsE u 0 65536).take (i + 1)).filter (tchd u)).length : Int) = ((((pgsE u 0 65536).take (i)).filter (tchd u)).length : Int) := by rw [gI_take hil, List.filter_append, List.length_append]; simp [htd]
        rw [← hcn]
        refine TC.skip ?_
        refine TE.inNormal ?_
        refine TE.next ?_
        refine TC.region ?_
        refine' TL.y rfl rfl rfl ?hy47 ?_
        case hy47 => first | (refine Yl.val (Yl.bin rfl rfl rfl (Bin.add _ _ _ _)) (congrArg (Value.int .i64) (i64in ?_ ?_)) <;> omega) | exact Yl.bin rfl rfl rfl (Bin.add _ _ _ _)
        refine' TL.y rfl rfl rfl ?hy48 ?_
        case hy48 => exact Yl.move rfl rfl
        refine TL.nil ?_
        refine TE.round (i + 1, sti) ?hF49 ?hlt49 ?hs49 ?hm49
        case hF49 => exact ⟨by dsimp only; omega, by
          dsimp only
          rw [gI_take hil, restL_same he (by simpa using hs34)]; exact hTi⟩
        case hlt49 => dsimp only; omega
        case hs49 => exact ⟨rfl, rfl, rfl, rfl, rfl, trivial⟩
        case hm49 => exact fun w h => h
    · skip
      (try simp only [nrm] at hs17)
      refine TC.exit ?_
      refine TE.thenExit ?_
      refine TE.thenExit ?_
      refine TE.inHere ?_
      refine TE.next ?_
      refine TC.seq ?_
      refine TC.region ?_
      refine' TL.y rfl rfl rfl ?hy50 ?_
      case hy50 => exact Yl.move rfl rfl
      refine' TL.y rfl rfl rfl ?hy51 ?_
      case hy51 => exact Yl.assign rfl rfl
      refine TL.nil ?_
      refine TE.next ?_
      refine TC.ret ?_
      refine TE.ret1 rfl rfl ?_
      have hi2 : i = (pgsE u 0 65536).length := by omega
      rw [hi2, List.take_length, restL_all hu] at hTi
      exact fun w h => ⟨⟨⟨s', .slice A u.G.length c, b, sti⟩, ⟨rfl, hTi, srest_ok hu⟩⟩, by rw [hi2, List.take_length]; rfl, ((Hp.sub h (H' := [blk s' (.cells #[.slice A u.G.length c, .pointer (some ⟨b, 0, none⟩)] 67 (0, 0)), rowG (.slice A u.G.length c) u.G, tabR sti]) (by repeat (first | exact sR _ | exact sN _ | apply sK | apply sC))).tostar.tostar).leave⟩
end Go.Proofs.Ytabjdjkkpbkpfaa.Pk
