/- The document's space: cut, and rested. -/
import Derived.Test.YtabjdjkkpbkpfaaSrF
import Derived.Test.YtabjdjkkpbkpfaaSpG
import Derived.Test.YtabjdjkkpbkpfaaProg
import Derived.RowKit3
namespace Go.Proofs.Ytabjdjkkpbkpfaa.Pk
open Go Go.RowKit Go.Proofs.Ytabjdjkkpbkpfaa.HL Go.Proofs.Ytabjdjkkpbkpfaa.Ev Go.Proofs.YtabjdjkkpbkpfaaW.PrintWords Go.Proofs.RgP Go.Proofs.RxP Go.Proofs.Ytabjdjkkpbkpfaa.BM
set_option linter.unusedVariables false
set_option linter.unusedSimpArgs false
attribute [local irreducible] Rw atG ents Iw Pw at_ restQ
set_option maxRecDepth 100000 in
set_option maxHeartbeats 2000000 in
theorem k_dcut {x : Dp} {u : SS} {s : Nat} (hx : x.Is u s) (a t : Int) : Turns Try.prog 23 #[.pointer (some ⟨s, 0, none⟩), .int .i64 a, .int .i64 t] (dpR x u) (σ := {z : Value × Dp // z.2.Is (scut u a t) s}) (fun p => p.1.1) (fun p => star (rowI p.1.1 (idsL u a t)) (dpR p.1.2 (scut u a t))) := by
  intro W hR
  have hx0 := hx
  obtain ⟨hxs, hu⟩ := hx
  obtain ⟨s', v, b, wv⟩ := x
  obtain rfl : s' = s := hxs
  obtain ⟨A, c, hv, hcp, hS, hb, hRf⟩ := dpR_open hR
  obtain rfl : v = .slice A u.G.length c := hv
  dsimp only at hb hRf
  have hlen := hu.len
  have hM : Hp W (dpR ⟨s', .slice A u.G.length c, b, wv⟩ u).foot [dpR ⟨s', .slice A u.G.length c, b, wv⟩ u] W := Hp.enter hR
  refine TC.enter (n := 47) Try.func23 rfl rfl rfl hM ?_
  refine TC.seq ?_
  refine TC.region ?_
  refine' TL.y rfl rfl rfl ?hy1 ?_
  case hy1 => exact Yl.assign rfl rfl
  refine TL.nil ?_
  refine TE.next ?_
  refine TC.seq ?_
  refine TC.region ?_
  refine' TL.y rfl rfl rfl ?hy2 ?_
  case hy2 => exact Yl.move rfl rfl
  refine' TL.y rfl rfl rfl ?hy3 ?_
  case hy3 => exact Yl.move rfl rfl
  refine' TL.y rfl rfl rfl ?hy4 ?_
  case hy4 => exact Yl.move rfl rfl
  refine' TL.c rfl rfl rfl ?hy5 ?_
  case hy5 => exact Yc.call rfl Try.func33 (by kernel_rfl) rfl rfl (Hp.news (fun w h => k_dids w (h.all _ mem0) hx0 a t))
  intro v13
  refine TL.wk (M' := Hp W (dpR ⟨s', .slice A u.G.length c, b, wv⟩ u).foot [blk s' (.cells #[.slice A u.G.length c, .pointer (some ⟨b, 0, none⟩)] 56 (0, 0)), rowG (.slice A u.G.length c) u.G, Rf b wv (encF u.E), rowI v13 (idsL u a t)]) (fun w h => h.swap.unstar.unstar) ?_
  refine' TL.y rfl rfl rfl ?hy6 ?_
  case hy6 => exact Yl.assign rfl rfl
  refine TL.nil ?_
  refine TE.next ?_
  refine TC.seq ?_
  refine TC.region ?_
  refine' TL.y rfl rfl rfl ?hy7 ?_
  case hy7 => exact Yl.move rfl rfl
  refine' TL.y rfl rfl rfl ?hy8 ?_
  case hy8 => exact Yl.nilCheck rfl rfl
  refine' TL.y rfl rfl rfl ?hy9 ?_
  case hy9 => first | exact Yl.field0 (k := 0) 1 rfl rfl Try.underlying56 rfl (by kernel_rfl) rfl | exact Yl.field (k := 0) 1 rfl rfl Try.underlying56 rfl (by kernel_rfl) rfl
  refine' TL.y rfl rfl rfl ?hy10 ?_
  case hy10 => exact Yl.load rfl rfl (by kernel_rfl) (by first | exact Hp.rowAtI mem0 (by omega) | exact Hp.cell mem0 rfl | exact Hp.cell mem1 rfl | exact Hp.cell mem2 rfl | exact Hp.cell mem3 rfl | exact Hp.cell mem4 rfl | exact Hp.cell mem5 rfl | exact Hp.cell mem6 rfl | exact Hp.rowAt mem0 (by omega) rfl | exact Hp.rowAt mem1 (by omega) rfl | exact Hp.rowAt mem2 (by omega) rfl | exact Hp.rowAt mem3 (by omega) rfl | exact Hp.rowAt mem4 (by omega) rfl | exact Hp.rowAt mem5 (by omega) rfl | exact Hp.rowAt mem6 (by omega) rfl)
  refine' TL.y rfl rfl rfl ?hy11 ?_
  case hy11 => exact Yl.move rfl rfl
  refine' TL.y rfl rfl rfl ?hy12 ?_
  case hy12 => exact Yl.move rfl rfl
  refine' TL.c rfl rfl rfl ?hy13 ?_
  case hy13 => exact Yc.call rfl Try.func51 (by kernel_rfl) rfl rfl (Hp.news (fun w h => k_dwalkE w (h.all _ mem2) a t))
  intro v20
  refine TL.fact (fun w h => Hp.rowShape mem0 w h) ?_
  rintro ⟨A20, c20, rfl⟩
  refine' TL.y rfl rfl rfl ?hy14 ?_
  case hy14 => exact Yl.assign rfl rfl
  refine TL.nil ?_
  refine TE.next ?_
  refine TC.seq ?_
  refine TC.seq ?_
  refine TC.region ?_
  refine' TL.y rfl rfl rfl ?hy15 ?_
  case hy15 => exact Yl.assign rfl rfl
  refine TL.nil ?_
  refine TE.next ?_
  refine TC.block ?_
  refine TC.loop (σ := Nat × Value) (fun q => [(0, .pointer (some ⟨s', 0, none⟩)), (1, .int .i64 a), (2, .int .i64 t), (7, v13), (8, .slice A20 (pgsE u a t).length c20), (9, .int .i64 (q.1 : Int))]) (fun q => Hp W (dpR ⟨s', .slice A u.G.length c, b, wv⟩ u).foot [rowI (.slice A20 (pgsE u a t).length c20) (pgsE u a t), blk s' (.cells #[.slice A u.G.length c, .pointer (some ⟨b, 0, none⟩)] 56 (0, 0)), rowG (.slice A u.G.length c) u.G, Rf b q.2 (offs (encF u.E) ((pgsE u a t).take q.1)), rowI v13 (idsL u a t)]) (fun q => q.1 ≤ (pgsE u a t).length) (fun q => (pgsE u a t).length - q.1) (0, wv) ?hF16 ?hs16 ?hm16 ?round16
  case hF16 => exact Nat.zero_le _
  case hs16 => exact ⟨rfl, rfl, rfl, rfl, rfl, rfl, trivial⟩
  case hm16 => exact fun w h => by dsimp only; rw [List.take_zero, offs_nil]; exact h
  case round16 =>
    rintro ⟨i, wi⟩ hi
    dsimp only at hi ⊢
    have hpl := pgs_len2 u a t
    refine TC.seq ?_
    refine TC.seq ?_
    refine TC.region ?_
    refine' TL.y rfl rfl rfl ?hy17 ?_
    case hy17 => exact Yl.move rfl rfl
    refine' TL.y rfl rfl rfl ?hy18 ?_
    case hy18 => exact Yl.move rfl rfl
    refine' TL.y rfl rfl rfl ?hy19 ?_
    case hy19 => exact Yl.len rfl rfl Try.underlying36
    refine' TL.y rfl rfl rfl ?hy20 ?_
    case hy20 => exact Yl.bin rfl rfl rfl (Bin.lss _ _ _ _)
    refine TL.nil ?_
    refine TE.next ?_
    refine TC.cond rfl (fun hs24 => ?_) (fun hs24 => ?_)
    · skip
      (try simp only [nrm] at hs24)
      have hil : i < (pgsE u a t).length := by omega
      refine TC.fact (fun w h => Hp.rowSome mem0 (by omega) w h) ?_
      rintro ⟨g20, rfl⟩
      refine TC.skip ?_
      refine TE.next ?_
      refine TC.seq ?_
      refine TC.block ?_
      refine TC.draw (k := 9) (Hp W (dpR ⟨s', .slice A u.G.length c, b, wv⟩ u).foot [rowI (.slice (some ⟨g20, 0, none⟩) (pgsE u a t).length c20) (pgsE u a t), blk s' (.cells #[.slice A u.G.length c, .pointer (some ⟨b, 0, none⟩)] 56 (0, 0))]) [] #[false, false, false, false, false, false, false, false, false] (by kernel_rfl) rfl rfl (fun _ h => h.drew) (fun _ h => by exact Hp.sub h (by repeat (first | exact sR _ | exact sN _ | apply sK | apply sC))) ?_
      refine' TA.y (i := 0) #[true, false, false, false, false, false, false, false, false] rfl rfl rfl (by kernel_rfl) (fun _ _ _ h => h) (fun _ h => by exact Hp.sub h (by repeat (first | exact sR _ | exact sN _ | apply sK | apply sC))) rfl ?hy21 ?_
      case hy21 => exact Yl.move rfl rfl
      refine' TA.y (i := 1) #[true, true, false, false, false, false, false, false, false] rfl rfl rfl (by kernel_rfl) (fun _ _ _ h => h) (fun _ h => by exact Hp.sub h (by repeat (first | exact sR _ | exact sN _ | apply sK | apply sC))) rfl ?hy22 ?_
      case hy22 => exact Yl.nilCheck rfl rfl
      refine' TA.y (i := 2) #[true, true, true, false, false, false, false, false, false] rfl rfl rfl (by kernel_rfl) (fun _ _ _ h => h) (fun _ h => by exact Hp.sub h (by repeat (first | exact sR _ | exact sN _ | apply sK | apply sC))) rfl ?hy23 ?_
      case hy23 => first | exact Yl.field0 (k := 0) 1 rfl rfl Try.underlying56 rfl (by kernel_rfl) rfl | exact Yl.field (k := 0) 1 rfl rfl Try.underlying56 rfl (by kernel_rfl) rfl
      refine' TA.y (i := 3) #[true, true, true, true, false, false, false, false, false] rfl rfl rfl (by kernel_rfl) (fun _ _ _ h => h) (fun _ h => by exact Hp.sub h (by repeat (first | exact sR _ | exact sN _ | apply sK | apply sC))) rfl ?hy24 ?_
      case hy24 => exact Yl.load rfl rfl (by kernel_rfl) (by first | exact Hp.rowAtI mem0 (by omega) | exact Hp.cell mem0 rfl | exact Hp.cell mem1 rfl | exact Hp.cell mem2 rfl | exact Hp.cell mem3 rfl | exact Hp.cell mem4 rfl | exact Hp.cell mem5 rfl | exact Hp.cell mem6 rfl | exact Hp.rowAt mem0 (by omega) rfl | exact Hp.rowAt mem1 (by omega) rfl | exact Hp.rowAt mem2 (by omega) rfl | exact Hp.rowAt mem3 (by omega) rfl | exact Hp.rowAt mem4 (by omega) rfl | exact Hp.rowAt mem5 (by omega) rfl | exact Hp.rowAt mem6 (by omega) rfl)
      refine' TA.y (i := 4) #[true, true, true, true, true, false, false, false, false] rfl rfl rfl (by kernel_rfl) (fun _ _ _ h => h) (fun _ h => by exact Hp.sub h (by repeat (first | exact sR _ | exact sN _ | apply sK | apply sC))) rfl ?hy25 ?_
      case hy25 => exact Yl.move rfl rfl
      refine' TA.y (i := 5) #[true, true, true, true, true, true, false, false, false] rfl rfl rfl (by kernel_rfl) (fun _ _ _ h => h) (fun _ h => by exact Hp.sub h (by repeat (first | exact sR _ | exact sN _ | apply sK | apply sC))) rfl ?hy26 ?_
      case hy26 => exact Yl.move rfl rfl
      refine' TA.y (i := 6) #[true, true, true, true, true, true, true, false, false] rfl rfl rfl (by kernel_rfl) (fun _ _ _ h => h) (fun _ h => by exact Hp.sub h (by repeat (first | exact sR _ | exact sN _ | apply sK | apply sC))) rfl ?hy27 ?_
      case hy27 => exact Yl.ixn rfl rfl rfl Try.underlying36 (by kernel_rfl) (by omega)
      refine' TA.y (i := 7) #[true, true, true, true, true, true, true, true, false] rfl rfl rfl (by kernel_rfl) (fun _ _ _ h => h) (fun _ h => by exact Hp.sub h (by repeat (first | exact sR _ | exact sN _ | apply sK | apply sC))) rfl ?hy28 ?_
      case hy28 => exact Yl.load rfl rfl (by kernel_rfl) (by first | exact Hp.rowAtI mem0 (by omega) | exact Hp.cell mem0 rfl | exact Hp.cell mem1 rfl | exact Hp.cell mem2 rfl | exact Hp.cell mem3 rfl | exact Hp.cell mem4 rfl | exact Hp.cell mem5 rfl | exact Hp.cell mem6 rfl | exact Hp.rowAt mem0 (by omega) rfl | exact Hp.rowAt mem1 (by omega) rfl | exact Hp.rowAt mem2 (by omega) rfl | exact Hp.rowAt mem3 (by omega) rfl | exact Hp.rowAt mem4 (by omega) rfl | exact Hp.rowAt mem5 (by omega) rfl | exact Hp.rowAt mem6 (by omega) rfl)
      refine' TA.c (i := 8) #[true, true, true, true, true, true, true, true, true] rfl rfl rfl (by kernel_rfl) (by decide) rfl ?hy29 ?hz29 ?_
      case hy29 => exact Yc.call rfl Try.func52 (by kernel_rfl) rfl rfl (Hp.turnx mem3 (fun s => foc3) (k_rdrop _))
      case hz29 => exact (fun _ _ h => by exact Hp.sub h (by repeat (first | exact sR _ | exact sN _ | apply sK | apply sC)))
      intro w2
      refine TA.done (by kernel_rfl) ?_
      refine TE.inNormal ?_
      refine TE.next ?_
      refine TC.region ?_
      refine' TL.y rfl rfl rfl ?hy30 ?_
      case hy30 => exact Yl.move rfl rfl
      refine' TL.y rfl rfl rfl ?hy31 ?_
      case hy31 => first | (refine Yl.val (Yl.bin rfl rfl rfl (Bin.add _ _ _ _)) (congrArg (Value.int .i64) (i64in ?_ ?_)) <;> omega) | exact Yl.bin rfl rfl rfl (Bin.add _ _ _ _)
      refine' TL.y rfl rfl rfl ?hy32 ?_
      case hy32 => exact Yl.assign rfl rfl
      refine TL.nil ?_
      refine TE.round (i + 1, w2) ?hF33 ?hlt33 ?hs33 ?hm33
      case hF33 => dsimp only; omega
      case hlt33 => dsimp only; omega
      case hs33 => exact ⟨rfl, rfl, rfl, rfl, rfl, rfl, trivial⟩
      case hm33 => exact fun w h => by dsimp only; rw [gI_take hil, ← offs_snoc _ _ (pgs_bd hil)]; exact h
    · skip
      (try simp only [nrm] at hs24)
      refine TC.exit ?_
      refine TE.thenExit ?_
      refine TE.thenExit ?_
      refine TE.inHere ?_
      refine TE.next ?_
      refine TC.seq ?_
      refine TC.region ?_
      refine' TL.y rfl rfl rfl ?hy34 ?_
      case hy34 => exact Yl.move rfl rfl
      refine' TL.y rfl rfl rfl ?hy35 ?_
      case hy35 => exact Yl.move rfl rfl
      refine' TL.y rfl rfl rfl ?hy36 ?_
      case hy36 => exact Yl.nilCheck rfl rfl
      refine' TL.y rfl rfl rfl ?hy37 ?_
      case hy37 => first | exact Yl.field0 (k := 0) 0 rfl rfl Try.underlying56 rfl (by kernel_rfl) rfl | exact Yl.field (k := 0) 0 rfl rfl Try.underlying56 rfl (by kernel_rfl) rfl
      refine' TL.y rfl rfl rfl ?hy38 ?_
      case hy38 => exact Yl.load rfl rfl (by kernel_rfl) (by first | exact Hp.rowAtI mem0 (by omega) | exact Hp.cell mem0 rfl | exact Hp.cell mem1 rfl | exact Hp.cell mem2 rfl | exact Hp.cell mem3 rfl | exact Hp.cell mem4 rfl | exact Hp.cell mem5 rfl | exact Hp.cell mem6 rfl | exact Hp.rowAt mem0 (by omega) rfl | exact Hp.rowAt mem1 (by omega) rfl | exact Hp.rowAt mem2 (by omega) rfl | exact Hp.rowAt mem3 (by omega) rfl | exact Hp.rowAt mem4 (by omega) rfl | exact Hp.rowAt mem5 (by omega) rfl | exact Hp.rowAt mem6 (by omega) rfl)
      refine' TL.y rfl rfl rfl ?hy39 ?_
      case hy39 => exact Yl.move rfl rfl
      refine' TL.y rfl rfl rfl ?hy40 ?_
      case hy40 => exact Yl.move rfl rfl
      refine' TL.c rfl rfl rfl ?hy41 ?_
      case hy41 => exact Yc.call rfl Try.func53 (by kernel_rfl) rfl rfl (Hp.news (fun w h => k_rcutG w (Hp.rowGsl mem2 w h) (by omega) a t))
      intro v43
      refine TL.fact (fun w h => Hp.rowGsh mem0 w h) ?_
      rintro ⟨A43, c43, rfl⟩
      refine' TL.y rfl rfl rfl ?hy42 ?_
      case hy42 => exact Yl.nilCheck rfl rfl
      refine' TL.y rfl rfl rfl ?hy43 ?_
      case hy43 => first | exact Yl.field0 (k := 0) 0 rfl rfl Try.underlying56 rfl (by kernel_rfl) rfl | exact Yl.field (k := 0) 0 rfl rfl Try.underlying56 rfl (by kernel_rfl) rfl
      refine' TL.s rfl rfl ?hy44 ?_
      case hy44 => exact Ys.store (seg := [.slice A43 (cutL u.G a t).length c43]) (c' := #[.slice A43 (cutL u.G a t).length c43, .pointer (some ⟨b, 0, none⟩)]) rfl rfl rfl (by simp [Value.cells]) (by kernel_rfl) (by simp [Value.oneCell']) foc2 (by simp [Value.cells]) (by kernel_rfl)
      refine TL.nil ?_
      refine TE.next ?_
      refine TC.seq ?_
      refine TC.region ?_
      refine' TL.y rfl rfl rfl ?hy45 ?_
      case hy45 => exact Yl.move rfl rfl
      refine' TL.y rfl rfl rfl ?hy46 ?_
      case hy46 => exact Yl.assign rfl rfl
      refine TL.nil ?_
      refine TE.next ?_
      refine TC.ret ?_
      refine TE.ret1 rfl rfl ?_
      have hi2 : i = (pgsE u a t).length := by omega
      rw [hi2, List.take_length, enc_cut hu]
      exact fun w h => ⟨⟨(v13, ⟨s', .slice A43 (cutL u.G a t).length c43, b, wi⟩), ⟨rfl, scut_ok hu a t⟩⟩, rfl, ((((Hp.sub h (H' := [rowG (.slice A43 (cutL u.G a t).length c43) (cutL u.G a t), blk s' (.cells #[.slice A43 (cutL u.G a t).length c43, .pointer (some ⟨b, 0, none⟩)] 56 (0, 0)), Rf b wi (encF (scut u a t).E), rowI v13 (idsL u a t)]) (by repeat (first | exact sR _ | exact sN _ | apply sK | apply sC))).swap.tostar.tostar).swap).tostar).leave⟩
set_option maxRecDepth 100000 in
set_option maxHeartbeats 2000000 in
theorem k_drest {x : Dp} {u : SS} {s : Nat} (hx : x.Is u s) : Turns Try.prog 27 #[.pointer (some ⟨s, 0, none⟩)] (dpR x u) (σ := {z : Dp // z.Is (srest u) s}) (fun p => .int .i64 (restC u : Nat)) (fun p => dpR p.1 (srest u)) := by
  intro W hR
  obtain ⟨hxs, hu⟩ := hx
  obtain ⟨s', v, b, wv⟩ := x
  obtain rfl : s' = s := hxs
  obtain ⟨A, c, hv, hcp, hS, hb, hRf⟩ := dpR_open hR
  obtain rfl : v = .slice A u.G.length c := hv
  dsimp only at hb hRf
  have hlen := hu.len
  have hM0 : Hp W (dpR ⟨s', .slice A u.G.length c, b, wv⟩ u).foot [blk s' (.cells #[.slice A u.G.length c, .pointer (some ⟨b, 0, none⟩)] 56 (0, 0)), rowG (.slice A u.G.length c) u.G, blk b (.cells #[wv] 59 (0, 0)), ownR 83 2 wv (ents (encF u.E) 65536).length (Pw (ents (encF u.E) 65536))] W := ((Hp.enter hR).unstar.swap.unstar.swap1.swap).unstar
  obtain ⟨m, hm⟩ : ∃ m, (ents (encF u.E) 65536).length = m := ⟨_, rfl⟩
  have hml : m = (pgsE u 0 65536).length := by rw [pgs_ents, List.length_map, hm]
  have hmk : m ≤ 65536 := by rw [← hm]; exact rk_le _ _
  rw [hm] at hM0
  obtain ⟨A8, cm, rfl⟩ := Hp.ownSl (e := 83) (size := 2) (m := m) (xs := Pw (ents (encF u.E) 65536)) mem3 W hM0
  have hM := hM0
  refine TC.enter (n := 49) Try.func27 rfl rfl rfl hM ?_
  refine TC.seq ?_
  refine TC.region ?_
  refine' TL.y rfl rfl rfl ?hy1 ?_
  case hy1 => exact Yl.assign rfl rfl
  refine TL.nil ?_
  refine TE.next ?_
  refine TC.seq ?_
  refine TC.region ?_
  refine' TL.y rfl rfl rfl ?hy2 ?_
  case hy2 => exact Yl.assign rfl rfl
  refine TL.nil ?_
  refine TE.next ?_
  refine TC.seq ?_
  refine TC.seq ?_
  refine TC.region ?_
  refine' TL.y rfl rfl rfl ?hy3 ?_
  case hy3 => exact Yl.assign rfl rfl
  refine TL.nil ?_
  refine TE.next ?_
  refine TC.block ?_
  refine TC.loop (σ := Nat) (fun i => [(0, .pointer (some ⟨s', 0, none⟩)), (3, .int .i64 ((((pgsE u 0 65536).take (i)).filter (tchd u)).length : Int)), (4, .int .i64 (i : Int))]) (fun i => Hp W (dpR ⟨s', .slice A u.G.length c, b, .slice A8 m cm⟩ u).foot [blk s' (.cells #[.slice A u.G.length c, .pointer (some ⟨b, 0, none⟩)] 56 (0, 0)), rowG (.slice A u.G.length c) u.G, blk b (.cells #[.slice A8 m cm] 59 (0, 0)), ownR 83 2 (.slice A8 m cm) m (Pw (restQ u i))]) (fun i => i ≤ m) (fun i => m - i) 0 ?hF4 ?hs4 ?hm4 ?round4
  case hF4 => exact Nat.zero_le _
  case hs4 => exact ⟨rfl, rfl, rfl, trivial⟩
  case hm4 => exact fun w h => by rw [restQ_0]; exact h
  case round4 =>
    intro i hi
    have hcl : (((pgsE u 0 65536).take i).filter (tchd u)).length ≤ i := Nat.le_trans (List.length_filter_le _ _) (List.length_take_le _ _)
    refine TC.seq ?_
    refine TC.seq ?_
    refine TC.region ?_
    refine' TL.y rfl rfl rfl ?hy5 ?_
    case hy5 => exact Yl.move rfl rfl
    refine' TL.y rfl rfl rfl ?hy6 ?_
    case hy6 => exact Yl.move rfl rfl
    refine' TL.y rfl rfl rfl ?hy7 ?_
    case hy7 => exact Yl.nilCheck rfl rfl
    refine' TL.y rfl rfl rfl ?hy8 ?_
    case hy8 => first | exact Yl.field0 (k := 0) 1 rfl rfl Try.underlying56 rfl (by kernel_rfl) rfl | exact Yl.field (k := 0) 1 rfl rfl Try.underlying56 rfl (by kernel_rfl) rfl
    refine' TL.y rfl rfl rfl ?hy9 ?_
    case hy9 => exact Yl.load rfl rfl (by kernel_rfl) (by first | exact Hp.cell mem0 rfl | exact Hp.cell mem1 rfl | exact Hp.cell mem2 rfl | exact Hp.cell mem3 rfl | exact Hp.cell mem4 rfl | exact Hp.rowAt mem0 (by omega) rfl | exact Hp.rowAt mem1 (by omega) rfl | exact Hp.rowAt mem2 (by omega) rfl | exact Hp.rowAt mem3 (by omega) rfl | exact Hp.rowAt mem4 (by omega) rfl)
    refine' TL.y rfl rfl rfl ?hy10 ?_
    case hy10 => exact Yl.nilCheck rfl rfl
    refine' TL.y rfl rfl rfl ?hy11 ?_
    case hy11 => first | exact Yl.field0 (k := 0) 0 rfl rfl Try.underlying59 rfl (by kernel_rfl) rfl | exact Yl.field (k := 0) 0 rfl rfl Try.underlying59 rfl (by kernel_rfl) rfl
    refine' TL.y rfl rfl rfl ?hy12 ?_
    case hy12 => exact Yl.load rfl rfl (by kernel_rfl) (by first | exact Hp.cell mem0 rfl | exact Hp.cell mem1 rfl | exact Hp.cell mem2 rfl | exact Hp.cell mem3 rfl | exact Hp.cell mem4 rfl | exact Hp.rowAt mem0 (by omega) rfl | exact Hp.rowAt mem1 (by omega) rfl | exact Hp.rowAt mem2 (by omega) rfl | exact Hp.rowAt mem3 (by omega) rfl | exact Hp.rowAt mem4 (by omega) rfl)
    refine' TL.y rfl rfl rfl ?hy13 ?_
    case hy13 => exact Yl.len rfl rfl Try.underlying57
    refine' TL.y rfl rfl rfl ?hy14 ?_
    case hy14 => exact Yl.bin rfl rfl rfl (Bin.lss _ _ _ _)
    refine TL.nil ?_
    refine TE.next ?_
    refine TC.cond rfl (fun hs16 => ?_) (fun hs16 => ?_)
    · skip
      (try simp only [nrm] at hs16)
      have him : i < m := by omega
      have hil : i < (pgsE u 0 65536).length := by rw [← hml]; exact him
      obtain ⟨en, he⟩ := pgs_get hil
      have hq := restQ_step hil he
      have hql : (restQ u i).length = m := by rw [restQ_len, hml]
      refine TC.fact (fun w h => h.ownSome' (e := 83) (size := 2) (m := m) (xs := Pw (restQ u i)) mem3 (by omega)) ?_
      rintro ⟨g, rfl⟩
      refine TC.skip ?_
      refine TE.next ?_
      refine TC.seq ?_
      refine TC.block ?_
      refine TC.seq ?_
      refine TC.region ?_
      refine' TL.y rfl rfl rfl ?hy15 ?_
      case hy15 => exact Yl.move rfl rfl
      refine' TL.y rfl rfl rfl ?hy16 ?_
      case hy16 => exact Yl.nilCheck rfl rfl
      refine' TL.y rfl rfl rfl ?hy17 ?_
      case hy17 => first | exact Yl.field0 (k := 0) 1 rfl rfl Try.underlying56 rfl (by kernel_rfl) rfl | exact Yl.field (k := 0) 1 rfl rfl Try.underlying56 rfl (by kernel_rfl) rfl
      refine' TL.y rfl rfl rfl ?hy18 ?_
      case hy18 => exact Yl.load rfl rfl (by kernel_rfl) (by first | exact Hp.cell mem0 rfl | exact Hp.cell mem1 rfl | exact Hp.cell mem2 rfl | exact Hp.cell mem3 rfl | exact Hp.cell mem4 rfl | exact Hp.rowAt mem0 (by omega) rfl | exact Hp.rowAt mem1 (by omega) rfl | exact Hp.rowAt mem2 (by omega) rfl | exact Hp.rowAt mem3 (by omega) rfl | exact Hp.rowAt mem4 (by omega) rfl)
      refine' TL.y rfl rfl rfl ?hy19 ?_
      case hy19 => exact Yl.nilCheck rfl rfl
      refine' TL.y rfl rfl rfl ?hy20 ?_
      case hy20 => first | exact Yl.field0 (k := 0) 0 rfl rfl Try.underlying59 rfl (by kernel_rfl) rfl | exact Yl.field (k := 0) 0 rfl rfl Try.underlying59 rfl (by kernel_rfl) rfl
      refine' TL.y rfl rfl rfl ?hy21 ?_
      case hy21 => exact Yl.load rfl rfl (by kernel_rfl) (by first | exact Hp.cell mem0 rfl | exact Hp.cell mem1 rfl | exact Hp.cell mem2 rfl | exact Hp.cell mem3 rfl | exact Hp.cell mem4 rfl | exact Hp.rowAt mem0 (by omega) rfl | exact Hp.rowAt mem1 (by omega) rfl | exact Hp.rowAt mem2 (by omega) rfl | exact Hp.rowAt mem3 (by omega) rfl | exact Hp.rowAt mem4 (by omega) rfl)
      refine' TL.y rfl rfl rfl ?hy22 ?_
      case hy22 => exact Yl.move rfl rfl
      refine' TL.y rfl rfl rfl ?hy23 ?_
      case hy23 => exact Yl.ixkz (k := 2) rfl rfl rfl Try.underlying57 (by kernel_rfl) (by omega) (by omega)
      refine' TL.y rfl rfl rfl ?hy24 ?_
      case hy24 => first | exact Yl.field0 (k := 0) 1 rfl rfl Try.underlying83 rfl (by kernel_rfl) rfl | exact Yl.field (k := 0) 1 rfl rfl Try.underlying83 rfl (by kernel_rfl) rfl
      refine' TL.y rfl rfl rfl ?hy25 ?_
      case hy25 => exact Yl.load (v := .int .u64 (encE en)) rfl rfl (by kernel_rfl) (fun w h => (Hp.pw (e := 83) (m := m) (l := restQ u i) mem3 (i := i) (j := 1) (by omega) (by rw [hql]; omega) (by decide) w h).trans (congrArg some (by rw [hq.1]; rfl)))
      refine' TL.c rfl rfl rfl ?hy26 ?_
      case hy26 => exact Yc.call rfl Try.func58 (by kernel_rfl) rfl rfl (Hp.calls (fun w h => k_rrest w (gE_ok hu he)))
      intro _
      refine' TL.y rfl rfl rfl ?hy27 ?_
      case hy27 => exact Yl.move rfl rfl
      refine' TL.y rfl rfl rfl ?hy28 ?_
      case hy28 => exact Yl.extract rfl rfl rfl
      refine' TL.y rfl rfl rfl ?hy29 ?_
      case hy29 => exact Yl.extract rfl rfl rfl
      refine' TL.y rfl rfl rfl ?hy30 ?_
      case hy30 => exact Yl.assign rfl rfl
      refine' TL.y rfl rfl rfl ?hy31 ?_
      case hy31 => exact Yl.assign rfl rfl
      refine TL.nil ?_
      refine TE.next ?_
      refine TC.seq ?_
      refine TC.region ?_
      refine' TL.y rfl rfl rfl ?hy32 ?_
      case hy32 => exact Yl.move rfl rfl
      refine' TL.y rfl rfl rfl ?hy33 ?_
      case hy33 => exact Yl.nilCheck rfl rfl
      refine' TL.y rfl rfl rfl ?hy34 ?_
      case hy34 => first | exact Yl.field0 (k := 0) 1 rfl rfl Try.underlying56 rfl (by kernel_rfl) rfl | exact Yl.field (k := 0) 1 rfl rfl Try.underlying56 rfl (by kernel_rfl) rfl
      refine' TL.y rfl rfl rfl ?hy35 ?_
      case hy35 => exact Yl.load rfl rfl (by kernel_rfl) (by first | exact Hp.cell mem0 rfl | exact Hp.cell mem1 rfl | exact Hp.cell mem2 rfl | exact Hp.cell mem3 rfl | exact Hp.cell mem4 rfl | exact Hp.rowAt mem0 (by omega) rfl | exact Hp.rowAt mem1 (by omega) rfl | exact Hp.rowAt mem2 (by omega) rfl | exact Hp.rowAt mem3 (by omega) rfl | exact Hp.rowAt mem4 (by omega) rfl)
      refine' TL.y rfl rfl rfl ?hy36 ?_
      case hy36 => exact Yl.nilCheck rfl rfl
      refine' TL.y rfl rfl rfl ?hy37 ?_
      case hy37 => first | exact Yl.field0 (k := 0) 0 rfl rfl Try.underlying59 rfl (by kernel_rfl) rfl | exact Yl.field (k := 0) 0 rfl rfl Try.underlying59 rfl (by kernel_rfl) rfl
      refine' TL.y rfl rfl rfl ?hy38 ?_
      case hy38 => exact Yl.load rfl rfl (by kernel_rfl) (by first | exact Hp.cell mem0 rfl | exact Hp.cell mem1 rfl | exact Hp.cell mem2 rfl | exact Hp.cell mem3 rfl | exact Hp.cell mem4 rfl | exact Hp.rowAt mem0 (by omega) rfl | exact Hp.rowAt mem1 (by omega) rfl | exact Hp.rowAt mem2 (by omega) rfl | exact Hp.rowAt mem3 (by omega) rfl | exact Hp.rowAt mem4 (by omega) rfl)
      refine' TL.y rfl rfl rfl ?hy39 ?_
      case hy39 => exact Yl.move rfl rfl
      refine' TL.y rfl rfl rfl ?hy40 ?_
      case hy40 => exact Yl.move rfl rfl
      refine' TL.y rfl rfl rfl ?hy41 ?_
      case hy41 => exact Yl.ixkz (k := 2) rfl rfl rfl Try.underlying57 (by kernel_rfl) (by omega) (by omega)
      refine' TL.y rfl rfl rfl ?hy42 ?_
      case hy42 => first | exact Yl.field0 (k := 0) 1 rfl rfl Try.underlying83 rfl (by kernel_rfl) rfl | exact Yl.field (k := 0) 1 rfl rfl Try.underlying83 rfl (by kernel_rfl) rfl
      refine' TL.s rfl rfl ?hy43 ?_
      case hy43 => exact Ys.own (e := 83) (size := 2) (seg := [.int .u64 (encE (tch en false))]) (xs := Pw (restQ u i)) (xs' := Pw (restQ u (i + 1))) rfl rfl rfl (by simp [Value.cells]) (by kernel_rfl) (by simp [Value.oneCell']) foc3 (by rw [Pw_length, hql]; simp; omega) (by rw [hq.2, show 0 + (i : Int).toNat * 2 + 1 = i * 2 + 1 by omega]; exact Pw_set _ _ (by rw [hql]; omega) (by rw [hq.1]))
      refine TL.nil ?_
      refine TE.next ?_
      refine TC.seq ?_
      refine TC.region ?_
      refine' TL.y rfl rfl rfl ?hy44 ?_
      case hy44 => exact Yl.move rfl rfl
      refine TL.nil ?_
      refine TE.next ?_
      refine TC.cond rfl (fun hs45 => ?_) (fun hs45 => ?_)
      · skip
        (try simp only [nrm] at hs45)
        have htd : tchd u (gI (pgsE u 0 65536) i) = true := by unfold tchd; rw [he]; simpa using hs45
        have hcn : ((((pgsE u 0 65536).take (i + 1)).filter (tchd u)).length : Int) = ((((pgsE u 0 65536).take (i)).filter (tchd u)).length : Int) + 1 := by rw [gI_take hil, List.filter_append, List.length_append]; simp [htd]
        refine TC.region ?_
        refine' TL.y rfl rfl rfl ?hy45 ?_
        case hy45 => exact Yl.move rfl rfl
        refine' TL.y rfl rfl rfl ?hy46 ?_
        case hy46 => first | (refine Yl.val (Yl.bin rfl rfl rfl (Bin.add _ _ _ _)) (congrArg (Value.int .i64) (i64in ?_ ?_)) <;> omega) | exact Yl.bin rfl rfl rfl (Bin.add _ _ _ _)
        refine TL.re (i := 47) (v' := .int .i64 ((((pgsE u 0 65536).take (i + 1)).filter (tchd u)).length : Int)) rfl (congrArg (Value.int .i64) hcn.symm) ?_
        refine' TL.y rfl rfl rfl ?hy47 ?_
        case hy47 => exact Yl.assign rfl rfl
        refine TL.nil ?_
        refine TE.inNormal ?_
        refine TE.next ?_
        refine TC.region ?_
        refine' TL.y rfl rfl rfl ?hy48 ?_
        case hy48 => exact Yl.move rfl rfl
        refine' TL.y rfl rfl rfl ?hy49 ?_
        case hy49 => first | (refine Yl.val (Yl.bin rfl rfl rfl (Bin.add _ _ _ _)) (congrArg (Value.int .i64) (i64in ?_ ?_)) <;> omega) | exact Yl.bin rfl rfl rfl (Bin.add _ _ _ _)
        refine' TL.y rfl rfl rfl ?hy50 ?_
        case hy50 => exact Yl.assign rfl rfl
        refine TL.nil ?_
        refine TE.round (i + 1) ?hF51 ?hlt51 ?hs51 ?hm51
        case hF51 => omega
        case hlt51 => omega
        case hs51 => exact ⟨rfl, rfl, rfl, trivial⟩
        case hm51 => exact fun _ h => h
      · skip
        (try simp only [nrm] at hs45)
        have htd : tchd u (gI (pgsE u 0 65536) i) = false := by unfold tchd; rw [he]; simpa using hs45
        have hcn : ((((pgsE u 0 65536).take (i + 1)).filter (tchd u)).length : Int) = ((((pgsE u 0 65536).take (i)).filter (tchd u)).length : Int) := by rw [gI_take hil, List.filter_append, List.length_append]; simp [htd]
        rw [← hcn]
        refine TC.skip ?_
        refine TE.inNormal ?_
        refine TE.next ?_
        refine TC.region ?_
        refine' TL.y rfl rfl rfl ?hy52 ?_
        case hy52 => exact Yl.move rfl rfl
        refine' TL.y rfl rfl rfl ?hy53 ?_
        case hy53 => first | (refine Yl.val (Yl.bin rfl rfl rfl (Bin.add _ _ _ _)) (congrArg (Value.int .i64) (i64in ?_ ?_)) <;> omega) | exact Yl.bin rfl rfl rfl (Bin.add _ _ _ _)
        refine' TL.y rfl rfl rfl ?hy54 ?_
        case hy54 => exact Yl.assign rfl rfl
        refine TL.nil ?_
        refine TE.round (i + 1) ?hF55 ?hlt55 ?hs55 ?hm55
        case hF55 => omega
        case hlt55 => omega
        case hs55 => exact ⟨rfl, rfl, rfl, trivial⟩
        case hm55 => exact fun _ h => h
    · skip
      (try simp only [nrm] at hs16)
      refine TC.exit ?_
      refine TE.thenExit ?_
      refine TE.thenExit ?_
      refine TE.inHere ?_
      refine TE.next ?_
      refine TC.seq ?_
      refine TC.region ?_
      refine' TL.y rfl rfl rfl ?hy56 ?_
      case hy56 => exact Yl.move rfl rfl
      refine' TL.y rfl rfl rfl ?hy57 ?_
      case hy57 => exact Yl.assign rfl rfl
      refine TL.nil ?_
      refine TE.next ?_
      refine TC.ret ?_
      refine TE.ret1 rfl rfl ?_
      have hi2 : i = (pgsE u 0 65536).length := by rw [← hml]; omega
      exact fun w h => ⟨⟨⟨s', .slice A u.G.length c, b, .slice A8 m cm⟩, ⟨rfl, srest_ok hu⟩⟩, by rw [hi2, List.take_length]; rfl, by
        have e1 : ownR 83 2 (.slice A8 m cm) m (Pw (restQ u (pgsE u 0 65536).length)) = rowP (.slice A8 m cm) (ents (encF (srest u).E) 65536) := by rw [restQ_all hu]; unfold rowP; rw [← restQ_all hu, restQ_len, ← hml]
        rw [hi2, e1] at h
        exact (h.tostar.swap.swap1.tostar.swap.tostar).leave⟩
end Go.Proofs.Ytabjdjkkpbkpfaa.Pk
