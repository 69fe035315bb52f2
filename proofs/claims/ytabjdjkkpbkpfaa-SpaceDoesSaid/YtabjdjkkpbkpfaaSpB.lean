/- Regions: one more, without pages, again. -/
import Derived.Test.YtabjdjkkpbkpfaaSpA
import Derived.Test.YtabjdjkkpbkpfaaProg
import Derived.RowKit3
namespace Go.Proofs.Ytabjdjkkpbkpfaa.Pk
open Go Go.RowKit Go.Proofs.Ytabjdjkkpbkpfaa.HL Go.Proofs.Ytabjdjkkpbkpfaa.Ev Go.Proofs.YtabjdjkkpbkpfaaW.PrintWords Go.Proofs.RgP
set_option linter.unusedVariables false
set_option linter.unusedSimpArgs false
attribute [local irreducible] Rw atG
set_option maxRecDepth 100000 in
set_option maxHeartbeats 2000000 in
theorem k_part (W : World) {x : S25} (hg : GoodG x) {a c : Int} (ha : x.f0 ≤ a) (hb : a ≤ 65536) : Calls Try.prog 75 #[.agg #[.int .i64 (x).f0, .int .i64 (x).f1, .int .i64 (x).f2, .int .i64 (x).f3, .int .i64 (x).f4, .bool (x).f5], .int .i64 a, .int .i64 c] W fun e w' => e = .returned (.agg #[.int .i64 ((partS x a c)).f0, .int .i64 ((partS x a c)).f1, .int .i64 ((partS x a c)).f2, .int .i64 ((partS x a c)).f3, .int .i64 ((partS x a c)).f4, .bool ((partS x a c)).f5]) ∧ Below W.heap.size W w' := by
  have h0 := hg.a; have h1 := hg.b; have h2 := hg.c; have hk := hg.k
  have hM : Hp W (fun _ => False) [] W := Hp.start
  refine TC.enter (n := 23) Try.func75 rfl rfl rfl hM ?_
  refine TC.seq ?_
  refine TC.region ?_
  refine' TL.mx rfl rfl rfl ?hy1 ?_
  case hy1 => exact Ym.box rfl rfl
  intro b3
  refine' TL.mx rfl rfl rfl ?hy2 ?_
  case hy2 => exact Ym.alloc (z := .agg #[.int .i64 0, .int .i64 0, .int .i64 0, .int .i64 0, .int .i64 0, .bool false]) rfl (by kernel_rfl)
  intro b6
  refine TL.nil ?_
  refine TE.next ?_
  refine TC.seq ?_
  refine TC.seq ?_
  refine TC.region ?_
  refine' TL.y rfl rfl rfl ?hy3 ?_
  case hy3 => first | exact Yl.field0 (k := 0) 2 rfl rfl Try.underlying28 rfl (by kernel_rfl) rfl | exact Yl.field (k := 0) 2 rfl rfl Try.underlying28 rfl (by kernel_rfl) rfl
  refine' TL.y rfl rfl rfl ?hy4 ?_
  case hy4 => exact Yl.load rfl rfl (by kernel_rfl) (by first | exact Hp.cell mem0 rfl | exact Hp.cell mem1 rfl | exact Hp.cell mem2 rfl | exact Hp.cell mem3 rfl | exact Hp.cell mem4 rfl | exact Hp.rowAt mem0 (by omega) rfl | exact Hp.rowAt mem1 (by omega) rfl | exact Hp.rowAt mem2 (by omega) rfl | exact Hp.rowAt mem3 (by omega) rfl | exact Hp.rowAt mem4 (by omega) rfl)
  refine' TL.y rfl rfl rfl ?hy5 ?_
  case hy5 => exact Yl.bin rfl rfl rfl (Bin.eql _ _ _ _)
  refine TL.nil ?_
  refine TE.next ?_
  refine TC.cond rfl (fun hs9 => ?_) (fun hs9 => ?_)
  · skip
    (try simp only [nrm] at hs9)
    refine TC.region ?_
    refine' TL.y rfl rfl rfl ?hy6 ?_
    case hy6 => first | exact Yl.field0 (k := 0) 4 rfl rfl Try.underlying28 rfl (by kernel_rfl) rfl | exact Yl.field (k := 0) 4 rfl rfl Try.underlying28 rfl (by kernel_rfl) rfl
    refine' TL.y rfl rfl rfl ?hy7 ?_
    case hy7 => exact Yl.load rfl rfl (by kernel_rfl) (by first | exact Hp.cell mem0 rfl | exact Hp.cell mem1 rfl | exact Hp.cell mem2 rfl | exact Hp.cell mem3 rfl | exact Hp.cell mem4 rfl | exact Hp.rowAt mem0 (by omega) rfl | exact Hp.rowAt mem1 (by omega) rfl | exact Hp.rowAt mem2 (by omega) rfl | exact Hp.rowAt mem3 (by omega) rfl | exact Hp.rowAt mem4 (by omega) rfl)
    refine' TL.y rfl rfl rfl ?hy8 ?_
    case hy8 => exact Yl.move rfl rfl
    refine' TL.y rfl rfl rfl ?hy9 ?_
    case hy9 => first | exact Yl.field0 (k := 0) 0 rfl rfl Try.underlying28 rfl (by kernel_rfl) rfl | exact Yl.field (k := 0) 0 rfl rfl Try.underlying28 rfl (by kernel_rfl) rfl
    refine' TL.y rfl rfl rfl ?hy10 ?_
    case hy10 => exact Yl.load rfl rfl (by kernel_rfl) (by first | exact Hp.cell mem0 rfl | exact Hp.cell mem1 rfl | exact Hp.cell mem2 rfl | exact Hp.cell mem3 rfl | exact Hp.cell mem4 rfl | exact Hp.rowAt mem0 (by omega) rfl | exact Hp.rowAt mem1 (by omega) rfl | exact Hp.rowAt mem2 (by omega) rfl | exact Hp.rowAt mem3 (by omega) rfl | exact Hp.rowAt mem4 (by omega) rfl)
    refine' TL.y rfl rfl rfl ?hy11 ?_
    case hy11 => first | (refine Yl.val (Yl.bin rfl rfl rfl (Bin.sub _ _ _ _)) (congrArg (Value.int .i64) (i64in ?_ ?_)) <;> omega) | exact Yl.bin rfl rfl rfl (Bin.sub _ _ _ _)
    refine' TL.y rfl rfl rfl ?hy12 ?_
    case hy12 => first | (refine Yl.val (Yl.bin rfl rfl rfl (Bin.add _ _ _ _)) (congrArg (Value.int .i64) (i64in ?_ ?_)) <;> omega) | exact Yl.bin rfl rfl rfl (Bin.add _ _ _ _)
    refine' TL.y rfl rfl rfl ?hy13 ?_
    case hy13 => first | exact Yl.field0 (k := 0) 4 rfl rfl Try.underlying28 rfl (by kernel_rfl) rfl | exact Yl.field (k := 0) 4 rfl rfl Try.underlying28 rfl (by kernel_rfl) rfl
    refine' TL.s rfl rfl ?hy14 ?_
    case hy14 => exact Ys.store (seg := [.int .i64 (x.f4 + (a - x.f0))]) (c' := #[.int .i64 x.f0, .int .i64 x.f1, .int .i64 x.f2, .int .i64 x.f3, .int .i64 (x.f4 + (a - x.f0)), .bool x.f5]) rfl rfl rfl (by simp [Value.cells]) (by kernel_rfl) (by simp [Value.oneCell']) foc1 (by simp [Value.cells]) rfl
    refine TL.nil ?_
    refine TE.next ?_
    refine TC.seq ?_
    refine TC.region ?_
    refine' TL.y rfl rfl rfl ?hy15 ?_
    case hy15 => exact Yl.move rfl rfl
    refine' TL.y rfl rfl rfl ?hy16 ?_
    case hy16 => exact Yl.move rfl rfl
    refine' TL.y rfl rfl rfl ?hy17 ?_
    case hy17 => first | exact Yl.field0 (k := 0) 0 rfl rfl Try.underlying28 rfl (by kernel_rfl) rfl | exact Yl.field (k := 0) 0 rfl rfl Try.underlying28 rfl (by kernel_rfl) rfl
    refine' TL.s rfl rfl ?hy18 ?_
    case hy18 => exact Ys.store (seg := [.int .i64 a]) (c' := #[.int .i64 a, .int .i64 x.f1, .int .i64 x.f2, .int .i64 x.f3, .int .i64 (x.f4 + (a - x.f0)), .bool x.f5]) rfl rfl rfl (by simp [Value.cells]) (by kernel_rfl) (by simp [Value.oneCell']) foc1 (by simp [Value.cells]) rfl
    refine' TL.y rfl rfl rfl ?hy19 ?_
    case hy19 => first | exact Yl.field0 (k := 0) 1 rfl rfl Try.underlying28 rfl (by kernel_rfl) rfl | exact Yl.field (k := 0) 1 rfl rfl Try.underlying28 rfl (by kernel_rfl) rfl
    refine' TL.s rfl rfl ?hy20 ?_
    case hy20 => exact Ys.store (seg := [.int .i64 c]) (c' := #[.int .i64 a, .int .i64 c, .int .i64 x.f2, .int .i64 x.f3, .int .i64 (x.f4 + (a - x.f0)), .bool x.f5]) rfl rfl rfl (by simp [Value.cells]) (by kernel_rfl) (by simp [Value.oneCell']) foc1 (by simp [Value.cells]) rfl
    refine TL.nil ?_
    refine TE.next ?_
    refine TC.seq ?_
    refine TC.region ?_
    refine' TL.y rfl rfl rfl ?hy21 ?_
    case hy21 => exact Yl.loads (cs := [.int .i64 a, .int .i64 c, .int .i64 x.f2, .int .i64 x.f3, .int .i64 (x.f4 + (a - x.f0)), .bool x.f5]) rfl rfl (by kernel_rfl) (by kernel_rfl) (Hp.cells mem1 (fun j v hj => by simpa using hj))
    refine' TL.s rfl rfl ?hy22 ?_
    case hy22 => exact Ys.store (seg := [.int .i64 a, .int .i64 c, .int .i64 x.f2, .int .i64 x.f3, .int .i64 (x.f4 + (a - x.f0)), .bool x.f5]) (c' := #[.int .i64 a, .int .i64 c, .int .i64 x.f2, .int .i64 x.f3, .int .i64 (x.f4 + (a - x.f0)), .bool x.f5]) rfl rfl rfl (by simp [Value.cells]) (by kernel_rfl) (by simp [Value.oneCell']) foc0 (by simp [Value.cells]) rfl
    refine TL.nil ?_
    refine TE.next ?_
    refine TC.ret ?_
    refine TE.retCA [.int .i64 a, .int .i64 c, .int .i64 x.f2, .int .i64 x.f3, .int .i64 (x.f4 + (a - x.f0)), .bool x.f5] rfl rfl (by kernel_rfl) (by kernel_rfl) (Hp.cells mem0 (fun j v hj => by simpa using hj)) ?_
    exact fun w h => ⟨by unfold partS; dsimp only; rw [if_pos (by omega)], (h.sub (List.nil_sublist _)).below⟩
  · skip
    (try simp only [nrm] at hs9)
    refine TC.skip ?_
    refine TE.next ?_
    refine TC.seq ?_
    refine TC.region ?_
    refine' TL.y rfl rfl rfl ?hy23 ?_
    case hy23 => exact Yl.move rfl rfl
    refine' TL.y rfl rfl rfl ?hy24 ?_
    case hy24 => exact Yl.move rfl rfl
    refine' TL.y rfl rfl rfl ?hy25 ?_
    case hy25 => first | exact Yl.field0 (k := 0) 0 rfl rfl Try.underlying28 rfl (by kernel_rfl) rfl | exact Yl.field (k := 0) 0 rfl rfl Try.underlying28 rfl (by kernel_rfl) rfl
    refine' TL.s rfl rfl ?hy26 ?_
    case hy26 => exact Ys.store (seg := [.int .i64 a]) (c' := #[.int .i64 a, .int .i64 x.f1, .int .i64 x.f2, .int .i64 x.f3, .int .i64 (x.f4), .bool x.f5]) rfl rfl rfl (by simp [Value.cells]) (by kernel_rfl) (by simp [Value.oneCell']) foc1 (by simp [Value.cells]) rfl
    refine' TL.y rfl rfl rfl ?hy27 ?_
    case hy27 => first | exact Yl.field0 (k := 0) 1 rfl rfl Try.underlying28 rfl (by kernel_rfl) rfl | exact Yl.field (k := 0) 1 rfl rfl Try.underlying28 rfl (by kernel_rfl) rfl
    refine' TL.s rfl rfl ?hy28 ?_
    case hy28 => exact Ys.store (seg := [.int .i64 c]) (c' := #[.int .i64 a, .int .i64 c, .int .i64 x.f2, .int .i64 x.f3, .int .i64 (x.f4), .bool x.f5]) rfl rfl rfl (by simp [Value.cells]) (by kernel_rfl) (by simp [Value.oneCell']) foc1 (by simp [Value.cells]) rfl
    refine TL.nil ?_
    refine TE.next ?_
    refine TC.seq ?_
    refine TC.region ?_
    refine' TL.y rfl rfl rfl ?hy29 ?_
    case hy29 => exact Yl.loads (cs := [.int .i64 a, .int .i64 c, .int .i64 x.f2, .int .i64 x.f3, .int .i64 (x.f4), .bool x.f5]) rfl rfl (by kernel_rfl) (by kernel_rfl) (Hp.cells mem1 (fun j v hj => by simpa using hj))
    refine' TL.s rfl rfl ?hy30 ?_
    case hy30 => exact Ys.store (seg := [.int .i64 a, .int .i64 c, .int .i64 x.f2, .int .i64 x.f3, .int .i64 (x.f4), .bool x.f5]) (c' := #[.int .i64 a, .int .i64 c, .int .i64 x.f2, .int .i64 x.f3, .int .i64 (x.f4), .bool x.f5]) rfl rfl rfl (by simp [Value.cells]) (by kernel_rfl) (by simp [Value.oneCell']) foc0 (by simp [Value.cells]) rfl
    refine TL.nil ?_
    refine TE.next ?_
    refine TC.ret ?_
    refine TE.retCA [.int .i64 a, .int .i64 c, .int .i64 x.f2, .int .i64 x.f3, .int .i64 (x.f4), .bool x.f5] rfl rfl (by kernel_rfl) (by kernel_rfl) (Hp.cells mem0 (fun j v hj => by simpa using hj)) ?_
    exact fun w h => ⟨by unfold partS; dsimp only; rw [if_neg (by omega)], (h.sub (List.nil_sublist _)).below⟩
set_option maxRecDepth 100000 in
set_option maxHeartbeats 2000000 in
theorem k_keep {g : Nat} {v : Value} {acc : List S25} (hl : acc.length ≤ 300000) {x : S25} (hgd : GoodG x) {a c : Int} (ha : x.f0 ≤ a) (hc : c ≤ 65536) : Turns Try.prog 74 #[.agg #[.int .i64 (x).f0, .int .i64 (x).f1, .int .i64 (x).f2, .int .i64 (x).f3, .int .i64 (x).f4, .bool (x).f5], .int .i64 a, .int .i64 c, .pointer (some ⟨g, 0, none⟩)] (star (blk g (.cells #[v] 44 (0, 0))) (rowG (v) (acc))) (σ := Value) (fun _ => .tuple #[]) (fun v' => star (blk g (.cells #[v'] 44 (0, 0))) (rowG (v') (acc ++ keepL x a c))) := by
  intro W hR
  have hM := Hp.unstar (Hp.enter hR)
  refine TC.enter (n := 17) Try.func74 rfl rfl rfl hM ?_
  refine TC.seq ?_
  refine TC.region ?_
  refine' TL.mx rfl rfl rfl ?hy1 ?_
  case hy1 => exact Ym.box rfl rfl
  intro b4
  refine TL.nil ?_
  refine TE.next ?_
  refine TC.seq ?_
  refine TC.region ?_
  refine' TL.y rfl rfl rfl ?hy2 ?_
  case hy2 => exact Yl.move rfl rfl
  refine' TL.y rfl rfl rfl ?hy3 ?_
  case hy3 => exact Yl.move rfl rfl
  refine' TL.y rfl rfl rfl ?hy4 ?_
  case hy4 => exact Yl.bin rfl rfl rfl (Bin.lss _ _ _ _)
  refine TL.nil ?_
  refine TE.next ?_
  refine TC.cond rfl (fun hs9 => ?_) (fun hs9 => ?_)
  · skip
    (try simp only [nrm] at hs9)
    refine TC.draw (k := 8) (Hp W (star (blk g (.cells #[v] 44 (0, 0))) (rowG (v) (acc))).foot [blk b4 (.cells #[.int .i64 (x).f0, .int .i64 (x).f1, .int .i64 (x).f2, .int .i64 (x).f3, .int .i64 (x).f4, .bool (x).f5] 28 (0, 0)), blk g (.cells #[v] 44 (0, 0))]) [7] #[false, false, false, false, false, false, false, false] (by kernel_rfl) rfl rfl (fun _ h => h.drew) (fun _ h => by exact Hp.sub h (by repeat (first | exact sR _ | exact sN _ | apply sK | apply sC))) ?_
    refine' TA.y (i := 0) #[true, false, false, false, false, false, false, false] rfl rfl rfl (by kernel_rfl) (fun _ _ _ h => h) (fun _ h => by exact Hp.sub h (by repeat (first | exact sR _ | exact sN _ | apply sK | apply sC))) rfl ?hy5 ?_
    case hy5 => exact Yl.load rfl rfl (by kernel_rfl) (by first | exact Hp.cell mem0 rfl | exact Hp.cell mem1 rfl | exact Hp.cell mem2 rfl | exact Hp.cell mem3 rfl | exact Hp.cell mem4 rfl | exact Hp.rowAt mem0 (by omega) rfl | exact Hp.rowAt mem1 (by omega) rfl | exact Hp.rowAt mem2 (by omega) rfl | exact Hp.rowAt mem3 (by omega) rfl | exact Hp.rowAt mem4 (by omega) rfl)
    refine' TA.y (i := 1) #[true, true, false, false, false, false, false, false] rfl rfl rfl (by kernel_rfl) (fun _ _ _ h => h) (fun _ h => by exact Hp.sub h (by repeat (first | exact sR _ | exact sN _ | apply sK | apply sC))) rfl ?hy6 ?_
    case hy6 => exact Yl.loads (cs := [.int .i64 (x).f0, .int .i64 (x).f1, .int .i64 (x).f2, .int .i64 (x).f3, .int .i64 (x).f4, .bool (x).f5]) rfl rfl (by kernel_rfl) (by kernel_rfl) (Hp.cells mem0 (fun j v hj => by simpa using hj))
    refine' TA.p (i := 2) #[true, true, true, false, false, false, false, false] rfl rfl rfl (by kernel_rfl) (fun _ _ _ h => h) rfl ?hy7 ?_
    case hy7 => exact Yl.move rfl rfl
    refine' TA.p (i := 3) #[true, true, true, true, false, false, false, false] rfl rfl rfl (by kernel_rfl) (fun _ _ _ h => h) rfl ?hy8 ?_
    case hy8 => exact Yl.move rfl rfl
    refine' TA.c (i := 4) #[true, true, true, true, true, false, false, false] rfl rfl rfl (by kernel_rfl) (by decide) rfl ?hy9 ?hz9 ?_
    case hy9 => exact Yc.call rfl Try.func75 (by kernel_rfl) rfl rfl (Hp.calls (fun w h => k_part w hgd ha (by omega)))
    case hz9 => exact (fun _ _ h => by exact Hp.sub h (by repeat (first | exact sR _ | exact sN _ | apply sK | apply sC)))
    intro _
    refine' TA.mx (i := 5) #[true, true, true, true, true, true, false, false] rfl rfl rfl (by kernel_rfl) (by decide) rfl ?hy10 ?hz10 ?_
    case hy10 => exact Ym.buildSlice (cells := #[.int .i64 (partS x a c).f0, .int .i64 (partS x a c).f1, .int .i64 (partS x a c).f2, .int .i64 (partS x a c).f3, .int .i64 (partS x a c).f4, .bool (partS x a c).f5]) (z := .agg #[.int .i64 0, .int .i64 0, .int .i64 0, .int .i64 0, .int .i64 0, .bool false]) (size := 6) #[.int .i64 0, .int .i64 0, .int .i64 0, .int .i64 0, .int .i64 0, .bool false] rfl Try.underlying44 (by kernel_rfl) (by decide) (by decide) (by kernel_rfl) rfl rfl
    case hz10 => exact (fun _ _ h => by exact Hp.sub h (by repeat (first | exact sR _ | exact sN _ | apply sK | apply sC)))
    intro b15
    refine' TA.mx (i := 6) #[true, true, true, true, true, true, true, false] rfl rfl rfl (by kernel_rfl) (by decide) rfl ?hy11 ?hz11 ?_
    case hy11 => exact Ym.append (e := 28) (news := [.int .i64 (partS x a c).f0, .int .i64 (partS x a c).f1, .int .i64 (partS x a c).f2, .int .i64 (partS x a c).f3, .int .i64 (partS x a c).f4, .bool (partS x a c).f5]) (m := acc.length) (xs := Rw acc) rfl Try.underlying44 (by kernel_rfl) (z := .agg #[.int .i64 0, .int .i64 0, .int .i64 0, .int .i64 0, .int .i64 0, .bool false]) (size := 6) (bytes := 48) rfl (by decide) (by decide) rfl rfl rfl (Hp.cells mem0 (fun j v hj => by simpa using hj)) (by simp [Value.oneCell']) (by omega) (fun v' => foc3)
    case hz11 => exact (fun _ _ h => by exact Hp.sub h (by repeat (first | exact sR _ | exact sN _ | apply sK | apply sC)))
    intro v16
    refine TA.fact (fun w h => h.ownSl (e := 28) (size := 6) (m := acc.length + 1) (xs := Rw acc ++ [.int .i64 (partS x a c).f0, .int .i64 (partS x a c).f1, .int .i64 (partS x a c).f2, .int .i64 (partS x a c).f3, .int .i64 (partS x a c).f4, .bool (partS x a c).f5]) mem3) ?_
    rintro ⟨A1, c1, rfl⟩
    refine' TA.sl (i := 7) #[true, true, true, true, true, true, true, true] rfl rfl (by kernel_rfl) (by decide) rfl ?hy12 ?_
    case hy12 => exact Ys.store (seg := [.slice A1 (acc.length + 1) c1]) (c' := #[.slice A1 (acc.length + 1) c1]) rfl rfl rfl (by simp [Value.cells]) (by kernel_rfl) (by simp [Value.oneCell']) foc2 (by simp [Value.cells]) rfl
    refine TA.done (by kernel_rfl) ?_
    refine TE.end0 rfl ?_
    exact fun w h => ⟨.slice A1 (acc.length + 1) c1, rfl, by
      rw [show keepL x a c = [partS x a c] from if_pos (by omega)]
      rw [rowG_snoc] at h
      exact (Hp.tostar (h.sub (.cons _ (.cons _ (List.Sublist.refl _))))).leave⟩
  · skip
    (try simp only [nrm] at hs9)
    refine TC.skip ?_
    refine TE.end0 rfl ?_
    exact fun w h => ⟨v, rfl, by rw [show keepL x a c = [] from if_neg (by omega), List.append_nil]; exact (Hp.tostar (h.sub (.cons _ (List.Sublist.refl _)))).leave⟩
theorem k_keepx {g : Nat} {v : Value} {acc : List S25} (hl : acc.length ≤ 300000) {x : S25} (hgd : GoodG x) {a c : Int} (ha : x.f0 ≤ a) (hc : c ≤ 65536) : Turns Try.prog 74 (#[] ++ [.agg #[.int .i64 (x).f0, .int .i64 (x).f1, .int .i64 (x).f2, .int .i64 (x).f3, .int .i64 (x).f4, .bool (x).f5], .int .i64 a, .int .i64 c].toArray ++ #[.pointer (some ⟨g, 0, none⟩)]) (star (blk g (.cells #[v] 44 (0, 0))) (rowG (v) (acc))) (σ := Value) (fun _ => .tuple #[]) (fun v' => star (blk g (.cells #[v'] 44 (0, 0))) (rowG (v') (acc ++ keepL x a c))) := by
  rw [cat3]; exact k_keep hl hgd ha hc
theorem keepL_len (x : S25) (a c : Int) : (keepL x a c).length ≤ 1 := by unfold keepL; split <;> simp
theorem stepC_len (p q : Int) (x : S25) : (stepC p q x).length ≤ 2 := by
  unfold stepC
  split
  · have := keepL_len x x.f0 x.f1; omega
  · have := keepL_len x x.f0 (mnG x.f1 p); have := keepL_len x (mxG x.f0 q) x.f1; rw [List.length_append]; omega
theorem cutS_snoc (l : List S25) (x : S25) (p q : Int) : cutS (l ++ [x]) p q = cutS l p q ++ stepC p q x := by unfold cutS; simp [List.flatMap_append]
theorem cutS_len (p q : Int) : ∀ l, (cutS l p q).length ≤ 2 * l.length
  | [] => by simp [cutS]
  | x :: l => by
    have h := cutS_len p q l
    have h2 := stepC_len p q x
    have e : cutS (x :: l) p q = stepC p q x ++ cutS l p q := rfl
    rw [e, List.length_append, List.length_cons]; omega
def cutL (l : List S25) (p q : Int) : List S25 := if rightB l = true then cutS l p q else []
set_option maxRecDepth 100000 in
set_option maxHeartbeats 2000000 in
theorem k_gcut (W : World) {l : List S25} {A : Option Addr} {cp : Nat} (hS : Sl W A (Rw l)) (hm : l.length ≤ 100000) (p q : Int) : Calls Try.prog 41 #[.slice A l.length cp, .int .i64 p, .int .i64 q] W fun e w' => ∃ v : Value, e = .returned v ∧ (rowG v (cutL l p q)).holds w' ∧ Below W.heap.size W w' ∧ ∀ k, (rowG v (cutL l p q)).foot k → W.heap.size ≤ k := by
  have hM : Hp W (fun _ => False) [] W := Hp.start
  refine TC.enter (n := 51) Try.func41 rfl rfl rfl hM ?_
  refine TC.seq ?_
  refine TC.region ?_
  refine' TL.y rfl rfl rfl ?hy1 ?_
  case hy1 => exact Yl.assign rfl rfl
  refine TL.nil ?_
  refine TE.next ?_
  refine TC.seq ?_
  refine TC.seq ?_
  refine TC.region ?_
  refine' TL.y rfl rfl rfl ?hy2 ?_
  case hy2 => exact Yl.move rfl rfl
  refine' TL.c rfl rfl rfl ?hy3 ?_
  case hy3 => exact Yc.call rfl Try.func62 (by kernel_rfl) rfl rfl (Hp.calls (fun w h => k_gright w (hS.below h.below) hm))
  intro _
  refine' TL.y rfl rfl rfl ?hy4 ?_
  case hy4 => exact Yl.not rfl rfl
  refine TL.nil ?_
  refine TE.next ?_
  refine TC.cond rfl (fun hs13 => ?_) (fun hs13 => ?_)
  · skip
    (try simp only [nrm] at hs13)
    refine TC.seq ?_
    refine TC.region ?_
    refine' TL.y rfl rfl rfl ?hy5 ?_
    case hy5 => exact Yl.assign rfl rfl
    refine TL.nil ?_
    refine TE.next ?_
    refine TC.ret ?_
    refine TE.thenRet ?_
    refine TE.ret1 rfl rfl ?_
    exact fun w h => ⟨.slice none 0 0, rfl, by rw [show cutL l p q = [] from if_neg (by simpa using hs13)]; exact (rowG_nil (h.sub (List.nil_sublist _))).leaveNew⟩
  · skip
    (try simp only [nrm] at hs13)
    refine TC.skip ?_
    refine TE.next ?_
    refine TC.seq ?_
    refine TC.region ?_
    refine' TL.mx rfl rfl rfl ?hy6 ?_
    case hy6 => exact Ym.alloc (z := .slice none 0 0) rfl (by kernel_rfl)
    intro b7
    refine TL.nil ?_
    refine TE.next ?_
    refine TC.seq ?_
    refine TC.region ?_
    refine' TL.y rfl rfl rfl ?hy7 ?_
    case hy7 => exact Yl.makeFunc rfl rfl rfl
    refine' TL.y rfl rfl rfl ?hy8 ?_
    case hy8 => exact Yl.assign rfl rfl
    refine TL.nil ?_
    refine TE.next ?_
    refine TC.seq ?_
    refine TC.seq ?_
    refine TC.region ?_
    refine' TL.y rfl rfl rfl ?hy9 ?_
    case hy9 => exact Yl.move rfl rfl
    refine' TL.y rfl rfl rfl ?hy10 ?_
    case hy10 => exact Yl.len rfl rfl Try.underlying44
    refine' TL.y rfl rfl rfl ?hy11 ?_
    case hy11 => exact Yl.move rfl rfl
    refine TL.nil ?_
    refine TE.next ?_
    refine TC.block ?_
    refine TC.loop (σ := Nat × Value) (fun s => [(1, .int .i64 p), (2, .int .i64 q), (7, .pointer (some ⟨b7, 0, none⟩)), (8, .func (.func 74) #[] #[.pointer (some ⟨b7, 0, none⟩)]), (15, .slice A l.length cp), (16, .int .i64 (l.length : Int)), (17, .int .i64 (s.1 : Int))]) (fun s => Hp W (fun _ => False) [star (blk b7 (.cells #[s.2] 44 (0, 0))) (rowG (s.2) (cutS (l.take s.1) p q))]) (fun s => s.1 ≤ l.length) (fun s => l.length - s.1) (0, .slice none 0 0) ?hF12 ?hs12 ?hm12 ?round12
    case hF12 => exact Nat.zero_le _
    case hs12 => exact ⟨rfl, rfl, rfl, rfl, rfl, rfl, rfl, trivial⟩
    case hm12 => exact fun w h => by dsimp only; rw [List.take_zero]; exact Hp.tostar (Hp.swap (rowG_nil h))
    case round12 =>
      rintro ⟨i, v⟩ hi
      dsimp only at hi ⊢
      refine TC.seq ?_
      refine TC.region ?_
      refine' TL.y rfl rfl rfl ?hy13 ?_
      case hy13 => exact Yl.bin rfl rfl rfl (Bin.lss _ _ _ _)
      refine TL.nil ?_
      refine TE.next ?_
      refine TC.seq ?_
      refine TC.cond rfl (fun hs18 => ?_) (fun hs18 => ?_)
      · skip
        (try simp only [nrm] at hs18)
        obtain ⟨b, o, rfl⟩ := Sl.some2 hS (by rw [Rw_length]; omega)
        have hrt : rightB l = true := by simpa using hs13
        have hgd := (right_mem hrt (atG l i) (atG_mem (by omega))).1
        have h0 := hgd.a; have h1 := hgd.b; have h2 := hgd.c
        have hcl := cutS_len p q (l.take i)
        rw [List.length_take] at hcl
        have hkl := keepL_len (atG l i) (atG l i).f0 (if p < (atG l i).f1 then p else (atG l i).f1)
        refine TC.skip ?_
        refine TE.next ?_
        refine TC.seq ?_
        refine TC.block ?_
        refine TC.seq ?_
        refine TC.region ?_
        refine' TL.y rfl rfl rfl ?hy14 ?_
        case hy14 => first | exact Yl.ixkn (k := 6) rfl rfl rfl Try.underlying44 (by kernel_rfl) (by omega) | exact Yl.ixkz (k := 6) rfl rfl rfl Try.underlying44 (by kernel_rfl) (by omega) (by omega)
        refine' TL.y rfl rfl rfl ?hy15 ?_
        case hy15 => exact Yl.loads (cs := [.int .i64 (atG l i).f0, .int .i64 (atG l i).f1, .int .i64 (atG l i).f2, .int .i64 (atG l i).f3, .int .i64 (atG l i).f4, .bool (atG l i).f5]) rfl rfl (by kernel_rfl) (by kernel_rfl) (Sl.rgs hS (i := i) (by omega))
        refine' TL.mx rfl rfl rfl ?hy16 ?_
        case hy16 => exact Ym.alloc (z := .agg #[.int .i64 0, .int .i64 0, .int .i64 0, .int .i64 0, .int .i64 0, .bool false]) rfl (by kernel_rfl)
        intro b10
        refine' TL.s rfl rfl ?hy17 ?_
        case hy17 => exact Ys.store (seg := [.int .i64 ((atG l i)).f0, .int .i64 ((atG l i)).f1, .int .i64 ((atG l i)).f2, .int .i64 ((atG l i)).f3, .int .i64 ((atG l i)).f4, .bool ((atG l i)).f5]) (c' := #[.int .i64 ((atG l i)).f0, .int .i64 ((atG l i)).f1, .int .i64 ((atG l i)).f2, .int .i64 ((atG l i)).f3, .int .i64 ((atG l i)).f4, .bool ((atG l i)).f5]) rfl rfl rfl (by simp [Value.cells]) (by kernel_rfl) (by simp [Value.oneCell']) foc0 (by simp [Value.cells]) rfl
        refine TL.nil ?_
        refine TE.next ?_
        refine TC.seq ?_
        refine TC.seq ?_
        refine TC.region ?_
        refine' TL.y rfl rfl rfl ?hy18 ?_
        case hy18 => exact Yl.move rfl rfl
        refine' TL.y rfl rfl rfl ?hy19 ?_
        case hy19 => exact Yl.move rfl rfl
        refine' TL.y rfl rfl rfl ?hy20 ?_
        case hy20 => exact Yl.bin rfl rfl rfl (Bin.geq _ _ _ _)
        refine TL.nil ?_
        refine TE.next ?_
        refine TC.cond rfl (fun hs23 => ?_) (fun hs23 => ?_)
        · skip
          (try simp only [nrm] at hs23)
          refine TC.seq ?_
          refine TC.region ?_
          refine' TL.y rfl rfl rfl ?hy21 ?_
          case hy21 => exact Yl.move rfl rfl
          refine' TL.y rfl rfl rfl ?hy22 ?_
          case hy22 => exact Yl.loads (cs := [.int .i64 ((atG l i)).f0, .int .i64 ((atG l i)).f1, .int .i64 ((atG l i)).f2, .int .i64 ((atG l i)).f3, .int .i64 ((atG l i)).f4, .bool ((atG l i)).f5]) rfl rfl (by kernel_rfl) (by kernel_rfl) (Hp.cells mem0 (fun j v hj => by simpa using hj))
          refine' TL.y rfl rfl rfl ?hy23 ?_
          case hy23 => first | exact Yl.field0 (k := 0) 0 rfl rfl Try.underlying28 rfl (by kernel_rfl) rfl | exact Yl.field (k := 0) 0 rfl rfl Try.underlying28 rfl (by kernel_rfl) rfl
          refine' TL.y rfl rfl rfl ?hy24 ?_
          case hy24 => exact Yl.load rfl rfl (by kernel_rfl) (by first | exact Hp.cell mem0 rfl | exact Hp.cell mem1 rfl | exact Hp.cell mem2 rfl | exact Hp.cell mem3 rfl | exact Hp.cell mem4 rfl | exact Hp.rowAt mem0 (by omega) rfl | exact Hp.rowAt mem1 (by omega) rfl | exact Hp.rowAt mem2 (by omega) rfl | exact Hp.rowAt mem3 (by omega) rfl | exact Hp.rowAt mem4 (by omega) rfl)
          refine' TL.y rfl rfl rfl ?hy25 ?_
          case hy25 => first | exact Yl.field0 (k := 0) 1 rfl rfl Try.underlying28 rfl (by kernel_rfl) rfl | exact Yl.field (k := 0) 1 rfl rfl Try.underlying28 rfl (by kernel_rfl) rfl
          refine' TL.y rfl rfl rfl ?hy26 ?_
          case hy26 => exact Yl.load rfl rfl (by kernel_rfl) (by first | exact Hp.cell mem0 rfl | exact Hp.cell mem1 rfl | exact Hp.cell mem2 rfl | exact Hp.cell mem3 rfl | exact Hp.cell mem4 rfl | exact Hp.rowAt mem0 (by omega) rfl | exact Hp.rowAt mem1 (by omega) rfl | exact Hp.rowAt mem2 (by omega) rfl | exact Hp.rowAt mem3 (by omega) rfl | exact Hp.rowAt mem4 (by omega) rfl)
          refine' TL.c rfl rfl rfl ?hy27 ?_
          case hy27 => exact Yc.callx rfl rfl Try.func74 rfl rfl rfl (Hp.turnx mem1 (fun s => foc1) (k_keepx (by omega) hgd (by omega) (by omega)))
          intro v2
          refine TL.nil ?_
          refine TE.next ?_
          refine TC.exit ?_
          refine TE.thenExit ?_
          refine TE.inHere ?_
          refine TE.next ?_
          refine TC.region ?_
          refine' TL.y rfl rfl rfl ?hy28 ?_
          case hy28 => first | (refine Yl.val (Yl.bin rfl rfl rfl (Bin.add _ _ _ _)) (congrArg (Value.int .i64) (i64in ?_ ?_)) <;> omega) | exact Yl.bin rfl rfl rfl (Bin.add _ _ _ _)
          refine' TL.y rfl rfl rfl ?hy29 ?_
          case hy29 => exact Yl.move rfl rfl
          refine TL.nil ?_
          refine TE.round (i + 1, v2) ?hF30 ?hlt30 ?hs30 ?hm30
          case hF30 => dsimp only; omega
          case hlt30 => dsimp only; omega
          case hs30 => exact ⟨rfl, rfl, rfl, rfl, rfl, rfl, rfl, trivial⟩
          case hm30 => exact (fun w h => by
            dsimp only
            rw [atG_take (by omega), cutS_snoc, show stepC p q (atG l i) = keepL (atG l i) (atG l i).f0 (atG l i).f1 from if_pos (by omega)]
            exact h.sub (List.sublist_cons_self _ _))
        · skip
          (try simp only [nrm] at hs23)
          refine TC.skip ?_
          refine TE.next ?_
          refine TC.seq ?_
          refine TC.region ?_
          refine' TL.y rfl rfl rfl ?hy31 ?_
          case hy31 => exact Yl.move rfl rfl
          refine' TL.y rfl rfl rfl ?hy32 ?_
          case hy32 => exact Yl.loads (cs := [.int .i64 ((atG l i)).f0, .int .i64 ((atG l i)).f1, .int .i64 ((atG l i)).f2, .int .i64 ((atG l i)).f3, .int .i64 ((atG l i)).f4, .bool ((atG l i)).f5]) rfl rfl (by kernel_rfl) (by kernel_rfl) (Hp.cells mem0 (fun j v hj => by simpa using hj))
          refine' TL.y rfl rfl rfl ?hy33 ?_
          case hy33 => first | exact Yl.field0 (k := 0) 0 rfl rfl Try.underlying28 rfl (by kernel_rfl) rfl | exact Yl.field (k := 0) 0 rfl rfl Try.underlying28 rfl (by kernel_rfl) rfl
          refine' TL.y rfl rfl rfl ?hy34 ?_
          case hy34 => exact Yl.load rfl rfl (by kernel_rfl) (by first | exact Hp.cell mem0 rfl | exact Hp.cell mem1 rfl | exact Hp.cell mem2 rfl | exact Hp.cell mem3 rfl | exact Hp.cell mem4 rfl | exact Hp.rowAt mem0 (by omega) rfl | exact Hp.rowAt mem1 (by omega) rfl | exact Hp.rowAt mem2 (by omega) rfl | exact Hp.rowAt mem3 (by omega) rfl | exact Hp.rowAt mem4 (by omega) rfl)
          refine' TL.y rfl rfl rfl ?hy35 ?_
          case hy35 => first | exact Yl.field0 (k := 0) 1 rfl rfl Try.underlying28 rfl (by kernel_rfl) rfl | exact Yl.field (k := 0) 1 rfl rfl Try.underlying28 rfl (by kernel_rfl) rfl
          refine' TL.y rfl rfl rfl ?hy36 ?_
          case hy36 => exact Yl.load rfl rfl (by kernel_rfl) (by first | exact Hp.cell mem0 rfl | exact Hp.cell mem1 rfl | exact Hp.cell mem2 rfl | exact Hp.cell mem3 rfl | exact Hp.cell mem4 rfl | exact Hp.rowAt mem0 (by omega) rfl | exact Hp.rowAt mem1 (by omega) rfl | exact Hp.rowAt mem2 (by omega) rfl | exact Hp.rowAt mem3 (by omega) rfl | exact Hp.rowAt mem4 (by omega) rfl)
          refine' TL.y rfl rfl rfl ?hy37 ?_
          case hy37 => exact Yl.move rfl rfl
          refine' TL.y rfl rfl rfl ?hy38 ?_
          case hy38 => exact Yl.min rfl rfl rfl
          refine' TL.c rfl rfl rfl ?hy39 ?_
          case hy39 => exact Yc.callx rfl rfl Try.func74 rfl rfl rfl (Hp.turnx mem1 (fun s => foc1) (k_keepx (by omega) hgd (by omega) (by split <;> omega)))
          intro v2
          refine TL.nil ?_
          refine TE.next ?_
          refine TC.region ?_
          refine' TL.y rfl rfl rfl ?hy40 ?_
          case hy40 => exact Yl.move rfl rfl
          refine' TL.y rfl rfl rfl ?hy41 ?_
          case hy41 => exact Yl.loads (cs := [.int .i64 ((atG l i)).f0, .int .i64 ((atG l i)).f1, .int .i64 ((atG l i)).f2, .int .i64 ((atG l i)).f3, .int .i64 ((atG l i)).f4, .bool ((atG l i)).f5]) rfl rfl (by kernel_rfl) (by kernel_rfl) (Hp.cells mem0 (fun j v hj => by simpa using hj))
          refine' TL.y rfl rfl rfl ?hy42 ?_
          case hy42 => first | exact Yl.field0 (k := 0) 0 rfl rfl Try.underlying28 rfl (by kernel_rfl) rfl | exact Yl.field (k := 0) 0 rfl rfl Try.underlying28 rfl (by kernel_rfl) rfl
          refine' TL.y rfl rfl rfl ?hy43 ?_
          case hy43 => exact Yl.load rfl rfl (by kernel_rfl) (by first | exact Hp.cell mem0 rfl | exact Hp.cell mem1 rfl | exact Hp.cell mem2 rfl | exact Hp.cell mem3 rfl | exact Hp.cell mem4 rfl | exact Hp.rowAt mem0 (by omega) rfl | exact Hp.rowAt mem1 (by omega) rfl | exact Hp.rowAt mem2 (by omega) rfl | exact Hp.rowAt mem3 (by omega) rfl | exact Hp.rowAt mem4 (by omega) rfl)
          refine' TL.y rfl rfl rfl ?hy44 ?_
          case hy44 => exact Yl.move rfl rfl
          refine' TL.y rfl rfl rfl ?hy45 ?_
          case hy45 => exact Yl.max rfl rfl rfl
          refine' TL.y rfl rfl rfl ?hy46 ?_
          case hy46 => first | exact Yl.field0 (k := 0) 1 rfl rfl Try.underlying28 rfl (by kernel_rfl) rfl | exact Yl.field (k := 0) 1 rfl rfl Try.underlying28 rfl (by kernel_rfl) rfl
          refine' TL.y rfl rfl rfl ?hy47 ?_
          case hy47 => exact Yl.load rfl rfl (by kernel_rfl) (by first | exact Hp.cell mem0 rfl | exact Hp.cell mem1 rfl | exact Hp.cell mem2 rfl | exact Hp.cell mem3 rfl | exact Hp.cell mem4 rfl | exact Hp.rowAt mem0 (by omega) rfl | exact Hp.rowAt mem1 (by omega) rfl | exact Hp.rowAt mem2 (by omega) rfl | exact Hp.rowAt mem3 (by omega) rfl | exact Hp.rowAt mem4 (by omega) rfl)
          refine' TL.c rfl rfl rfl ?hy48 ?_
          case hy48 => exact Yc.callx rfl rfl Try.func74 rfl rfl rfl (Hp.turnx mem1 (fun s => foc1) (k_keepx (by rw [List.length_append]; omega) hgd (by split <;> omega) (by omega)))
          intro v3
          refine TL.nil ?_
          refine TE.inNormal ?_
          refine TE.next ?_
          refine TC.region ?_
          refine' TL.y rfl rfl rfl ?hy49 ?_
          case hy49 => first | (refine Yl.val (Yl.bin rfl rfl rfl (Bin.add _ _ _ _)) (congrArg (Value.int .i64) (i64in ?_ ?_)) <;> omega) | exact Yl.bin rfl rfl rfl (Bin.add _ _ _ _)
          refine' TL.y rfl rfl rfl ?hy50 ?_
          case hy50 => exact Yl.move rfl rfl
          refine TL.nil ?_
          refine TE.round (i + 1, v3) ?hF51 ?hlt51 ?hs51 ?hm51
          case hF51 => dsimp only; omega
          case hlt51 => dsimp only; omega
          case hs51 => exact ⟨rfl, rfl, rfl, rfl, rfl, rfl, rfl, trivial⟩
          case hm51 => exact (fun w h => by
            dsimp only
            rw [atG_take (by omega), cutS_snoc, show stepC p q (atG l i) = keepL (atG l i) (atG l i).f0 (mnG (atG l i).f1 p) ++ keepL (atG l i) (mxG (atG l i).f0 q) (atG l i).f1 from if_neg (by omega), ← List.append_assoc]
            exact h.sub (List.sublist_cons_self _ _))
      · skip
        (try simp only [nrm] at hs18)
        refine TC.exit ?_
        refine TE.thenExit ?_
        refine TE.thenExit ?_
        refine TE.inHere ?_
        refine TE.next ?_
        refine TC.seq ?_
        refine TC.region ?_
        refine' TL.y rfl rfl rfl ?hy52 ?_
        case hy52 => exact Yl.load rfl rfl (by kernel_rfl) (fun w h => Hp.cell (W0 := W) (T := fun _ => False) mem0 rfl w h.unstar)
        refine' TL.y rfl rfl rfl ?hy53 ?_
        case hy53 => exact Yl.assign rfl rfl
        refine TL.nil ?_
        refine TE.next ?_
        refine TC.ret ?_
        refine TE.ret1 rfl rfl ?_
        obtain rfl : i = l.length := by omega
        have hrt : rightB l = true := by simpa using hs13
        exact fun w h => ⟨v, rfl, by rw [show cutL l p q = cutS l p q from if_pos hrt]; rw [List.take_length] at h; exact (h.unstar.sub (.cons _ (List.Sublist.refl _))).leaveNew⟩
set_option maxRecDepth 100000 in
set_option maxHeartbeats 2000000 in
theorem k_gclone (W : World) {l : List S25} {A : Option Addr} {cp : Nat} (hS : Sl W A (Rw l)) (hm : l.length ≤ 100000) : Calls Try.prog 46 #[.slice A l.length cp] W fun e w' => ∃ v : Value, e = .returned v ∧ (rowG v (l)).holds w' ∧ Below W.heap.size W w' ∧ ∀ k, (rowG v (l)).foot k → W.heap.size ≤ k := by
  have hM : Hp W (fun _ => False) [] W := Hp.start
  refine TC.enter (n := 8) Try.func46 rfl rfl rfl hM ?_
  refine TC.seq ?_
  refine TC.region ?_
  refine' TL.y rfl rfl rfl ?hy1 ?_
  case hy1 => exact Yl.assign rfl rfl
  refine TL.nil ?_
  refine TE.next ?_
  refine TC.seq ?_
  refine TC.seq ?_
  refine TC.region ?_
  refine' TL.y rfl rfl rfl ?hy2 ?_
  case hy2 => exact Yl.move rfl rfl
  refine' TL.y rfl rfl rfl ?hy3 ?_
  case hy3 => exact Yl.bin rfl rfl rfl (Bin.eqlS _ _ _ _ _ Try.underlying44)
  refine TL.nil ?_
  refine TE.next ?_
  refine TC.cond rfl (fun hs4 => ?_) (fun hs4 => ?_)
  · skip
    (try simp only [nrm] at hs4)
    refine TC.seq ?_
    refine TC.region ?_
    refine' TL.y rfl rfl rfl ?hy4 ?_
    case hy4 => exact Yl.assign rfl rfl
    refine TL.nil ?_
    refine TE.next ?_
    refine TC.ret ?_
    refine TE.thenRet ?_
    refine TE.ret1 rfl rfl ?_
    have hnl : l = [] := by
      cases A with
      | none =>
        cases l with
        | nil => rfl
        | cons x l => obtain ⟨b, o, h⟩ := Sl.some2 hS (by rw [Rw_length]; simp); cases h
      | some a => simp at hs4
    exact fun w h => ⟨_, rfl, by rw [hnl]; exact (rowG_nil h).leaveNew⟩
  · skip
    (try simp only [nrm] at hs4)
    refine TC.skip ?_
    refine TE.next ?_
    refine TC.seq ?_
    refine TC.region ?_
    refine' TL.mx rfl rfl rfl ?hy5 ?_
    case hy5 => exact Ym.buildNone (z := .agg #[.int .i64 0, .int .i64 0, .int .i64 0, .int .i64 0, .int .i64 0, .bool false]) (size := 6) rfl Try.underlying44 rfl
    intro b5
    refine' TL.y rfl rfl rfl ?hy6 ?_
    case hy6 => exact Yl.move rfl rfl
    refine' TL.mx rfl rfl rfl ?hy7 ?_
    case hy7 => exact Ym.appendSl (e := 28) (m := 0) (xs := []) (news := Rw l) rfl Try.underlying44 (by kernel_rfl) (z := .agg #[.int .i64 0, .int .i64 0, .int .i64 0, .int .i64 0, .int .i64 0, .bool false]) (size := 6) (bytes := 48) rfl (by decide) (by decide) rfl rfl (by rw [Rw_length]) (fun w h => hS.below h.below) Rw_cell1 (by omega) (fun v' => foc0)
    intro v7
    refine TL.wk (M' := Hp W (fun _ => False) [rowG v7 l]) (fun w h => by rw [Nat.zero_add, List.nil_append] at h; exact h) ?_
    refine' TL.y rfl rfl rfl ?hy8 ?_
    case hy8 => exact Yl.assign rfl rfl
    refine TL.nil ?_
    refine TE.next ?_
    refine TC.ret ?_
    refine TE.ret1 rfl rfl ?_
    exact fun w h => ⟨v7, rfl, h.leaveNew⟩
end Go.Proofs.Ytabjdjkkpbkpfaa.Pk
