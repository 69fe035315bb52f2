/- The document's log of shadows. -/
import Derived.Test.YtpkpipkjmlhfaaaWorks
import Derived.Test.YtpkpipkjmlhfaaaHL
import Derived.RowKit3
namespace Go.Proofs.Ytpkpipkjmlhfaaa.Pure
open Go.RowKit Go.Proofs.Ytpkpipkjmlhfaaa.A Go.Proofs.Ytpkpipkjmlhfaaa.Ev Go.Proofs.YtpkpipkjmlhfaaaW.PrintWords Go.Proofs.YtpkpipkjmlhfaaaW.PrintLast Go.Proofs.YtpkpipkjmlhfaaaW.PrintMore
set_option linter.unusedVariables false
set_option linter.unusedSimpArgs false
open Go.Proofs.Ytpkpipkjmlhfaaa.HL
/-- 64 numbers. -/
def rowC (f : Nat → Int) : Array Value := Array.ofFn (n := 64) fun j => .int .i64 (f j.val)
theorem rowC_size (f : Nat → Int) : (rowC f).size = 64 := by simp [rowC]
theorem rowC_get (f : Nat → Int) (i : Nat) (h : i < 64) : (rowC f)[i]? = some (.int .i64 (f i)) := by
  rw [rowC, Array.getElem?_ofFn, dif_pos h]
theorem rowC_set (f : Nat → Int) (i : Nat) (x : Int) : (rowC f).setIfInBounds i (.int .i64 x) = rowC (A.up f i x) := by
  apply Array.ext
  · simp [rowC]
  · intro j h1 h2
    have hj : j < 64 := by simpa [rowC] using h2
    by_cases e : i = j
    · subst e
      rw [Array.getElem_setIfInBounds_self]
      simp [rowC, A.up]
    · rw [Array.getElem_setIfInBounds_ne (by simpa [rowC] using hj) e]
      simp [rowC, A.up, Ne.symm e]
theorem rowC_zero : Array.replicate 64 (Value.int .i64 0) = rowC f0 := by
  apply Array.ext
  · simp [rowC]
  · intro j h1 h2
    simp [rowC, f0]
attribute [local irreducible] rowC f0 mk lookS distS A.up
def twoO (c d : Nat) : Obj := .cells #[.slice (some ⟨c, 0, none⟩) 64 64, .slice (some ⟨d, 0, none⟩) 64 64] 42 (0, 0)
/-- The document's log. -/
def refR (p c d : Nat) (f h : Nat → Int) : Res := star (blk p (twoO c d)) (star (blk c (.cells (rowC f) 3 (0, 0))) (blk d (.cells (rowC h) 3 (0, 0))))
section
variable {W0 w : World} {T : Nat → Prop} {H : List Res}
theorem ref_open {p c d : Nat} {f h : Nat → Int} (hh : Hp W0 T (refR p c d f h :: H) w) : Hp W0 T (blk c (.cells (rowC f) 3 (0, 0)) :: blk d (.cells (rowC h) 3 (0, 0)) :: blk p (twoO c d) :: H) w := hh.unstar.swap.unstar
theorem ref_shut {p c d : Nat} {f h : Nat → Int} (hh : Hp W0 T (blk c (.cells (rowC f) 3 (0, 0)) :: blk d (.cells (rowC h) 3 (0, 0)) :: blk p (twoO c d) :: H) w) : Hp W0 T (refR p c d f h :: H) w := (hh.tostar).swap.tostar
end
theorem k_rlook (x : Int) (h0 : 0 ≤ x) (h1 : x < 18446744073709551616) : Gives Try.prog 10 #[.int .u64 x] (.tuple #[.int .i64 (lookS x).1, .int .i64 (lookS x).2.1, .bool (lookS x).2.2]) := fun W => (millpondref13_Look.calls x (lookS x).1 (lookS x).2.1 (lookS x).2.2 W (rlook_is x h0 h1)).mono fun e w' h => ⟨h.1, h.2.below⟩
theorem k_rdist (x c : Int) (h0 : 0 ≤ x) (h1 : x < 18446744073709551616) (hc : -9223372036854775808 ≤ c ∧ c ≤ 9223372036854775807) : Gives Try.prog 11 #[.int .u64 x, .int .i64 c] (.int .i64 (distS x c)) := fun W => (millpondref13_Distance.calls x c _ W (rdist_is x c h0 h1 hc)).mono fun e w' h => ⟨h.1, h.2.below⟩
theorem k_rmake (g c : Int) (hg : -9223372036854775808 ≤ g ∧ g ≤ 9223372036854775807) (hc : -9223372036854775808 ≤ c ∧ c ≤ 9223372036854775807) : Gives Try.prog 13 #[.int .i64 g, .int .i64 c] (.int .u64 (mk g c)) := fun W => (millpondref13_Make.calls g c _ W (rmake_is g c hc)).mono fun e w' h => ⟨h.1, h.2.below⟩
set_option maxRecDepth 100000 in
set_option maxHeartbeats 2000000 in
theorem ref_new : Makes Try.prog 17 #[] (fun s : Nat × Nat × Nat => .pointer (some ⟨s.1, 0, none⟩)) (fun s => refR s.1 s.2.1 s.2.2 f0 f0) := by
  intro W
  have hM : Hp W (fun _ => False) [] W := Hp.start
  refine TC.enter (n := 5) Try.func17 rfl rfl rfl hM ?_
  refine TC.seq ?_
  refine TC.region ?_
  refine' TL.y rfl rfl rfl ?hy1 ?_
  case hy1 => exact Yl.assign rfl rfl
  refine TL.nil ?_
  refine TE.next ?_
  refine TC.seq ?_
  refine TC.draw (k := 5) _ [] #[false, false, false, false, false] (by kernel_rfl) rfl rfl (fun _ h => h.drew) (fun _ h => h) ?_
  refine' TA.twoMM (i := 0) (j := 1) #[true, false, false, false, false] #[false, true, false, false, false] rfl rfl rfl rfl rfl rfl (by kernel_rfl) (by decide) (by decide) rfl rfl ?hy2 ?hs2 ?hz2 ?hq2 ?hF2 ?hm2
  case hy2 => exact Ym.make (z := .int .i64 0) (by_ := 8) rfl rfl rfl Try.underlying40 (by kernel_rfl) rfl (by decide) (by decide) (by decide)
  case hs2 => exact Ym.make (z := .int .i64 0) (by_ := 8) rfl rfl rfl Try.underlying40 (by kernel_rfl) rfl (by decide) (by decide) (by decide)
  case hz2 => exact (fun _ _ h => by exact Hp.sub h (by repeat (first | exact List.Sublist.refl _ | apply List.Sublist.cons)))
  case hq2 => exact (fun _ _ h => by exact Hp.sub h (by repeat (first | exact List.Sublist.refl _ | apply List.Sublist.cons)))
  case hF2 =>
    intro b1
    refine' TA.mx (i := 1) #[true, true, false, false, false] rfl rfl rfl (by kernel_rfl) (by decide) rfl ?hy3 ?hz3 ?_
    case hy3 => exact Ym.make (z := .int .i64 0) (by_ := 8) rfl rfl rfl Try.underlying40 (by kernel_rfl) rfl (by decide) (by decide) (by decide)
    case hz3 => exact (fun _ _ h => by exact Hp.sub h (by repeat (first | exact List.Sublist.refl _ | apply List.Sublist.cons)))
    intro b2
    refine' TA.y (i := 2) #[true, true, true, false, false] rfl rfl rfl (by kernel_rfl) (fun _ _ _ h => h) (fun _ h => by exact Hp.sub h (by repeat (first | exact List.Sublist.refl _ | apply List.Sublist.cons))) rfl ?hy4 ?_
    case hy4 => exact Yl.build (z := .agg #[.slice none 0 0, .slice none 0 0]) [(0, 1), (1, 1)] rfl (by kernel_rfl) Try.underlying42 (by kernel_rfl) rfl rfl
    refine' TA.mx (i := 3) #[true, true, true, true, false] rfl rfl rfl (by kernel_rfl) (by decide) rfl ?hy5 ?hz5 ?_
    case hy5 => exact Ym.box rfl rfl
    case hz5 => exact (fun _ _ h => by exact Hp.sub h (by repeat (first | exact List.Sublist.refl _ | apply List.Sublist.cons)))
    intro b4
    refine' TA.y (i := 4) #[true, true, true, true, true] rfl rfl rfl (by kernel_rfl) (fun _ _ _ h => h) (fun _ h => by exact Hp.sub h (by repeat (first | exact List.Sublist.refl _ | apply List.Sublist.cons))) rfl ?hy6 ?_
    case hy6 => exact Yl.assign rfl rfl
    refine TA.done (by kernel_rfl) ?_
    refine TE.next ?_
    refine TC.ret ?_
    refine TE.ret1 rfl rfl ?_
    exact fun w h => by
        first
        | exact ⟨(b4, b1, b2), rfl, (ref_shut (p := b4) (f := f0) (h := f0) (by rw [← rowC_zero]; exact h.swap.swap1)).leaveNew⟩
        | exact ⟨(b4, b1, b2), rfl, (ref_shut (p := b4) (f := f0) (h := f0) (by rw [← rowC_zero]; exact h.swap.swap1.swap)).leaveNew⟩
  case hm2 =>
    intro b2
    refine' TA.mx (i := 0) #[true, true, false, false, false] rfl rfl rfl (by kernel_rfl) (by decide) rfl ?hy7 ?hz7 ?_
    case hy7 => exact Ym.make (z := .int .i64 0) (by_ := 8) rfl rfl rfl Try.underlying40 (by kernel_rfl) rfl (by decide) (by decide) (by decide)
    case hz7 => exact (fun _ _ h => by exact Hp.sub h (by repeat (first | exact List.Sublist.refl _ | apply List.Sublist.cons)))
    intro b1
    refine' TA.y (i := 2) #[true, true, true, false, false] rfl rfl rfl (by kernel_rfl) (fun _ _ _ h => h) (fun _ h => by exact Hp.sub h (by repeat (first | exact List.Sublist.refl _ | apply List.Sublist.cons))) rfl ?hy8 ?_
    case hy8 => exact Yl.build (z := .agg #[.slice none 0 0, .slice none 0 0]) [(0, 1), (1, 1)] rfl (by kernel_rfl) Try.underlying42 (by kernel_rfl) rfl rfl
    refine' TA.mx (i := 3) #[true, true, true, true, false] rfl rfl rfl (by kernel_rfl) (by decide) rfl ?hy9 ?hz9 ?_
    case hy9 => exact Ym.box rfl rfl
    case hz9 => exact (fun _ _ h => by exact Hp.sub h (by repeat (first | exact List.Sublist.refl _ | apply List.Sublist.cons)))
    intro b4
    refine' TA.y (i := 4) #[true, true, true, true, true] rfl rfl rfl (by kernel_rfl) (fun _ _ _ h => h) (fun _ h => by exact Hp.sub h (by repeat (first | exact List.Sublist.refl _ | apply List.Sublist.cons))) rfl ?hy10 ?_
    case hy10 => exact Yl.assign rfl rfl
    refine TA.done (by kernel_rfl) ?_
    refine TE.next ?_
    refine TC.ret ?_
    refine TE.ret1 rfl rfl ?_
    exact fun w h => by
        first
        | exact ⟨(b4, b1, b2), rfl, (ref_shut (p := b4) (f := f0) (h := f0) (by rw [← rowC_zero]; exact h.swap.swap1)).leaveNew⟩
        | exact ⟨(b4, b1, b2), rfl, (ref_shut (p := b4) (f := f0) (h := f0) (by rw [← rowC_zero]; exact h.swap.swap1.swap)).leaveNew⟩
set_option maxRecDepth 100000 in
set_option maxHeartbeats 2000000 in
theorem ref_went (p c d : Nat) (f h : Nat → Int) (g : Int) (h0 : 0 ≤ g) (h1 : g < 64) (hb : 0 ≤ f g.toNat ∧ f g.toNat < 1000) : Turn Try.prog 19 #[.pointer (some ⟨p, 0, none⟩), .int .i64 g] (refR p c d f h) (.int .u64 (mk g (f g.toNat))) (refR p c d (A.up f g.toNat (f g.toNat + 1)) h) := by
  intro W hW
  have hM := ref_open (Hp.enter hW)
  refine TC.enter (n := 30) Try.func19 rfl rfl rfl hM ?_
  refine TC.seq ?_
  refine TC.region ?_
  refine' TL.y rfl rfl rfl ?hy1 ?_
  case hy1 => exact Yl.assign rfl rfl
  refine TL.nil ?_
  refine TE.next ?_
  refine TC.seq ?_
  refine TC.seq ?_
  refine TC.region ?_
  refine' TL.y rfl rfl rfl ?hy2 ?_
  case hy2 => exact Yl.move rfl rfl
  refine' TL.y rfl rfl rfl ?hy3 ?_
  case hy3 => exact Yl.bin rfl rfl rfl (Bin.lss _ _ _ _)
  refine' TL.y rfl rfl rfl ?hy4 ?_
  case hy4 => exact Yl.move rfl rfl
  refine TL.re (i := 7) (v' := .bool false) rfl (congrArg Value.bool (by first | (simp; done) | (simp; omega))) ?_
  refine' TL.y rfl rfl rfl ?hy5 ?_
  case hy5 => exact Yl.move rfl rfl
  refine' TL.y rfl rfl rfl ?hy6 ?_
  case hy6 => exact Yl.bin rfl rfl rfl (Bin.gtr _ _ _ _)
  refine' TL.y rfl rfl rfl ?hy7 ?_
  case hy7 => exact Yl.pickF rfl rfl rfl
  refine TL.nil ?_
  refine TE.next ?_
  refine TC.no rfl (by first | (simp; done) | (simp; omega)) ?_
  refine TC.skip ?_
  refine TE.next ?_
  refine TC.seq ?_
  refine TC.region ?_
  refine' TL.y rfl rfl rfl ?hy8 ?_
  case hy8 => exact Yl.move rfl rfl
  refine' TL.y rfl rfl rfl ?hy9 ?_
  case hy9 => exact Yl.nilCheck rfl rfl
  refine' TL.y rfl rfl rfl ?hy10 ?_
  case hy10 => first | exact Yl.field0 (k := 0) 0 rfl rfl Try.underlying42 rfl (by kernel_rfl) rfl | exact Yl.field (k := 0) 0 rfl rfl Try.underlying42 rfl (by kernel_rfl) rfl
  refine' TL.y rfl rfl rfl ?hy11 ?_
  case hy11 => exact Yl.load rfl rfl (by kernel_rfl) (Hp.cell mem2 rfl)
  refine' TL.y rfl rfl rfl ?hy12 ?_
  case hy12 => exact Yl.move rfl rfl
  refine' TL.y rfl rfl rfl ?hy13 ?_
  case hy13 => exact Yl.idxS (k := 1) (ad' := ⟨c, g.toNat, none⟩) rfl rfl rfl Try.underlying40 (by kernel_rfl) (by omega) (by simp; omega) (by simp [Addr.at_])
  refine' TL.y rfl rfl rfl ?hy14 ?_
  case hy14 => exact Yl.load rfl rfl (by kernel_rfl) (Hp.cell mem0 (rowC_get _ _ (by omega)))
  refine' TL.y rfl rfl rfl ?hy15 ?_
  case hy15 => first | (refine Yl.val (Yl.bin rfl rfl rfl (Bin.add _ _ _ _)) (congrArg (Value.int .i64) (i64in ?_ ?_)) <;> omega) | exact Yl.bin rfl rfl rfl (Bin.add _ _ _ _)
  refine' TL.y rfl rfl rfl ?hy16 ?_
  case hy16 => exact Yl.idxS (k := 1) (ad' := ⟨c, g.toNat, none⟩) rfl rfl rfl Try.underlying40 (by kernel_rfl) (by omega) (by simp; omega) (by simp [Addr.at_])
  refine' TL.s rfl rfl ?hy17 ?_
  case hy17 => exact Ys.store (seg := [_]) rfl rfl rfl rfl (by kernel_rfl) (by simp [Value.oneCell']) foc0 (by rw [rowC_size]; simp; omega) ((show putAt _ _ [_] = _ from rowC_set f g.toNat _))
  refine TL.nil ?_
  refine TE.next ?_
  refine TC.seq ?_
  refine TC.region ?_
  refine' TL.y rfl rfl rfl ?hy18 ?_
  case hy18 => exact Yl.move rfl rfl
  refine' TL.y rfl rfl rfl ?hy19 ?_
  case hy19 => exact Yl.move rfl rfl
  refine' TL.y rfl rfl rfl ?hy20 ?_
  case hy20 => exact Yl.nilCheck rfl rfl
  refine' TL.y rfl rfl rfl ?hy21 ?_
  case hy21 => first | exact Yl.field0 (k := 0) 0 rfl rfl Try.underlying42 rfl (by kernel_rfl) rfl | exact Yl.field (k := 0) 0 rfl rfl Try.underlying42 rfl (by kernel_rfl) rfl
  refine' TL.y rfl rfl rfl ?hy22 ?_
  case hy22 => exact Yl.load rfl rfl (by kernel_rfl) (Hp.cell mem2 rfl)
  refine' TL.y rfl rfl rfl ?hy23 ?_
  case hy23 => exact Yl.move rfl rfl
  refine' TL.y rfl rfl rfl ?hy24 ?_
  case hy24 => exact Yl.idxS (k := 1) (ad' := ⟨c, g.toNat, none⟩) rfl rfl rfl Try.underlying40 (by kernel_rfl) (by omega) (by simp; omega) (by simp [Addr.at_])
  refine' TL.y rfl rfl rfl ?hy25 ?_
  case hy25 => exact Yl.load rfl rfl (by kernel_rfl) (Hp.cell mem0 (rowC_get _ _ (by omega)))
  rw [show A.up f g.toNat (f g.toNat + 1) g.toNat = f g.toNat + 1 by unfold A.up; exact if_pos rfl]
  refine' TL.y rfl rfl rfl ?hy26 ?_
  case hy26 => first | (refine Yl.val (Yl.bin rfl rfl rfl (Bin.sub _ _ _ _)) (congrArg (Value.int .i64) (i64in ?_ ?_)) <;> omega) | exact Yl.bin rfl rfl rfl (Bin.sub _ _ _ _)
  rw [show f g.toNat + 1 - 1 = f g.toNat by omega]
  refine' TL.c rfl rfl rfl ?hy27 ?_
  case hy27 => exact Yc.call rfl Try.func13 (by kernel_rfl) rfl rfl (Hp.gives (k_rmake g _ (by omega) (by omega)))
  intro _
  refine' TL.y rfl rfl rfl ?hy28 ?_
  case hy28 => exact Yl.assign rfl rfl
  refine TL.nil ?_
  refine TE.next ?_
  refine TC.ret ?_
  refine TE.ret1 rfl rfl ?_
  exact fun w h => ⟨(), rfl, (ref_shut h).leave⟩
set_option maxRecDepth 100000 in
set_option maxHeartbeats 2000000 in
theorem ref_wentN0 (p : Nat) (r : Res) (g : Int) (h0 : g < 0) : Turn Try.prog 19 #[.pointer (some ⟨p, 0, none⟩), .int .i64 g] r (.int .u64 0) r := by
  intro W hW
  have hM := Hp.enter hW
  refine TC.enter (n := 30) Try.func19 rfl rfl rfl hM ?_
  refine TC.seq ?_
  refine TC.region ?_
  refine' TL.y rfl rfl rfl ?hy1 ?_
  case hy1 => exact Yl.assign rfl rfl
  refine TL.nil ?_
  refine TE.next ?_
  refine TC.seq ?_
  refine TC.seq ?_
  refine TC.region ?_
  refine' TL.y rfl rfl rfl ?hy2 ?_
  case hy2 => exact Yl.move rfl rfl
  refine' TL.y rfl rfl rfl ?hy3 ?_
  case hy3 => exact Yl.bin rfl rfl rfl (Bin.lss _ _ _ _)
  refine' TL.y rfl rfl rfl ?hy4 ?_
  case hy4 => exact Yl.move rfl rfl
  refine TL.re (i := 7) (v' := .bool true) rfl (congrArg Value.bool (by first | (simp; done) | (simp; omega))) ?_
  refine TL.skip rfl rfl rfl ?_
  refine TL.skip rfl rfl rfl ?_
  refine' TL.y rfl rfl rfl ?hy5 ?_
  case hy5 => exact Yl.pickT rfl rfl rfl
  refine TL.nil ?_
  refine TE.next ?_
  refine TC.yes rfl rfl ?_
  refine TC.seq ?_
  refine TC.region ?_
  refine' TL.y rfl rfl rfl ?hy6 ?_
  case hy6 => exact Yl.assign rfl rfl
  refine TL.nil ?_
  refine TE.next ?_
  refine TC.ret ?_
  refine TE.thenRet ?_
  refine TE.ret1 rfl rfl ?_
  exact fun w h => ⟨(), rfl, h.leave⟩
set_option maxRecDepth 100000 in
set_option maxHeartbeats 2000000 in
theorem ref_wentN1 (p : Nat) (r : Res) (g : Int) (h0 : ¬ g < 0) (h1 : 63 < g) : Turn Try.prog 19 #[.pointer (some ⟨p, 0, none⟩), .int .i64 g] r (.int .u64 0) r := by
  intro W hW
  have hM := Hp.enter hW
  refine TC.enter (n := 30) Try.func19 rfl rfl rfl hM ?_
  refine TC.seq ?_
  refine TC.region ?_
  refine' TL.y rfl rfl rfl ?hy1 ?_
  case hy1 => exact Yl.assign rfl rfl
  refine TL.nil ?_
  refine TE.next ?_
  refine TC.seq ?_
  refine TC.seq ?_
  refine TC.region ?_
  refine' TL.y rfl rfl rfl ?hy2 ?_
  case hy2 => exact Yl.move rfl rfl
  refine' TL.y rfl rfl rfl ?hy3 ?_
  case hy3 => exact Yl.bin rfl rfl rfl (Bin.lss _ _ _ _)
  refine' TL.y rfl rfl rfl ?hy4 ?_
  case hy4 => exact Yl.move rfl rfl
  refine TL.re (i := 7) (v' := .bool false) rfl (congrArg Value.bool (by first | (simp; done) | (simp; omega))) ?_
  refine' TL.y rfl rfl rfl ?hy5 ?_
  case hy5 => exact Yl.move rfl rfl
  refine' TL.y rfl rfl rfl ?hy6 ?_
  case hy6 => exact Yl.bin rfl rfl rfl (Bin.gtr _ _ _ _)
  refine' TL.y rfl rfl rfl ?hy7 ?_
  case hy7 => exact Yl.pickF rfl rfl rfl
  refine TL.nil ?_
  refine TE.next ?_
  refine TC.yes rfl (by first | (simp; done) | (simp; omega)) ?_
  refine TC.seq ?_
  refine TC.region ?_
  refine' TL.y rfl rfl rfl ?hy8 ?_
  case hy8 => exact Yl.assign rfl rfl
  refine TL.nil ?_
  refine TE.next ?_
  refine TC.ret ?_
  refine TE.thenRet ?_
  refine TE.ret1 rfl rfl ?_
  exact fun w h => ⟨(), rfl, h.leave⟩
/-- What comes back: whether it does; and what is counted. -/
def cameB (f : Nat → Int) (x res : Int) : Bool := (lookS x).2.2 && decide ((lookS x).1 ≤ 63) && decide (distS x (f (lookS x).1.toNat) ≤ res)
def cameH (h : Nat → Int) (tg : Int) : Nat → Int := if 0 ≤ tg ∧ tg < 64 then A.up h tg.toNat (h tg.toNat + 1) else h
theorem lookS_bd (x : Int) (h0 : 0 ≤ x) : 0 ≤ (lookS x).1 ∧ (lookS x).1 < 256 := by
  unfold lookS; split <;> simp <;> omega
theorem distS_bd (x c : Int) (h : (lookS x).2.2 = true) (hc : 0 ≤ c) : 0 ≤ distS x c := by
  unfold distS
  have : isS x = true := by
    unfold lookS at h; split at h
    · assumption
    · cases h
  rw [if_pos ⟨this, hc⟩]; omega
set_option maxRecDepth 100000 in
set_option maxHeartbeats 2000000 in
theorem ref_came0 (p c d : Nat) (f h : Nat → Int) (x : Int) (x0 : 0 ≤ x) (x1 : x < 18446744073709551616) (tg res : Int) (hf : ∀ k, 0 ≤ f k ∧ f k < 1000) (hh : ∀ k, 0 ≤ h k ∧ h k < 1000) (hok : (lookS x).2.2 = false) : Turn Try.prog 21 #[.pointer (some ⟨p, 0, none⟩), .int .u64 x, .int .i64 tg, .int .i64 res] (refR p c d f h) (.bool false) (refR p c d f h) := by
  intro W hW
  have hM := ref_open (Hp.enter hW)
  refine TC.enter (n := 52) Try.func21 rfl rfl rfl hM ?_
  refine TC.seq ?_
  refine TC.region ?_
  refine' TL.y rfl rfl rfl ?hy1 ?_
  case hy1 => exact Yl.assign rfl rfl
  refine TL.nil ?_
  refine TE.next ?_
  refine TC.seq ?_
  refine TC.region ?_
  refine' TL.y rfl rfl rfl ?hy2 ?_
  case hy2 => exact Yl.move rfl rfl
  refine' TL.c rfl rfl rfl ?hy3 ?_
  case hy3 => exact Yc.call rfl Try.func10 (by kernel_rfl) rfl rfl (Hp.gives (k_rlook x x0 x1))
  intro _
  refine' TL.y rfl rfl rfl ?hy4 ?_
  case hy4 => exact Yl.move rfl rfl
  refine' TL.y rfl rfl rfl ?hy5 ?_
  case hy5 => exact Yl.extract rfl rfl rfl
  refine' TL.y rfl rfl rfl ?hy6 ?_
  case hy6 => exact Yl.extract rfl rfl rfl
  refine' TL.y rfl rfl rfl ?hy7 ?_
  case hy7 => exact Yl.extract rfl rfl rfl
  refine' TL.y rfl rfl rfl ?hy8 ?_
  case hy8 => exact Yl.assign rfl rfl
  refine' TL.y rfl rfl rfl ?hy9 ?_
  case hy9 => exact Yl.assign rfl rfl
  refine' TL.y rfl rfl rfl ?hy10 ?_
  case hy10 => exact Yl.assign rfl rfl
  refine TL.nil ?_
  refine TE.next ?_
  refine TC.seq ?_
  refine TC.seq ?_
  refine TC.region ?_
  refine' TL.y rfl rfl rfl ?hy11 ?_
  case hy11 => exact Yl.move rfl rfl
  refine' TL.y rfl rfl rfl ?hy12 ?_
  case hy12 => exact Yl.not rfl rfl
  refine' TL.y rfl rfl rfl ?hy13 ?_
  case hy13 => exact Yl.move rfl rfl
  refine TL.re (i := 20) (v' := .bool true) rfl (congrArg Value.bool (by rw [hok]; rfl)) ?_
  refine TL.skip rfl rfl rfl ?_
  refine TL.skip rfl rfl rfl ?_
  refine' TL.y rfl rfl rfl ?hy14 ?_
  case hy14 => exact Yl.pickT rfl rfl rfl
  refine' TL.y rfl rfl rfl ?hy15 ?_
  case hy15 => exact Yl.move rfl rfl
  refine TL.skip rfl rfl rfl ?_
  refine TL.skip rfl rfl rfl ?_
  refine TL.skip rfl rfl rfl ?_
  refine TL.skip rfl rfl rfl ?_
  refine TL.skip rfl rfl rfl ?_
  refine TL.skip rfl rfl rfl ?_
  refine TL.skip rfl rfl rfl ?_
  refine TL.skip rfl rfl rfl ?_
  refine TL.skip rfl rfl rfl ?_
  refine TL.skip rfl rfl rfl ?_
  refine TL.skip rfl rfl rfl ?_
  refine' TL.y rfl rfl rfl ?hy16 ?_
  case hy16 => exact Yl.pickT rfl rfl rfl
  refine TL.nil ?_
  refine TE.next ?_
  refine TC.yes rfl rfl ?_
  refine TC.seq ?_
  refine TC.region ?_
  refine' TL.y rfl rfl rfl ?hy17 ?_
  case hy17 => exact Yl.assign rfl rfl
  refine TL.nil ?_
  refine TE.next ?_
  refine TC.ret ?_
  refine TE.thenRet ?_
  refine TE.ret1 rfl rfl ?_
  exact fun w h => ⟨(), rfl, (ref_shut h).leave⟩
set_option maxRecDepth 100000 in
set_option maxHeartbeats 2000000 in
theorem ref_came1 (p c d : Nat) (f h : Nat → Int) (x : Int) (x0 : 0 ≤ x) (x1 : x < 18446744073709551616) (tg res : Int) (hf : ∀ k, 0 ≤ f k ∧ f k < 1000) (hh : ∀ k, 0 ≤ h k ∧ h k < 1000) (hok : (lookS x).2.2 = true) (h1 : 63 < (lookS x).1) : Turn Try.prog 21 #[.pointer (some ⟨p, 0, none⟩), .int .u64 x, .int .i64 tg, .int .i64 res] (refR p c d f h) (.bool false) (refR p c d f h) := by
  intro W hW
  have hM := ref_open (Hp.enter hW)
  refine TC.enter (n := 52) Try.func21 rfl rfl rfl hM ?_
  refine TC.seq ?_
  refine TC.region ?_
  refine' TL.y rfl rfl rfl ?hy1 ?_
  case hy1 => exact Yl.assign rfl rfl
  refine TL.nil ?_
  refine TE.next ?_
  refine TC.seq ?_
  refine TC.region ?_
  refine' TL.y rfl rfl rfl ?hy2 ?_
  case hy2 => exact Yl.move rfl rfl
  refine' TL.c rfl rfl rfl ?hy3 ?_
  case hy3 => exact Yc.call rfl Try.func10 (by kernel_rfl) rfl rfl (Hp.gives (k_rlook x x0 x1))
  intro _
  refine' TL.y rfl rfl rfl ?hy4 ?_
  case hy4 => exact Yl.move rfl rfl
  refine' TL.y rfl rfl rfl ?hy5 ?_
  case hy5 => exact Yl.extract rfl rfl rfl
  refine' TL.y rfl rfl rfl ?hy6 ?_
  case hy6 => exact Yl.extract rfl rfl rfl
  refine' TL.y rfl rfl rfl ?hy7 ?_
  case hy7 => exact Yl.extract rfl rfl rfl
  refine' TL.y rfl rfl rfl ?hy8 ?_
  case hy8 => exact Yl.assign rfl rfl
  refine' TL.y rfl rfl rfl ?hy9 ?_
  case hy9 => exact Yl.assign rfl rfl
  refine' TL.y rfl rfl rfl ?hy10 ?_
  case hy10 => exact Yl.assign rfl rfl
  refine TL.nil ?_
  refine TE.next ?_
  refine TC.seq ?_
  refine TC.seq ?_
  refine TC.region ?_
  refine' TL.y rfl rfl rfl ?hy11 ?_
  case hy11 => exact Yl.move rfl rfl
  refine' TL.y rfl rfl rfl ?hy12 ?_
  case hy12 => exact Yl.not rfl rfl
  refine' TL.y rfl rfl rfl ?hy13 ?_
  case hy13 => exact Yl.move rfl rfl
  refine TL.re (i := 20) (v' := .bool false) rfl (congrArg Value.bool (by rw [hok]; rfl)) ?_
  refine' TL.y rfl rfl rfl ?hy14 ?_
  case hy14 => exact Yl.move rfl rfl
  refine' TL.y rfl rfl rfl ?hy15 ?_
  case hy15 => exact Yl.bin rfl rfl rfl (Bin.gtr _ _ _ _)
  refine' TL.y rfl rfl rfl ?hy16 ?_
  case hy16 => exact Yl.pickF rfl rfl rfl
  refine' TL.y rfl rfl rfl ?hy17 ?_
  case hy17 => exact Yl.move rfl rfl
  refine TL.re (i := 24) (v' := .bool true) rfl (congrArg Value.bool (by first | rfl | (simp; done) | (simp; omega))) ?_
  refine TL.skip rfl rfl rfl ?_
  refine TL.skip rfl rfl rfl ?_
  refine TL.skip rfl rfl rfl ?_
  refine TL.skip rfl rfl rfl ?_
  refine TL.skip rfl rfl rfl ?_
  refine TL.skip rfl rfl rfl ?_
  refine TL.skip rfl rfl rfl ?_
  refine TL.skip rfl rfl rfl ?_
  refine TL.skip rfl rfl rfl ?_
  refine TL.skip rfl rfl rfl ?_
  refine TL.skip rfl rfl rfl ?_
  refine' TL.y rfl rfl rfl ?hy18 ?_
  case hy18 => exact Yl.pickT rfl rfl rfl
  refine TL.nil ?_
  refine TE.next ?_
  refine TC.yes rfl rfl ?_
  refine TC.seq ?_
  refine TC.region ?_
  refine' TL.y rfl rfl rfl ?hy19 ?_
  case hy19 => exact Yl.assign rfl rfl
  refine TL.nil ?_
  refine TE.next ?_
  refine TC.ret ?_
  refine TE.thenRet ?_
  refine TE.ret1 rfl rfl ?_
  exact fun w h => ⟨(), rfl, (ref_shut h).leave⟩
set_option maxRecDepth 100000 in
set_option maxHeartbeats 2000000 in
theorem ref_came2 (p c d : Nat) (f h : Nat → Int) (x : Int) (x0 : 0 ≤ x) (x1 : x < 18446744073709551616) (tg res : Int) (hf : ∀ k, 0 ≤ f k ∧ f k < 1000) (hh : ∀ k, 0 ≤ h k ∧ h k < 1000) (hok : (lookS x).2.2 = true) (h1 : ¬ 63 < (lookS x).1) (h2 : res < distS x (f (lookS x).1.toNat)) : Turn Try.prog 21 #[.pointer (some ⟨p, 0, none⟩), .int .u64 x, .int .i64 tg, .int .i64 res] (refR p c d f h) (.bool false) (refR p c d f h) := by
  intro W hW
  have hM := ref_open (Hp.enter hW)
  refine TC.enter (n := 52) Try.func21 rfl rfl rfl hM ?_
  refine TC.seq ?_
  refine TC.region ?_
  refine' TL.y rfl rfl rfl ?hy1 ?_
  case hy1 => exact Yl.assign rfl rfl
  refine TL.nil ?_
  refine TE.next ?_
  refine TC.seq ?_
  refine TC.region ?_
  refine' TL.y rfl rfl rfl ?hy2 ?_
  case hy2 => exact Yl.move rfl rfl
  refine' TL.c rfl rfl rfl ?hy3 ?_
  case hy3 => exact Yc.call rfl Try.func10 (by kernel_rfl) rfl rfl (Hp.gives (k_rlook x x0 x1))
  intro _
  refine' TL.y rfl rfl rfl ?hy4 ?_
  case hy4 => exact Yl.move rfl rfl
  refine' TL.y rfl rfl rfl ?hy5 ?_
  case hy5 => exact Yl.extract rfl rfl rfl
  refine' TL.y rfl rfl rfl ?hy6 ?_
  case hy6 => exact Yl.extract rfl rfl rfl
  refine' TL.y rfl rfl rfl ?hy7 ?_
  case hy7 => exact Yl.extract rfl rfl rfl
  refine' TL.y rfl rfl rfl ?hy8 ?_
  case hy8 => exact Yl.assign rfl rfl
  refine' TL.y rfl rfl rfl ?hy9 ?_
  case hy9 => exact Yl.assign rfl rfl
  refine' TL.y rfl rfl rfl ?hy10 ?_
  case hy10 => exact Yl.assign rfl rfl
  refine TL.nil ?_
  refine TE.next ?_
  refine TC.seq ?_
  refine TC.seq ?_
  refine TC.region ?_
  refine' TL.y rfl rfl rfl ?hy11 ?_
  case hy11 => exact Yl.move rfl rfl
  refine' TL.y rfl rfl rfl ?hy12 ?_
  case hy12 => exact Yl.not rfl rfl
  refine' TL.y rfl rfl rfl ?hy13 ?_
  case hy13 => exact Yl.move rfl rfl
  refine TL.re (i := 20) (v' := .bool false) rfl (congrArg Value.bool (by rw [hok]; rfl)) ?_
  refine' TL.y rfl rfl rfl ?hy14 ?_
  case hy14 => exact Yl.move rfl rfl
  refine' TL.y rfl rfl rfl ?hy15 ?_
  case hy15 => exact Yl.bin rfl rfl rfl (Bin.gtr _ _ _ _)
  refine' TL.y rfl rfl rfl ?hy16 ?_
  case hy16 => exact Yl.pickF rfl rfl rfl
  refine' TL.y rfl rfl rfl ?hy17 ?_
  case hy17 => exact Yl.move rfl rfl
  refine TL.re (i := 24) (v' := .bool false) rfl (congrArg Value.bool (by first | rfl | (simp; done) | (simp; omega))) ?_
  refine' TL.y rfl rfl rfl ?hy18 ?_
  case hy18 => exact Yl.move rfl rfl
  refine' TL.y rfl rfl rfl ?hy19 ?_
  case hy19 => exact Yl.move rfl rfl
  refine' TL.y rfl rfl rfl ?hy20 ?_
  case hy20 => exact Yl.nilCheck rfl rfl
  refine' TL.y rfl rfl rfl ?hy21 ?_
  case hy21 => first | exact Yl.field0 (k := 0) 0 rfl rfl Try.underlying42 rfl (by kernel_rfl) rfl | exact Yl.field (k := 0) 0 rfl rfl Try.underlying42 rfl (by kernel_rfl) rfl
  refine' TL.y rfl rfl rfl ?hy22 ?_
  case hy22 => exact Yl.load rfl rfl (by kernel_rfl) (Hp.cell mem2 rfl)
  refine' TL.y rfl rfl rfl ?hy23 ?_
  case hy23 => exact Yl.move rfl rfl
  refine' TL.y rfl rfl rfl ?hy24 ?_
  case hy24 => exact Yl.idxS (k := 1) (ad' := ⟨c, (lookS x).1.toNat, none⟩) rfl rfl rfl Try.underlying40 (by kernel_rfl) (by have := lookS_bd x x0; omega) (by simp; omega) (by simp [Addr.at_])
  refine' TL.y rfl rfl rfl ?hy25 ?_
  case hy25 => exact Yl.load rfl rfl (by kernel_rfl) (Hp.cell mem0 (rowC_get _ _ (by omega)))
  refine' TL.c rfl rfl rfl ?hy26 ?_
  case hy26 => exact Yc.call rfl Try.func11 (by kernel_rfl) rfl rfl (Hp.gives (k_rdist x _ x0 x1 (by have := hf (lookS x).1.toNat; omega)))
  intro _
  refine' TL.y rfl rfl rfl ?hy27 ?_
  case hy27 => exact Yl.move rfl rfl
  refine' TL.y rfl rfl rfl ?hy28 ?_
  case hy28 => exact Yl.bin rfl rfl rfl (Bin.gtr _ _ _ _)
  refine' TL.y rfl rfl rfl ?hy29 ?_
  case hy29 => exact Yl.pickF rfl rfl rfl
  refine TL.nil ?_
  refine TE.next ?_
  refine TC.yes rfl (by first | rfl | (simp; done) | (simp; omega)) ?_
  refine TC.seq ?_
  refine TC.region ?_
  refine' TL.y rfl rfl rfl ?hy30 ?_
  case hy30 => exact Yl.assign rfl rfl
  refine TL.nil ?_
  refine TE.next ?_
  refine TC.ret ?_
  refine TE.thenRet ?_
  refine TE.ret1 rfl rfl ?_
  exact fun w h => ⟨(), rfl, (ref_shut h).leave⟩
set_option maxRecDepth 100000 in
set_option maxHeartbeats 2000000 in
theorem ref_came3 (p c d : Nat) (f h : Nat → Int) (x : Int) (x0 : 0 ≤ x) (x1 : x < 18446744073709551616) (tg res : Int) (hf : ∀ k, 0 ≤ f k ∧ f k < 1000) (hh : ∀ k, 0 ≤ h k ∧ h k < 1000) (hok : (lookS x).2.2 = true) (h1 : ¬ 63 < (lookS x).1) (h2 : ¬ res < distS x (f (lookS x).1.toNat)) (h3 : ¬ 0 ≤ tg) : Turn Try.prog 21 #[.pointer (some ⟨p, 0, none⟩), .int .u64 x, .int .i64 tg, .int .i64 res] (refR p c d f h) (.bool true) (refR p c d f h) := by
  intro W hW
  have hM := ref_open (Hp.enter hW)
  refine TC.enter (n := 52) Try.func21 rfl rfl rfl hM ?_
  refine TC.seq ?_
  refine TC.region ?_
  refine' TL.y rfl rfl rfl ?hy1 ?_
  case hy1 => exact Yl.assign rfl rfl
  refine TL.nil ?_
  refine TE.next ?_
  refine TC.seq ?_
  refine TC.region ?_
  refine' TL.y rfl rfl rfl ?hy2 ?_
  case hy2 => exact Yl.move rfl rfl
  refine' TL.c rfl rfl rfl ?hy3 ?_
  case hy3 => exact Yc.call rfl Try.func10 (by kernel_rfl) rfl rfl (Hp.gives (k_rlook x x0 x1))
  intro _
  refine' TL.y rfl rfl rfl ?hy4 ?_
  case hy4 => exact Yl.move rfl rfl
  refine' TL.y rfl rfl rfl ?hy5 ?_
  case hy5 => exact Yl.extract rfl rfl rfl
  refine' TL.y rfl rfl rfl ?hy6 ?_
  case hy6 => exact Yl.extract rfl rfl rfl
  refine' TL.y rfl rfl rfl ?hy7 ?_
  case hy7 => exact Yl.extract rfl rfl rfl
  refine' TL.y rfl rfl rfl ?hy8 ?_
  case hy8 => exact Yl.assign rfl rfl
  refine' TL.y rfl rfl rfl ?hy9 ?_
  case hy9 => exact Yl.assign rfl rfl
  refine' TL.y rfl rfl rfl ?hy10 ?_
  case hy10 => exact Yl.assign rfl rfl
  refine TL.nil ?_
  refine TE.next ?_
  refine TC.seq ?_
  refine TC.seq ?_
  refine TC.region ?_
  refine' TL.y rfl rfl rfl ?hy11 ?_
  case hy11 => exact Yl.move rfl rfl
  refine' TL.y rfl rfl rfl ?hy12 ?_
  case hy12 => exact Yl.not rfl rfl
  refine' TL.y rfl rfl rfl ?hy13 ?_
  case hy13 => exact Yl.move rfl rfl
  refine TL.re (i := 20) (v' := .bool false) rfl (congrArg Value.bool (by rw [hok]; rfl)) ?_
  refine' TL.y rfl rfl rfl ?hy14 ?_
  case hy14 => exact Yl.move rfl rfl
  refine' TL.y rfl rfl rfl ?hy15 ?_
  case hy15 => exact Yl.bin rfl rfl rfl (Bin.gtr _ _ _ _)
  refine' TL.y rfl rfl rfl ?hy16 ?_
  case hy16 => exact Yl.pickF rfl rfl rfl
  refine' TL.y rfl rfl rfl ?hy17 ?_
  case hy17 => exact Yl.move rfl rfl
  refine TL.re (i := 24) (v' := .bool false) rfl (congrArg Value.bool (by first | rfl | (simp; done) | (simp; omega))) ?_
  refine' TL.y rfl rfl rfl ?hy18 ?_
  case hy18 => exact Yl.move rfl rfl
  refine' TL.y rfl rfl rfl ?hy19 ?_
  case hy19 => exact Yl.move rfl rfl
  refine' TL.y rfl rfl rfl ?hy20 ?_
  case hy20 => exact Yl.nilCheck rfl rfl
  refine' TL.y rfl rfl rfl ?hy21 ?_
  case hy21 => first | exact Yl.field0 (k := 0) 0 rfl rfl Try.underlying42 rfl (by kernel_rfl) rfl | exact Yl.field (k := 0) 0 rfl rfl Try.underlying42 rfl (by kernel_rfl) rfl
  refine' TL.y rfl rfl rfl ?hy22 ?_
  case hy22 => exact Yl.load rfl rfl (by kernel_rfl) (Hp.cell mem2 rfl)
  refine' TL.y rfl rfl rfl ?hy23 ?_
  case hy23 => exact Yl.move rfl rfl
  refine' TL.y rfl rfl rfl ?hy24 ?_
  case hy24 => exact Yl.idxS (k := 1) (ad' := ⟨c, (lookS x).1.toNat, none⟩) rfl rfl rfl Try.underlying40 (by kernel_rfl) (by have := lookS_bd x x0; omega) (by simp; omega) (by simp [Addr.at_])
  refine' TL.y rfl rfl rfl ?hy25 ?_
  case hy25 => exact Yl.load rfl rfl (by kernel_rfl) (Hp.cell mem0 (rowC_get _ _ (by omega)))
  refine' TL.c rfl rfl rfl ?hy26 ?_
  case hy26 => exact Yc.call rfl Try.func11 (by kernel_rfl) rfl rfl (Hp.gives (k_rdist x _ x0 x1 (by have := hf (lookS x).1.toNat; omega)))
  intro _
  refine' TL.y rfl rfl rfl ?hy27 ?_
  case hy27 => exact Yl.move rfl rfl
  refine' TL.y rfl rfl rfl ?hy28 ?_
  case hy28 => exact Yl.bin rfl rfl rfl (Bin.gtr _ _ _ _)
  refine' TL.y rfl rfl rfl ?hy29 ?_
  case hy29 => exact Yl.pickF rfl rfl rfl
  refine TL.nil ?_
  refine TE.next ?_
  refine TC.no rfl (by first | rfl | (simp; done) | (simp; omega)) ?_
  refine TC.skip ?_
  refine TE.next ?_
  refine TC.seq ?_
  refine TC.seq ?_
  refine TC.region ?_
  refine' TL.y rfl rfl rfl ?hy30 ?_
  case hy30 => exact Yl.move rfl rfl
  refine' TL.y rfl rfl rfl ?hy31 ?_
  case hy31 => exact Yl.bin rfl rfl rfl (Bin.geq _ _ _ _)
  refine' TL.y rfl rfl rfl ?hy32 ?_
  case hy32 => exact Yl.move rfl rfl
  refine TL.re (i := 39) (v' := .bool false) rfl (congrArg Value.bool (by first | (simp; done) | (simp; omega))) ?_
  refine TL.skip rfl rfl rfl ?_
  refine TL.skip rfl rfl rfl ?_
  refine' TL.y rfl rfl rfl ?hy33 ?_
  case hy33 => exact Yl.pickF rfl rfl rfl
  refine TL.nil ?_
  refine TE.next ?_
  refine TC.no rfl rfl ?_
  refine TC.skip ?_
  refine TE.next ?_
  refine TC.seq ?_
  refine TC.region ?_
  refine' TL.y rfl rfl rfl ?hy34 ?_
  case hy34 => exact Yl.assign rfl rfl
  refine TL.nil ?_
  refine TE.next ?_
  refine TC.ret ?_
  refine TE.ret1 rfl rfl ?_
  exact fun w h => ⟨(), rfl, (ref_shut h).leave⟩
set_option maxRecDepth 100000 in
set_option maxHeartbeats 2000000 in
theorem ref_came4 (p c d : Nat) (f h : Nat → Int) (x : Int) (x0 : 0 ≤ x) (x1 : x < 18446744073709551616) (tg res : Int) (hf : ∀ k, 0 ≤ f k ∧ f k < 1000) (hh : ∀ k, 0 ≤ h k ∧ h k < 1000) (hok : (lookS x).2.2 = true) (h1 : ¬ 63 < (lookS x).1) (h2 : ¬ res < distS x (f (lookS x).1.toNat)) (h3 : 0 ≤ tg) (h4 : ¬ tg < 64) : Turn Try.prog 21 #[.pointer (some ⟨p, 0, none⟩), .int .u64 x, .int .i64 tg, .int .i64 res] (refR p c d f h) (.bool true) (refR p c d f h) := by
  intro W hW
  have hM := ref_open (Hp.enter hW)
  refine TC.enter (n := 52) Try.func21 rfl rfl rfl hM ?_
  refine TC.seq ?_
  refine TC.region ?_
  refine' TL.y rfl rfl rfl ?hy1 ?_
  case hy1 => exact Yl.assign rfl rfl
  refine TL.nil ?_
  refine TE.next ?_
  refine TC.seq ?_
  refine TC.region ?_
  refine' TL.y rfl rfl rfl ?hy2 ?_
  case hy2 => exact Yl.move rfl rfl
  refine' TL.c rfl rfl rfl ?hy3 ?_
  case hy3 => exact Yc.call rfl Try.func10 (by kernel_rfl) rfl rfl (Hp.gives (k_rlook x x0 x1))
  intro _
  refine' TL.y rfl rfl rfl ?hy4 ?_
  case hy4 => exact Yl.move rfl rfl
  refine' TL.y rfl rfl rfl ?hy5 ?_
  case hy5 => exact Yl.extract rfl rfl rfl
  refine' TL.y rfl rfl rfl ?hy6 ?_
  case hy6 => exact Yl.extract rfl rfl rfl
  refine' TL.y rfl rfl rfl ?hy7 ?_
  case hy7 => exact Yl.extract rfl rfl rfl
  refine' TL.y rfl rfl rfl ?hy8 ?_
  case hy8 => exact Yl.assign rfl rfl
  refine' TL.y rfl rfl rfl ?hy9 ?_
  case hy9 => exact Yl.assign rfl rfl
  refine' TL.y rfl rfl rfl ?hy10 ?_
  case hy10 => exact Yl.assign rfl rfl
  refine TL.nil ?_
  refine TE.next ?_
  refine TC.seq ?_
  refine TC.seq ?_
  refine TC.region ?_
  refine' TL.y rfl rfl rfl ?hy11 ?_
  case hy11 => exact Yl.move rfl rfl
  refine' TL.y rfl rfl rfl ?hy12 ?_
  case hy12 => exact Yl.not rfl rfl
  refine' TL.y rfl rfl rfl ?hy13 ?_
  case hy13 => exact Yl.move rfl rfl
  refine TL.re (i := 20) (v' := .bool false) rfl (congrArg Value.bool (by rw [hok]; rfl)) ?_
  refine' TL.y rfl rfl rfl ?hy14 ?_
  case hy14 => exact Yl.move rfl rfl
  refine' TL.y rfl rfl rfl ?hy15 ?_
  case hy15 => exact Yl.bin rfl rfl rfl (Bin.gtr _ _ _ _)
  refine' TL.y rfl rfl rfl ?hy16 ?_
  case hy16 => exact Yl.pickF rfl rfl rfl
  refine' TL.y rfl rfl rfl ?hy17 ?_
  case hy17 => exact Yl.move rfl rfl
  refine TL.re (i := 24) (v' := .bool false) rfl (congrArg Value.bool (by first | rfl | (simp; done) | (simp; omega))) ?_
  refine' TL.y rfl rfl rfl ?hy18 ?_
  case hy18 => exact Yl.move rfl rfl
  refine' TL.y rfl rfl rfl ?hy19 ?_
  case hy19 => exact Yl.move rfl rfl
  refine' TL.y rfl rfl rfl ?hy20 ?_
  case hy20 => exact Yl.nilCheck rfl rfl
  refine' TL.y rfl rfl rfl ?hy21 ?_
  case hy21 => first | exact Yl.field0 (k := 0) 0 rfl rfl Try.underlying42 rfl (by kernel_rfl) rfl | exact Yl.field (k := 0) 0 rfl rfl Try.underlying42 rfl (by kernel_rfl) rfl
  refine' TL.y rfl rfl rfl ?hy22 ?_
  case hy22 => exact Yl.load rfl rfl (by kernel_rfl) (Hp.cell mem2 rfl)
  refine' TL.y rfl rfl rfl ?hy23 ?_
  case hy23 => exact Yl.move rfl rfl
  refine' TL.y rfl rfl rfl ?hy24 ?_
  case hy24 => exact Yl.idxS (k := 1) (ad' := ⟨c, (lookS x).1.toNat, none⟩) rfl rfl rfl Try.underlying40 (by kernel_rfl) (by have := lookS_bd x x0; omega) (by simp; omega) (by simp [Addr.at_])
  refine' TL.y rfl rfl rfl ?hy25 ?_
  case hy25 => exact Yl.load rfl rfl (by kernel_rfl) (Hp.cell mem0 (rowC_get _ _ (by omega)))
  refine' TL.c rfl rfl rfl ?hy26 ?_
  case hy26 => exact Yc.call rfl Try.func11 (by kernel_rfl) rfl rfl (Hp.gives (k_rdist x _ x0 x1 (by have := hf (lookS x).1.toNat; omega)))
  intro _
  refine' TL.y rfl rfl rfl ?hy27 ?_
  case hy27 => exact Yl.move rfl rfl
  refine' TL.y rfl rfl rfl ?hy28 ?_
  case hy28 => exact Yl.bin rfl rfl rfl (Bin.gtr _ _ _ _)
  refine' TL.y rfl rfl rfl ?hy29 ?_
  case hy29 => exact Yl.pickF rfl rfl rfl
  refine TL.nil ?_
  refine TE.next ?_
  refine TC.no rfl (by first | rfl | (simp; done) | (simp; omega)) ?_
  refine TC.skip ?_
  refine TE.next ?_
  refine TC.seq ?_
  refine TC.seq ?_
  refine TC.region ?_
  refine' TL.y rfl rfl rfl ?hy30 ?_
  case hy30 => exact Yl.move rfl rfl
  refine' TL.y rfl rfl rfl ?hy31 ?_
  case hy31 => exact Yl.bin rfl rfl rfl (Bin.geq _ _ _ _)
  refine' TL.y rfl rfl rfl ?hy32 ?_
  case hy32 => exact Yl.move rfl rfl
  refine TL.re (i := 39) (v' := .bool true) rfl (congrArg Value.bool (by first | (simp; done) | (simp; omega))) ?_
  refine' TL.y rfl rfl rfl ?hy33 ?_
  case hy33 => exact Yl.move rfl rfl
  refine' TL.y rfl rfl rfl ?hy34 ?_
  case hy34 => exact Yl.bin rfl rfl rfl (Bin.lss _ _ _ _)
  refine' TL.y rfl rfl rfl ?hy35 ?_
  case hy35 => exact Yl.pickT rfl rfl rfl
  refine TL.nil ?_
  refine TE.next ?_
  refine TC.no rfl (by first | (simp; done) | (simp; omega)) ?_
  refine TC.skip ?_
  refine TE.next ?_
  refine TC.seq ?_
  refine TC.region ?_
  refine' TL.y rfl rfl rfl ?hy36 ?_
  case hy36 => exact Yl.assign rfl rfl
  refine TL.nil ?_
  refine TE.next ?_
  refine TC.ret ?_
  refine TE.ret1 rfl rfl ?_
  exact fun w h => ⟨(), rfl, (ref_shut h).leave⟩
set_option maxRecDepth 100000 in
set_option maxHeartbeats 2000000 in
theorem ref_came5 (p c d : Nat) (f h : Nat → Int) (x : Int) (x0 : 0 ≤ x) (x1 : x < 18446744073709551616) (tg res : Int) (hf : ∀ k, 0 ≤ f k ∧ f k < 1000) (hh : ∀ k, 0 ≤ h k ∧ h k < 1000) (hok : (lookS x).2.2 = true) (h1 : ¬ 63 < (lookS x).1) (h2 : ¬ res < distS x (f (lookS x).1.toNat)) (h3 : 0 ≤ tg) (h4 : tg < 64) : Turn Try.prog 21 #[.pointer (some ⟨p, 0, none⟩), .int .u64 x, .int .i64 tg, .int .i64 res] (refR p c d f h) (.bool true) (refR p c d f (A.up h tg.toNat (h tg.toNat + 1))) := by
  intro W hW
  have hM := ref_open (Hp.enter hW)
  refine TC.enter (n := 52) Try.func21 rfl rfl rfl hM ?_
  refine TC.seq ?_
  refine TC.region ?_
  refine' TL.y rfl rfl rfl ?hy1 ?_
  case hy1 => exact Yl.assign rfl rfl
  refine TL.nil ?_
  refine TE.next ?_
  refine TC.seq ?_
  refine TC.region ?_
  refine' TL.y rfl rfl rfl ?hy2 ?_
  case hy2 => exact Yl.move rfl rfl
  refine' TL.c rfl rfl rfl ?hy3 ?_
  case hy3 => exact Yc.call rfl Try.func10 (by kernel_rfl) rfl rfl (Hp.gives (k_rlook x x0 x1))
  intro _
  refine' TL.y rfl rfl rfl ?hy4 ?_
  case hy4 => exact Yl.move rfl rfl
  refine' TL.y rfl rfl rfl ?hy5 ?_
  case hy5 => exact Yl.extract rfl rfl rfl
  refine' TL.y rfl rfl rfl ?hy6 ?_
  case hy6 => exact Yl.extract rfl rfl rfl
  refine' TL.y rfl rfl rfl ?hy7 ?_
  case hy7 => exact Yl.extract rfl rfl rfl
  refine' TL.y rfl rfl rfl ?hy8 ?_
  case hy8 => exact Yl.assign rfl rfl
  refine' TL.y rfl rfl rfl ?hy9 ?_
  case hy9 => exact Yl.assign rfl rfl
  refine' TL.y rfl rfl rfl ?hy10 ?_
  case hy10 => exact Yl.assign rfl rfl
  refine TL.nil ?_
  refine TE.next ?_
  refine TC.seq ?_
  refine TC.seq ?_
  refine TC.region ?_
  refine' TL.y rfl rfl rfl ?hy11 ?_
  case hy11 => exact Yl.move rfl rfl
  refine' TL.y rfl rfl rfl ?hy12 ?_
  case hy12 => exact Yl.not rfl rfl
  refine' TL.y rfl rfl rfl ?hy13 ?_
  case hy13 => exact Yl.move rfl rfl
  refine TL.re (i := 20) (v' := .bool false) rfl (congrArg Value.bool (by rw [hok]; rfl)) ?_
  refine' TL.y rfl rfl rfl ?hy14 ?_
  case hy14 => exact Yl.move rfl rfl
  refine' TL.y rfl rfl rfl ?hy15 ?_
  case hy15 => exact Yl.bin rfl rfl rfl (Bin.gtr _ _ _ _)
  refine' TL.y rfl rfl rfl ?hy16 ?_
  case hy16 => exact Yl.pickF rfl rfl rfl
  refine' TL.y rfl rfl rfl ?hy17 ?_
  case hy17 => exact Yl.move rfl rfl
  refine TL.re (i := 24) (v' := .bool false) rfl (congrArg Value.bool (by first | rfl | (simp; done) | (simp; omega))) ?_
  refine' TL.y rfl rfl rfl ?hy18 ?_
  case hy18 => exact Yl.move rfl rfl
  refine' TL.y rfl rfl rfl ?hy19 ?_
  case hy19 => exact Yl.move rfl rfl
  refine' TL.y rfl rfl rfl ?hy20 ?_
  case hy20 => exact Yl.nilCheck rfl rfl
  refine' TL.y rfl rfl rfl ?hy21 ?_
  case hy21 => first | exact Yl.field0 (k := 0) 0 rfl rfl Try.underlying42 rfl (by kernel_rfl) rfl | exact Yl.field (k := 0) 0 rfl rfl Try.underlying42 rfl (by kernel_rfl) rfl
  refine' TL.y rfl rfl rfl ?hy22 ?_
  case hy22 => exact Yl.load rfl rfl (by kernel_rfl) (Hp.cell mem2 rfl)
  refine' TL.y rfl rfl rfl ?hy23 ?_
  case hy23 => exact Yl.move rfl rfl
  refine' TL.y rfl rfl rfl ?hy24 ?_
  case hy24 => exact Yl.idxS (k := 1) (ad' := ⟨c, (lookS x).1.toNat, none⟩) rfl rfl rfl Try.underlying40 (by kernel_rfl) (by have := lookS_bd x x0; omega) (by simp; omega) (by simp [Addr.at_])
  refine' TL.y rfl rfl rfl ?hy25 ?_
  case hy25 => exact Yl.load rfl rfl (by kernel_rfl) (Hp.cell mem0 (rowC_get _ _ (by omega)))
  refine' TL.c rfl rfl rfl ?hy26 ?_
  case hy26 => exact Yc.call rfl Try.func11 (by kernel_rfl) rfl rfl (Hp.gives (k_rdist x _ x0 x1 (by have := hf (lookS x).1.toNat; omega)))
  intro _
  refine' TL.y rfl rfl rfl ?hy27 ?_
  case hy27 => exact Yl.move rfl rfl
  refine' TL.y rfl rfl rfl ?hy28 ?_
  case hy28 => exact Yl.bin rfl rfl rfl (Bin.gtr _ _ _ _)
  refine' TL.y rfl rfl rfl ?hy29 ?_
  case hy29 => exact Yl.pickF rfl rfl rfl
  refine TL.nil ?_
  refine TE.next ?_
  refine TC.no rfl (by first | rfl | (simp; done) | (simp; omega)) ?_
  refine TC.skip ?_
  refine TE.next ?_
  refine TC.seq ?_
  refine TC.seq ?_
  refine TC.region ?_
  refine' TL.y rfl rfl rfl ?hy30 ?_
  case hy30 => exact Yl.move rfl rfl
  refine' TL.y rfl rfl rfl ?hy31 ?_
  case hy31 => exact Yl.bin rfl rfl rfl (Bin.geq _ _ _ _)
  refine' TL.y rfl rfl rfl ?hy32 ?_
  case hy32 => exact Yl.move rfl rfl
  refine TL.re (i := 39) (v' := .bool true) rfl (congrArg Value.bool (by first | (simp; done) | (simp; omega))) ?_
  refine' TL.y rfl rfl rfl ?hy33 ?_
  case hy33 => exact Yl.move rfl rfl
  refine' TL.y rfl rfl rfl ?hy34 ?_
  case hy34 => exact Yl.bin rfl rfl rfl (Bin.lss _ _ _ _)
  refine' TL.y rfl rfl rfl ?hy35 ?_
  case hy35 => exact Yl.pickT rfl rfl rfl
  refine TL.nil ?_
  refine TE.next ?_
  refine TC.yes rfl (by first | (simp; done) | (simp; omega)) ?_
  refine TC.region ?_
  refine' TL.y rfl rfl rfl ?hy36 ?_
  case hy36 => exact Yl.move rfl rfl
  refine' TL.y rfl rfl rfl ?hy37 ?_
  case hy37 => exact Yl.nilCheck rfl rfl
  refine' TL.y rfl rfl rfl ?hy38 ?_
  case hy38 => first | exact Yl.field0 (k := 0) 1 rfl rfl Try.underlying42 rfl (by kernel_rfl) rfl | exact Yl.field (k := 0) 1 rfl rfl Try.underlying42 rfl (by kernel_rfl) rfl
  refine' TL.y rfl rfl rfl ?hy39 ?_
  case hy39 => exact Yl.load rfl rfl (by kernel_rfl) (Hp.cell mem2 rfl)
  refine' TL.y rfl rfl rfl ?hy40 ?_
  case hy40 => exact Yl.move rfl rfl
  refine' TL.y rfl rfl rfl ?hy41 ?_
  case hy41 => exact Yl.idxS (k := 1) (ad' := ⟨d, tg.toNat, none⟩) rfl rfl rfl Try.underlying40 (by kernel_rfl) (by omega) (by simp; omega) (by simp [Addr.at_])
  refine' TL.y rfl rfl rfl ?hy42 ?_
  case hy42 => exact Yl.load rfl rfl (by kernel_rfl) (Hp.cell mem1 (rowC_get _ _ (by omega)))
  refine' TL.y rfl rfl rfl ?hy43 ?_
  case hy43 => exact Yl.val (Yl.bin rfl rfl rfl (Bin.add _ _ _ _)) (congrArg (Value.int .i64) (i64in (by have := hh tg.toNat; omega) (by have := hh tg.toNat; omega)))
  refine' TL.y rfl rfl rfl ?hy44 ?_
  case hy44 => exact Yl.idxS (k := 1) (ad' := ⟨d, tg.toNat, none⟩) rfl rfl rfl Try.underlying40 (by kernel_rfl) (by omega) (by simp; omega) (by simp [Addr.at_])
  refine' TL.s rfl rfl ?hy45 ?_
  case hy45 => exact Ys.store (seg := [_]) rfl rfl rfl rfl (by kernel_rfl) (by simp [Value.oneCell']) foc1 (by rw [rowC_size]; simp; omega) ((show putAt _ _ [_] = _ from rowC_set h tg.toNat _))
  refine TL.nil ?_
  refine TE.next ?_
  refine TC.seq ?_
  refine TC.region ?_
  refine' TL.y rfl rfl rfl ?hy46 ?_
  case hy46 => exact Yl.assign rfl rfl
  refine TL.nil ?_
  refine TE.next ?_
  refine TC.ret ?_
  refine TE.ret1 rfl rfl ?_
  exact fun w h => ⟨(), rfl, (ref_shut h).leave⟩
theorem ref_came (p c d : Nat) (f h : Nat → Int) (x : Int) (x0 : 0 ≤ x) (x1 : x < 18446744073709551616) (tg res : Int) (hf : ∀ k, 0 ≤ f k ∧ f k < 1000) (hh : ∀ k, 0 ≤ h k ∧ h k < 1000) : Turn Try.prog 21 #[.pointer (some ⟨p, 0, none⟩), .int .u64 x, .int .i64 tg, .int .i64 res] (refR p c d f h) (.bool (cameB f x res)) (refR p c d f (if cameB f x res then cameH h tg else h)) := by
  unfold cameB cameH
  cases hok : (lookS x).2.2
  · exact ref_came0 p c d f h x x0 x1 tg res hf hh hok
  · by_cases h1 : 63 < (lookS x).1
    · rw [decide_eq_false (show ¬ (lookS x).1 ≤ 63 by omega)]
      exact ref_came1 p c d f h x x0 x1 tg res hf hh hok h1
    · rw [decide_eq_true (show (lookS x).1 ≤ 63 by omega)]
      by_cases h2 : res < distS x (f (lookS x).1.toNat)
      · rw [decide_eq_false (show ¬ distS x (f (lookS x).1.toNat) ≤ res by omega)]
        exact ref_came2 p c d f h x x0 x1 tg res hf hh hok h1 h2
      · rw [decide_eq_true (show distS x (f (lookS x).1.toNat) ≤ res by omega)]
        by_cases h3 : 0 ≤ tg
        · by_cases h4 : tg < 64
          · rw [show (true && true && true) = true from rfl, if_pos rfl, if_pos ⟨h3, h4⟩]; exact ref_came5 p c d f h x x0 x1 tg res hf hh hok h1 h2 h3 h4
          · rw [show (true && true && true) = true from rfl, if_pos rfl, if_neg (by omega)]; exact ref_came4 p c d f h x x0 x1 tg res hf hh hok h1 h2 h3 h4
        · rw [show (true && true && true) = true from rfl, if_pos rfl, if_neg (by omega)]; exact ref_came3 p c d f h x x0 x1 tg res hf hh hok h1 h2 h3
theorem lo_came {b : Nat} (f h : Nat → Int) (x : Int) (x0 : 0 ≤ x) (x1 : x < 18446744073709551616) (tg res : Int) (hr : -9223372036854775808 ≤ res) (hf : ∀ k, 0 ≤ f k ∧ f k < 1000) (hh : ∀ k, 0 ≤ h k ∧ h k < 1000) (W : World) (H : LogAt W b f h) : Calls Try.prog 20 #[.pointer (some ⟨b, 0, none⟩), .int .u64 x, .int .i64 tg, .int .i64 res] W fun e w' => e = .returned (.bool (cameB f x res)) ∧ LogAt w' b f (if cameB f x res then cameH h tg else h) ∧ Chg W w' (· = b) := by
  have hl := lookS_bd x x0
  have keep : ∀ {w' : World}, Below W.heap.size W w' → LogAt w' b f h ∧ Chg W w' (· = b) := fun hb => ⟨(hb.block b (blk_lt H)).trans H, Chg.of_below hb⟩
  unfold cameB cameH
  cases hok : (lookS x).2.2
  · have hk := fun W => k_look x x0 x1 W
    rw [hok] at hk
    exact (came_bad (p := .pointer (some ⟨b, 0, none⟩)) x _ _ tg res hk W).mono fun e w' ⟨e1, hb⟩ => ⟨e1, keep hb⟩
  · have hk := fun W => k_look x x0 x1 W
    rw [hok] at hk
    by_cases h1 : 63 < (lookS x).1
    · rw [decide_eq_false (show ¬ (lookS x).1 ≤ 63 by omega)]
      exact (came_far (p := .pointer (some ⟨b, 0, none⟩)) x _ _ tg res hk (by omega) W).mono fun e w' ⟨e1, hb⟩ => ⟨e1, keep hb⟩
    · rw [decide_eq_true (show (lookS x).1 ≤ 63 by omega)]
      have hb0 := hf (lookS x).1.toNat
      have hw := fun W => k_near x (f (lookS x).1.toNat) res x0 x1 (by omega) W
      have hn : nearS x (f (lookS x).1.toNat) res = decide (distS x (f (lookS x).1.toNat) ≤ res) := by
        unfold nearS
        rw [decide_eq_true (distS_bd x _ hok hb0.1), Bool.true_and]
      rw [hn] at hw
      by_cases h2 : distS x (f (lookS x).1.toNat) ≤ res
      · rw [decide_eq_true h2] at hw ⊢
        by_cases h3 : 0 ≤ tg ∧ tg < 64
        · rw [show (true && true && true) = true from rfl, if_pos rfl, if_pos h3]
          have hx := came_in (b := b) (f := f) (h := h) x _ _ tg res hk (by omega) (by omega) hw h3.1 h3.2 W H
          have := hh tg.toNat
          rw [show wrap64 (h tg.toNat + 1) = h tg.toNat + 1 by unfold wrap64; omega] at hx
          exact hx
        · rw [show (true && true && true) = true from rfl, if_pos rfl, if_neg h3]
          exact (came_out (b := b) (f := f) (h := h) x _ _ tg res hk (by omega) (by omega) hw h3 W H).mono fun e w' ⟨e1, hb⟩ => ⟨e1, keep hb⟩
      · rw [decide_eq_false h2] at hw ⊢
        exact (came_no (b := b) (f := f) (h := h) x _ _ tg res hk (by omega) (by omega) hw W H).mono fun e w' ⟨e1, hb⟩ => ⟨e1, keep hb⟩
end Go.Proofs.Ytpkpipkjmlhfaaa.Pure
