/- Contracts: a map of bits, and the document's. -/
import Derived.Test.YtafcmeoidcgmdaaDoorBitsA
import Derived.Test.YtafcmeoidcgmdaaDoorProg
import Derived.RowKit3
namespace Go.Proofs.YtafcmeoidcgmdaaDoor.Pk
open Go Go.RowKit Go.Proofs.YtafcmeoidcgmdaaDoor.HL Go.Proofs.YtafcmeoidcgmdaaDoor.BM
set_option linter.unusedVariables false
set_option linter.unusedSimpArgs false
attribute [local irreducible] rowA
theorem cntB_succ (f : Nat → Bool) (i : Nat) : cntB f (i + 1) = cntB f i + (if f i then 1 else 0) := rfl
def wordV (f : Nat → Bool) (j : Nat) : Value := .int .u64 (wordN f j : Int)
def mapO (n g : Nat) : Obj := .cells #[.int .i64 (n : Int), .slice (some ⟨g, 0, none⟩) ((n + 63) / 64) ((n + 63) / 64)] 55 (0, 0)
def mapW (f : Nat → Bool) (n : Nat) : Obj := .cells (rowA ((n + 63) / 64) (wordV f)) 57 (0, 0)
/-- A map of n bits. -/
def mapR (b g n : Nat) (f : Nat → Bool) : Res := pureR (n ≤ 65536 ∧ ∀ p, n ≤ p → f p = false) (star (blk b (mapO n g)) (blk g (mapW f n)))
section
variable {W0 w : World} {T : Nat → Prop} {H : List Res} {b g n : Nat} {f : Nat → Bool}
theorem mapR_open (h : Hp W0 T (mapR b g n f :: H) w) : (n ≤ 65536 ∧ ∀ p, n ≤ p → f p = false) ∧ Hp W0 T (blk b (mapO n g) :: blk g (mapW f n) :: H) w := by
  obtain ⟨h1, h2⟩ := h.unpure
  exact ⟨h1, h2.unstar⟩
theorem mapR_shut (hn : n ≤ 65536) (hz : ∀ p, n ≤ p → f p = false) (h : Hp W0 T (blk b (mapO n g) :: blk g (mapW f n) :: H) w) : Hp W0 T (mapR b g n f :: H) w := (h.tostar).topure ⟨hn, hz⟩
theorem mapR_of (hn : n ≤ 65536) (hz : ∀ p, n ≤ p → f p = false) (h : Hp W0 T (blk b (mapO n g) :: blk g (mapW f n) :: H) w) : (mapR b g n f).holds w := (mapR_shut hn hz h).all _ mem0
end
/-- The table of math/bits. -/
def TabOK (w : World) : Prop := ∀ j, j < 64 → w.cell? ⟨0, j, none⟩ = some (.int .u8 ((tabT.getD j 0 : Nat) : Int))
theorem TabOK.below {w w' : World} (h : TabOK w) (hb : Below w.heap.size w w') : TabOK w' := fun j hj => (hb.cell (World.block_lt_of_cell? w _ (h j hj))).trans (h j hj)
/-- The document's row of bits. -/
def rowR (c n : Nat) (f : Nat → Bool) : Res := blk c (.cells (rowA n (fun j => .bool (f j))) 4 (0, 0))
set_option maxRecDepth 100000 in
set_option maxHeartbeats 2000000 in
theorem k_len (W : World) {b g n : Nat} {f : Nat → Bool} (hR : (mapR b g n f).holds W) : Calls Tryd.prog 23 #[.pointer (some ⟨b, 0, none⟩)] W fun e w' => e = .returned (.int .i64 (n : Int)) ∧ Below W.heap.size W w' := by
  obtain ⟨⟨hb, hg, _⟩, hn, hz⟩ := hR
  have hM : Hp W (fun _ => False) [] W := Hp.start
  refine TC.enter (n := 7) Tryd.func23 rfl rfl rfl hM ?_
  refine TC.seq ?_
  refine TC.region ?_
  refine' TL.y rfl rfl rfl ?hy1 ?_
  case hy1 => exact Yl.assign rfl rfl
  refine TL.nil ?_
  refine TE.next ?_
  refine TC.seq ?_
  refine TC.region ?_
  refine' TL.y rfl rfl rfl ?hy2 ?_
  case hy2 => exact Yl.move rfl rfl
  refine' TL.y rfl rfl rfl ?hy3 ?_
  case hy3 => exact Yl.nilCheck rfl rfl
  refine' TL.y rfl rfl rfl ?hy4 ?_
  case hy4 => first | exact Yl.field0 (k := 0) 0 rfl rfl Tryd.underlying55 rfl (by kernel_rfl) rfl | exact Yl.field (k := 0) 0 rfl rfl Tryd.underlying55 rfl (by kernel_rfl) rfl
  refine' TL.y rfl rfl rfl ?hy5 ?_
  case hy5 => first | exact Yl.load rfl rfl (by kernel_rfl) (Hp.oldB hb rfl (fun h => h)) | exact Yl.load rfl rfl (by kernel_rfl) (Hp.oldRow hg (by omega) rfl (fun h => h)) | exact Yl.load rfl rfl (by kernel_rfl) (Hp.cell mem0 rfl) | exact Yl.load rfl rfl (by kernel_rfl) (Hp.cell mem1 rfl) | exact Yl.load rfl rfl (by kernel_rfl) (Hp.cell mem2 rfl) | exact Yl.load rfl rfl (by kernel_rfl) (Hp.cell mem3 rfl) | exact Yl.load rfl rfl (by kernel_rfl) (Hp.cell mem4 rfl) | exact Yl.load rfl rfl (by kernel_rfl) (Hp.rowAt mem0 (by omega) rfl) | exact Yl.load rfl rfl (by kernel_rfl) (Hp.rowAt mem1 (by omega) rfl) | exact Yl.load rfl rfl (by kernel_rfl) (Hp.rowAt mem2 (by omega) rfl) | exact Yl.load rfl rfl (by kernel_rfl) (Hp.rowAt mem3 (by omega) rfl) | exact Yl.load rfl rfl (by kernel_rfl) (Hp.rowAt mem4 (by omega) rfl)
  refine' TL.y rfl rfl rfl ?hy6 ?_
  case hy6 => exact Yl.assign rfl rfl
  refine TL.nil ?_
  refine TE.next ?_
  refine TC.ret ?_
  refine TE.ret1 rfl rfl ?_
  exact fun w h => ⟨rfl, h.below⟩
set_option maxRecDepth 100000 in
set_option maxHeartbeats 2000000 in
theorem k_get (W : World) {b g n : Nat} {f : Nat → Bool} (hR : (mapR b g n f).holds W) (i : Int) : Calls Tryd.prog 28 #[.pointer (some ⟨b, 0, none⟩), .int .i64 i] W fun e w' => e = .returned (.bool (getB f n i)) ∧ Below W.heap.size W w' := by
  obtain ⟨⟨hb, hg, _⟩, hn, hz⟩ := hR
  have hM : Hp W (fun _ => False) [] W := Hp.start
  refine TC.enter (n := 32) Tryd.func28 rfl rfl rfl hM ?_
  refine TC.seq ?_
  refine TC.region ?_
  refine' TL.y rfl rfl rfl ?hy1 ?_
  case hy1 => exact Yl.assign rfl rfl
  refine TL.nil ?_
  refine TE.next ?_
  refine TC.seq ?_
  refine TC.seq ?_
  refine TC.region ?_
  refine' TL.y rfl rfl rfl ?hy2 ?_
  case hy2 => exact Yl.move rfl rfl
  refine' TL.y rfl rfl rfl ?hy3 ?_
  case hy3 => exact Yl.bin rfl rfl rfl (Bin.lss _ _ _ _)
  refine' TL.y rfl rfl rfl ?hy4 ?_
  case hy4 => exact Yl.move rfl rfl
  refine TL.split (i := 9) rfl (fun hs9 => ?_) (fun hs9 => ?_)
  · skip
    (try simp only [decide_eq_true_eq, decide_eq_false_iff_not, beq_iff_eq, beq_eq_false_iff_ne, bne_iff_ne, ne_eq, bne_eq_false_iff_eq, Bool.not_eq_true', Bool.not_eq_false', Int.not_lt, Int.not_le, gt_iff_lt, ge_iff_le] at hs9)
    refine TL.skip rfl rfl rfl ?_
    refine TL.skip rfl rfl rfl ?_
    refine TL.skip rfl rfl rfl ?_
    refine TL.skip rfl rfl rfl ?_
    refine TL.skip rfl rfl rfl ?_
    refine TL.skip rfl rfl rfl ?_
    refine' TL.y rfl rfl rfl ?hy5 ?_
    case hy5 => exact Yl.pickT rfl rfl rfl
    refine TL.nil ?_
    refine TE.next ?_
    refine TC.yes rfl rfl ?_
    refine TC.seq ?_
    refine TC.region ?_
    refine' TL.y rfl rfl rfl ?hy6 ?_
    case hy6 => exact Yl.assign rfl rfl
    refine TL.nil ?_
    refine TE.next ?_
    refine TC.ret ?_
    refine TE.thenRet ?_
    refine TE.ret1 rfl rfl ?_
    exact fun w h => ⟨by rw [getB_out (by omega)], h.below⟩
  · skip
    (try simp only [decide_eq_true_eq, decide_eq_false_iff_not, beq_iff_eq, beq_eq_false_iff_ne, bne_iff_ne, ne_eq, bne_eq_false_iff_eq, Bool.not_eq_true', Bool.not_eq_false', Int.not_lt, Int.not_le, gt_iff_lt, ge_iff_le] at hs9)
    refine' TL.y rfl rfl rfl ?hy7 ?_
    case hy7 => exact Yl.move rfl rfl
    refine' TL.y rfl rfl rfl ?hy8 ?_
    case hy8 => exact Yl.move rfl rfl
    refine' TL.y rfl rfl rfl ?hy9 ?_
    case hy9 => exact Yl.nilCheck rfl rfl
    refine' TL.y rfl rfl rfl ?hy10 ?_
    case hy10 => first | exact Yl.field0 (k := 0) 0 rfl rfl Tryd.underlying55 rfl (by kernel_rfl) rfl | exact Yl.field (k := 0) 0 rfl rfl Tryd.underlying55 rfl (by kernel_rfl) rfl
    refine' TL.y rfl rfl rfl ?hy11 ?_
    case hy11 => first | exact Yl.load rfl rfl (by kernel_rfl) (Hp.oldB hb rfl (fun h => h)) | exact Yl.load rfl rfl (by kernel_rfl) (Hp.oldRow hg (by omega) rfl (fun h => h)) | exact Yl.load rfl rfl (by kernel_rfl) (Hp.cell mem0 rfl) | exact Yl.load rfl rfl (by kernel_rfl) (Hp.cell mem1 rfl) | exact Yl.load rfl rfl (by kernel_rfl) (Hp.cell mem2 rfl) | exact Yl.load rfl rfl (by kernel_rfl) (Hp.cell mem3 rfl) | exact Yl.load rfl rfl (by kernel_rfl) (Hp.cell mem4 rfl) | exact Yl.load rfl rfl (by kernel_rfl) (Hp.rowAt mem0 (by omega) rfl) | exact Yl.load rfl rfl (by kernel_rfl) (Hp.rowAt mem1 (by omega) rfl) | exact Yl.load rfl rfl (by kernel_rfl) (Hp.rowAt mem2 (by omega) rfl) | exact Yl.load rfl rfl (by kernel_rfl) (Hp.rowAt mem3 (by omega) rfl) | exact Yl.load rfl rfl (by kernel_rfl) (Hp.rowAt mem4 (by omega) rfl)
    refine' TL.y rfl rfl rfl ?hy12 ?_
    case hy12 => exact Yl.bin rfl rfl rfl (Bin.geq _ _ _ _)
    refine' TL.y rfl rfl rfl ?hy13 ?_
    case hy13 => exact Yl.pickF rfl rfl rfl
    refine TL.nil ?_
    refine TE.next ?_
    refine TC.cond rfl (fun hs16 => ?_) (fun hs16 => ?_)
    · skip
      (try simp only [decide_eq_true_eq, decide_eq_false_iff_not, beq_iff_eq, beq_eq_false_iff_ne, bne_iff_ne, ne_eq, bne_eq_false_iff_eq, Bool.not_eq_true', Bool.not_eq_false', Int.not_lt, Int.not_le, gt_iff_lt, ge_iff_le] at hs16)
      refine TC.seq ?_
      refine TC.region ?_
      refine' TL.y rfl rfl rfl ?hy14 ?_
      case hy14 => exact Yl.assign rfl rfl
      refine TL.nil ?_
      refine TE.next ?_
      refine TC.ret ?_
      refine TE.thenRet ?_
      refine TE.ret1 rfl rfl ?_
      exact fun w h => ⟨by rw [getB_out (by omega)], h.below⟩
    · skip
      (try simp only [decide_eq_true_eq, decide_eq_false_iff_not, beq_iff_eq, beq_eq_false_iff_ne, bne_iff_ne, ne_eq, bne_eq_false_iff_eq, Bool.not_eq_true', Bool.not_eq_false', Int.not_lt, Int.not_le, gt_iff_lt, ge_iff_le] at hs16)
      obtain ⟨j, rfl⟩ := Int.eq_ofNat_of_zero_le (show 0 ≤ i by omega)
      refine TC.skip ?_
      refine TE.next ?_
      refine TC.seq ?_
      refine TC.region ?_
      refine' TL.y rfl rfl rfl ?hy15 ?_
      case hy15 => exact Yl.move rfl rfl
      refine' TL.c rfl rfl rfl ?hy16 ?_
      case hy16 => exact Yc.call rfl Tryd.func30 (by kernel_rfl) rfl rfl (Hp.gives (k_at j (by omega)))
      intro _
      refine' TL.y rfl rfl rfl ?hy17 ?_
      case hy17 => exact Yl.move rfl rfl
      refine' TL.y rfl rfl rfl ?hy18 ?_
      case hy18 => exact Yl.extract rfl rfl rfl
      refine' TL.y rfl rfl rfl ?hy19 ?_
      case hy19 => exact Yl.extract rfl rfl rfl
      refine' TL.y rfl rfl rfl ?hy20 ?_
      case hy20 => exact Yl.assign rfl rfl
      refine' TL.y rfl rfl rfl ?hy21 ?_
      case hy21 => exact Yl.assign rfl rfl
      refine TL.nil ?_
      refine TE.next ?_
      refine TC.seq ?_
      refine TC.region ?_
      refine' TL.y rfl rfl rfl ?hy22 ?_
      case hy22 => exact Yl.move rfl rfl
      refine' TL.y rfl rfl rfl ?hy23 ?_
      case hy23 => exact Yl.nilCheck rfl rfl
      refine' TL.y rfl rfl rfl ?hy24 ?_
      case hy24 => first | exact Yl.field0 (k := 0) 1 rfl rfl Tryd.underlying55 rfl (by kernel_rfl) rfl | exact Yl.field (k := 0) 1 rfl rfl Tryd.underlying55 rfl (by kernel_rfl) rfl
      refine' TL.y rfl rfl rfl ?hy25 ?_
      case hy25 => first | exact Yl.load rfl rfl (by kernel_rfl) (Hp.oldB hb rfl (fun h => h)) | exact Yl.load rfl rfl (by kernel_rfl) (Hp.oldRow hg (by omega) rfl (fun h => h)) | exact Yl.load rfl rfl (by kernel_rfl) (Hp.cell mem0 rfl) | exact Yl.load rfl rfl (by kernel_rfl) (Hp.cell mem1 rfl) | exact Yl.load rfl rfl (by kernel_rfl) (Hp.cell mem2 rfl) | exact Yl.load rfl rfl (by kernel_rfl) (Hp.cell mem3 rfl) | exact Yl.load rfl rfl (by kernel_rfl) (Hp.cell mem4 rfl) | exact Yl.load rfl rfl (by kernel_rfl) (Hp.rowAt mem0 (by omega) rfl) | exact Yl.load rfl rfl (by kernel_rfl) (Hp.rowAt mem1 (by omega) rfl) | exact Yl.load rfl rfl (by kernel_rfl) (Hp.rowAt mem2 (by omega) rfl) | exact Yl.load rfl rfl (by kernel_rfl) (Hp.rowAt mem3 (by omega) rfl) | exact Yl.load rfl rfl (by kernel_rfl) (Hp.rowAt mem4 (by omega) rfl)
      refine' TL.y rfl rfl rfl ?hy26 ?_
      case hy26 => exact Yl.move rfl rfl
      refine' TL.y rfl rfl rfl ?hy27 ?_
      case hy27 => first | exact Yl.ixn rfl rfl rfl Tryd.underlying53 (by kernel_rfl) (by omega) | exact Yl.ixz rfl rfl rfl Tryd.underlying53 (by kernel_rfl) (by omega) (by omega) | exact Yl.ixcn rfl rfl rfl Tryd.underlying53 (by kernel_rfl) (by omega) | exact Yl.ixcz rfl rfl rfl Tryd.underlying53 (by kernel_rfl) (by omega) (by omega)
      refine' TL.y rfl rfl rfl ?hy28 ?_
      case hy28 => first | exact Yl.load rfl rfl (by kernel_rfl) (Hp.oldB hb rfl (fun h => h)) | exact Yl.load rfl rfl (by kernel_rfl) (Hp.oldRow hg (by omega) rfl (fun h => h)) | exact Yl.load rfl rfl (by kernel_rfl) (Hp.cell mem0 rfl) | exact Yl.load rfl rfl (by kernel_rfl) (Hp.cell mem1 rfl) | exact Yl.load rfl rfl (by kernel_rfl) (Hp.cell mem2 rfl) | exact Yl.load rfl rfl (by kernel_rfl) (Hp.cell mem3 rfl) | exact Yl.load rfl rfl (by kernel_rfl) (Hp.cell mem4 rfl) | exact Yl.load rfl rfl (by kernel_rfl) (Hp.rowAt mem0 (by omega) rfl) | exact Yl.load rfl rfl (by kernel_rfl) (Hp.rowAt mem1 (by omega) rfl) | exact Yl.load rfl rfl (by kernel_rfl) (Hp.rowAt mem2 (by omega) rfl) | exact Yl.load rfl rfl (by kernel_rfl) (Hp.rowAt mem3 (by omega) rfl) | exact Yl.load rfl rfl (by kernel_rfl) (Hp.rowAt mem4 (by omega) rfl)
      refine' TL.y rfl rfl rfl ?hy29 ?_
      case hy29 => exact Yl.move rfl rfl
      refine' TL.y rfl rfl rfl ?hy30 ?_
      case hy30 => exact Yl.bin rfl rfl rfl (Bin.and _ _ _ _)
      refine' TL.y rfl rfl rfl ?hy31 ?_
      case hy31 => exact Yl.val (Yl.bin rfl rfl rfl (Bin.neq _ _ _ _)) (congrArg (Value.bool) (word_get f j))
      refine' TL.y rfl rfl rfl ?hy32 ?_
      case hy32 => exact Yl.assign rfl rfl
      refine TL.nil ?_
      refine TE.next ?_
      refine TC.ret ?_
      refine TE.ret1 rfl rfl ?_
      exact fun w h => ⟨by rw [getB_in (by omega)], h.below⟩
theorem wordV_set (f : Nat → Bool) (j q : Nat) (on : Bool) : wordV (setB f j on) q = upV (wordV f) (j / 64) (.int .u64 (wordN (setB f j on) (j / 64) : Int)) q := by
  unfold upV
  by_cases e : q = j / 64
  · rw [if_pos e, e]; rfl
  · rw [if_neg e]; unfold wordV; rw [word_other f j q on e]
set_option maxRecDepth 100000 in
set_option maxHeartbeats 2000000 in
theorem k_set {b g n : Nat} {f : Nat → Bool} (i : Int) (on : Bool) : Turn Tryd.prog 26 #[.pointer (some ⟨b, 0, none⟩), .int .i64 i, .bool on] (mapR b g n f) (.bool (setOK f n i on)) (mapR b g n (setF f n i on)) := by
  intro W hR
  obtain ⟨_, hn, hz⟩ := id hR
  refine TC.enter (n := 41) Tryd.func26 rfl rfl rfl (mapR_open (Hp.enter hR)).2 ?_
  refine TC.seq ?_
  refine TC.region ?_
  refine' TL.y rfl rfl rfl ?hy1 ?_
  case hy1 => exact Yl.assign rfl rfl
  refine TL.nil ?_
  refine TE.next ?_
  refine TC.seq ?_
  refine TC.seq ?_
  refine TC.region ?_
  refine' TL.y rfl rfl rfl ?hy2 ?_
  case hy2 => exact Yl.move rfl rfl
  refine' TL.y rfl rfl rfl ?hy3 ?_
  case hy3 => exact Yl.bin rfl rfl rfl (Bin.lss _ _ _ _)
  refine' TL.y rfl rfl rfl ?hy4 ?_
  case hy4 => exact Yl.move rfl rfl
  refine TL.split (i := 11) rfl (fun hs11 => ?_) (fun hs11 => ?_)
  · skip
    (try simp only [decide_eq_true_eq, decide_eq_false_iff_not, beq_iff_eq, beq_eq_false_iff_ne, bne_iff_ne, ne_eq, bne_eq_false_iff_eq, Bool.not_eq_true', Bool.not_eq_false', Int.not_lt, Int.not_le, gt_iff_lt, ge_iff_le] at hs11)
    refine TL.skip rfl rfl rfl ?_
    refine TL.skip rfl rfl rfl ?_
    refine TL.skip rfl rfl rfl ?_
    refine TL.skip rfl rfl rfl ?_
    refine TL.skip rfl rfl rfl ?_
    refine TL.skip rfl rfl rfl ?_
    refine' TL.y rfl rfl rfl ?hy5 ?_
    case hy5 => exact Yl.pickT rfl rfl rfl
    refine' TL.y rfl rfl rfl ?hy6 ?_
    case hy6 => exact Yl.move rfl rfl
    refine TL.skip rfl rfl rfl ?_
    refine TL.skip rfl rfl rfl ?_
    refine TL.skip rfl rfl rfl ?_
    refine TL.skip rfl rfl rfl ?_
    refine TL.skip rfl rfl rfl ?_
    refine' TL.y rfl rfl rfl ?hy7 ?_
    case hy7 => exact Yl.pickT rfl rfl rfl
    refine TL.nil ?_
    refine TE.next ?_
    refine TC.yes rfl rfl ?_
    refine TC.seq ?_
    refine TC.region ?_
    refine' TL.y rfl rfl rfl ?hy8 ?_
    case hy8 => exact Yl.assign rfl rfl
    refine TL.nil ?_
    refine TE.next ?_
    refine TC.ret ?_
    refine TE.thenRet ?_
    refine TE.ret1 rfl rfl ?_
    exact fun w h => ⟨(), by rw [(set_out (f := f) (on := on) (show i < 0 ∨ (n : Int) ≤ i by omega)).1], by rw [(set_out (f := f) (on := on) (show i < 0 ∨ (n : Int) ≤ i by omega)).2]; exact (mapR_shut hn hz h).leave⟩
  · skip
    (try simp only [decide_eq_true_eq, decide_eq_false_iff_not, beq_iff_eq, beq_eq_false_iff_ne, bne_iff_ne, ne_eq, bne_eq_false_iff_eq, Bool.not_eq_true', Bool.not_eq_false', Int.not_lt, Int.not_le, gt_iff_lt, ge_iff_le] at hs11)
    refine' TL.y rfl rfl rfl ?hy9 ?_
    case hy9 => exact Yl.move rfl rfl
    refine' TL.y rfl rfl rfl ?hy10 ?_
    case hy10 => exact Yl.move rfl rfl
    refine' TL.y rfl rfl rfl ?hy11 ?_
    case hy11 => exact Yl.nilCheck rfl rfl
    refine' TL.y rfl rfl rfl ?hy12 ?_
    case hy12 => first | exact Yl.field0 (k := 0) 0 rfl rfl Tryd.underlying55 rfl (by kernel_rfl) rfl | exact Yl.field (k := 0) 0 rfl rfl Tryd.underlying55 rfl (by kernel_rfl) rfl
    refine' TL.y rfl rfl rfl ?hy13 ?_
    case hy13 => first | exact Yl.load rfl rfl (by kernel_rfl) (Hp.cell mem0 rfl) | exact Yl.load rfl rfl (by kernel_rfl) (Hp.cell mem0 rfl) | exact Yl.load rfl rfl (by kernel_rfl) (Hp.cell mem1 rfl) | exact Yl.load rfl rfl (by kernel_rfl) (Hp.cell mem2 rfl) | exact Yl.load rfl rfl (by kernel_rfl) (Hp.cell mem3 rfl) | exact Yl.load rfl rfl (by kernel_rfl) (Hp.cell mem4 rfl) | exact Yl.load rfl rfl (by kernel_rfl) (Hp.rowAt mem0 (by omega) rfl) | exact Yl.load rfl rfl (by kernel_rfl) (Hp.rowAt mem1 (by omega) rfl) | exact Yl.load rfl rfl (by kernel_rfl) (Hp.rowAt mem2 (by omega) rfl) | exact Yl.load rfl rfl (by kernel_rfl) (Hp.rowAt mem3 (by omega) rfl) | exact Yl.load rfl rfl (by kernel_rfl) (Hp.rowAt mem4 (by omega) rfl)
    refine' TL.y rfl rfl rfl ?hy14 ?_
    case hy14 => exact Yl.bin rfl rfl rfl (Bin.geq _ _ _ _)
    refine' TL.y rfl rfl rfl ?hy15 ?_
    case hy15 => exact Yl.pickF rfl rfl rfl
    refine' TL.y rfl rfl rfl ?hy16 ?_
    case hy16 => exact Yl.move rfl rfl
    refine TL.split (i := 19) rfl (fun hs19 => ?_) (fun hs19 => ?_)
    · skip
      (try simp only [decide_eq_true_eq, decide_eq_false_iff_not, beq_iff_eq, beq_eq_false_iff_ne, bne_iff_ne, ne_eq, bne_eq_false_iff_eq, Bool.not_eq_true', Bool.not_eq_false', Int.not_lt, Int.not_le, gt_iff_lt, ge_iff_le] at hs19)
      refine TL.skip rfl rfl rfl ?_
      refine TL.skip rfl rfl rfl ?_
      refine TL.skip rfl rfl rfl ?_
      refine TL.skip rfl rfl rfl ?_
      refine TL.skip rfl rfl rfl ?_
      refine' TL.y rfl rfl rfl ?hy17 ?_
      case hy17 => exact Yl.pickT rfl rfl rfl
      refine TL.nil ?_
      refine TE.next ?_
      refine TC.yes rfl rfl ?_
      refine TC.seq ?_
      refine TC.region ?_
      refine' TL.y rfl rfl rfl ?hy18 ?_
      case hy18 => exact Yl.assign rfl rfl
      refine TL.nil ?_
      refine TE.next ?_
      refine TC.ret ?_
      refine TE.thenRet ?_
      refine TE.ret1 rfl rfl ?_
      exact fun w h => ⟨(), by rw [(set_out (f := f) (on := on) (show i < 0 ∨ (n : Int) ≤ i by omega)).1], by rw [(set_out (f := f) (on := on) (show i < 0 ∨ (n : Int) ≤ i by omega)).2]; exact (mapR_shut hn hz h).leave⟩
    · skip
      (try simp only [decide_eq_true_eq, decide_eq_false_iff_not, beq_iff_eq, beq_eq_false_iff_ne, bne_iff_ne, ne_eq, bne_eq_false_iff_eq, Bool.not_eq_true', Bool.not_eq_false', Int.not_lt, Int.not_le, gt_iff_lt, ge_iff_le] at hs19)
      refine' TL.y rfl rfl rfl ?hy19 ?_
      case hy19 => exact Yl.move rfl rfl
      refine' TL.y rfl rfl rfl ?hy20 ?_
      case hy20 => exact Yl.move rfl rfl
      refine' TL.c rfl rfl rfl ?hy21 ?_
      case hy21 => exact Yc.call rfl Tryd.func28 (by kernel_rfl) rfl rfl (Hp.calls (fun w h => k_get w (mapR_of hn hz h) i))
      intro _
      obtain ⟨j, rfl⟩ := Int.eq_ofNat_of_zero_le (show 0 ≤ i by omega)
      rw [getB_in (show j < n by omega)]
      refine' TL.y rfl rfl rfl ?hy22 ?_
      case hy22 => exact Yl.move rfl rfl
      refine' TL.y rfl rfl rfl ?hy23 ?_
      case hy23 => exact Yl.bin rfl rfl rfl (Bin.eqlB _ _ _ (by kernel_rfl))
      refine' TL.y rfl rfl rfl ?hy24 ?_
      case hy24 => exact Yl.pickF rfl rfl rfl
      refine TL.nil ?_
      refine TE.next ?_
      refine TC.cond rfl (fun hs25 => ?_) (fun hs25 => ?_)
      · skip
        (try simp only [decide_eq_true_eq, decide_eq_false_iff_not, beq_iff_eq, beq_eq_false_iff_ne, bne_iff_ne, ne_eq, bne_eq_false_iff_eq, Bool.not_eq_true', Bool.not_eq_false', Int.not_lt, Int.not_le, gt_iff_lt, ge_iff_le] at hs25)
        refine TC.seq ?_
        refine TC.region ?_
        refine' TL.y rfl rfl rfl ?hy25 ?_
        case hy25 => exact Yl.assign rfl rfl
        refine TL.nil ?_
        refine TE.next ?_
        refine TC.ret ?_
        refine TE.thenRet ?_
        refine TE.ret1 rfl rfl ?_
        exact fun w h => ⟨(), by rw [(set_same (n := n) hs25).1], by rw [(set_same (n := n) hs25).2]; exact (mapR_shut hn hz h).leave⟩
      · skip
        (try simp only [decide_eq_true_eq, decide_eq_false_iff_not, beq_iff_eq, beq_eq_false_iff_ne, bne_iff_ne, ne_eq, bne_eq_false_iff_eq, Bool.not_eq_true', Bool.not_eq_false', Int.not_lt, Int.not_le, gt_iff_lt, ge_iff_le] at hs25)
        refine TC.skip ?_
        refine TE.next ?_
        refine TC.seq ?_
        refine TC.region ?_
        refine' TL.y rfl rfl rfl ?hy26 ?_
        case hy26 => exact Yl.move rfl rfl
        refine' TL.c rfl rfl rfl ?hy27 ?_
        case hy27 => exact Yc.call rfl Tryd.func30 (by kernel_rfl) rfl rfl (Hp.gives (k_at j (by omega)))
        intro _
        refine' TL.y rfl rfl rfl ?hy28 ?_
        case hy28 => exact Yl.move rfl rfl
        refine' TL.y rfl rfl rfl ?hy29 ?_
        case hy29 => exact Yl.extract rfl rfl rfl
        refine' TL.y rfl rfl rfl ?hy30 ?_
        case hy30 => exact Yl.extract rfl rfl rfl
        refine' TL.y rfl rfl rfl ?hy31 ?_
        case hy31 => exact Yl.assign rfl rfl
        refine' TL.y rfl rfl rfl ?hy32 ?_
        case hy32 => exact Yl.assign rfl rfl
        refine TL.nil ?_
        refine TE.next ?_
        refine TC.seq ?_
        refine TC.region ?_
        refine' TL.y rfl rfl rfl ?hy33 ?_
        case hy33 => exact Yl.move rfl rfl
        refine' TL.y rfl rfl rfl ?hy34 ?_
        case hy34 => exact Yl.nilCheck rfl rfl
        refine' TL.y rfl rfl rfl ?hy35 ?_
        case hy35 => first | exact Yl.field0 (k := 0) 1 rfl rfl Tryd.underlying55 rfl (by kernel_rfl) rfl | exact Yl.field (k := 0) 1 rfl rfl Tryd.underlying55 rfl (by kernel_rfl) rfl
        refine' TL.y rfl rfl rfl ?hy36 ?_
        case hy36 => first | exact Yl.load rfl rfl (by kernel_rfl) (Hp.cell mem0 rfl) | exact Yl.load rfl rfl (by kernel_rfl) (Hp.cell mem0 rfl) | exact Yl.load rfl rfl (by kernel_rfl) (Hp.cell mem1 rfl) | exact Yl.load rfl rfl (by kernel_rfl) (Hp.cell mem2 rfl) | exact Yl.load rfl rfl (by kernel_rfl) (Hp.cell mem3 rfl) | exact Yl.load rfl rfl (by kernel_rfl) (Hp.cell mem4 rfl) | exact Yl.load rfl rfl (by kernel_rfl) (Hp.rowAt mem0 (by omega) rfl) | exact Yl.load rfl rfl (by kernel_rfl) (Hp.rowAt mem1 (by omega) rfl) | exact Yl.load rfl rfl (by kernel_rfl) (Hp.rowAt mem2 (by omega) rfl) | exact Yl.load rfl rfl (by kernel_rfl) (Hp.rowAt mem3 (by omega) rfl) | exact Yl.load rfl rfl (by kernel_rfl) (Hp.rowAt mem4 (by omega) rfl)
        refine' TL.y rfl rfl rfl ?hy37 ?_
        case hy37 => exact Yl.move rfl rfl
        refine' TL.y rfl rfl rfl ?hy38 ?_
        case hy38 => first | exact Yl.ixn rfl rfl rfl Tryd.underlying53 (by kernel_rfl) (by omega) | exact Yl.ixz rfl rfl rfl Tryd.underlying53 (by kernel_rfl) (by omega) (by omega) | exact Yl.ixcn rfl rfl rfl Tryd.underlying53 (by kernel_rfl) (by omega) | exact Yl.ixcz rfl rfl rfl Tryd.underlying53 (by kernel_rfl) (by omega) (by omega)
        refine' TL.y rfl rfl rfl ?hy39 ?_
        case hy39 => first | exact Yl.load rfl rfl (by kernel_rfl) (Hp.cell mem0 rfl) | exact Yl.load rfl rfl (by kernel_rfl) (Hp.cell mem0 rfl) | exact Yl.load rfl rfl (by kernel_rfl) (Hp.cell mem1 rfl) | exact Yl.load rfl rfl (by kernel_rfl) (Hp.cell mem2 rfl) | exact Yl.load rfl rfl (by kernel_rfl) (Hp.cell mem3 rfl) | exact Yl.load rfl rfl (by kernel_rfl) (Hp.cell mem4 rfl) | exact Yl.load rfl rfl (by kernel_rfl) (Hp.rowAt mem0 (by omega) rfl) | exact Yl.load rfl rfl (by kernel_rfl) (Hp.rowAt mem1 (by omega) rfl) | exact Yl.load rfl rfl (by kernel_rfl) (Hp.rowAt mem2 (by omega) rfl) | exact Yl.load rfl rfl (by kernel_rfl) (Hp.rowAt mem3 (by omega) rfl) | exact Yl.load rfl rfl (by kernel_rfl) (Hp.rowAt mem4 (by omega) rfl)
        refine' TL.y rfl rfl rfl ?hy40 ?_
        case hy40 => exact Yl.move rfl rfl
        refine' TL.y rfl rfl rfl ?hy41 ?_
        case hy41 => exact Yl.val (Yl.bin rfl rfl rfl (Bin.xor _ _ _ _)) (congrArg (Value.int .u64) (word_set f j on hs25))
        refine' TL.y rfl rfl rfl ?hy42 ?_
        case hy42 => first | exact Yl.ixn rfl rfl rfl Tryd.underlying53 (by kernel_rfl) (by omega) | exact Yl.ixz rfl rfl rfl Tryd.underlying53 (by kernel_rfl) (by omega) (by omega) | exact Yl.ixcn rfl rfl rfl Tryd.underlying53 (by kernel_rfl) (by omega) | exact Yl.ixcz rfl rfl rfl Tryd.underlying53 (by kernel_rfl) (by omega) (by omega)
        refine' TL.s rfl rfl ?hy43 ?_
        case hy43 => first | exact Ys.row rfl rfl rfl rfl (by kernel_rfl) rfl foc0 (by omega) rfl | exact Ys.row rfl rfl rfl rfl (by kernel_rfl) rfl foc1 (by omega) rfl | exact Ys.row rfl rfl rfl rfl (by kernel_rfl) rfl foc2 (by omega) rfl | exact Ys.row rfl rfl rfl rfl (by kernel_rfl) rfl foc3 (by omega) rfl | exact Ys.row rfl rfl rfl rfl (by kernel_rfl) rfl foc4 (by omega) rfl | exact Ys.store rfl rfl rfl rfl (by kernel_rfl) (by simp [Value.oneCell', Value.cells]) foc0 (by simp [Value.cells]) rfl | exact Ys.store rfl rfl rfl rfl (by kernel_rfl) (by simp [Value.oneCell', Value.cells]) foc1 (by simp [Value.cells]) rfl | exact Ys.store rfl rfl rfl rfl (by kernel_rfl) (by simp [Value.oneCell', Value.cells]) foc2 (by simp [Value.cells]) rfl | exact Ys.store rfl rfl rfl rfl (by kernel_rfl) (by simp [Value.oneCell', Value.cells]) foc3 (by simp [Value.cells]) rfl | exact Ys.store rfl rfl rfl rfl (by kernel_rfl) (by simp [Value.oneCell', Value.cells]) foc4 (by simp [Value.cells]) rfl
        refine TL.nil ?_
        refine TE.next ?_
        refine TC.seq ?_
        refine TC.region ?_
        refine' TL.y rfl rfl rfl ?hy44 ?_
        case hy44 => exact Yl.assign rfl rfl
        refine TL.nil ?_
        refine TE.next ?_
        refine TC.ret ?_
        refine TE.ret1 rfl rfl ?_
        exact fun w h => ⟨(), by rw [(set_in (show j < n by omega) hs25).1], by rw [(set_in (show j < n by omega) hs25).2]; exact (mapR_shut hn (setB_shut (by omega) hz) (by unfold mapW; rw [rowA_congr (h := upV (wordV f) (j / 64) (.int .u64 (wordN (setB f j on) (j / 64) : Int))) (fun q hq => wordV_set f j q on)]; exact h)).leave⟩
set_option maxRecDepth 100000 in
set_option maxHeartbeats 2000000 in
theorem k_new (n : Int) : Makes Tryd.prog 24 #[.int .i64 n] (fun s : Nat × Nat => .pointer (some ⟨s.1, 0, none⟩)) (fun s => mapR s.1 s.2 (newN n) (fun _ => false)) := by
  intro W
  have hM : Hp W (fun _ => False) [] W := Hp.start
  refine TC.enter (n := 14) Tryd.func24 rfl rfl rfl hM ?_
  refine TC.seq ?_
  refine TC.region ?_
  refine' TL.y rfl rfl rfl ?hy1 ?_
  case hy1 => exact Yl.assign rfl rfl
  refine TL.nil ?_
  refine TE.next ?_
  refine TC.seq ?_
  refine TC.region ?_
  refine' TL.y rfl rfl rfl ?hy2 ?_
  case hy2 => exact Yl.move rfl rfl
  refine' TL.y rfl rfl rfl ?hy3 ?_
  case hy3 => exact Yl.val (Yl.max rfl rfl rfl) (congrArg (Value.int .i64) (show (if (0 : Int) > n then 0 else n) = max n 0 from by split <;> omega))
  refine' TL.y rfl rfl rfl ?hy4 ?_
  case hy4 => exact Yl.val (Yl.min rfl rfl rfl) (congrArg (Value.int .i64) (show (if (65536 : Int) < max n 0 then 65536 else max n 0) = (newN n : Int) from by unfold newN; split <;> omega))
  have hN := newN_le n
  refine' TL.y rfl rfl rfl ?hy5 ?_
  case hy5 => exact Yl.assign rfl rfl
  refine TL.nil ?_
  refine TE.next ?_
  refine TC.seq ?_
  refine TC.region ?_
  refine' TL.y rfl rfl rfl ?hy6 ?_
  case hy6 => exact Yl.move rfl rfl
  refine' TL.y rfl rfl rfl ?hy7 ?_
  case hy7 => exact Yl.move rfl rfl
  refine' TL.y rfl rfl rfl ?hy8 ?_
  case hy8 => first | (refine Yl.val (Yl.bin rfl rfl rfl (Bin.add _ _ _ _)) (congrArg (Value.int .i64) (i64in ?_ ?_)) <;> omega) | exact Yl.bin rfl rfl rfl (Bin.add _ _ _ _)
  refine' TL.y rfl rfl rfl ?hy9 ?_
  case hy9 => first | (refine Yl.val (Yl.bin rfl rfl rfl (Bin.sub _ _ _ _)) (congrArg (Value.int .i64) (i64in ?_ ?_)) <;> omega) | exact Yl.bin rfl rfl rfl (Bin.sub _ _ _ _)
  rw [show (newN n : Int) + 64 - 1 = (newN n : Int) + 63 from by omega]
  refine' TL.y rfl rfl rfl ?hy10 ?_
  case hy10 => exact Yl.val (Yl.bin rfl rfl rfl (Bin.shr _ _ _ _ _ (by omega))) (congrArg (Value.int .i64) (show ((newN n : Int) + 63) / 2 ^ min (6 : Int).toNat IntKind.i64.bits = (((newN n + 63) / 64 : Nat) : Int) from by rw [show (2 : Int) ^ min (6 : Int).toNat IntKind.i64.bits = 64 from by decide]; omega))
  refine' TL.mx rfl rfl rfl ?hy11 ?_
  case hy11 => exact Ym.makeRow (z := .int .u64 0) (by_ := 8) rfl rfl rfl Tryd.underlying53 (by kernel_rfl) rfl (by omega) (by omega) (by omega)
  intro b11
  simp only [Int.toNat_natCast]
  refine' TL.y rfl rfl rfl ?hy12 ?_
  case hy12 => exact Yl.build (z := .agg #[.int .i64 0, .slice none 0 0]) [(0, 1), (1, 1)] rfl (by kernel_rfl) Tryd.underlying55 (by kernel_rfl) rfl rfl
  refine' TL.mx rfl rfl rfl ?hy13 ?_
  case hy13 => exact Ym.box rfl rfl
  intro b13
  refine' TL.y rfl rfl rfl ?hy14 ?_
  case hy14 => exact Yl.assign rfl rfl
  refine TL.nil ?_
  refine TE.next ?_
  refine TC.ret ?_
  refine TE.ret1 rfl rfl ?_
  exact fun w h => ⟨(b13, b11), rfl, (mapR_shut hN (fun _ _ => rfl) (by unfold mapW; rw [rowA_congr (h := fun _ => .int .u64 0) (fun q hq => by unfold wordV; rw [wordN_false]; rfl)]; exact h)).leaveNew⟩
set_option maxRecDepth 100000 in
set_option maxHeartbeats 2000000 in
theorem k_ones (x : Nat) (hx : x < 2 ^ 64) : Gives Tryd.prog 31 #[.int .u64 (x : Int)] (.int .i64 ((cntB x.testBit 64 : Nat) : Int)) := by
  intro W
  have hl := oc_lt x hx
  obtain ⟨y1, hy1⟩ : ∃ y, oc1 x = y := ⟨_, rfl⟩
  obtain ⟨y2, hy2⟩ : ∃ y, oc2 y1 = y := ⟨_, rfl⟩
  obtain ⟨t, ht⟩ : ∃ y, oc3 y2 = y := ⟨_, rfl⟩
  have hon := ones_is x t (t + t / 256) _ _ (by rw [hy1, hy2, ht]) rfl rfl rfl
  obtain ⟨x1, hx1⟩ : ∃ y, t + t / 256 = y := ⟨_, rfl⟩
  rw [hx1] at hon
  obtain ⟨x2, hx2⟩ : ∃ y, x1 + x1 / 65536 = y := ⟨_, rfl⟩
  rw [hx2] at hon
  obtain ⟨x3, hx3⟩ : ∃ y, x2 + x2 / 4294967296 = y := ⟨_, rfl⟩
  rw [hx3] at hon
  rw [hy1, hy2] at hl
  have e1 : x / 2 &&& rep 85 8 < 2 ^ 63 := hl.1
  have hy1' : (x / 2 &&& rep 85 8) + (x &&& rep 85 8) = y1 := hy1
  have hy2' : (y1 / 4 &&& rep 51 8) + (y1 &&& rep 51 8) = y2 := hy2
  have hM : Hp W (fun _ => False) [] W := Hp.start
  refine TC.enter (n := 35) Tryd.func31 rfl rfl rfl hM ?_
  refine TC.seq ?_
  refine TC.region ?_
  refine' TL.y rfl rfl rfl ?hy1 ?_
  case hy1 => exact Yl.assign rfl rfl
  refine TL.nil ?_
  refine TE.next ?_
  refine TC.seq ?_
  refine TC.region ?_
  refine' TL.y rfl rfl rfl ?hy2 ?_
  case hy2 => exact Yl.move rfl rfl
  refine' TL.y rfl rfl rfl ?hy3 ?_
  case hy3 => exact Yl.val (Yl.bin rfl rfl rfl (Bin.shr _ _ _ _ _ (by omega))) (congrArg (Value.int .u64) (show (x : Int) / 2 ^ min (1 : Int).toNat IntKind.u64.bits = ((x / 2 : Nat) : Int) from by rw [show (2 : Int) ^ min (1 : Int).toNat IntKind.u64.bits = 2 from by decide]; omega))
  refine' TL.y rfl rfl rfl ?hy4 ?_
  case hy4 => exact Yl.val (Yl.bin rfl rfl rfl (Bin.and _ _ _ _)) (congrArg (Value.int .u64) (show Go.bits .and .u64 ((x / 2 : Nat) : Int) 6148914691236517205 = ((x / 2 &&& rep 85 8 : Nat) : Int) from by rw [show rep 85 8 = 6148914691236517205 from by decide]; exact (bitsN _ 6148914691236517205 (by omega) (by decide)).1))
  refine' TL.y rfl rfl rfl ?hy5 ?_
  case hy5 => exact Yl.move rfl rfl
  refine' TL.y rfl rfl rfl ?hy6 ?_
  case hy6 => exact Yl.val (Yl.bin rfl rfl rfl (Bin.and _ _ _ _)) (congrArg (Value.int .u64) (show Go.bits .and .u64 ((x : Nat) : Int) 6148914691236517205 = ((x &&& rep 85 8 : Nat) : Int) from by rw [show rep 85 8 = 6148914691236517205 from by decide]; exact (bitsN _ 6148914691236517205 (by omega) (by decide)).1))
  refine' TL.y rfl rfl rfl ?hy7 ?_
  case hy7 => exact Yl.val (Yl.bin rfl rfl rfl (Bin.add _ _ _ _)) (congrArg (Value.int .u64) (show IntKind.u64.wrap (((x / 2 &&& rep 85 8 : Nat) : Int) + ((x &&& rep 85 8 : Nat) : Int)) = ((y1 : Nat) : Int) from by rw [u64in (by omega) (by omega)]; exact (Int.natCast_add _ _).symm.trans (congrArg Nat.cast (by first | rfl | omega))))
  refine' TL.y rfl rfl rfl ?hy8 ?_
  case hy8 => exact Yl.assign rfl rfl
  refine TL.nil ?_
  refine TE.next ?_
  refine TC.seq ?_
  refine TC.region ?_
  refine' TL.y rfl rfl rfl ?hy9 ?_
  case hy9 => exact Yl.move rfl rfl
  refine' TL.y rfl rfl rfl ?hy10 ?_
  case hy10 => exact Yl.val (Yl.bin rfl rfl rfl (Bin.shr _ _ _ _ _ (by omega))) (congrArg (Value.int .u64) (show (y1 : Int) / 2 ^ min (2 : Int).toNat IntKind.u64.bits = ((y1 / 4 : Nat) : Int) from by rw [show (2 : Int) ^ min (2 : Int).toNat IntKind.u64.bits = 4 from by decide]; omega))
  refine' TL.y rfl rfl rfl ?hy11 ?_
  case hy11 => exact Yl.val (Yl.bin rfl rfl rfl (Bin.and _ _ _ _)) (congrArg (Value.int .u64) (show Go.bits .and .u64 ((y1 / 4 : Nat) : Int) 3689348814741910323 = ((y1 / 4 &&& rep 51 8 : Nat) : Int) from by rw [show rep 51 8 = 3689348814741910323 from by decide]; exact (bitsN _ 3689348814741910323 (by omega) (by decide)).1))
  refine' TL.y rfl rfl rfl ?hy12 ?_
  case hy12 => exact Yl.move rfl rfl
  refine' TL.y rfl rfl rfl ?hy13 ?_
  case hy13 => exact Yl.val (Yl.bin rfl rfl rfl (Bin.and _ _ _ _)) (congrArg (Value.int .u64) (show Go.bits .and .u64 ((y1 : Nat) : Int) 3689348814741910323 = ((y1 &&& rep 51 8 : Nat) : Int) from by rw [show rep 51 8 = 3689348814741910323 from by decide]; exact (bitsN _ 3689348814741910323 (by omega) (by decide)).1))
  refine' TL.y rfl rfl rfl ?hy14 ?_
  case hy14 => exact Yl.val (Yl.bin rfl rfl rfl (Bin.add _ _ _ _)) (congrArg (Value.int .u64) (show IntKind.u64.wrap (((y1 / 4 &&& rep 51 8 : Nat) : Int) + ((y1 &&& rep 51 8 : Nat) : Int)) = ((y2 : Nat) : Int) from by rw [u64in (by omega) (by omega)]; exact (Int.natCast_add _ _).symm.trans (congrArg Nat.cast (by first | rfl | omega))))
  refine' TL.y rfl rfl rfl ?hy15 ?_
  case hy15 => exact Yl.assign rfl rfl
  refine TL.nil ?_
  refine TE.next ?_
  refine TC.seq ?_
  refine TC.region ?_
  refine' TL.y rfl rfl rfl ?hy16 ?_
  case hy16 => exact Yl.move rfl rfl
  refine' TL.y rfl rfl rfl ?hy17 ?_
  case hy17 => exact Yl.val (Yl.bin rfl rfl rfl (Bin.shr _ _ _ _ _ (by omega))) (congrArg (Value.int .u64) (show (y2 : Int) / 2 ^ min (4 : Int).toNat IntKind.u64.bits = ((y2 / 16 : Nat) : Int) from by rw [show (2 : Int) ^ min (4 : Int).toNat IntKind.u64.bits = 16 from by decide]; omega))
  refine' TL.y rfl rfl rfl ?hy18 ?_
  case hy18 => exact Yl.move rfl rfl
  refine' TL.y rfl rfl rfl ?hy19 ?_
  case hy19 => exact Yl.val (Yl.bin rfl rfl rfl (Bin.add _ _ _ _)) (congrArg (Value.int .u64) (show IntKind.u64.wrap (((y2 / 16 : Nat) : Int) + ((y2 : Nat) : Int)) = ((y2 / 16 + y2 : Nat) : Int) from by rw [u64in (by omega) (by omega)]; exact (Int.natCast_add _ _).symm.trans (congrArg Nat.cast (by first | rfl | omega))))
  refine' TL.y rfl rfl rfl ?hy20 ?_
  case hy20 => exact Yl.val (Yl.bin rfl rfl rfl (Bin.and _ _ _ _)) (congrArg (Value.int .u64) (show Go.bits .and .u64 ((y2 / 16 + y2 : Nat) : Int) 1085102592571150095 = ((t : Nat) : Int) from by rw [← ht]; unfold oc3; rw [show rep 15 8 = 1085102592571150095 from by decide]; exact (bitsN _ 1085102592571150095 (by omega) (by decide)).1))
  refine' TL.y rfl rfl rfl ?hy21 ?_
  case hy21 => exact Yl.assign rfl rfl
  refine TL.nil ?_
  refine TE.next ?_
  refine TC.seq ?_
  refine TC.region ?_
  refine' TL.y rfl rfl rfl ?hy22 ?_
  case hy22 => exact Yl.move rfl rfl
  refine' TL.y rfl rfl rfl ?hy23 ?_
  case hy23 => exact Yl.move rfl rfl
  refine' TL.y rfl rfl rfl ?hy24 ?_
  case hy24 => exact Yl.val (Yl.bin rfl rfl rfl (Bin.shr _ _ _ _ _ (by omega))) (congrArg (Value.int .u64) (show (t : Int) / 2 ^ min (8 : Int).toNat IntKind.u64.bits = ((t / 256 : Nat) : Int) from by rw [show (2 : Int) ^ min (8 : Int).toNat IntKind.u64.bits = 256 from by decide]; omega))
  refine' TL.y rfl rfl rfl ?hy25 ?_
  case hy25 => exact Yl.val (Yl.bin rfl rfl rfl (Bin.add _ _ _ _)) (congrArg (Value.int .u64) (show IntKind.u64.wrap (((t : Nat) : Int) + ((t / 256 : Nat) : Int)) = ((x1 : Nat) : Int) from by rw [u64in (by omega) (by omega)]; exact (Int.natCast_add _ _).symm.trans (congrArg Nat.cast (by first | rfl | omega))))
  refine' TL.y rfl rfl rfl ?hy26 ?_
  case hy26 => exact Yl.assign rfl rfl
  refine TL.nil ?_
  refine TE.next ?_
  refine TC.seq ?_
  refine TC.region ?_
  refine' TL.y rfl rfl rfl ?hy27 ?_
  case hy27 => exact Yl.move rfl rfl
  refine' TL.y rfl rfl rfl ?hy28 ?_
  case hy28 => exact Yl.move rfl rfl
  refine' TL.y rfl rfl rfl ?hy29 ?_
  case hy29 => exact Yl.val (Yl.bin rfl rfl rfl (Bin.shr _ _ _ _ _ (by omega))) (congrArg (Value.int .u64) (show (x1 : Int) / 2 ^ min (16 : Int).toNat IntKind.u64.bits = ((x1 / 65536 : Nat) : Int) from by rw [show (2 : Int) ^ min (16 : Int).toNat IntKind.u64.bits = 65536 from by decide]; omega))
  refine' TL.y rfl rfl rfl ?hy30 ?_
  case hy30 => exact Yl.val (Yl.bin rfl rfl rfl (Bin.add _ _ _ _)) (congrArg (Value.int .u64) (show IntKind.u64.wrap (((x1 : Nat) : Int) + ((x1 / 65536 : Nat) : Int)) = ((x2 : Nat) : Int) from by rw [u64in (by omega) (by omega)]; exact (Int.natCast_add _ _).symm.trans (congrArg Nat.cast (by first | rfl | omega))))
  refine' TL.y rfl rfl rfl ?hy31 ?_
  case hy31 => exact Yl.assign rfl rfl
  refine TL.nil ?_
  refine TE.next ?_
  refine TC.seq ?_
  refine TC.region ?_
  refine' TL.y rfl rfl rfl ?hy32 ?_
  case hy32 => exact Yl.move rfl rfl
  refine' TL.y rfl rfl rfl ?hy33 ?_
  case hy33 => exact Yl.move rfl rfl
  refine' TL.y rfl rfl rfl ?hy34 ?_
  case hy34 => exact Yl.val (Yl.bin rfl rfl rfl (Bin.shr _ _ _ _ _ (by omega))) (congrArg (Value.int .u64) (show (x2 : Int) / 2 ^ min (32 : Int).toNat IntKind.u64.bits = ((x2 / 4294967296 : Nat) : Int) from by rw [show (2 : Int) ^ min (32 : Int).toNat IntKind.u64.bits = 4294967296 from by decide]; omega))
  refine' TL.y rfl rfl rfl ?hy35 ?_
  case hy35 => exact Yl.val (Yl.bin rfl rfl rfl (Bin.add _ _ _ _)) (congrArg (Value.int .u64) (show IntKind.u64.wrap (((x2 : Nat) : Int) + ((x2 / 4294967296 : Nat) : Int)) = ((x3 : Nat) : Int) from by rw [u64in (by omega) (by omega)]; exact (Int.natCast_add _ _).symm.trans (congrArg Nat.cast (by first | rfl | omega))))
  refine' TL.y rfl rfl rfl ?hy36 ?_
  case hy36 => exact Yl.assign rfl rfl
  refine TL.nil ?_
  refine TE.next ?_
  refine TC.seq ?_
  refine TC.region ?_
  refine' TL.y rfl rfl rfl ?hy37 ?_
  case hy37 => exact Yl.move rfl rfl
  refine' TL.y rfl rfl rfl ?hy38 ?_
  case hy38 => first | (refine Yl.val (Yl.conv rfl rfl (by kernel_rfl) Tryd.underlying3) (congrArg (Value.int .i64) (i64in ?_ ?_)) <;> omega) | exact Yl.conv rfl rfl (by kernel_rfl) Tryd.underlying3
  refine' TL.y rfl rfl rfl ?hy39 ?_
  case hy39 => exact Yl.val (Yl.bin rfl rfl rfl (Bin.and _ _ _ _)) (congrArg (Value.int .i64) (show Go.bits .and .i64 (x3 : Int) 127 = ((cntB x.testBit 64 : Nat) : Int) from (andI64 (x3 : Int) 7 (by decide) (by omega) (by omega)).trans (by rw [show (2 : Int) ^ 7 = 128 from by decide, ← hon.2.2.2.2]; omega)))
  refine' TL.y rfl rfl rfl ?hy40 ?_
  case hy40 => exact Yl.assign rfl rfl
  refine TL.nil ?_
  refine TE.next ?_
  refine TC.ret ?_
  refine TE.ret1 rfl rfl ?_
  exact fun w h => ⟨rfl, h.below⟩
set_option maxRecDepth 100000 in
set_option maxHeartbeats 2000000 in
theorem k_count (W : World) {b g n : Nat} {f : Nat → Bool} (hR : (mapR b g n f).holds W) : Calls Tryd.prog 27 #[.pointer (some ⟨b, 0, none⟩)] W fun e w' => e = .returned (.int .i64 (cntB f n : Int)) ∧ Below W.heap.size W w' := by
  obtain ⟨⟨hb, hg, _⟩, hn, hz⟩ := hR
  have hM : Hp W (fun _ => False) [] W := Hp.start
  refine TC.enter (n := 21) Tryd.func27 rfl rfl rfl hM ?_
  refine TC.seq ?_
  refine TC.region ?_
  refine' TL.y rfl rfl rfl ?hy1 ?_
  case hy1 => exact Yl.assign rfl rfl
  refine TL.nil ?_
  refine TE.next ?_
  refine TC.seq ?_
  refine TC.region ?_
  refine' TL.y rfl rfl rfl ?hy2 ?_
  case hy2 => exact Yl.assign rfl rfl
  refine TL.nil ?_
  refine TE.next ?_
  refine TC.seq ?_
  refine TC.seq ?_
  refine TC.region ?_
  refine' TL.y rfl rfl rfl ?hy3 ?_
  case hy3 => exact Yl.move rfl rfl
  refine' TL.y rfl rfl rfl ?hy4 ?_
  case hy4 => exact Yl.nilCheck rfl rfl
  refine' TL.y rfl rfl rfl ?hy5 ?_
  case hy5 => first | exact Yl.field0 (k := 0) 1 rfl rfl Tryd.underlying55 rfl (by kernel_rfl) rfl | exact Yl.field (k := 0) 1 rfl rfl Tryd.underlying55 rfl (by kernel_rfl) rfl
  refine' TL.y rfl rfl rfl ?hy6 ?_
  case hy6 => first | exact Yl.load rfl rfl (by kernel_rfl) (Hp.oldB hb rfl (fun h => h)) | exact Yl.load rfl rfl (by kernel_rfl) (Hp.oldRow hg (by omega) rfl (fun h => h)) | exact Yl.load rfl rfl (by kernel_rfl) (Hp.cell mem0 rfl) | exact Yl.load rfl rfl (by kernel_rfl) (Hp.cell mem1 rfl) | exact Yl.load rfl rfl (by kernel_rfl) (Hp.cell mem2 rfl) | exact Yl.load rfl rfl (by kernel_rfl) (Hp.cell mem3 rfl) | exact Yl.load rfl rfl (by kernel_rfl) (Hp.cell mem4 rfl) | exact Yl.load rfl rfl (by kernel_rfl) (Hp.rowAt mem0 (by omega) rfl) | exact Yl.load rfl rfl (by kernel_rfl) (Hp.rowAt mem1 (by omega) rfl) | exact Yl.load rfl rfl (by kernel_rfl) (Hp.rowAt mem2 (by omega) rfl) | exact Yl.load rfl rfl (by kernel_rfl) (Hp.rowAt mem3 (by omega) rfl) | exact Yl.load rfl rfl (by kernel_rfl) (Hp.rowAt mem4 (by omega) rfl)
  refine' TL.y rfl rfl rfl ?hy7 ?_
  case hy7 => exact Yl.len rfl rfl Tryd.underlying53
  refine' TL.y rfl rfl rfl ?hy8 ?_
  case hy8 => exact Yl.move rfl rfl
  refine TL.nil ?_
  refine TE.next ?_
  refine TC.block ?_
  refine TC.loop (σ := Nat) (fun i => [(9, .slice (some ⟨g, 0, none⟩) ((n + 63) / 64) ((n + 63) / 64)), (10, .int .i64 (((n + 63) / 64 : Nat) : Int)), (11, .int .i64 (i : Int)), (3, .int .i64 (cntB f (64 * i) : Int))]) (fun i => Hp W (fun _ => False) []) (fun i => i ≤ (n + 63) / 64) (fun i => (n + 63) / 64 - i) 0 ?hF9 ?hs9 ?hm9 ?round9
  case hF9 => exact Nat.zero_le _
  case hs9 => exact ⟨rfl, rfl, rfl, rfl, trivial⟩
  case hm9 => exact fun _ h => h
  case round9 =>
    intro i h1
    refine TC.seq ?_
    refine TC.region ?_
    refine' TL.y rfl rfl rfl ?hy10 ?_
    case hy10 => exact Yl.bin rfl rfl rfl (Bin.lss _ _ _ _)
    refine TL.nil ?_
    refine TE.next ?_
    refine TC.seq ?_
    refine TC.cond rfl (fun hs12 => ?_) (fun hs12 => ?_)
    · skip
      (try simp only [decide_eq_true_eq, decide_eq_false_iff_not, beq_iff_eq, beq_eq_false_iff_ne, bne_iff_ne, ne_eq, bne_eq_false_iff_eq, Bool.not_eq_true', Bool.not_eq_false', Int.not_lt, Int.not_le, gt_iff_lt, ge_iff_le] at hs12)
      have hc := cntB_le f (64 * i)
      have hc2 := cntB_le (fun b => f (64 * i + b)) 64
      refine TC.skip ?_
      refine TE.next ?_
      refine TC.seq ?_
      refine TC.block ?_
      refine TC.seq ?_
      refine TC.region ?_
      refine' TL.y rfl rfl rfl ?hy11 ?_
      case hy11 => first | exact Yl.ixn rfl rfl rfl Tryd.underlying53 (by kernel_rfl) (by omega) | exact Yl.ixz rfl rfl rfl Tryd.underlying53 (by kernel_rfl) (by omega) (by omega) | exact Yl.ixcn rfl rfl rfl Tryd.underlying53 (by kernel_rfl) (by omega) | exact Yl.ixcz rfl rfl rfl Tryd.underlying53 (by kernel_rfl) (by omega) (by omega)
      refine' TL.y rfl rfl rfl ?hy12 ?_
      case hy12 => first | exact Yl.load rfl rfl (by kernel_rfl) (Hp.oldB hb rfl (fun h => h)) | exact Yl.load rfl rfl (by kernel_rfl) (Hp.oldRow hg (by omega) rfl (fun h => h)) | exact Yl.load rfl rfl (by kernel_rfl) (Hp.cell mem0 rfl) | exact Yl.load rfl rfl (by kernel_rfl) (Hp.cell mem1 rfl) | exact Yl.load rfl rfl (by kernel_rfl) (Hp.cell mem2 rfl) | exact Yl.load rfl rfl (by kernel_rfl) (Hp.cell mem3 rfl) | exact Yl.load rfl rfl (by kernel_rfl) (Hp.cell mem4 rfl) | exact Yl.load rfl rfl (by kernel_rfl) (Hp.rowAt mem0 (by omega) rfl) | exact Yl.load rfl rfl (by kernel_rfl) (Hp.rowAt mem1 (by omega) rfl) | exact Yl.load rfl rfl (by kernel_rfl) (Hp.rowAt mem2 (by omega) rfl) | exact Yl.load rfl rfl (by kernel_rfl) (Hp.rowAt mem3 (by omega) rfl) | exact Yl.load rfl rfl (by kernel_rfl) (Hp.rowAt mem4 (by omega) rfl)
      refine' TL.y rfl rfl rfl ?hy13 ?_
      case hy13 => exact Yl.assign rfl rfl
      refine TL.nil ?_
      refine TE.next ?_
      refine TC.region ?_
      refine' TL.y rfl rfl rfl ?hy14 ?_
      case hy14 => exact Yl.move rfl rfl
      refine' TL.y rfl rfl rfl ?hy15 ?_
      case hy15 => exact Yl.move rfl rfl
      refine' TL.c rfl rfl rfl ?hy16 ?_
      case hy16 => exact Yc.call rfl Tryd.func31 (by kernel_rfl) rfl rfl (Hp.gives (k_ones (wordN f i) (wordN_lt f i)))
      intro _
      rw [word_cnt]
      refine' TL.y rfl rfl rfl ?hy17 ?_
      case hy17 => exact Yl.val (Yl.bin rfl rfl rfl (Bin.add _ _ _ _)) (congrArg (Value.int .i64) (show IntKind.i64.wrap ((cntB f (64 * i) : Int) + (cntB (fun b => f (64 * i + b)) 64 : Int)) = (cntB f (64 * (i + 1)) : Int) from by rw [i64in (by omega) (by omega), show 64 * (i + 1) = 64 * i + 64 by omega, cntB_add]; omega))
      refine' TL.y rfl rfl rfl ?hy18 ?_
      case hy18 => exact Yl.assign rfl rfl
      refine TL.nil ?_
      refine TE.inNormal ?_
      refine TE.next ?_
      refine TC.region ?_
      refine' TL.y rfl rfl rfl ?hy19 ?_
      case hy19 => first | (refine Yl.val (Yl.bin rfl rfl rfl (Bin.add _ _ _ _)) (congrArg (Value.int .i64) (i64in ?_ ?_)) <;> omega) | exact Yl.bin rfl rfl rfl (Bin.add _ _ _ _)
      refine' TL.y rfl rfl rfl ?hy20 ?_
      case hy20 => exact Yl.move rfl rfl
      refine TL.nil ?_
      refine TE.round (i + 1) ?hF21 ?hlt21 ?hs21 ?hm21
      case hF21 => omega
      case hlt21 => omega
      case hs21 => exact ⟨rfl, rfl, rfl, rfl, trivial⟩
      case hm21 => exact fun _ h => h
    · skip
      (try simp only [decide_eq_true_eq, decide_eq_false_iff_not, beq_iff_eq, beq_eq_false_iff_ne, bne_iff_ne, ne_eq, bne_eq_false_iff_eq, Bool.not_eq_true', Bool.not_eq_false', Int.not_lt, Int.not_le, gt_iff_lt, ge_iff_le] at hs12)
      refine TC.exit ?_
      refine TE.thenExit ?_
      refine TE.thenExit ?_
      refine TE.inHere ?_
      refine TE.next ?_
      refine TC.seq ?_
      refine TC.region ?_
      refine' TL.y rfl rfl rfl ?hy22 ?_
      case hy22 => exact Yl.move rfl rfl
      refine' TL.y rfl rfl rfl ?hy23 ?_
      case hy23 => exact Yl.assign rfl rfl
      refine TL.nil ?_
      refine TE.next ?_
      refine TC.ret ?_
      refine TE.ret1 rfl rfl ?_
      obtain rfl : i = (n + 63) / 64 := by omega
      exact fun w h => ⟨by rw [← cntB_shut f n (64 * ((n + 63) / 64)) (by omega) hz], h.below⟩
set_option maxRecDepth 100000 in
set_option maxHeartbeats 2000000 in
theorem k_tz (W : World) (hT : TabOK W) (x t k : Nat) (hx : x = 2 ^ t * (2 * k + 1)) (hx1 : x < 2 ^ 64) (ht : t < 64) : Calls Tryd.prog 29 #[.int .u64 (x : Int)] W fun e w' => e = .returned (.int .i64 (t : Int)) ∧ Below W.heap.size W w' := by
  have hx0 : 0 < x := by rw [hx]; exact Nat.mul_pos (Nat.two_pow_pos t) (by omega)
  have hta : tabT.getD (2 ^ t * 285870213051353865 % 18446744073709551616 / 288230376151711744) 0 = t ∧ 2 ^ t * 285870213051353865 % 18446744073709551616 / 288230376151711744 < 64 := tab_all ⟨t, ht⟩
  have hM : Hp W (fun _ => False) [] W := Hp.start
  refine TC.enter (n := 14) Tryd.func29 rfl rfl rfl hM ?_
  refine TC.seq ?_
  refine TC.region ?_
  refine' TL.y rfl rfl rfl ?hy1 ?_
  case hy1 => exact Yl.assign rfl rfl
  refine TL.nil ?_
  refine TE.next ?_
  refine TC.seq ?_
  refine TC.seq ?_
  refine TC.region ?_
  refine' TL.y rfl rfl rfl ?hy2 ?_
  case hy2 => exact Yl.move rfl rfl
  refine' TL.y rfl rfl rfl ?hy3 ?_
  case hy3 => exact Yl.bin rfl rfl rfl (Bin.eql _ _ _ _)
  refine TL.nil ?_
  refine TE.next ?_
  refine TC.no rfl (by simp; omega) ?_
  refine TC.skip ?_
  refine TE.next ?_
  refine TC.seq ?_
  refine TC.region ?_
  refine' TL.y rfl rfl rfl ?hy4 ?_
  case hy4 => exact Yl.move rfl rfl
  refine' TL.y rfl rfl rfl ?hy5 ?_
  case hy5 => exact Yl.move rfl rfl
  refine' TL.y rfl rfl rfl ?hy6 ?_
  case hy6 => exact Yl.neg rfl rfl
  refine' TL.y rfl rfl rfl ?hy7 ?_
  case hy7 => exact Yl.val (Yl.bin rfl rfl rfl (Bin.and _ _ _ _)) (congrArg (Value.int .u64) (low_and x t k hx hx1))
  refine' TL.y rfl rfl rfl ?hy8 ?_
  case hy8 => exact Yl.val (Yl.bin rfl rfl rfl (Bin.mul _ _ _ _)) (congrArg (Value.int .u64) (show IntKind.u64.wrap (((2 ^ t : Nat) : Int) * 285870213051353865) = ((2 ^ t * 285870213051353865 % 18446744073709551616 : Nat) : Int) from by rw [u64mod]; omega))
  refine' TL.y rfl rfl rfl ?hy9 ?_
  case hy9 => exact Yl.val (Yl.bin rfl rfl rfl (Bin.shr _ _ _ _ _ (by omega))) (congrArg (Value.int .u64) (show ((2 ^ t * 285870213051353865 % 18446744073709551616 : Nat) : Int) / 2 ^ min (58 : Int).toNat IntKind.u64.bits = ((2 ^ t * 285870213051353865 % 18446744073709551616 / 288230376151711744 : Nat) : Int) from by rw [show (2 : Int) ^ min (58 : Int).toNat IntKind.u64.bits = 288230376151711744 from by decide]; omega))
  obtain ⟨q, hq⟩ : ∃ q, 2 ^ t * 285870213051353865 % 18446744073709551616 / 288230376151711744 = q := ⟨_, rfl⟩
  rw [hq] at hta ⊢
  refine' TL.y rfl rfl rfl ?hy10 ?_
  case hy10 => exact Yl.idxA (k := 1) (ad' := ⟨0, q, none⟩) rfl rfl rfl Tryd.underlying61 (by kernel_rfl) (by omega) (by omega) (by rw [Int.toNat_natCast, Nat.mul_one, Addr.at_0])
  refine' TL.y rfl rfl rfl ?hy11 ?_
  case hy11 => exact Yl.load rfl rfl (by kernel_rfl) (Hp.old (hT q (by omega)) (fun h => h))
  refine' TL.y rfl rfl rfl ?hy12 ?_
  case hy12 => first | (refine Yl.val (Yl.conv rfl rfl (by kernel_rfl) Tryd.underlying3) (congrArg (Value.int .i64) (i64in ?_ ?_)) <;> omega) | exact Yl.conv rfl rfl (by kernel_rfl) Tryd.underlying3
  refine' TL.y rfl rfl rfl ?hy13 ?_
  case hy13 => exact Yl.assign rfl rfl
  refine TL.nil ?_
  refine TE.next ?_
  refine TC.ret ?_
  refine TE.ret1 rfl rfl ?_
  exact fun w h => ⟨by rw [← hta.1], h.below⟩
set_option maxRecDepth 100000 in
set_option maxHeartbeats 2000000 in
theorem k_next (W : World) {b g n : Nat} {f : Nat → Bool} (hR : (mapR b g n f).holds W) (hT : TabOK W) (from_ : Int) (hf : from_ ≤ 9223372036854775807) (on : Bool) : Calls Tryd.prog 25 #[.pointer (some ⟨b, 0, none⟩), .int .i64 from_, .bool on] W fun e w' => e = .returned (.int .i64 (nextV f n from_ on)) ∧ Below W.heap.size W w' := by
  obtain ⟨⟨hb, hg, _⟩, hn, hz⟩ := hR
  have hM : Hp W (fun _ => False) [] W := Hp.start
  refine TC.enter (n := 64) Tryd.func25 rfl rfl rfl hM ?_
  refine TC.seq ?_
  refine TC.region ?_
  refine' TL.y rfl rfl rfl ?hy1 ?_
  case hy1 => exact Yl.assign rfl rfl
  refine TL.nil ?_
  refine TE.next ?_
  refine TC.seq ?_
  refine TC.region ?_
  refine' TL.y rfl rfl rfl ?hy2 ?_
  case hy2 => exact Yl.move rfl rfl
  refine' TL.y rfl rfl rfl ?hy3 ?_
  case hy3 => exact Yl.val (Yl.max rfl rfl rfl) (congrArg (Value.int .i64) (show (if (0 : Int) > from_ then 0 else from_) = max from_ 0 from by split <;> omega))
  obtain ⟨a, ha⟩ : ∃ a : Nat, max from_ 0 = (a : Int) := ⟨(max from_ 0).toNat, by omega⟩
  rw [ha]
  have ha2 : (max from_ 0).toNat = a := by omega
  refine' TL.y rfl rfl rfl ?hy4 ?_
  case hy4 => exact Yl.assign rfl rfl
  refine TL.nil ?_
  refine TE.next ?_
  refine TC.seq ?_
  refine TC.seq ?_
  refine TC.region ?_
  refine' TL.y rfl rfl rfl ?hy5 ?_
  case hy5 => exact Yl.move rfl rfl
  refine' TL.y rfl rfl rfl ?hy6 ?_
  case hy6 => exact Yl.nilCheck rfl rfl
  refine' TL.y rfl rfl rfl ?hy7 ?_
  case hy7 => first | exact Yl.field0 (k := 0) 1 rfl rfl Tryd.underlying55 rfl (by kernel_rfl) rfl | exact Yl.field (k := 0) 1 rfl rfl Tryd.underlying55 rfl (by kernel_rfl) rfl
  refine' TL.y rfl rfl rfl ?hy8 ?_
  case hy8 => first | exact Yl.load rfl rfl (by kernel_rfl) (Hp.oldB hb rfl (fun h => h)) | exact Yl.load rfl rfl (by kernel_rfl) (Hp.oldRow hg (by omega) rfl (fun h => h)) | exact Yl.load rfl rfl (by kernel_rfl) (Hp.cell mem0 rfl) | exact Yl.load rfl rfl (by kernel_rfl) (Hp.cell mem1 rfl) | exact Yl.load rfl rfl (by kernel_rfl) (Hp.cell mem2 rfl) | exact Yl.load rfl rfl (by kernel_rfl) (Hp.cell mem3 rfl) | exact Yl.load rfl rfl (by kernel_rfl) (Hp.cell mem4 rfl) | exact Yl.load rfl rfl (by kernel_rfl) (Hp.rowAt mem0 (by omega) rfl) | exact Yl.load rfl rfl (by kernel_rfl) (Hp.rowAt mem1 (by omega) rfl) | exact Yl.load rfl rfl (by kernel_rfl) (Hp.rowAt mem2 (by omega) rfl) | exact Yl.load rfl rfl (by kernel_rfl) (Hp.rowAt mem3 (by omega) rfl) | exact Yl.load rfl rfl (by kernel_rfl) (Hp.rowAt mem4 (by omega) rfl)
  refine' TL.y rfl rfl rfl ?hy9 ?_
  case hy9 => exact Yl.len rfl rfl Tryd.underlying53
  refine' TL.y rfl rfl rfl ?hy10 ?_
  case hy10 => exact Yl.move rfl rfl
  refine TL.nil ?_
  refine TE.next ?_
  refine TC.block ?_
  refine TC.loop (σ := Nat) (fun i => [(0, .pointer (some ⟨b, 0, none⟩)), (1, .int .i64 (a : Int)), (2, .bool on), (17, .int .i64 ((((n + 63) / 64) : Nat) : Int)), (18, .int .i64 (i : Int))]) (fun i => Hp W (fun _ => False) []) (fun i => i ≤ ((n + 63) / 64) ∧ ∀ p, a ≤ p → p < 64 * i → p < n → f p ≠ on) (fun i => ((n + 63) / 64) - i) 0 ?hF11 ?hs11 ?hm11 ?round11
  case hF11 => exact ⟨Nat.zero_le _, fun p h1 h2 => by omega⟩
  case hs11 => exact ⟨rfl, rfl, rfl, rfl, rfl, trivial⟩
  case hm11 => exact fun _ h => h
  case round11 =>
    rintro i ⟨h1, h2⟩
    refine TC.seq ?_
    refine TC.region ?_
    refine' TL.y rfl rfl rfl ?hy12 ?_
    case hy12 => exact Yl.bin rfl rfl rfl (Bin.lss _ _ _ _)
    refine TL.nil ?_
    refine TE.next ?_
    refine TC.seq ?_
    refine TC.cond rfl (fun hs19 => ?_) (fun hs19 => ?_)
    · skip
      (try simp only [decide_eq_true_eq, decide_eq_false_iff_not, beq_iff_eq, beq_eq_false_iff_ne, bne_iff_ne, ne_eq, bne_eq_false_iff_eq, Bool.not_eq_true', Bool.not_eq_false', Int.not_lt, Int.not_le, gt_iff_lt, ge_iff_le] at hs19)
      refine TC.skip ?_
      refine TE.next ?_
      refine TC.seq ?_
      refine TC.block ?_
      refine TC.seq ?_
      refine TC.region ?_
      refine' TL.y rfl rfl rfl ?hy13 ?_
      case hy13 => exact Yl.move rfl rfl
      refine' TL.y rfl rfl rfl ?hy14 ?_
      case hy14 => exact Yl.assign rfl rfl
      refine TL.nil ?_
      refine TE.next ?_
      refine TC.seq ?_
      refine TC.region ?_
      refine' TL.y rfl rfl rfl ?hy15 ?_
      case hy15 => exact Yl.move rfl rfl
      refine' TL.y rfl rfl rfl ?hy16 ?_
      case hy16 => exact Yl.nilCheck rfl rfl
      refine' TL.y rfl rfl rfl ?hy17 ?_
      case hy17 => first | exact Yl.field0 (k := 0) 1 rfl rfl Tryd.underlying55 rfl (by kernel_rfl) rfl | exact Yl.field (k := 0) 1 rfl rfl Tryd.underlying55 rfl (by kernel_rfl) rfl
      refine' TL.y rfl rfl rfl ?hy18 ?_
      case hy18 => first | exact Yl.load rfl rfl (by kernel_rfl) (Hp.oldB hb rfl (fun h => h)) | exact Yl.load rfl rfl (by kernel_rfl) (Hp.oldRow hg (by omega) rfl (fun h => h)) | exact Yl.load rfl rfl (by kernel_rfl) (Hp.cell mem0 rfl) | exact Yl.load rfl rfl (by kernel_rfl) (Hp.cell mem1 rfl) | exact Yl.load rfl rfl (by kernel_rfl) (Hp.cell mem2 rfl) | exact Yl.load rfl rfl (by kernel_rfl) (Hp.cell mem3 rfl) | exact Yl.load rfl rfl (by kernel_rfl) (Hp.cell mem4 rfl) | exact Yl.load rfl rfl (by kernel_rfl) (Hp.rowAt mem0 (by omega) rfl) | exact Yl.load rfl rfl (by kernel_rfl) (Hp.rowAt mem1 (by omega) rfl) | exact Yl.load rfl rfl (by kernel_rfl) (Hp.rowAt mem2 (by omega) rfl) | exact Yl.load rfl rfl (by kernel_rfl) (Hp.rowAt mem3 (by omega) rfl) | exact Yl.load rfl rfl (by kernel_rfl) (Hp.rowAt mem4 (by omega) rfl)
      refine' TL.y rfl rfl rfl ?hy19 ?_
      case hy19 => exact Yl.move rfl rfl
      refine' TL.y rfl rfl rfl ?hy20 ?_
      case hy20 => first | exact Yl.ixn rfl rfl rfl Tryd.underlying53 (by kernel_rfl) (by omega) | exact Yl.ixz rfl rfl rfl Tryd.underlying53 (by kernel_rfl) (by omega) (by omega) | exact Yl.ixcn rfl rfl rfl Tryd.underlying53 (by kernel_rfl) (by omega) | exact Yl.ixcz rfl rfl rfl Tryd.underlying53 (by kernel_rfl) (by omega) (by omega)
      refine' TL.y rfl rfl rfl ?hy21 ?_
      case hy21 => first | exact Yl.load rfl rfl (by kernel_rfl) (Hp.oldB hb rfl (fun h => h)) | exact Yl.load rfl rfl (by kernel_rfl) (Hp.oldRow hg (by omega) rfl (fun h => h)) | exact Yl.load rfl rfl (by kernel_rfl) (Hp.cell mem0 rfl) | exact Yl.load rfl rfl (by kernel_rfl) (Hp.cell mem1 rfl) | exact Yl.load rfl rfl (by kernel_rfl) (Hp.cell mem2 rfl) | exact Yl.load rfl rfl (by kernel_rfl) (Hp.cell mem3 rfl) | exact Yl.load rfl rfl (by kernel_rfl) (Hp.cell mem4 rfl) | exact Yl.load rfl rfl (by kernel_rfl) (Hp.rowAt mem0 (by omega) rfl) | exact Yl.load rfl rfl (by kernel_rfl) (Hp.rowAt mem1 (by omega) rfl) | exact Yl.load rfl rfl (by kernel_rfl) (Hp.rowAt mem2 (by omega) rfl) | exact Yl.load rfl rfl (by kernel_rfl) (Hp.rowAt mem3 (by omega) rfl) | exact Yl.load rfl rfl (by kernel_rfl) (Hp.rowAt mem4 (by omega) rfl)
      refine' TL.y rfl rfl rfl ?hy22 ?_
      case hy22 => exact Yl.assign rfl rfl
      refine TL.nil ?_
      refine TE.next ?_
      refine TC.meet (σ := Nat) (fun y => [(0, .pointer (some ⟨b, 0, none⟩)), (1, .int .i64 (a : Int)), (2, .bool on), (17, .int .i64 ((((n + 63) / 64) : Nat) : Int)), (18, .int .i64 (i : Int)), (7, .int .i64 (i : Int)), (8, .int .u64 (y : Int))]) (fun y => Hp W (fun _ => False) []) (fun y => y < 2 ^ 64 ∧ ∀ b, b < 64 → y.testBit b = (f (64 * i + b) == on)) ?hx23 ?hy23
      case hx23 =>
        refine TC.seq ?_
        refine TC.region ?_
        refine' TL.y rfl rfl rfl ?hy24 ?_
        case hy24 => exact Yl.move rfl rfl
        refine' TL.y rfl rfl rfl ?hy25 ?_
        case hy25 => exact Yl.not rfl rfl
        refine TL.nil ?_
        refine TE.next ?_
        refine TC.cond rfl (fun hs29 => ?_) (fun hs29 => ?_)
        · skip
          (try simp only [decide_eq_true_eq, decide_eq_false_iff_not, beq_iff_eq, beq_eq_false_iff_ne, bne_iff_ne, ne_eq, bne_eq_false_iff_eq, Bool.not_eq_true', Bool.not_eq_false', Int.not_lt, Int.not_le, gt_iff_lt, ge_iff_le] at hs29)
          obtain ⟨yc, hyc1, hyc2, hyc3⟩ := compl_bit (wordN f i) (wordN_lt f i)
          refine TC.region ?_
          refine' TL.y rfl rfl rfl ?hy26 ?_
          case hy26 => exact Yl.move rfl rfl
          refine' TL.y rfl rfl rfl ?hy27 ?_
          case hy27 => exact Yl.val (Yl.xor rfl rfl) (congrArg (Value.int .u64) (show Go.bits .xor .u64 (if IntKind.u64.signed then -1 else IntKind.u64.max) (wordN f i : Int) = (yc : Int) from hyc1))
          refine' TL.y rfl rfl rfl ?hy28 ?_
          case hy28 => exact Yl.assign rfl rfl
          refine TL.nil ?_
          refine TE.met yc ?hF29 ?hs29 ?hm29
          case hF29 => exact ⟨hyc2, fun b hb => by rw [hyc3 b hb, wordN_bit f i b hb]; cases f (64 * i + b) <;> cases on <;> simp_all⟩
          case hs29 => exact ⟨rfl, rfl, rfl, rfl, rfl, rfl, rfl, trivial⟩
          case hm29 => exact fun _ h => h
        · skip
          (try simp only [decide_eq_true_eq, decide_eq_false_iff_not, beq_iff_eq, beq_eq_false_iff_ne, bne_iff_ne, ne_eq, bne_eq_false_iff_eq, Bool.not_eq_true', Bool.not_eq_false', Int.not_lt, Int.not_le, gt_iff_lt, ge_iff_le] at hs29)
          refine TC.skip ?_
          refine TE.met (wordN f i) ?hF30 ?hs30 ?hm30
          case hF30 => exact ⟨wordN_lt f i, fun b hb => by rw [wordN_bit f i b hb]; cases f (64 * i + b) <;> cases on <;> simp_all⟩
          case hs30 => exact ⟨rfl, rfl, rfl, rfl, rfl, rfl, rfl, trivial⟩
          case hm30 => exact fun _ h => h
      case hy23 =>
        rintro y ⟨hy1, hy2⟩
        refine TC.meet (σ := Nat) (fun z => [(0, .pointer (some ⟨b, 0, none⟩)), (1, .int .i64 (a : Int)), (2, .bool on), (17, .int .i64 ((((n + 63) / 64) : Nat) : Int)), (18, .int .i64 (i : Int)), (7, .int .i64 (i : Int)), (8, .int .u64 (z : Int))]) (fun z => Hp W (fun _ => False) []) (fun z => z < 2 ^ 64 ∧ a < 64 * i + 64 ∧ ∀ b, b < 64 → z.testBit b = (decide (a ≤ 64 * i + b) && (f (64 * i + b) == on))) ?hx31 ?hy31
        case hx31 =>
          refine TC.seq ?_
          refine TC.region ?_
          refine' TL.y rfl rfl rfl ?hy32 ?_
          case hy32 => exact Yl.move rfl rfl
          refine' TL.y rfl rfl rfl ?hy33 ?_
          case hy33 => exact Yl.move rfl rfl
          refine' TL.y rfl rfl rfl ?hy34 ?_
          case hy34 => exact Yl.val (Yl.bin rfl rfl rfl (Bin.shl _ _ _ _ _ (by omega))) (congrArg (Value.int .i64) (show IntKind.i64.wrap ((i : Int) * 2 ^ min (6 : Int).toNat IntKind.i64.bits) = ((64 * i : Nat) : Int) from by rw [show (2 : Int) ^ min (6 : Int).toNat IntKind.i64.bits = 64 from by decide, i64in (by omega) (by omega)]; omega))
          refine' TL.y rfl rfl rfl ?hy35 ?_
          case hy35 => first | (refine Yl.val (Yl.bin rfl rfl rfl (Bin.sub _ _ _ _)) (congrArg (Value.int .i64) (i64in ?_ ?_)) <;> omega) | exact Yl.bin rfl rfl rfl (Bin.sub _ _ _ _)
          refine' TL.y rfl rfl rfl ?hy36 ?_
          case hy36 => exact Yl.assign rfl rfl
          refine TL.nil ?_
          refine TE.next ?_
          refine TC.block ?_
          refine TC.seq ?_
          refine TC.region ?_
          refine' TL.y rfl rfl rfl ?hy37 ?_
          case hy37 => exact Yl.move rfl rfl
          refine' TL.y rfl rfl rfl ?hy38 ?_
          case hy38 => exact Yl.bin rfl rfl rfl (Bin.geq _ _ _ _)
          refine' TL.y rfl rfl rfl ?hy39 ?_
          case hy39 => exact Yl.assign rfl rfl
          refine TL.nil ?_
          refine TE.next ?_
          refine TC.cond rfl (fun hs36 => ?_) (fun hs36 => ?_)
          · skip
            (try simp only [decide_eq_true_eq, decide_eq_false_iff_not, beq_iff_eq, beq_eq_false_iff_ne, bne_iff_ne, ne_eq, bne_eq_false_iff_eq, Bool.not_eq_true', Bool.not_eq_false', Int.not_lt, Int.not_le, gt_iff_lt, ge_iff_le] at hs36)
            have hnext : ∀ p, a ≤ p → p < 64 * (i + 1) → p < n → f p ≠ on := fun p h3 h4 h5 => h2 p h3 (by omega) h5
            refine TC.exit ?_
            refine TE.inOut (by rfl) ?_
            refine TE.thenExit ?_
            refine TE.inHere ?_
            refine TE.next ?_
            refine TC.region ?_
            refine' TL.y rfl rfl rfl ?hy40 ?_
            case hy40 => first | (refine Yl.val (Yl.bin rfl rfl rfl (Bin.add _ _ _ _)) (congrArg (Value.int .i64) (i64in ?_ ?_)) <;> omega) | exact Yl.bin rfl rfl rfl (Bin.add _ _ _ _)
            refine' TL.y rfl rfl rfl ?hy41 ?_
            case hy41 => exact Yl.move rfl rfl
            refine TL.nil ?_
            refine TE.round (i + 1) ?hF42 ?hlt42 ?hs42 ?hm42
            case hF42 => exact ⟨by omega, hnext⟩
            case hlt42 => omega
            case hs42 => exact ⟨rfl, rfl, rfl, rfl, rfl, trivial⟩
            case hm42 => exact fun _ h => h
          · skip
            (try simp only [decide_eq_true_eq, decide_eq_false_iff_not, beq_iff_eq, beq_eq_false_iff_ne, bne_iff_ne, ne_eq, bne_eq_false_iff_eq, Bool.not_eq_true', Bool.not_eq_false', Int.not_lt, Int.not_le, gt_iff_lt, ge_iff_le] at hs36)
            refine TC.seq ?_
            refine TC.region ?_
            refine' TL.y rfl rfl rfl ?hy43 ?_
            case hy43 => exact Yl.move rfl rfl
            refine' TL.y rfl rfl rfl ?hy44 ?_
            case hy44 => exact Yl.bin rfl rfl rfl (Bin.gtr _ _ _ _)
            refine' TL.y rfl rfl rfl ?hy45 ?_
            case hy45 => exact Yl.assign rfl rfl
            refine TL.nil ?_
            refine TE.next ?_
            refine TC.cond rfl (fun hs39 => ?_) (fun hs39 => ?_)
            · skip
              (try simp only [decide_eq_true_eq, decide_eq_false_iff_not, beq_iff_eq, beq_eq_false_iff_ne, bne_iff_ne, ne_eq, bne_eq_false_iff_eq, Bool.not_eq_true', Bool.not_eq_false', Int.not_lt, Int.not_le, gt_iff_lt, ge_iff_le] at hs39)
              refine TC.region ?_
              refine' TL.y rfl rfl rfl ?hy46 ?_
              case hy46 => exact Yl.move rfl rfl
              refine' TL.y rfl rfl rfl ?hy47 ?_
              case hy47 => exact Yl.move rfl rfl
              refine' TL.y rfl rfl rfl ?hy48 ?_
              case hy48 => first | (refine Yl.val (Yl.conv rfl rfl (by kernel_rfl) Tryd.underlying56) (congrArg (Value.int .u64) (u64in ?_ ?_)) <;> omega) | exact Yl.conv rfl rfl (by kernel_rfl) Tryd.underlying56
              refine' TL.y rfl rfl rfl ?hy49 ?_
              case hy49 => exact Yl.val (Yl.bin rfl rfl rfl (Bin.shr _ _ _ _ _ (by omega))) (congrArg (Value.int .u64) (show (y : Int) / 2 ^ min ((a : Int) - ((64 * i : Nat) : Int)).toNat IntKind.u64.bits = ((y / 2 ^ (a - 64 * i) : Nat) : Int) from by rw [show ((a : Int) - ((64 * i : Nat) : Int)).toNat = a - 64 * i by omega, show min (a - 64 * i) IntKind.u64.bits = a - 64 * i from by (have : IntKind.u64.bits = 64 := rfl); omega]; push_cast; rfl))
              refine' TL.y rfl rfl rfl ?hy50 ?_
              case hy50 => exact Yl.move rfl rfl
              refine' TL.y rfl rfl rfl ?hy51 ?_
              case hy51 => first | (refine Yl.val (Yl.conv rfl rfl (by kernel_rfl) Tryd.underlying56) (congrArg (Value.int .u64) (u64in ?_ ?_)) <;> omega) | exact Yl.conv rfl rfl (by kernel_rfl) Tryd.underlying56
              refine' TL.y rfl rfl rfl ?hy52 ?_
              case hy52 => exact Yl.val (Yl.bin rfl rfl rfl (Bin.shl _ _ _ _ _ (by omega))) (congrArg (Value.int .u64) (show IntKind.u64.wrap (((y / 2 ^ (a - 64 * i) : Nat) : Int) * 2 ^ min ((a : Int) - ((64 * i : Nat) : Int)).toNat IntKind.u64.bits) = ((y / 2 ^ (a - 64 * i) * 2 ^ (a - 64 * i) : Nat) : Int) from by rw [show ((a : Int) - ((64 * i : Nat) : Int)).toNat = a - 64 * i by omega, show min (a - 64 * i) IntKind.u64.bits = a - 64 * i from by (have : IntKind.u64.bits = 64 := rfl); omega, show ((y / 2 ^ (a - 64 * i) : Nat) : Int) * 2 ^ (a - 64 * i) = ((y / 2 ^ (a - 64 * i) * 2 ^ (a - 64 * i) : Nat) : Int) from by push_cast; rfl]; have := (clear_low y _ hy1 (show a - 64 * i < 64 by omega)).1; exact u64in (by omega) (by omega)))
              refine' TL.y rfl rfl rfl ?hy53 ?_
              case hy53 => exact Yl.assign rfl rfl
              refine TL.nil ?_
              refine TE.inNormal ?_
              refine TE.met (y / 2 ^ (a - 64 * i) * 2 ^ (a - 64 * i)) ?hF54 ?hs54 ?hm54
              case hF54 => exact ⟨(clear_low y _ hy1 (by omega)).1, by omega, fun b hb => by rw [(clear_low y _ hy1 (show a - 64 * i < 64 by omega)).2 b hb, hy2 b hb]; congr 1; exact decide_eq_decide.2 (by omega)⟩
              case hs54 => exact ⟨rfl, rfl, rfl, rfl, rfl, rfl, rfl, trivial⟩
              case hm54 => exact fun _ h => h
            · skip
              (try simp only [decide_eq_true_eq, decide_eq_false_iff_not, beq_iff_eq, beq_eq_false_iff_ne, bne_iff_ne, ne_eq, bne_eq_false_iff_eq, Bool.not_eq_true', Bool.not_eq_false', Int.not_lt, Int.not_le, gt_iff_lt, ge_iff_le] at hs39)
              refine TC.skip ?_
              refine TE.inNormal ?_
              refine TE.met y ?hF55 ?hs55 ?hm55
              case hF55 => exact ⟨hy1, by omega, fun b hb => by rw [hy2 b hb, decide_eq_true (by omega)]; rfl⟩
              case hs55 => exact ⟨rfl, rfl, rfl, rfl, rfl, rfl, rfl, trivial⟩
              case hm55 => exact fun _ h => h
        case hy31 =>
          rintro z ⟨hz1, hz2, hz3⟩
          refine TC.seq ?_
          refine TC.seq ?_
          refine TC.region ?_
          refine' TL.y rfl rfl rfl ?hy56 ?_
          case hy56 => exact Yl.move rfl rfl
          refine' TL.y rfl rfl rfl ?hy57 ?_
          case hy57 => exact Yl.bin rfl rfl rfl (Bin.eql _ _ _ _)
          refine TL.nil ?_
          refine TE.next ?_
          refine TC.cond rfl (fun hs50 => ?_) (fun hs50 => ?_)
          · skip
            (try simp only [decide_eq_true_eq, decide_eq_false_iff_not, beq_iff_eq, beq_eq_false_iff_ne, bne_iff_ne, ne_eq, bne_eq_false_iff_eq, Bool.not_eq_true', Bool.not_eq_false', Int.not_lt, Int.not_le, gt_iff_lt, ge_iff_le] at hs50)
            have hz0 : z = 0 := by omega
            have hnext : ∀ p, a ≤ p → p < 64 * (i + 1) → p < n → f p ≠ on := fun p h3 h4 h5 => by
              by_cases h6 : p < 64 * i
              · exact h2 p h3 h6 h5
              · have := hz3 (p - 64 * i) (by omega)
                rw [hz0, Nat.zero_testBit, show 64 * i + (p - 64 * i) = p by omega, decide_eq_true h3, Bool.true_and] at this
                exact beq_eq_false_iff_ne.1 this.symm
            refine TC.exit ?_
            refine TE.thenExit ?_
            refine TE.inHere ?_
            refine TE.next ?_
            refine TC.region ?_
            refine' TL.y rfl rfl rfl ?hy58 ?_
            case hy58 => first | (refine Yl.val (Yl.bin rfl rfl rfl (Bin.add _ _ _ _)) (congrArg (Value.int .i64) (i64in ?_ ?_)) <;> omega) | exact Yl.bin rfl rfl rfl (Bin.add _ _ _ _)
            refine' TL.y rfl rfl rfl ?hy59 ?_
            case hy59 => exact Yl.move rfl rfl
            refine TL.nil ?_
            refine TE.round (i + 1) ?hF60 ?hlt60 ?hs60 ?hm60
            case hF60 => exact ⟨by omega, hnext⟩
            case hlt60 => omega
            case hs60 => exact ⟨rfl, rfl, rfl, rfl, rfl, trivial⟩
            case hm60 => exact fun _ h => h
          · skip
            (try simp only [decide_eq_true_eq, decide_eq_false_iff_not, beq_iff_eq, beq_eq_false_iff_ne, bne_iff_ne, ne_eq, bne_eq_false_iff_eq, Bool.not_eq_true', Bool.not_eq_false', Int.not_lt, Int.not_le, gt_iff_lt, ge_iff_le] at hs50)
            obtain ⟨t, k, ht1, ht2, ht3, ht4⟩ := low_of 64 z (by omega) hz1
            rw [hz3 t ht2] at ht3
            have htf : a ≤ 64 * i + t ∧ f (64 * i + t) = on := by simpa using ht3
            have hbelow : ∀ p, a ≤ p → p < 64 * i + t → p < n → f p ≠ on := fun p h3 h4 h5 => by
              by_cases h6 : p < 64 * i
              · exact h2 p h3 h6 h5
              · have h7 := ht4 (p - 64 * i) (by omega)
                rw [hz3 (p - 64 * i) (by omega), show 64 * i + (p - 64 * i) = p by omega, decide_eq_true h3, Bool.true_and] at h7
                exact beq_eq_false_iff_ne.1 h7
            refine TC.skip ?_
            refine TE.next ?_
            refine TC.seq ?_
            refine TC.region ?_
            refine' TL.y rfl rfl rfl ?hy61 ?_
            case hy61 => exact Yl.move rfl rfl
            refine' TL.y rfl rfl rfl ?hy62 ?_
            case hy62 => exact Yl.val (Yl.bin rfl rfl rfl (Bin.shl _ _ _ _ _ (by omega))) (congrArg (Value.int .i64) (show IntKind.i64.wrap ((i : Int) * 2 ^ min (6 : Int).toNat IntKind.i64.bits) = ((64 * i : Nat) : Int) from by rw [show (2 : Int) ^ min (6 : Int).toNat IntKind.i64.bits = 64 from by decide, i64in (by omega) (by omega)]; omega))
            refine' TL.y rfl rfl rfl ?hy63 ?_
            case hy63 => exact Yl.move rfl rfl
            refine' TL.c rfl rfl rfl ?hy64 ?_
            case hy64 => exact Yc.call rfl Tryd.func29 (by kernel_rfl) rfl rfl (Hp.calls (fun w h => k_tz w (hT.below h.below) z t k ht1 hz1 ht2))
            intro _
            refine' TL.y rfl rfl rfl ?hy65 ?_
            case hy65 => exact Yl.val (Yl.bin rfl rfl rfl (Bin.add _ _ _ _)) (congrArg (Value.int .i64) (show IntKind.i64.wrap (((64 * i : Nat) : Int) + (t : Int)) = ((64 * i + t : Nat) : Int) from by rw [i64in (by omega) (by omega)]; omega))
            refine' TL.y rfl rfl rfl ?hy66 ?_
            case hy66 => exact Yl.assign rfl rfl
            refine TL.nil ?_
            refine TE.next ?_
            refine TC.seq ?_
            refine TC.region ?_
            refine' TL.y rfl rfl rfl ?hy67 ?_
            case hy67 => exact Yl.move rfl rfl
            refine' TL.y rfl rfl rfl ?hy68 ?_
            case hy68 => exact Yl.move rfl rfl
            refine' TL.y rfl rfl rfl ?hy69 ?_
            case hy69 => exact Yl.nilCheck rfl rfl
            refine' TL.y rfl rfl rfl ?hy70 ?_
            case hy70 => first | exact Yl.field0 (k := 0) 0 rfl rfl Tryd.underlying55 rfl (by kernel_rfl) rfl | exact Yl.field (k := 0) 0 rfl rfl Tryd.underlying55 rfl (by kernel_rfl) rfl
            refine' TL.y rfl rfl rfl ?hy71 ?_
            case hy71 => first | exact Yl.load rfl rfl (by kernel_rfl) (Hp.oldB hb rfl (fun h => h)) | exact Yl.load rfl rfl (by kernel_rfl) (Hp.oldRow hg (by omega) rfl (fun h => h)) | exact Yl.load rfl rfl (by kernel_rfl) (Hp.cell mem0 rfl) | exact Yl.load rfl rfl (by kernel_rfl) (Hp.cell mem1 rfl) | exact Yl.load rfl rfl (by kernel_rfl) (Hp.cell mem2 rfl) | exact Yl.load rfl rfl (by kernel_rfl) (Hp.cell mem3 rfl) | exact Yl.load rfl rfl (by kernel_rfl) (Hp.cell mem4 rfl) | exact Yl.load rfl rfl (by kernel_rfl) (Hp.rowAt mem0 (by omega) rfl) | exact Yl.load rfl rfl (by kernel_rfl) (Hp.rowAt mem1 (by omega) rfl) | exact Yl.load rfl rfl (by kernel_rfl) (Hp.rowAt mem2 (by omega) rfl) | exact Yl.load rfl rfl (by kernel_rfl) (Hp.rowAt mem3 (by omega) rfl) | exact Yl.load rfl rfl (by kernel_rfl) (Hp.rowAt mem4 (by omega) rfl)
            refine' TL.y rfl rfl rfl ?hy72 ?_
            case hy72 => exact Yl.bin rfl rfl rfl (Bin.lss _ _ _ _)
            refine TL.nil ?_
            refine TE.next ?_
            refine TC.cond rfl (fun hs61 => ?_) (fun hs61 => ?_)
            · skip
              (try simp only [decide_eq_true_eq, decide_eq_false_iff_not, beq_iff_eq, beq_eq_false_iff_ne, bne_iff_ne, ne_eq, bne_eq_false_iff_eq, Bool.not_eq_true', Bool.not_eq_false', Int.not_lt, Int.not_le, gt_iff_lt, ge_iff_le] at hs61)
              refine TC.seq ?_
              refine TC.region ?_
              refine' TL.y rfl rfl rfl ?hy73 ?_
              case hy73 => exact Yl.move rfl rfl
              refine' TL.y rfl rfl rfl ?hy74 ?_
              case hy74 => exact Yl.assign rfl rfl
              refine TL.nil ?_
              refine TE.next ?_
              refine TC.ret ?_
              refine TE.inRet ?_
              refine TE.thenRet ?_
              refine TE.thenRet ?_
              refine TE.inRet ?_
              refine TE.thenRet ?_
              refine TE.ret1 rfl rfl ?_
              exact fun w h => ⟨by rw [nextV_found (f := f) (n := n) (from_ := from_) (on := on) (64 * i + t) (by omega) (by omega) htf.2 (fun p h3 h4 => hbelow p (by omega) h4 (by omega))], h.below⟩
            · skip
              (try simp only [decide_eq_true_eq, decide_eq_false_iff_not, beq_iff_eq, beq_eq_false_iff_ne, bne_iff_ne, ne_eq, bne_eq_false_iff_eq, Bool.not_eq_true', Bool.not_eq_false', Int.not_lt, Int.not_le, gt_iff_lt, ge_iff_le] at hs61)
              have hnext : ∀ p, a ≤ p → p < 64 * (i + 1) → p < n → f p ≠ on := fun p h3 h4 h5 => hbelow p h3 (by omega) h5
              refine TC.skip ?_
              refine TE.inNormal ?_
              refine TE.next ?_
              refine TC.region ?_
              refine' TL.y rfl rfl rfl ?hy75 ?_
              case hy75 => first | (refine Yl.val (Yl.bin rfl rfl rfl (Bin.add _ _ _ _)) (congrArg (Value.int .i64) (i64in ?_ ?_)) <;> omega) | exact Yl.bin rfl rfl rfl (Bin.add _ _ _ _)
              refine' TL.y rfl rfl rfl ?hy76 ?_
              case hy76 => exact Yl.move rfl rfl
              refine TL.nil ?_
              refine TE.round (i + 1) ?hF77 ?hlt77 ?hs77 ?hm77
              case hF77 => exact ⟨by omega, hnext⟩
              case hlt77 => omega
              case hs77 => exact ⟨rfl, rfl, rfl, rfl, rfl, trivial⟩
              case hm77 => exact fun _ h => h
    · skip
      (try simp only [decide_eq_true_eq, decide_eq_false_iff_not, beq_iff_eq, beq_eq_false_iff_ne, bne_iff_ne, ne_eq, bne_eq_false_iff_eq, Bool.not_eq_true', Bool.not_eq_false', Int.not_lt, Int.not_le, gt_iff_lt, ge_iff_le] at hs19)
      refine TC.exit ?_
      refine TE.thenExit ?_
      refine TE.thenExit ?_
      refine TE.inHere ?_
      refine TE.next ?_
      refine TC.seq ?_
      refine TC.region ?_
      refine' TL.y rfl rfl rfl ?hy78 ?_
      case hy78 => exact Yl.assign rfl rfl
      refine TL.nil ?_
      refine TE.next ?_
      refine TC.ret ?_
      refine TE.ret1 rfl rfl ?_
      obtain rfl : i = ((n + 63) / 64) := by omega
      exact fun w h => ⟨by rw [nextV_none (fun p h3 h4 => h2 p (by omega) (by omega) h4)], h.below⟩
end Go.Proofs.YtafcmeoidcgmdaaDoor.Pk
