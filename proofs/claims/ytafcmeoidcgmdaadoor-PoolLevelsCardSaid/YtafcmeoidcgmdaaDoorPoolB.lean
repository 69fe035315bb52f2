/- Contracts of the document's pool. -/
import Derived.Test.YtafcmeoidcgmdaaDoorPoolA
import Derived.Test.YtafcmeoidcgmdaaDoorProg
import Derived.RowKit3
namespace Go.Proofs.YtafcmeoidcgmdaaDoor.Pk
open Go Go.RowKit Go.Proofs.YtafcmeoidcgmdaaDoor.HL Go.Proofs.YtafcmeoidcgmdaaDoor.Ev Go.Proofs.YtafcmeoidcgmdaaDoorW.PrintWords Go.Proofs.YtafcmeoidcgmdaaDoor.BM
set_option linter.unusedVariables false
set_option linter.unusedSimpArgs false
attribute [local irreducible] rowA mapR poolR
def rpO (c n : Nat) : Obj := .cells #[.slice (some ⟨c, 0, none⟩) n n] 37 (0, 0)
/-- The document's pool. -/
def rpoolR (p c n : Nat) (f : Nat → Bool) : Res := pureR (n ≤ 65536) (star (blk p (rpO c n)) (rowR c n f))
section
variable {W0 w : World} {T : Nat → Prop} {H : List Res} {p c n : Nat} {f : Nat → Bool}
theorem rpoolR_shut (hn : n ≤ 65536) (h : Hp W0 T (blk p (rpO c n) :: rowR c n f :: H) w) : Hp W0 T (rpoolR p c n f :: H) w := (h.tostar).topure hn
theorem rpoolR_enter (h : (rpoolR p c n f).holds w) : n ≤ 65536 ∧ Hp w (rpoolR p c n f).foot [blk p (rpO c n), rowR c n f] w := by
  obtain ⟨h1, h2⟩ := (Hp.enter h).unpure
  exact ⟨h1, h2.unstar⟩
end
theorem rset {n i : Nat} {f : Nat → Bool} {v : Bool} : rowA n (upV (fun j => Value.bool (f j)) i (.bool v)) = rowA n (fun q => .bool (setB f i v q)) := rowA_congr (fun q hq => by unfold upV setB; split <;> rfl)
attribute [local irreducible] rpoolR
set_option maxRecDepth 100000 in
set_option maxHeartbeats 2000000 in
theorem k_rpnew (n : Int) : Makes Tryd.prog 11 #[.int .i64 n] (fun s : Nat × Nat => .pointer (some ⟨s.1, 0, none⟩)) (fun s => rpoolR s.1 s.2 (newN (min n 1024)) (fun _ => false)) := by
  intro W
  have hM : Hp W (fun _ => False) [] W := Hp.start
  refine TC.enter (n := 9) Tryd.func11 rfl rfl rfl hM ?_
  refine TC.seq ?_
  refine TC.region ?_
  refine' TL.y rfl rfl rfl ?hy1 ?_
  case hy1 => exact Yl.assign rfl rfl
  refine TL.nil ?_
  refine TE.next ?_
  refine TC.seq ?_
  refine TC.region ?_
  refine' TL.y rfl rfl rfl ?hy2 ?_
  case hy2 => exact Yl.move rfl rfl
  refine' TL.y rfl rfl rfl ?hy3 ?_
  case hy3 => exact Yl.val (Yl.max rfl rfl rfl) (congrArg (Value.int .i64) (show (if (0 : Int) > n then 0 else n) = max n 0 from by split <;> omega))
  refine' TL.y rfl rfl rfl ?hy4 ?_
  case hy4 => exact Yl.val (Yl.min rfl rfl rfl) (congrArg (Value.int .i64) (show (if (1024 : Int) < max n 0 then 1024 else max n 0) = (newN (min n 1024) : Int) from by unfold newN; split <;> omega))
  have hN := newN_le (min n 1024)
  refine' TL.mx rfl rfl rfl ?hy5 ?_
  case hy5 => exact Ym.makeRow (z := .bool false) (by_ := 1) rfl rfl rfl Tryd.underlying35 (by kernel_rfl) rfl (by omega) (by omega) (by omega)
  intro b6
  simp only [Int.toNat_natCast]
  refine' TL.y rfl rfl rfl ?hy6 ?_
  case hy6 => exact Yl.build (z := .agg #[.slice none 0 0]) [(0, 1)] rfl (by kernel_rfl) Tryd.underlying37 (by kernel_rfl) rfl rfl
  refine' TL.mx rfl rfl rfl ?hy7 ?_
  case hy7 => exact Ym.box rfl rfl
  intro b8
  refine' TL.y rfl rfl rfl ?hy8 ?_
  case hy8 => exact Yl.assign rfl rfl
  refine TL.nil ?_
  refine TE.next ?_
  refine TC.ret ?_
  refine TE.ret1 rfl rfl ?_
  exact fun w h => ⟨(b8, b6), rfl, (rpoolR_shut (f := fun _ => false) hN h).leaveNew⟩
set_option maxRecDepth 100000 in
set_option maxHeartbeats 2000000 in
theorem k_rfree (W : World) {p c n : Nat} {f : Nat → Bool} (hR : (rpoolR p c n f).holds W) : Calls Tryd.prog 19 #[.pointer (some ⟨p, 0, none⟩)] W fun e w' => e = .returned (.int .i64 ((n : Int) - cntB f n)) ∧ Below W.heap.size W w' := by
  unfold rpoolR at hR
  obtain ⟨⟨hp, hg, _⟩, hn⟩ := hR
  have hg : W.heap[c]? = some (.cells (rowA n (fun j => .bool (f j))) 4 (0, 0)) := hg
  have hM : Hp W (fun _ => False) [] W := Hp.start
  refine TC.enter (n := 25) Tryd.func19 rfl rfl rfl hM ?_
  refine TC.seq ?_
  refine TC.region ?_
  refine' TL.y rfl rfl rfl ?hy1 ?_
  case hy1 => exact Yl.assign rfl rfl
  refine TL.nil ?_
  refine TE.next ?_
  refine TC.seq ?_
  refine TC.region ?_
  refine' TL.y rfl rfl rfl ?hy2 ?_
  case hy2 => exact Yl.assign rfl rfl
  refine TL.nil ?_
  refine TE.next ?_
  refine TC.seq ?_
  refine TC.seq ?_
  refine TC.region ?_
  refine' TL.y rfl rfl rfl ?hy3 ?_
  case hy3 => exact Yl.assign rfl rfl
  refine TL.nil ?_
  refine TE.next ?_
  refine TC.block ?_
  refine TC.loop (σ := Nat) (fun i => [(0, .pointer (some ⟨p, 0, none⟩)), (3, .int .i64 ((i : Int) - cntB f i)), (4, .int .i64 (i : Int))]) (fun i => Hp W (fun _ => False) []) (fun i => i ≤ n) (fun i => n - i) 0 ?hF4 ?hs4 ?hm4 ?round4
  case hF4 => exact Nat.zero_le _
  case hs4 => exact ⟨rfl, rfl, rfl, trivial⟩
  case hm4 => exact fun _ h => h
  case round4 =>
    intro i h1
    refine TC.seq ?_
    refine TC.seq ?_
    refine TC.region ?_
    refine' TL.y rfl rfl rfl ?hy5 ?_
    case hy5 => exact Yl.move rfl rfl
    refine' TL.y rfl rfl rfl ?hy6 ?_
    case hy6 => exact Yl.move rfl rfl
    refine' TL.y rfl rfl rfl ?hy7 ?_
    case hy7 => exact Yl.nilCheck rfl rfl
    refine' TL.y rfl rfl rfl ?hy8 ?_
    case hy8 => first | exact Yl.field0 (k := 0) 0 rfl rfl Tryd.underlying37 rfl (by kernel_rfl) rfl | exact Yl.field (k := 0) 0 rfl rfl Tryd.underlying37 rfl (by kernel_rfl) rfl
    refine' TL.y rfl rfl rfl ?hy9 ?_
    case hy9 => first | exact Yl.load rfl rfl (by kernel_rfl) (Hp.oldB hp rfl (fun h => h)) | exact Yl.load rfl rfl (by kernel_rfl) (Hp.oldRow hg (by omega) rfl (fun h => h)) | exact Yl.load rfl rfl (by kernel_rfl) (Hp.cell mem0 rfl) | exact Yl.load rfl rfl (by kernel_rfl) (Hp.cell mem1 rfl) | exact Yl.load rfl rfl (by kernel_rfl) (Hp.cell mem2 rfl) | exact Yl.load rfl rfl (by kernel_rfl) (Hp.cell mem3 rfl) | exact Yl.load rfl rfl (by kernel_rfl) (Hp.cell mem4 rfl) | exact Yl.load rfl rfl (by kernel_rfl) (Hp.rowAt mem0 (by omega) rfl) | exact Yl.load rfl rfl (by kernel_rfl) (Hp.rowAt mem1 (by omega) rfl) | exact Yl.load rfl rfl (by kernel_rfl) (Hp.rowAt mem2 (by omega) rfl) | exact Yl.load rfl rfl (by kernel_rfl) (Hp.rowAt mem3 (by omega) rfl) | exact Yl.load rfl rfl (by kernel_rfl) (Hp.rowAt mem4 (by omega) rfl)
    refine' TL.y rfl rfl rfl ?hy10 ?_
    case hy10 => exact Yl.len rfl rfl Tryd.underlying35
    refine' TL.y rfl rfl rfl ?hy11 ?_
    case hy11 => exact Yl.bin rfl rfl rfl (Bin.lss _ _ _ _)
    refine TL.nil ?_
    refine TE.next ?_
    refine TC.cond rfl (fun hs11 => ?_) (fun hs11 => ?_)
    · skip
      (try simp only [decide_eq_true_eq, decide_eq_false_iff_not, beq_iff_eq, beq_eq_false_iff_ne, bne_iff_ne, ne_eq, bne_eq_false_iff_eq, Bool.not_eq_true', Bool.not_eq_false', Int.not_lt, Int.not_le, gt_iff_lt, ge_iff_le] at hs11)
      have hc := cntB_le f i
      refine TC.skip ?_
      refine TE.next ?_
      refine TC.seq ?_
      refine TC.block ?_
      refine TC.seq ?_
      refine TC.region ?_
      refine' TL.y rfl rfl rfl ?hy12 ?_
      case hy12 => exact Yl.move rfl rfl
      refine' TL.y rfl rfl rfl ?hy13 ?_
      case hy13 => exact Yl.nilCheck rfl rfl
      refine' TL.y rfl rfl rfl ?hy14 ?_
      case hy14 => first | exact Yl.field0 (k := 0) 0 rfl rfl Tryd.underlying37 rfl (by kernel_rfl) rfl | exact Yl.field (k := 0) 0 rfl rfl Tryd.underlying37 rfl (by kernel_rfl) rfl
      refine' TL.y rfl rfl rfl ?hy15 ?_
      case hy15 => first | exact Yl.load rfl rfl (by kernel_rfl) (Hp.oldB hp rfl (fun h => h)) | exact Yl.load rfl rfl (by kernel_rfl) (Hp.oldRow hg (by omega) rfl (fun h => h)) | exact Yl.load rfl rfl (by kernel_rfl) (Hp.cell mem0 rfl) | exact Yl.load rfl rfl (by kernel_rfl) (Hp.cell mem1 rfl) | exact Yl.load rfl rfl (by kernel_rfl) (Hp.cell mem2 rfl) | exact Yl.load rfl rfl (by kernel_rfl) (Hp.cell mem3 rfl) | exact Yl.load rfl rfl (by kernel_rfl) (Hp.cell mem4 rfl) | exact Yl.load rfl rfl (by kernel_rfl) (Hp.rowAt mem0 (by omega) rfl) | exact Yl.load rfl rfl (by kernel_rfl) (Hp.rowAt mem1 (by omega) rfl) | exact Yl.load rfl rfl (by kernel_rfl) (Hp.rowAt mem2 (by omega) rfl) | exact Yl.load rfl rfl (by kernel_rfl) (Hp.rowAt mem3 (by omega) rfl) | exact Yl.load rfl rfl (by kernel_rfl) (Hp.rowAt mem4 (by omega) rfl)
      refine' TL.y rfl rfl rfl ?hy16 ?_
      case hy16 => exact Yl.move rfl rfl
      refine' TL.y rfl rfl rfl ?hy17 ?_
      case hy17 => first | exact Yl.ixn rfl rfl rfl Tryd.underlying35 (by kernel_rfl) (by omega) | exact Yl.ixz rfl rfl rfl Tryd.underlying35 (by kernel_rfl) (by omega) (by omega) | exact Yl.ixcn rfl rfl rfl Tryd.underlying35 (by kernel_rfl) (by omega) | exact Yl.ixcz rfl rfl rfl Tryd.underlying35 (by kernel_rfl) (by omega) (by omega)
      refine' TL.y rfl rfl rfl ?hy18 ?_
      case hy18 => first | exact Yl.load rfl rfl (by kernel_rfl) (Hp.oldB hp rfl (fun h => h)) | exact Yl.load rfl rfl (by kernel_rfl) (Hp.oldRow hg (by omega) rfl (fun h => h)) | exact Yl.load rfl rfl (by kernel_rfl) (Hp.cell mem0 rfl) | exact Yl.load rfl rfl (by kernel_rfl) (Hp.cell mem1 rfl) | exact Yl.load rfl rfl (by kernel_rfl) (Hp.cell mem2 rfl) | exact Yl.load rfl rfl (by kernel_rfl) (Hp.cell mem3 rfl) | exact Yl.load rfl rfl (by kernel_rfl) (Hp.cell mem4 rfl) | exact Yl.load rfl rfl (by kernel_rfl) (Hp.rowAt mem0 (by omega) rfl) | exact Yl.load rfl rfl (by kernel_rfl) (Hp.rowAt mem1 (by omega) rfl) | exact Yl.load rfl rfl (by kernel_rfl) (Hp.rowAt mem2 (by omega) rfl) | exact Yl.load rfl rfl (by kernel_rfl) (Hp.rowAt mem3 (by omega) rfl) | exact Yl.load rfl rfl (by kernel_rfl) (Hp.rowAt mem4 (by omega) rfl)
      refine' TL.y rfl rfl rfl ?hy19 ?_
      case hy19 => exact Yl.not rfl rfl
      refine TL.nil ?_
      refine TE.next ?_
      refine TC.cond rfl (fun hs21 => ?_) (fun hs21 => ?_)
      · skip
        (try simp only [decide_eq_true_eq, decide_eq_false_iff_not, beq_iff_eq, beq_eq_false_iff_ne, bne_iff_ne, ne_eq, bne_eq_false_iff_eq, Bool.not_eq_true', Bool.not_eq_false', Int.not_lt, Int.not_le, gt_iff_lt, ge_iff_le] at hs21)
        refine TC.region ?_
        refine' TL.y rfl rfl rfl ?hy20 ?_
        case hy20 => exact Yl.move rfl rfl
        refine' TL.y rfl rfl rfl ?hy21 ?_
        case hy21 => first | (refine Yl.val (Yl.bin rfl rfl rfl (Bin.add _ _ _ _)) (congrArg (Value.int .i64) (i64in ?_ ?_)) <;> omega) | exact Yl.bin rfl rfl rfl (Bin.add _ _ _ _)
        refine' TL.y rfl rfl rfl ?hy22 ?_
        case hy22 => exact Yl.assign rfl rfl
        refine TL.nil ?_
        refine TE.inNormal ?_
        refine TE.next ?_
        refine TC.region ?_
        refine' TL.y rfl rfl rfl ?hy23 ?_
        case hy23 => exact Yl.move rfl rfl
        refine' TL.y rfl rfl rfl ?hy24 ?_
        case hy24 => first | (refine Yl.val (Yl.bin rfl rfl rfl (Bin.add _ _ _ _)) (congrArg (Value.int .i64) (i64in ?_ ?_)) <;> omega) | exact Yl.bin rfl rfl rfl (Bin.add _ _ _ _)
        refine' TL.y rfl rfl rfl ?hy25 ?_
        case hy25 => exact Yl.assign rfl rfl
        refine TL.nil ?_
        refine TE.round (i + 1) ?hF26 ?hlt26 ?hs26 ?hm26
        case hF26 => omega
        case hlt26 => omega
        case hs26 => exact ⟨rfl, (by show some (Value.int .i64 ((i : Int) - cntB f i + 1)) = _; rw [show ((i : Int) - cntB f i + 1 : Int) = ((i + 1 : Nat) : Int) - cntB f (i + 1) from by rw [cntB_succ, if_neg (by rw [hs21]; decide)]; omega]), (by show some (Value.int .i64 ((i : Int) + 1)) = _; rfl), trivial⟩
        case hm26 => exact fun _ h => h
      · skip
        (try simp only [decide_eq_true_eq, decide_eq_false_iff_not, beq_iff_eq, beq_eq_false_iff_ne, bne_iff_ne, ne_eq, bne_eq_false_iff_eq, Bool.not_eq_true', Bool.not_eq_false', Int.not_lt, Int.not_le, gt_iff_lt, ge_iff_le] at hs21)
        refine TC.skip ?_
        refine TE.inNormal ?_
        refine TE.next ?_
        refine TC.region ?_
        refine' TL.y rfl rfl rfl ?hy27 ?_
        case hy27 => exact Yl.move rfl rfl
        refine' TL.y rfl rfl rfl ?hy28 ?_
        case hy28 => first | (refine Yl.val (Yl.bin rfl rfl rfl (Bin.add _ _ _ _)) (congrArg (Value.int .i64) (i64in ?_ ?_)) <;> omega) | exact Yl.bin rfl rfl rfl (Bin.add _ _ _ _)
        refine' TL.y rfl rfl rfl ?hy29 ?_
        case hy29 => exact Yl.assign rfl rfl
        refine TL.nil ?_
        refine TE.round (i + 1) ?hF30 ?hlt30 ?hs30 ?hm30
        case hF30 => omega
        case hlt30 => omega
        case hs30 => exact ⟨rfl, (by show some (Value.int .i64 ((i : Int) - cntB f i)) = _; rw [show ((i : Int) - cntB f i : Int) = ((i + 1 : Nat) : Int) - cntB f (i + 1) from by rw [cntB_succ, if_pos (by simpa using hs21)]; omega]), (by show some (Value.int .i64 ((i : Int) + 1)) = _; rfl), trivial⟩
        case hm30 => exact fun _ h => h
    · skip
      (try simp only [decide_eq_true_eq, decide_eq_false_iff_not, beq_iff_eq, beq_eq_false_iff_ne, bne_iff_ne, ne_eq, bne_eq_false_iff_eq, Bool.not_eq_true', Bool.not_eq_false', Int.not_lt, Int.not_le, gt_iff_lt, ge_iff_le] at hs11)
      refine TC.exit ?_
      refine TE.thenExit ?_
      refine TE.thenExit ?_
      refine TE.inHere ?_
      refine TE.next ?_
      refine TC.seq ?_
      refine TC.region ?_
      refine' TL.y rfl rfl rfl ?hy31 ?_
      case hy31 => exact Yl.move rfl rfl
      refine' TL.y rfl rfl rfl ?hy32 ?_
      case hy32 => exact Yl.assign rfl rfl
      refine TL.nil ?_
      refine TE.next ?_
      refine TC.ret ?_
      refine TE.ret1 rfl rfl ?_
      obtain rfl : i = n := by omega
      exact fun w h => ⟨rfl, h.below⟩
set_option maxRecDepth 100000 in
set_option maxHeartbeats 2000000 in
theorem k_rlevel (W : World) {p c n : Nat} {f : Nat → Bool} (hR : (rpoolR p c n f).holds W) (low high : Int) : Calls Tryd.prog 22 #[.pointer (some ⟨p, 0, none⟩), .int .i64 low, .int .i64 high] W fun e w' => e = .returned (.int .i64 (levelV ((n : Int) - cntB f n) low high)) ∧ Below W.heap.size W w' := by
  have hM : Hp W (fun _ => False) [] W := Hp.start
  refine TC.enter (n := 16) Tryd.func22 rfl rfl rfl hM ?_
  refine TC.seq ?_
  refine TC.region ?_
  refine' TL.y rfl rfl rfl ?hy1 ?_
  case hy1 => exact Yl.assign rfl rfl
  refine TL.nil ?_
  refine TE.next ?_
  refine TC.seq ?_
  refine TC.region ?_
  refine' TL.y rfl rfl rfl ?hy2 ?_
  case hy2 => exact Yl.move rfl rfl
  refine' TL.c rfl rfl rfl ?hy3 ?_
  case hy3 => exact Yc.call rfl Tryd.func19 (by kernel_rfl) rfl rfl (Hp.calls (fun w h => k_rfree w (Res.below' hR h.below)))
  intro _
  refine' TL.y rfl rfl rfl ?hy4 ?_
  case hy4 => exact Yl.assign rfl rfl
  refine TL.nil ?_
  refine TE.next ?_
  refine TC.seq ?_
  refine TC.seq ?_
  refine TC.region ?_
  refine' TL.y rfl rfl rfl ?hy5 ?_
  case hy5 => exact Yl.move rfl rfl
  refine' TL.y rfl rfl rfl ?hy6 ?_
  case hy6 => exact Yl.move rfl rfl
  refine' TL.y rfl rfl rfl ?hy7 ?_
  case hy7 => exact Yl.bin rfl rfl rfl (Bin.lss _ _ _ _)
  refine TL.nil ?_
  refine TE.next ?_
  refine TC.cond rfl (fun hs12 => ?_) (fun hs12 => ?_)
  · skip
    (try simp only [decide_eq_true_eq, decide_eq_false_iff_not, beq_iff_eq, beq_eq_false_iff_ne, bne_iff_ne, ne_eq, bne_eq_false_iff_eq, Bool.not_eq_true', Bool.not_eq_false', Int.not_lt, Int.not_le, gt_iff_lt, ge_iff_le] at hs12)
    refine TC.seq ?_
    refine TC.region ?_
    refine' TL.y rfl rfl rfl ?hy8 ?_
    case hy8 => exact Yl.assign rfl rfl
    refine TL.nil ?_
    refine TE.next ?_
    refine TC.ret ?_
    refine TE.thenRet ?_
    refine TE.ret1 rfl rfl ?_
    exact fun w h => ⟨by unfold levelV; rw [if_pos (by omega)], h.below⟩
  · skip
    (try simp only [decide_eq_true_eq, decide_eq_false_iff_not, beq_iff_eq, beq_eq_false_iff_ne, bne_iff_ne, ne_eq, bne_eq_false_iff_eq, Bool.not_eq_true', Bool.not_eq_false', Int.not_lt, Int.not_le, gt_iff_lt, ge_iff_le] at hs12)
    refine TC.skip ?_
    refine TE.next ?_
    refine TC.seq ?_
    refine TC.seq ?_
    refine TC.region ?_
    refine' TL.y rfl rfl rfl ?hy9 ?_
    case hy9 => exact Yl.move rfl rfl
    refine' TL.y rfl rfl rfl ?hy10 ?_
    case hy10 => exact Yl.move rfl rfl
    refine' TL.y rfl rfl rfl ?hy11 ?_
    case hy11 => exact Yl.bin rfl rfl rfl (Bin.lss _ _ _ _)
    refine TL.nil ?_
    refine TE.next ?_
    refine TC.cond rfl (fun hs15 => ?_) (fun hs15 => ?_)
    · skip
      (try simp only [decide_eq_true_eq, decide_eq_false_iff_not, beq_iff_eq, beq_eq_false_iff_ne, bne_iff_ne, ne_eq, bne_eq_false_iff_eq, Bool.not_eq_true', Bool.not_eq_false', Int.not_lt, Int.not_le, gt_iff_lt, ge_iff_le] at hs15)
      refine TC.seq ?_
      refine TC.region ?_
      refine' TL.y rfl rfl rfl ?hy12 ?_
      case hy12 => exact Yl.assign rfl rfl
      refine TL.nil ?_
      refine TE.next ?_
      refine TC.ret ?_
      refine TE.thenRet ?_
      refine TE.ret1 rfl rfl ?_
      exact fun w h => ⟨by unfold levelV; rw [if_neg (by omega), if_pos (by omega)], h.below⟩
    · skip
      (try simp only [decide_eq_true_eq, decide_eq_false_iff_not, beq_iff_eq, beq_eq_false_iff_ne, bne_iff_ne, ne_eq, bne_eq_false_iff_eq, Bool.not_eq_true', Bool.not_eq_false', Int.not_lt, Int.not_le, gt_iff_lt, ge_iff_le] at hs15)
      refine TC.skip ?_
      refine TE.next ?_
      refine TC.seq ?_
      refine TC.region ?_
      refine' TL.y rfl rfl rfl ?hy13 ?_
      case hy13 => exact Yl.assign rfl rfl
      refine TL.nil ?_
      refine TE.next ?_
      refine TC.ret ?_
      refine TE.ret1 rfl rfl ?_
      exact fun w h => ⟨by unfold levelV; rw [if_neg (by omega), if_neg (by omega)], h.below⟩
set_option maxRecDepth 100000 in
set_option maxHeartbeats 2000000 in
theorem k_rgive {p c n : Nat} {f : Nat → Bool} (i : Int) : Turn Tryd.prog 15 #[.pointer (some ⟨p, 0, none⟩), .int .i64 i] (rpoolR p c n f) (.int .i64 (giveA f n i)) (rpoolR p c n (giveF f n i)) := by
  intro W hR
  obtain ⟨hn, hM⟩ := rpoolR_enter hR
  refine TC.enter (n := 30) Tryd.func15 rfl rfl rfl hM ?_
  refine TC.seq ?_
  refine TC.region ?_
  refine' TL.y rfl rfl rfl ?hy1 ?_
  case hy1 => exact Yl.assign rfl rfl
  refine TL.nil ?_
  refine TE.next ?_
  refine TC.seq ?_
  refine TC.seq ?_
  refine TC.region ?_
  refine' TL.y rfl rfl rfl ?hy2 ?_
  case hy2 => exact Yl.move rfl rfl
  refine' TL.y rfl rfl rfl ?hy3 ?_
  case hy3 => exact Yl.bin rfl rfl rfl (Bin.lss _ _ _ _)
  refine' TL.y rfl rfl rfl ?hy4 ?_
  case hy4 => exact Yl.move rfl rfl
  refine TL.split (i := 7) rfl (fun hs7 => ?_) (fun hs7 => ?_)
  · skip
    (try simp only [decide_eq_true_eq, decide_eq_false_iff_not, beq_iff_eq, beq_eq_false_iff_ne, bne_iff_ne, ne_eq, bne_eq_false_iff_eq, Bool.not_eq_true', Bool.not_eq_false', Int.not_lt, Int.not_le, gt_iff_lt, ge_iff_le] at hs7)
    refine TL.skip rfl rfl rfl ?_
    refine TL.skip rfl rfl rfl ?_
    refine TL.skip rfl rfl rfl ?_
    refine TL.skip rfl rfl rfl ?_
    refine TL.skip rfl rfl rfl ?_
    refine TL.skip rfl rfl rfl ?_
    refine TL.skip rfl rfl rfl ?_
    refine' TL.y rfl rfl rfl ?hy5 ?_
    case hy5 => exact Yl.pickT rfl rfl rfl
    refine TL.nil ?_
    refine TE.next ?_
    refine TC.yes rfl rfl ?_
    refine TC.seq ?_
    refine TC.region ?_
    refine' TL.y rfl rfl rfl ?hy6 ?_
    case hy6 => exact Yl.assign rfl rfl
    refine TL.nil ?_
    refine TE.next ?_
    refine TC.ret ?_
    refine TE.thenRet ?_
    refine TE.ret1 rfl rfl ?_
    exact fun w h => ⟨(), by rw [(give_out (f := f) (show i < 0 ∨ (n : Int) ≤ i by omega)).1], by rw [(give_out (f := f) (show i < 0 ∨ (n : Int) ≤ i by omega)).2]; exact (rpoolR_shut hn h).leave⟩
  · skip
    (try simp only [decide_eq_true_eq, decide_eq_false_iff_not, beq_iff_eq, beq_eq_false_iff_ne, bne_iff_ne, ne_eq, bne_eq_false_iff_eq, Bool.not_eq_true', Bool.not_eq_false', Int.not_lt, Int.not_le, gt_iff_lt, ge_iff_le] at hs7)
    refine' TL.y rfl rfl rfl ?hy7 ?_
    case hy7 => exact Yl.move rfl rfl
    refine' TL.y rfl rfl rfl ?hy8 ?_
    case hy8 => exact Yl.move rfl rfl
    refine' TL.y rfl rfl rfl ?hy9 ?_
    case hy9 => exact Yl.nilCheck rfl rfl
    refine' TL.y rfl rfl rfl ?hy10 ?_
    case hy10 => first | exact Yl.field0 (k := 0) 0 rfl rfl Tryd.underlying37 rfl (by kernel_rfl) rfl | exact Yl.field (k := 0) 0 rfl rfl Tryd.underlying37 rfl (by kernel_rfl) rfl
    refine' TL.y rfl rfl rfl ?hy11 ?_
    case hy11 => first | exact Yl.load rfl rfl (by kernel_rfl) (Hp.cell mem0 rfl) | exact Yl.load rfl rfl (by kernel_rfl) (Hp.cell mem1 rfl) | exact Yl.load rfl rfl (by kernel_rfl) (Hp.cell mem2 rfl) | exact Yl.load rfl rfl (by kernel_rfl) (Hp.cell mem3 rfl) | exact Yl.load rfl rfl (by kernel_rfl) (Hp.cell mem4 rfl) | exact Yl.load rfl rfl (by kernel_rfl) (Hp.rowAt mem0 (by omega) rfl) | exact Yl.load rfl rfl (by kernel_rfl) (Hp.rowAt mem1 (by omega) rfl) | exact Yl.load rfl rfl (by kernel_rfl) (Hp.rowAt mem2 (by omega) rfl) | exact Yl.load rfl rfl (by kernel_rfl) (Hp.rowAt mem3 (by omega) rfl) | exact Yl.load rfl rfl (by kernel_rfl) (Hp.rowAt mem4 (by omega) rfl)
    refine' TL.y rfl rfl rfl ?hy12 ?_
    case hy12 => exact Yl.len rfl rfl Tryd.underlying35
    refine' TL.y rfl rfl rfl ?hy13 ?_
    case hy13 => exact Yl.bin rfl rfl rfl (Bin.geq _ _ _ _)
    refine' TL.y rfl rfl rfl ?hy14 ?_
    case hy14 => exact Yl.pickF rfl rfl rfl
    refine TL.nil ?_
    refine TE.next ?_
    refine TC.cond rfl (fun hs15 => ?_) (fun hs15 => ?_)
    · skip
      (try simp only [decide_eq_true_eq, decide_eq_false_iff_not, beq_iff_eq, beq_eq_false_iff_ne, bne_iff_ne, ne_eq, bne_eq_false_iff_eq, Bool.not_eq_true', Bool.not_eq_false', Int.not_lt, Int.not_le, gt_iff_lt, ge_iff_le] at hs15)
      refine TC.seq ?_
      refine TC.region ?_
      refine' TL.y rfl rfl rfl ?hy15 ?_
      case hy15 => exact Yl.assign rfl rfl
      refine TL.nil ?_
      refine TE.next ?_
      refine TC.ret ?_
      refine TE.thenRet ?_
      refine TE.ret1 rfl rfl ?_
      exact fun w h => ⟨(), by rw [(give_out (f := f) (show i < 0 ∨ (n : Int) ≤ i by omega)).1], by rw [(give_out (f := f) (show i < 0 ∨ (n : Int) ≤ i by omega)).2]; exact (rpoolR_shut hn h).leave⟩
    · skip
      (try simp only [decide_eq_true_eq, decide_eq_false_iff_not, beq_iff_eq, beq_eq_false_iff_ne, bne_iff_ne, ne_eq, bne_eq_false_iff_eq, Bool.not_eq_true', Bool.not_eq_false', Int.not_lt, Int.not_le, gt_iff_lt, ge_iff_le] at hs15)
      obtain ⟨j, rfl⟩ := Int.eq_ofNat_of_zero_le (show 0 ≤ i by omega)
      refine TC.skip ?_
      refine TE.next ?_
      refine TC.seq ?_
      refine TC.seq ?_
      refine TC.region ?_
      refine' TL.y rfl rfl rfl ?hy16 ?_
      case hy16 => exact Yl.move rfl rfl
      refine' TL.y rfl rfl rfl ?hy17 ?_
      case hy17 => exact Yl.nilCheck rfl rfl
      refine' TL.y rfl rfl rfl ?hy18 ?_
      case hy18 => first | exact Yl.field0 (k := 0) 0 rfl rfl Tryd.underlying37 rfl (by kernel_rfl) rfl | exact Yl.field (k := 0) 0 rfl rfl Tryd.underlying37 rfl (by kernel_rfl) rfl
      refine' TL.y rfl rfl rfl ?hy19 ?_
      case hy19 => first | exact Yl.load rfl rfl (by kernel_rfl) (Hp.cell mem0 rfl) | exact Yl.load rfl rfl (by kernel_rfl) (Hp.cell mem1 rfl) | exact Yl.load rfl rfl (by kernel_rfl) (Hp.cell mem2 rfl) | exact Yl.load rfl rfl (by kernel_rfl) (Hp.cell mem3 rfl) | exact Yl.load rfl rfl (by kernel_rfl) (Hp.cell mem4 rfl) | exact Yl.load rfl rfl (by kernel_rfl) (Hp.rowAt mem0 (by omega) rfl) | exact Yl.load rfl rfl (by kernel_rfl) (Hp.rowAt mem1 (by omega) rfl) | exact Yl.load rfl rfl (by kernel_rfl) (Hp.rowAt mem2 (by omega) rfl) | exact Yl.load rfl rfl (by kernel_rfl) (Hp.rowAt mem3 (by omega) rfl) | exact Yl.load rfl rfl (by kernel_rfl) (Hp.rowAt mem4 (by omega) rfl)
      refine' TL.y rfl rfl rfl ?hy20 ?_
      case hy20 => exact Yl.move rfl rfl
      refine' TL.y rfl rfl rfl ?hy21 ?_
      case hy21 => first | exact Yl.ixn rfl rfl rfl Tryd.underlying35 (by kernel_rfl) (by omega) | exact Yl.ixz rfl rfl rfl Tryd.underlying35 (by kernel_rfl) (by omega) (by omega) | exact Yl.ixcn rfl rfl rfl Tryd.underlying35 (by kernel_rfl) (by omega) | exact Yl.ixcz rfl rfl rfl Tryd.underlying35 (by kernel_rfl) (by omega) (by omega)
      refine' TL.y rfl rfl rfl ?hy22 ?_
      case hy22 => first | exact Yl.load rfl rfl (by kernel_rfl) (Hp.cell mem0 rfl) | exact Yl.load rfl rfl (by kernel_rfl) (Hp.cell mem1 rfl) | exact Yl.load rfl rfl (by kernel_rfl) (Hp.cell mem2 rfl) | exact Yl.load rfl rfl (by kernel_rfl) (Hp.cell mem3 rfl) | exact Yl.load rfl rfl (by kernel_rfl) (Hp.cell mem4 rfl) | exact Yl.load rfl rfl (by kernel_rfl) (Hp.rowAt mem0 (by omega) rfl) | exact Yl.load rfl rfl (by kernel_rfl) (Hp.rowAt mem1 (by omega) rfl) | exact Yl.load rfl rfl (by kernel_rfl) (Hp.rowAt mem2 (by omega) rfl) | exact Yl.load rfl rfl (by kernel_rfl) (Hp.rowAt mem3 (by omega) rfl) | exact Yl.load rfl rfl (by kernel_rfl) (Hp.rowAt mem4 (by omega) rfl)
      refine' TL.y rfl rfl rfl ?hy23 ?_
      case hy23 => exact Yl.not rfl rfl
      refine TL.nil ?_
      refine TE.next ?_
      refine TC.cond rfl (fun hs23 => ?_) (fun hs23 => ?_)
      · skip
        (try simp only [decide_eq_true_eq, decide_eq_false_iff_not, beq_iff_eq, beq_eq_false_iff_ne, bne_iff_ne, ne_eq, bne_eq_false_iff_eq, Bool.not_eq_true', Bool.not_eq_false', Int.not_lt, Int.not_le, gt_iff_lt, ge_iff_le] at hs23)
        refine TC.seq ?_
        refine TC.region ?_
        refine' TL.y rfl rfl rfl ?hy24 ?_
        case hy24 => exact Yl.assign rfl rfl
        refine TL.nil ?_
        refine TE.next ?_
        refine TC.ret ?_
        refine TE.thenRet ?_
        refine TE.ret1 rfl rfl ?_
        exact fun w h => ⟨(), by rw [(give_free (show j < n by omega) (by simpa using hs23)).1], by rw [(give_free (show j < n by omega) (by simpa using hs23)).2]; exact (rpoolR_shut hn h).leave⟩
      · skip
        (try simp only [decide_eq_true_eq, decide_eq_false_iff_not, beq_iff_eq, beq_eq_false_iff_ne, bne_iff_ne, ne_eq, bne_eq_false_iff_eq, Bool.not_eq_true', Bool.not_eq_false', Int.not_lt, Int.not_le, gt_iff_lt, ge_iff_le] at hs23)
        refine TC.skip ?_
        refine TE.next ?_
        refine TC.seq ?_
        refine TC.region ?_
        refine' TL.y rfl rfl rfl ?hy25 ?_
        case hy25 => exact Yl.move rfl rfl
        refine' TL.y rfl rfl rfl ?hy26 ?_
        case hy26 => exact Yl.nilCheck rfl rfl
        refine' TL.y rfl rfl rfl ?hy27 ?_
        case hy27 => first | exact Yl.field0 (k := 0) 0 rfl rfl Tryd.underlying37 rfl (by kernel_rfl) rfl | exact Yl.field (k := 0) 0 rfl rfl Tryd.underlying37 rfl (by kernel_rfl) rfl
        refine' TL.y rfl rfl rfl ?hy28 ?_
        case hy28 => first | exact Yl.load rfl rfl (by kernel_rfl) (Hp.cell mem0 rfl) | exact Yl.load rfl rfl (by kernel_rfl) (Hp.cell mem1 rfl) | exact Yl.load rfl rfl (by kernel_rfl) (Hp.cell mem2 rfl) | exact Yl.load rfl rfl (by kernel_rfl) (Hp.cell mem3 rfl) | exact Yl.load rfl rfl (by kernel_rfl) (Hp.cell mem4 rfl) | exact Yl.load rfl rfl (by kernel_rfl) (Hp.rowAt mem0 (by omega) rfl) | exact Yl.load rfl rfl (by kernel_rfl) (Hp.rowAt mem1 (by omega) rfl) | exact Yl.load rfl rfl (by kernel_rfl) (Hp.rowAt mem2 (by omega) rfl) | exact Yl.load rfl rfl (by kernel_rfl) (Hp.rowAt mem3 (by omega) rfl) | exact Yl.load rfl rfl (by kernel_rfl) (Hp.rowAt mem4 (by omega) rfl)
        refine' TL.y rfl rfl rfl ?hy29 ?_
        case hy29 => exact Yl.move rfl rfl
        refine' TL.y rfl rfl rfl ?hy30 ?_
        case hy30 => first | exact Yl.ixn rfl rfl rfl Tryd.underlying35 (by kernel_rfl) (by omega) | exact Yl.ixz rfl rfl rfl Tryd.underlying35 (by kernel_rfl) (by omega) (by omega) | exact Yl.ixcn rfl rfl rfl Tryd.underlying35 (by kernel_rfl) (by omega) | exact Yl.ixcz rfl rfl rfl Tryd.underlying35 (by kernel_rfl) (by omega) (by omega)
        refine' TL.s rfl rfl ?hy31 ?_
        case hy31 => first | exact Ys.row rfl rfl rfl rfl (by kernel_rfl) rfl foc0 (by omega) rfl | exact Ys.row rfl rfl rfl rfl (by kernel_rfl) rfl foc1 (by omega) rfl | exact Ys.row rfl rfl rfl rfl (by kernel_rfl) rfl foc2 (by omega) rfl | exact Ys.row rfl rfl rfl rfl (by kernel_rfl) rfl foc3 (by omega) rfl | exact Ys.row rfl rfl rfl rfl (by kernel_rfl) rfl foc4 (by omega) rfl | exact Ys.store rfl rfl rfl rfl (by kernel_rfl) (by simp [Value.oneCell', Value.cells]) foc0 (by simp [Value.cells]) rfl | exact Ys.store rfl rfl rfl rfl (by kernel_rfl) (by simp [Value.oneCell', Value.cells]) foc1 (by simp [Value.cells]) rfl | exact Ys.store rfl rfl rfl rfl (by kernel_rfl) (by simp [Value.oneCell', Value.cells]) foc2 (by simp [Value.cells]) rfl | exact Ys.store rfl rfl rfl rfl (by kernel_rfl) (by simp [Value.oneCell', Value.cells]) foc3 (by simp [Value.cells]) rfl | exact Ys.store rfl rfl rfl rfl (by kernel_rfl) (by simp [Value.oneCell', Value.cells]) foc4 (by simp [Value.cells]) rfl
        refine TL.nil ?_
        refine TE.next ?_
        refine TC.seq ?_
        refine TC.region ?_
        refine' TL.y rfl rfl rfl ?hy32 ?_
        case hy32 => exact Yl.assign rfl rfl
        refine TL.nil ?_
        refine TE.next ?_
        refine TC.ret ?_
        refine TE.ret1 rfl rfl ?_
        exact fun w h => ⟨(), by rw [(give_in (show j < n by omega) (by simpa using hs23)).1], by rw [(give_in (show j < n by omega) (by simpa using hs23)).2]; rw [rset] at h; exact (rpoolR_shut hn h).leave⟩
set_option maxRecDepth 100000 in
set_option maxHeartbeats 2000000 in
theorem k_rrun {p c n : Nat} {f : Nat → Bool} (k : Int) (hk0 : k ≤ 9223372036854775807) : Turn Tryd.prog 17 #[.pointer (some ⟨p, 0, none⟩), .int .i64 k] (rpoolR p c n f) (.tuple #[.int .i64 (runA f n k).1, .int .i64 (runA f n k).2]) (rpoolR p c n (runF f n k)) := by
  intro W hR
  obtain ⟨hn, hM⟩ := rpoolR_enter hR
  refine TC.enter (n := 58) Tryd.func17 rfl rfl rfl hM ?_
  refine TC.seq ?_
  refine TC.region ?_
  refine' TL.y rfl rfl rfl ?hy1 ?_
  case hy1 => exact Yl.assign rfl rfl
  refine' TL.y rfl rfl rfl ?hy2 ?_
  case hy2 => exact Yl.assign rfl rfl
  refine TL.nil ?_
  refine TE.next ?_
  refine TC.seq ?_
  refine TC.seq ?_
  refine TC.region ?_
  refine' TL.y rfl rfl rfl ?hy3 ?_
  case hy3 => exact Yl.move rfl rfl
  refine' TL.y rfl rfl rfl ?hy4 ?_
  case hy4 => exact Yl.bin rfl rfl rfl (Bin.lss _ _ _ _)
  refine TL.nil ?_
  refine TE.next ?_
  refine TC.cond rfl (fun hs11 => ?_) (fun hs11 => ?_)
  · skip
    (try simp only [decide_eq_true_eq, decide_eq_false_iff_not, beq_iff_eq, beq_eq_false_iff_ne, bne_iff_ne, ne_eq, bne_eq_false_iff_eq, Bool.not_eq_true', Bool.not_eq_false', Int.not_lt, Int.not_le, gt_iff_lt, ge_iff_le] at hs11)
    refine TC.seq ?_
    refine TC.region ?_
    refine' TL.y rfl rfl rfl ?hy5 ?_
    case hy5 => exact Yl.assign rfl rfl
    refine' TL.y rfl rfl rfl ?hy6 ?_
    case hy6 => exact Yl.assign rfl rfl
    refine TL.nil ?_
    refine TE.next ?_
    refine TC.ret ?_
    refine TE.thenRet ?_
    refine TE.ret2 rfl rfl rfl ?_
    exact fun w h => ⟨(), by rw [(runA_low (f := f) (n := n) hs11).1], by rw [(runA_low (f := f) (n := n) hs11).2]; exact (rpoolR_shut hn h).leave⟩
  · skip
    (try simp only [decide_eq_true_eq, decide_eq_false_iff_not, beq_iff_eq, beq_eq_false_iff_ne, bne_iff_ne, ne_eq, bne_eq_false_iff_eq, Bool.not_eq_true', Bool.not_eq_false', Int.not_lt, Int.not_le, gt_iff_lt, ge_iff_le] at hs11)
    refine TC.skip ?_
    refine TE.next ?_
    refine TC.seq ?_
    refine TC.seq ?_
    refine TC.region ?_
    refine' TL.y rfl rfl rfl ?hy7 ?_
    case hy7 => exact Yl.assign rfl rfl
    refine TL.nil ?_
    refine TE.next ?_
    refine TC.block ?_
    refine TC.loop (σ := Nat) (fun i => [(0, .pointer (some ⟨p, 0, none⟩)), (1, .int .i64 k), (6, .int .i64 (i : Int))]) (fun i => Hp W (rpoolR p c n f).foot [blk p (rpO c n), rowR c n (f)]) (fun i => i ≤ n + 1 ∧ ∀ j, j < i → ¬ ∀ p, j ≤ p → p < j + k.toNat → f p = false) (fun i => n + 1 - i) 0 ?hF8 ?hs8 ?hm8 ?round8
    case hF8 => exact ⟨Nat.zero_le _, fun j hj => by omega⟩
    case hs8 => exact ⟨rfl, rfl, rfl, trivial⟩
    case hm8 => exact fun _ h => h
    case round8 =>
      rintro i ⟨hi1, hi2⟩
      refine TC.seq ?_
      refine TC.seq ?_
      refine TC.region ?_
      refine' TL.y rfl rfl rfl ?hy9 ?_
      case hy9 => exact Yl.move rfl rfl
      refine' TL.y rfl rfl rfl ?hy10 ?_
      case hy10 => exact Yl.move rfl rfl
      refine' TL.y rfl rfl rfl ?hy11 ?_
      case hy11 => exact Yl.nilCheck rfl rfl
      refine' TL.y rfl rfl rfl ?hy12 ?_
      case hy12 => first | exact Yl.field0 (k := 0) 0 rfl rfl Tryd.underlying37 rfl (by kernel_rfl) rfl | exact Yl.field (k := 0) 0 rfl rfl Tryd.underlying37 rfl (by kernel_rfl) rfl
      refine' TL.y rfl rfl rfl ?hy13 ?_
      case hy13 => first | exact Yl.load rfl rfl (by kernel_rfl) (Hp.cell mem0 rfl) | exact Yl.load rfl rfl (by kernel_rfl) (Hp.cell mem1 rfl) | exact Yl.load rfl rfl (by kernel_rfl) (Hp.cell mem2 rfl) | exact Yl.load rfl rfl (by kernel_rfl) (Hp.cell mem3 rfl) | exact Yl.load rfl rfl (by kernel_rfl) (Hp.cell mem4 rfl) | exact Yl.load rfl rfl (by kernel_rfl) (Hp.rowAt mem0 (by omega) rfl) | exact Yl.load rfl rfl (by kernel_rfl) (Hp.rowAt mem1 (by omega) rfl) | exact Yl.load rfl rfl (by kernel_rfl) (Hp.rowAt mem2 (by omega) rfl) | exact Yl.load rfl rfl (by kernel_rfl) (Hp.rowAt mem3 (by omega) rfl) | exact Yl.load rfl rfl (by kernel_rfl) (Hp.rowAt mem4 (by omega) rfl)
      refine' TL.y rfl rfl rfl ?hy14 ?_
      case hy14 => exact Yl.len rfl rfl Tryd.underlying35
      refine' TL.y rfl rfl rfl ?hy15 ?_
      case hy15 => exact Yl.move rfl rfl
      refine' TL.y rfl rfl rfl ?hy16 ?_
      case hy16 => first | (refine Yl.val (Yl.bin rfl rfl rfl (Bin.sub _ _ _ _)) (congrArg (Value.int .i64) (i64in ?_ ?_)) <;> omega) | exact Yl.bin rfl rfl rfl (Bin.sub _ _ _ _)
      refine' TL.y rfl rfl rfl ?hy17 ?_
      case hy17 => exact Yl.bin rfl rfl rfl (Bin.leq _ _ _ _)
      refine TL.nil ?_
      refine TE.next ?_
      refine TC.cond rfl (fun hs20 => ?_) (fun hs20 => ?_)
      · skip
        (try simp only [decide_eq_true_eq, decide_eq_false_iff_not, beq_iff_eq, beq_eq_false_iff_ne, bne_iff_ne, ne_eq, bne_eq_false_iff_eq, Bool.not_eq_true', Bool.not_eq_false', Int.not_lt, Int.not_le, gt_iff_lt, ge_iff_le] at hs20)
        refine TC.skip ?_
        refine TE.next ?_
        refine TC.seq ?_
        refine TC.block ?_
        refine TC.seq ?_
        refine TC.region ?_
        refine' TL.y rfl rfl rfl ?hy18 ?_
        case hy18 => exact Yl.assign rfl rfl
        refine TL.nil ?_
        refine TE.next ?_
        refine TC.seq ?_
        refine TC.seq ?_
        refine TC.region ?_
        refine' TL.y rfl rfl rfl ?hy19 ?_
        case hy19 => exact Yl.move rfl rfl
        refine' TL.y rfl rfl rfl ?hy20 ?_
        case hy20 => exact Yl.assign rfl rfl
        refine TL.nil ?_
        refine TE.next ?_
        refine TC.block ?_
        refine TC.loop (σ := Nat × Bool) (fun s => [(0, .pointer (some ⟨p, 0, none⟩)), (1, .int .i64 k), (6, .int .i64 (i : Int)), (7, .bool s.2), (8, .int .i64 ((i : Int) + s.1))]) (fun s => Hp W (rpoolR p c n f).foot [blk p (rpO c n), rowR c n (f)]) (fun s => (s.1 : Int) ≤ k ∧ (s.2 = true → ∀ p, i ≤ p → p < i + s.1 → f p = false) ∧ (s.2 = false → ¬ ∀ p, i ≤ p → p < i + k.toNat → f p = false)) (fun s => k.toNat - s.1) (0, true) ?hF21 ?hs21 ?hm21 ?round21
        case hF21 => exact ⟨by dsimp only; omega, fun _ p h1 h2 => by dsimp only at h2; omega, fun h => by cases h⟩
        case hs21 => exact ⟨rfl, rfl, rfl, rfl, (by show some (Value.int .i64 (i : Int)) = _; simp), trivial⟩
        case hm21 => exact fun _ h => h
        case round21 =>
          rintro ⟨t, fr⟩ ⟨ht1, ht2, ht3⟩
          dsimp only at ht1 ht2 ht3 ⊢
          refine TC.seq ?_
          refine TC.seq ?_
          refine TC.region ?_
          refine' TL.y rfl rfl rfl ?hy22 ?_
          case hy22 => exact Yl.move rfl rfl
          refine' TL.y rfl rfl rfl ?hy23 ?_
          case hy23 => exact Yl.move rfl rfl
          refine' TL.y rfl rfl rfl ?hy24 ?_
          case hy24 => exact Yl.move rfl rfl
          refine' TL.y rfl rfl rfl ?hy25 ?_
          case hy25 => first | (refine Yl.val (Yl.bin rfl rfl rfl (Bin.add _ _ _ _)) (congrArg (Value.int .i64) (i64in ?_ ?_)) <;> omega) | exact Yl.bin rfl rfl rfl (Bin.add _ _ _ _)
          refine' TL.y rfl rfl rfl ?hy26 ?_
          case hy26 => exact Yl.bin rfl rfl rfl (Bin.lss _ _ _ _)
          refine' TL.y rfl rfl rfl ?hy27 ?_
          case hy27 => exact Yl.move rfl rfl
          refine TL.split (i := 29) rfl (fun hs29 => ?_) (fun hs29 => ?_)
          · skip
            (try simp only [decide_eq_true_eq, decide_eq_false_iff_not, beq_iff_eq, beq_eq_false_iff_ne, bne_iff_ne, ne_eq, bne_eq_false_iff_eq, Bool.not_eq_true', Bool.not_eq_false', Int.not_lt, Int.not_le, gt_iff_lt, ge_iff_le] at hs29)
            refine' TL.y rfl rfl rfl ?hy28 ?_
            case hy28 => exact Yl.move rfl rfl
            refine' TL.y rfl rfl rfl ?hy29 ?_
            case hy29 => exact Yl.pickT rfl rfl rfl
            refine TL.nil ?_
            refine TE.next ?_
            refine TC.cond rfl (fun hs31 => ?_) (fun hs31 => ?_)
            · skip
              (try simp only [decide_eq_true_eq, decide_eq_false_iff_not, beq_iff_eq, beq_eq_false_iff_ne, bne_iff_ne, ne_eq, bne_eq_false_iff_eq, Bool.not_eq_true', Bool.not_eq_false', Int.not_lt, Int.not_le, gt_iff_lt, ge_iff_le] at hs31)
              refine TC.skip ?_
              refine TE.next ?_
              refine TC.seq ?_
              refine TC.block ?_
              refine TC.region ?_
              refine' TL.y rfl rfl rfl ?hy30 ?_
              case hy30 => exact Yl.move rfl rfl
              refine' TL.y rfl rfl rfl ?hy31 ?_
              case hy31 => exact Yl.nilCheck rfl rfl
              refine' TL.y rfl rfl rfl ?hy32 ?_
              case hy32 => first | exact Yl.field0 (k := 0) 0 rfl rfl Tryd.underlying37 rfl (by kernel_rfl) rfl | exact Yl.field (k := 0) 0 rfl rfl Tryd.underlying37 rfl (by kernel_rfl) rfl
              refine' TL.y rfl rfl rfl ?hy33 ?_
              case hy33 => first | exact Yl.load rfl rfl (by kernel_rfl) (Hp.cell mem0 rfl) | exact Yl.load rfl rfl (by kernel_rfl) (Hp.cell mem1 rfl) | exact Yl.load rfl rfl (by kernel_rfl) (Hp.cell mem2 rfl) | exact Yl.load rfl rfl (by kernel_rfl) (Hp.cell mem3 rfl) | exact Yl.load rfl rfl (by kernel_rfl) (Hp.cell mem4 rfl) | exact Yl.load rfl rfl (by kernel_rfl) (Hp.rowAt mem0 (by omega) rfl) | exact Yl.load rfl rfl (by kernel_rfl) (Hp.rowAt mem1 (by omega) rfl) | exact Yl.load rfl rfl (by kernel_rfl) (Hp.rowAt mem2 (by omega) rfl) | exact Yl.load rfl rfl (by kernel_rfl) (Hp.rowAt mem3 (by omega) rfl) | exact Yl.load rfl rfl (by kernel_rfl) (Hp.rowAt mem4 (by omega) rfl)
              refine' TL.y rfl rfl rfl ?hy34 ?_
              case hy34 => exact Yl.move rfl rfl
              rw [show ((i : Int) + t) = ((i + t : Nat) : Int) by omega]
              refine' TL.y rfl rfl rfl ?hy35 ?_
              case hy35 => first | exact Yl.ixn rfl rfl rfl Tryd.underlying35 (by kernel_rfl) (by omega) | exact Yl.ixz rfl rfl rfl Tryd.underlying35 (by kernel_rfl) (by omega) (by omega) | exact Yl.ixcn rfl rfl rfl Tryd.underlying35 (by kernel_rfl) (by omega) | exact Yl.ixcz rfl rfl rfl Tryd.underlying35 (by kernel_rfl) (by omega) (by omega)
              refine' TL.y rfl rfl rfl ?hy36 ?_
              case hy36 => first | exact Yl.load rfl rfl (by kernel_rfl) (Hp.cell mem0 rfl) | exact Yl.load rfl rfl (by kernel_rfl) (Hp.cell mem1 rfl) | exact Yl.load rfl rfl (by kernel_rfl) (Hp.cell mem2 rfl) | exact Yl.load rfl rfl (by kernel_rfl) (Hp.cell mem3 rfl) | exact Yl.load rfl rfl (by kernel_rfl) (Hp.cell mem4 rfl) | exact Yl.load rfl rfl (by kernel_rfl) (Hp.rowAt mem0 (by omega) rfl) | exact Yl.load rfl rfl (by kernel_rfl) (Hp.rowAt mem1 (by omega) rfl) | exact Yl.load rfl rfl (by kernel_rfl) (Hp.rowAt mem2 (by omega) rfl) | exact Yl.load rfl rfl (by kernel_rfl) (Hp.rowAt mem3 (by omega) rfl) | exact Yl.load rfl rfl (by kernel_rfl) (Hp.rowAt mem4 (by omega) rfl)
              refine' TL.y rfl rfl rfl ?hy37 ?_
              case hy37 => exact Yl.not rfl rfl
              refine' TL.y rfl rfl rfl ?hy38 ?_
              case hy38 => exact Yl.assign rfl rfl
              refine TL.nil ?_
              refine TE.inNormal ?_
              refine TE.next ?_
              refine TC.region ?_
              refine' TL.y rfl rfl rfl ?hy39 ?_
              case hy39 => exact Yl.move rfl rfl
              refine' TL.y rfl rfl rfl ?hy40 ?_
              case hy40 => first | (refine Yl.val (Yl.bin rfl rfl rfl (Bin.add _ _ _ _)) (congrArg (Value.int .i64) (i64in ?_ ?_)) <;> omega) | exact Yl.bin rfl rfl rfl (Bin.add _ _ _ _)
              refine' TL.y rfl rfl rfl ?hy41 ?_
              case hy41 => exact Yl.assign rfl rfl
              refine TL.nil ?_
              refine TE.round (t + 1, !f (i + t)) ?hF42 ?hlt42 ?hs42 ?hm42
              case hF42 => exact ⟨by dsimp only; omega, fun h p h1 h2 => by
                dsimp only at h h2
                by_cases e : p = i + t
                · rw [e]; simpa using h
                · exact ht2 hs31 p h1 (by omega), fun h e => by
                have := e (i + t) (by omega) (by omega)
                dsimp only at h; rw [this] at h; cases h⟩
              case hlt42 => dsimp only; omega
              case hs42 => exact ⟨rfl, rfl, rfl, rfl, (by show some (Value.int .i64 ((i : Int) + t + 1)) = _; rw [show ((i : Int) + t + 1) = (i : Int) + ((t + 1 : Nat) : Int) by omega]), trivial⟩
              case hm42 => exact fun _ h => h
            · skip
              (try simp only [decide_eq_true_eq, decide_eq_false_iff_not, beq_iff_eq, beq_eq_false_iff_ne, bne_iff_ne, ne_eq, bne_eq_false_iff_eq, Bool.not_eq_true', Bool.not_eq_false', Int.not_lt, Int.not_le, gt_iff_lt, ge_iff_le] at hs31)
              refine TC.exit ?_
              refine TE.thenExit ?_
              refine TE.thenExit ?_
              refine TE.inHere ?_
              refine TE.next ?_
              refine TC.seq ?_
              refine TC.region ?_
              refine' TL.y rfl rfl rfl ?hy43 ?_
              case hy43 => exact Yl.move rfl rfl
              refine TL.nil ?_
              refine TE.next ?_
              refine TC.cond rfl (fun hs42 => ?_) (fun hs42 => ?_)
              · skip
                (try simp only [decide_eq_true_eq, decide_eq_false_iff_not, beq_iff_eq, beq_eq_false_iff_ne, bne_iff_ne, ne_eq, bne_eq_false_iff_eq, Bool.not_eq_true', Bool.not_eq_false', Int.not_lt, Int.not_le, gt_iff_lt, ge_iff_le] at hs42)
                have hfr : fr = true := by first | exact hs42 | simp_all
                refine TC.seq ?_
                refine TC.seq ?_
                refine TC.region ?_
                refine' TL.y rfl rfl rfl ?hy44 ?_
                case hy44 => exact Yl.move rfl rfl
                refine' TL.y rfl rfl rfl ?hy45 ?_
                case hy45 => exact Yl.assign rfl rfl
                refine TL.nil ?_
                refine TE.next ?_
                refine TC.block ?_
                refine TC.loop (σ := Nat) (fun t2 => [(0, .pointer (some ⟨p, 0, none⟩)), (1, .int .i64 k), (6, .int .i64 (i : Int)), (9, .int .i64 ((i : Int) + t2))]) (fun t2 => Hp W (rpoolR p c n f).foot [blk p (rpO c n), rowR c n (fillB f i t2)]) (fun t2 => (t2 : Int) ≤ k) (fun t2 => k.toNat - t2) 0 ?hF46 ?hs46 ?hm46 ?round46
                case hF46 => omega
                case hs46 => exact ⟨rfl, rfl, rfl, (by show some (Value.int .i64 (i : Int)) = _; simp), trivial⟩
                case hm46 => exact fun w h => by rw [fillB_zero]; exact h
                case round46 =>
                  intro t2 ht4
                  refine TC.seq ?_
                  refine TC.seq ?_
                  refine TC.region ?_
                  refine' TL.y rfl rfl rfl ?hy47 ?_
                  case hy47 => exact Yl.move rfl rfl
                  refine' TL.y rfl rfl rfl ?hy48 ?_
                  case hy48 => exact Yl.move rfl rfl
                  refine' TL.y rfl rfl rfl ?hy49 ?_
                  case hy49 => exact Yl.move rfl rfl
                  refine' TL.y rfl rfl rfl ?hy50 ?_
                  case hy50 => first | (refine Yl.val (Yl.bin rfl rfl rfl (Bin.add _ _ _ _)) (congrArg (Value.int .i64) (i64in ?_ ?_)) <;> omega) | exact Yl.bin rfl rfl rfl (Bin.add _ _ _ _)
                  refine' TL.y rfl rfl rfl ?hy51 ?_
                  case hy51 => exact Yl.bin rfl rfl rfl (Bin.lss _ _ _ _)
                  refine TL.nil ?_
                  refine TE.next ?_
                  refine TC.cond rfl (fun hs48 => ?_) (fun hs48 => ?_)
                  · skip
                    (try simp only [decide_eq_true_eq, decide_eq_false_iff_not, beq_iff_eq, beq_eq_false_iff_ne, bne_iff_ne, ne_eq, bne_eq_false_iff_eq, Bool.not_eq_true', Bool.not_eq_false', Int.not_lt, Int.not_le, gt_iff_lt, ge_iff_le] at hs48)
                    refine TC.skip ?_
                    refine TE.next ?_
                    refine TC.seq ?_
                    refine TC.block ?_
                    refine TC.region ?_
                    refine' TL.y rfl rfl rfl ?hy52 ?_
                    case hy52 => exact Yl.move rfl rfl
                    refine' TL.y rfl rfl rfl ?hy53 ?_
                    case hy53 => exact Yl.nilCheck rfl rfl
                    refine' TL.y rfl rfl rfl ?hy54 ?_
                    case hy54 => first | exact Yl.field0 (k := 0) 0 rfl rfl Tryd.underlying37 rfl (by kernel_rfl) rfl | exact Yl.field (k := 0) 0 rfl rfl Tryd.underlying37 rfl (by kernel_rfl) rfl
                    refine' TL.y rfl rfl rfl ?hy55 ?_
                    case hy55 => first | exact Yl.load rfl rfl (by kernel_rfl) (Hp.cell mem0 rfl) | exact Yl.load rfl rfl (by kernel_rfl) (Hp.cell mem1 rfl) | exact Yl.load rfl rfl (by kernel_rfl) (Hp.cell mem2 rfl) | exact Yl.load rfl rfl (by kernel_rfl) (Hp.cell mem3 rfl) | exact Yl.load rfl rfl (by kernel_rfl) (Hp.cell mem4 rfl) | exact Yl.load rfl rfl (by kernel_rfl) (Hp.rowAt mem0 (by omega) rfl) | exact Yl.load rfl rfl (by kernel_rfl) (Hp.rowAt mem1 (by omega) rfl) | exact Yl.load rfl rfl (by kernel_rfl) (Hp.rowAt mem2 (by omega) rfl) | exact Yl.load rfl rfl (by kernel_rfl) (Hp.rowAt mem3 (by omega) rfl) | exact Yl.load rfl rfl (by kernel_rfl) (Hp.rowAt mem4 (by omega) rfl)
                    refine' TL.y rfl rfl rfl ?hy56 ?_
                    case hy56 => exact Yl.move rfl rfl
                    rw [show ((i : Int) + t2) = ((i + t2 : Nat) : Int) by omega]
                    refine' TL.y rfl rfl rfl ?hy57 ?_
                    case hy57 => first | exact Yl.ixn rfl rfl rfl Tryd.underlying35 (by kernel_rfl) (by omega) | exact Yl.ixz rfl rfl rfl Tryd.underlying35 (by kernel_rfl) (by omega) (by omega) | exact Yl.ixcn rfl rfl rfl Tryd.underlying35 (by kernel_rfl) (by omega) | exact Yl.ixcz rfl rfl rfl Tryd.underlying35 (by kernel_rfl) (by omega) (by omega)
                    refine' TL.s rfl rfl ?hy58 ?_
                    case hy58 => first | exact Ys.row rfl rfl rfl rfl (by kernel_rfl) rfl foc0 (by omega) rfl | exact Ys.row rfl rfl rfl rfl (by kernel_rfl) rfl foc1 (by omega) rfl | exact Ys.row rfl rfl rfl rfl (by kernel_rfl) rfl foc2 (by omega) rfl | exact Ys.row rfl rfl rfl rfl (by kernel_rfl) rfl foc3 (by omega) rfl | exact Ys.row rfl rfl rfl rfl (by kernel_rfl) rfl foc4 (by omega) rfl | exact Ys.store rfl rfl rfl rfl (by kernel_rfl) (by simp [Value.oneCell', Value.cells]) foc0 (by simp [Value.cells]) rfl | exact Ys.store rfl rfl rfl rfl (by kernel_rfl) (by simp [Value.oneCell', Value.cells]) foc1 (by simp [Value.cells]) rfl | exact Ys.store rfl rfl rfl rfl (by kernel_rfl) (by simp [Value.oneCell', Value.cells]) foc2 (by simp [Value.cells]) rfl | exact Ys.store rfl rfl rfl rfl (by kernel_rfl) (by simp [Value.oneCell', Value.cells]) foc3 (by simp [Value.cells]) rfl | exact Ys.store rfl rfl rfl rfl (by kernel_rfl) (by simp [Value.oneCell', Value.cells]) foc4 (by simp [Value.cells]) rfl
                    refine TL.nil ?_
                    refine TE.inNormal ?_
                    refine TE.next ?_
                    refine TC.region ?_
                    refine' TL.y rfl rfl rfl ?hy59 ?_
                    case hy59 => exact Yl.move rfl rfl
                    refine' TL.y rfl rfl rfl ?hy60 ?_
                    case hy60 => first | (refine Yl.val (Yl.bin rfl rfl rfl (Bin.add _ _ _ _)) (congrArg (Value.int .i64) (i64in ?_ ?_)) <;> omega) | exact Yl.bin rfl rfl rfl (Bin.add _ _ _ _)
                    refine' TL.y rfl rfl rfl ?hy61 ?_
                    case hy61 => exact Yl.assign rfl rfl
                    refine TL.nil ?_
                    refine TE.round (t2 + 1) ?hF62 ?hlt62 ?hs62 ?hm62
                    case hF62 => omega
                    case hlt62 => omega
                    case hs62 => exact ⟨rfl, rfl, rfl, (by show some (Value.int .i64 ((i : Int) + t2 + 1)) = _; rw [show ((i : Int) + t2 + 1) = (i : Int) + ((t2 + 1 : Nat) : Int) by omega]), trivial⟩
                    case hm62 => exact fun w h => by rw [rset, fillB_succ] at h; exact h
                  · skip
                    (try simp only [decide_eq_true_eq, decide_eq_false_iff_not, beq_iff_eq, beq_eq_false_iff_ne, bne_iff_ne, ne_eq, bne_eq_false_iff_eq, Bool.not_eq_true', Bool.not_eq_false', Int.not_lt, Int.not_le, gt_iff_lt, ge_iff_le] at hs48)
                    refine TC.exit ?_
                    refine TE.thenExit ?_
                    refine TE.thenExit ?_
                    refine TE.inHere ?_
                    refine TE.next ?_
                    refine TC.seq ?_
                    refine TC.region ?_
                    refine' TL.y rfl rfl rfl ?hy63 ?_
                    case hy63 => exact Yl.move rfl rfl
                    refine' TL.y rfl rfl rfl ?hy64 ?_
                    case hy64 => exact Yl.assign rfl rfl
                    refine' TL.y rfl rfl rfl ?hy65 ?_
                    case hy65 => exact Yl.assign rfl rfl
                    refine TL.nil ?_
                    refine TE.next ?_
                    refine TC.ret ?_
                    refine TE.inRet ?_
                    refine TE.thenRet ?_
                    refine TE.thenRet ?_
                    refine TE.inRet ?_
                    refine TE.thenRet ?_
                    refine TE.ret2 rfl rfl rfl ?_
                    have e4 : fillB f i t2 = fillB f i k.toNat := by rw [show t2 = k.toNat by omega]
                    have hE := runA_some (k := k) (by omega) (runV_found (f := f) (n := n) (k := k.toNat) i (by omega) (fun p h1 h2 => ht2 hfr p h1 (by first | omega | (rw [hs31] at hfr; cases hfr))) hi2)
                    exact fun w h => ⟨(), by rw [hE.1], by rw [hE.2, ← e4]; exact (rpoolR_shut hn h).leave⟩
              · skip
                (try simp only [decide_eq_true_eq, decide_eq_false_iff_not, beq_iff_eq, beq_eq_false_iff_ne, bne_iff_ne, ne_eq, bne_eq_false_iff_eq, Bool.not_eq_true', Bool.not_eq_false', Int.not_lt, Int.not_le, gt_iff_lt, ge_iff_le] at hs42)
                have hNo : ¬ ∀ p, i ≤ p → p < i + k.toNat → f p = false := ht3 (by first | exact hs42 | simpa using hs42)
                refine TC.skip ?_
                refine TE.inNormal ?_
                refine TE.next ?_
                refine TC.region ?_
                refine' TL.y rfl rfl rfl ?hy66 ?_
                case hy66 => exact Yl.move rfl rfl
                refine' TL.y rfl rfl rfl ?hy67 ?_
                case hy67 => first | (refine Yl.val (Yl.bin rfl rfl rfl (Bin.add _ _ _ _)) (congrArg (Value.int .i64) (i64in ?_ ?_)) <;> omega) | exact Yl.bin rfl rfl rfl (Bin.add _ _ _ _)
                refine' TL.y rfl rfl rfl ?hy68 ?_
                case hy68 => exact Yl.assign rfl rfl
                refine TL.nil ?_
                refine TE.round (i + 1) ?hF69 ?hlt69 ?hs69 ?hm69
                case hF69 => exact ⟨by omega, fun j hj e => by
                  by_cases h : j = i
                  · rw [h] at e; exact hNo e
                  · exact hi2 j (by omega) e⟩
                case hlt69 => omega
                case hs69 => exact ⟨rfl, rfl, rfl, trivial⟩
                case hm69 => exact fun _ h => h
          · skip
            (try simp only [decide_eq_true_eq, decide_eq_false_iff_not, beq_iff_eq, beq_eq_false_iff_ne, bne_iff_ne, ne_eq, bne_eq_false_iff_eq, Bool.not_eq_true', Bool.not_eq_false', Int.not_lt, Int.not_le, gt_iff_lt, ge_iff_le] at hs29)
            refine TL.skip rfl rfl rfl ?_
            refine' TL.y rfl rfl rfl ?hy70 ?_
            case hy70 => exact Yl.pickF rfl rfl rfl
            refine TL.nil ?_
            refine TE.next ?_
            refine TC.no rfl rfl ?_
            refine TC.exit ?_
            refine TE.thenExit ?_
            refine TE.thenExit ?_
            refine TE.inHere ?_
            refine TE.next ?_
            refine TC.seq ?_
            refine TC.region ?_
            refine' TL.y rfl rfl rfl ?hy71 ?_
            case hy71 => exact Yl.move rfl rfl
            refine TL.nil ?_
            refine TE.next ?_
            refine TC.cond rfl (fun hs42 => ?_) (fun hs42 => ?_)
            · skip
              (try simp only [decide_eq_true_eq, decide_eq_false_iff_not, beq_iff_eq, beq_eq_false_iff_ne, bne_iff_ne, ne_eq, bne_eq_false_iff_eq, Bool.not_eq_true', Bool.not_eq_false', Int.not_lt, Int.not_le, gt_iff_lt, ge_iff_le] at hs42)
              have hfr : fr = true := by first | exact hs42 | simp_all
              refine TC.seq ?_
              refine TC.seq ?_
              refine TC.region ?_
              refine' TL.y rfl rfl rfl ?hy72 ?_
              case hy72 => exact Yl.move rfl rfl
              refine' TL.y rfl rfl rfl ?hy73 ?_
              case hy73 => exact Yl.assign rfl rfl
              refine TL.nil ?_
              refine TE.next ?_
              refine TC.block ?_
              refine TC.loop (σ := Nat) (fun t2 => [(0, .pointer (some ⟨p, 0, none⟩)), (1, .int .i64 k), (6, .int .i64 (i : Int)), (9, .int .i64 ((i : Int) + t2))]) (fun t2 => Hp W (rpoolR p c n f).foot [blk p (rpO c n), rowR c n (fillB f i t2)]) (fun t2 => (t2 : Int) ≤ k) (fun t2 => k.toNat - t2) 0 ?hF74 ?hs74 ?hm74 ?round74
              case hF74 => omega
              case hs74 => exact ⟨rfl, rfl, rfl, (by show some (Value.int .i64 (i : Int)) = _; simp), trivial⟩
              case hm74 => exact fun w h => by rw [fillB_zero]; exact h
              case round74 =>
                intro t2 ht4
                refine TC.seq ?_
                refine TC.seq ?_
                refine TC.region ?_
                refine' TL.y rfl rfl rfl ?hy75 ?_
                case hy75 => exact Yl.move rfl rfl
                refine' TL.y rfl rfl rfl ?hy76 ?_
                case hy76 => exact Yl.move rfl rfl
                refine' TL.y rfl rfl rfl ?hy77 ?_
                case hy77 => exact Yl.move rfl rfl
                refine' TL.y rfl rfl rfl ?hy78 ?_
                case hy78 => first | (refine Yl.val (Yl.bin rfl rfl rfl (Bin.add _ _ _ _)) (congrArg (Value.int .i64) (i64in ?_ ?_)) <;> omega) | exact Yl.bin rfl rfl rfl (Bin.add _ _ _ _)
                refine' TL.y rfl rfl rfl ?hy79 ?_
                case hy79 => exact Yl.bin rfl rfl rfl (Bin.lss _ _ _ _)
                refine TL.nil ?_
                refine TE.next ?_
                refine TC.cond rfl (fun hs48 => ?_) (fun hs48 => ?_)
                · skip
                  (try simp only [decide_eq_true_eq, decide_eq_false_iff_not, beq_iff_eq, beq_eq_false_iff_ne, bne_iff_ne, ne_eq, bne_eq_false_iff_eq, Bool.not_eq_true', Bool.not_eq_false', Int.not_lt, Int.not_le, gt_iff_lt, ge_iff_le] at hs48)
                  refine TC.skip ?_
                  refine TE.next ?_
                  refine TC.seq ?_
                  refine TC.block ?_
                  refine TC.region ?_
                  refine' TL.y rfl rfl rfl ?hy80 ?_
                  case hy80 => exact Yl.move rfl rfl
                  refine' TL.y rfl rfl rfl ?hy81 ?_
                  case hy81 => exact Yl.nilCheck rfl rfl
                  refine' TL.y rfl rfl rfl ?hy82 ?_
                  case hy82 => first | exact Yl.field0 (k := 0) 0 rfl rfl Tryd.underlying37 rfl (by kernel_rfl) rfl | exact Yl.field (k := 0) 0 rfl rfl Tryd.underlying37 rfl (by kernel_rfl) rfl
                  refine' TL.y rfl rfl rfl ?hy83 ?_
                  case hy83 => first | exact Yl.load rfl rfl (by kernel_rfl) (Hp.cell mem0 rfl) | exact Yl.load rfl rfl (by kernel_rfl) (Hp.cell mem1 rfl) | exact Yl.load rfl rfl (by kernel_rfl) (Hp.cell mem2 rfl) | exact Yl.load rfl rfl (by kernel_rfl) (Hp.cell mem3 rfl) | exact Yl.load rfl rfl (by kernel_rfl) (Hp.cell mem4 rfl) | exact Yl.load rfl rfl (by kernel_rfl) (Hp.rowAt mem0 (by omega) rfl) | exact Yl.load rfl rfl (by kernel_rfl) (Hp.rowAt mem1 (by omega) rfl) | exact Yl.load rfl rfl (by kernel_rfl) (Hp.rowAt mem2 (by omega) rfl) | exact Yl.load rfl rfl (by kernel_rfl) (Hp.rowAt mem3 (by omega) rfl) | exact Yl.load rfl rfl (by kernel_rfl) (Hp.rowAt mem4 (by omega) rfl)
                  refine' TL.y rfl rfl rfl ?hy84 ?_
                  case hy84 => exact Yl.move rfl rfl
                  rw [show ((i : Int) + t2) = ((i + t2 : Nat) : Int) by omega]
                  refine' TL.y rfl rfl rfl ?hy85 ?_
                  case hy85 => first | exact Yl.ixn rfl rfl rfl Tryd.underlying35 (by kernel_rfl) (by omega) | exact Yl.ixz rfl rfl rfl Tryd.underlying35 (by kernel_rfl) (by omega) (by omega) | exact Yl.ixcn rfl rfl rfl Tryd.underlying35 (by kernel_rfl) (by omega) | exact Yl.ixcz rfl rfl rfl Tryd.underlying35 (by kernel_rfl) (by omega) (by omega)
                  refine' TL.s rfl rfl ?hy86 ?_
                  case hy86 => first | exact Ys.row rfl rfl rfl rfl (by kernel_rfl) rfl foc0 (by omega) rfl | exact Ys.row rfl rfl rfl rfl (by kernel_rfl) rfl foc1 (by omega) rfl | exact Ys.row rfl rfl rfl rfl (by kernel_rfl) rfl foc2 (by omega) rfl | exact Ys.row rfl rfl rfl rfl (by kernel_rfl) rfl foc3 (by omega) rfl | exact Ys.row rfl rfl rfl rfl (by kernel_rfl) rfl foc4 (by omega) rfl | exact Ys.store rfl rfl rfl rfl (by kernel_rfl) (by simp [Value.oneCell', Value.cells]) foc0 (by simp [Value.cells]) rfl | exact Ys.store rfl rfl rfl rfl (by kernel_rfl) (by simp [Value.oneCell', Value.cells]) foc1 (by simp [Value.cells]) rfl | exact Ys.store rfl rfl rfl rfl (by kernel_rfl) (by simp [Value.oneCell', Value.cells]) foc2 (by simp [Value.cells]) rfl | exact Ys.store rfl rfl rfl rfl (by kernel_rfl) (by simp [Value.oneCell', Value.cells]) foc3 (by simp [Value.cells]) rfl | exact Ys.store rfl rfl rfl rfl (by kernel_rfl) (by simp [Value.oneCell', Value.cells]) foc4 (by simp [Value.cells]) rfl
                  refine TL.nil ?_
                  refine TE.inNormal ?_
                  refine TE.next ?_
                  refine TC.region ?_
                  refine' TL.y rfl rfl rfl ?hy87 ?_
                  case hy87 => exact Yl.move rfl rfl
                  refine' TL.y rfl rfl rfl ?hy88 ?_
                  case hy88 => first | (refine Yl.val (Yl.bin rfl rfl rfl (Bin.add _ _ _ _)) (congrArg (Value.int .i64) (i64in ?_ ?_)) <;> omega) | exact Yl.bin rfl rfl rfl (Bin.add _ _ _ _)
                  refine' TL.y rfl rfl rfl ?hy89 ?_
                  case hy89 => exact Yl.assign rfl rfl
                  refine TL.nil ?_
                  refine TE.round (t2 + 1) ?hF90 ?hlt90 ?hs90 ?hm90
                  case hF90 => omega
                  case hlt90 => omega
                  case hs90 => exact ⟨rfl, rfl, rfl, (by show some (Value.int .i64 ((i : Int) + t2 + 1)) = _; rw [show ((i : Int) + t2 + 1) = (i : Int) + ((t2 + 1 : Nat) : Int) by omega]), trivial⟩
                  case hm90 => exact fun w h => by rw [rset, fillB_succ] at h; exact h
                · skip
                  (try simp only [decide_eq_true_eq, decide_eq_false_iff_not, beq_iff_eq, beq_eq_false_iff_ne, bne_iff_ne, ne_eq, bne_eq_false_iff_eq, Bool.not_eq_true', Bool.not_eq_false', Int.not_lt, Int.not_le, gt_iff_lt, ge_iff_le] at hs48)
                  refine TC.exit ?_
                  refine TE.thenExit ?_
                  refine TE.thenExit ?_
                  refine TE.inHere ?_
                  refine TE.next ?_
                  refine TC.seq ?_
                  refine TC.region ?_
                  refine' TL.y rfl rfl rfl ?hy91 ?_
                  case hy91 => exact Yl.move rfl rfl
                  refine' TL.y rfl rfl rfl ?hy92 ?_
                  case hy92 => exact Yl.assign rfl rfl
                  refine' TL.y rfl rfl rfl ?hy93 ?_
                  case hy93 => exact Yl.assign rfl rfl
                  refine TL.nil ?_
                  refine TE.next ?_
                  refine TC.ret ?_
                  refine TE.inRet ?_
                  refine TE.thenRet ?_
                  refine TE.thenRet ?_
                  refine TE.inRet ?_
                  refine TE.thenRet ?_
                  refine TE.ret2 rfl rfl rfl ?_
                  have e4 : fillB f i t2 = fillB f i k.toNat := by rw [show t2 = k.toNat by omega]
                  have hE := runA_some (k := k) (by omega) (runV_found (f := f) (n := n) (k := k.toNat) i (by omega) (fun p h1 h2 => ht2 hfr p h1 (by first | omega | (rw [hs31] at hfr; cases hfr))) hi2)
                  exact fun w h => ⟨(), by rw [hE.1], by rw [hE.2, ← e4]; exact (rpoolR_shut hn h).leave⟩
            · skip
              (try simp only [decide_eq_true_eq, decide_eq_false_iff_not, beq_iff_eq, beq_eq_false_iff_ne, bne_iff_ne, ne_eq, bne_eq_false_iff_eq, Bool.not_eq_true', Bool.not_eq_false', Int.not_lt, Int.not_le, gt_iff_lt, ge_iff_le] at hs42)
              have hNo : ¬ ∀ p, i ≤ p → p < i + k.toNat → f p = false := ht3 (by first | exact hs42 | simpa using hs42)
              refine TC.skip ?_
              refine TE.inNormal ?_
              refine TE.next ?_
              refine TC.region ?_
              refine' TL.y rfl rfl rfl ?hy94 ?_
              case hy94 => exact Yl.move rfl rfl
              refine' TL.y rfl rfl rfl ?hy95 ?_
              case hy95 => first | (refine Yl.val (Yl.bin rfl rfl rfl (Bin.add _ _ _ _)) (congrArg (Value.int .i64) (i64in ?_ ?_)) <;> omega) | exact Yl.bin rfl rfl rfl (Bin.add _ _ _ _)
              refine' TL.y rfl rfl rfl ?hy96 ?_
              case hy96 => exact Yl.assign rfl rfl
              refine TL.nil ?_
              refine TE.round (i + 1) ?hF97 ?hlt97 ?hs97 ?hm97
              case hF97 => exact ⟨by omega, fun j hj e => by
                by_cases h : j = i
                · rw [h] at e; exact hNo e
                · exact hi2 j (by omega) e⟩
              case hlt97 => omega
              case hs97 => exact ⟨rfl, rfl, rfl, trivial⟩
              case hm97 => exact fun _ h => h
      · skip
        (try simp only [decide_eq_true_eq, decide_eq_false_iff_not, beq_iff_eq, beq_eq_false_iff_ne, bne_iff_ne, ne_eq, bne_eq_false_iff_eq, Bool.not_eq_true', Bool.not_eq_false', Int.not_lt, Int.not_le, gt_iff_lt, ge_iff_le] at hs20)
        refine TC.exit ?_
        refine TE.thenExit ?_
        refine TE.thenExit ?_
        refine TE.inHere ?_
        refine TE.next ?_
        refine TC.seq ?_
        refine TC.region ?_
        refine' TL.y rfl rfl rfl ?hy98 ?_
        case hy98 => exact Yl.assign rfl rfl
        refine' TL.y rfl rfl rfl ?hy99 ?_
        case hy99 => exact Yl.assign rfl rfl
        refine TL.nil ?_
        refine TE.next ?_
        refine TC.ret ?_
        refine TE.ret2 rfl rfl rfl ?_
        have hE := runA_none (k := k) (by omega) (runV_none (f := f) (n := n) (k := k.toNat) (fun j hj => hi2 j (by omega)))
        exact fun w h => ⟨(), by rw [hE.1], by rw [hE.2]; exact (rpoolR_shut hn h).leave⟩
set_option maxRecDepth 100000 in
set_option maxHeartbeats 2000000 in
theorem k_rtake {p c n : Nat} {f : Nat → Bool} : Turn Tryd.prog 13 #[.pointer (some ⟨p, 0, none⟩)] (rpoolR p c n f) (.tuple #[.int .i64 (runA f n 1).1, .int .i64 (runA f n 1).2]) (rpoolR p c n (runF f n 1)) := by
  intro W hR
  refine TC.enter (n := 8) Tryd.func13 rfl rfl rfl (Hp.enter hR) ?_
  refine TC.seq ?_
  refine TC.region ?_
  refine' TL.y rfl rfl rfl ?hy1 ?_
  case hy1 => exact Yl.assign rfl rfl
  refine' TL.y rfl rfl rfl ?hy2 ?_
  case hy2 => exact Yl.assign rfl rfl
  refine TL.nil ?_
  refine TE.next ?_
  refine TC.seq ?_
  refine TC.region ?_
  refine' TL.y rfl rfl rfl ?hy3 ?_
  case hy3 => exact Yl.move rfl rfl
  refine' TL.c rfl rfl rfl ?hy4 ?_
  case hy4 => exact Yc.call rfl Tryd.func17 (by kernel_rfl) rfl rfl (Hp.turn1 mem0 foc0 (k_rrun 1 (by decide)))
  intro _
  refine' TL.y rfl rfl rfl ?hy5 ?_
  case hy5 => exact Yl.extract rfl rfl rfl
  refine' TL.y rfl rfl rfl ?hy6 ?_
  case hy6 => exact Yl.extract rfl rfl rfl
  refine' TL.y rfl rfl rfl ?hy7 ?_
  case hy7 => exact Yl.assign rfl rfl
  refine' TL.y rfl rfl rfl ?hy8 ?_
  case hy8 => exact Yl.assign rfl rfl
  refine TL.nil ?_
  refine TE.next ?_
  refine TC.ret ?_
  refine TE.ret2 rfl rfl rfl ?_
  exact fun w h => ⟨(), rfl, h.leave⟩
end Go.Proofs.YtafcmeoidcgmdaaDoor.Pk
