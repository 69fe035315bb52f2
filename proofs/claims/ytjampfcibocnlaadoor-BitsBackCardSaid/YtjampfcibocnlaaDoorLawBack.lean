/- The walk through BitsBack. -/
import Derived.Test.YtjampfcibocnlaaDoorWorks
import Derived.Test.YtjampfcibocnlaaDoorProg
import Derived.RowKit3
namespace Go.Proofs.YtjampfcibocnlaaDoor.Pk
open Go Go.RowKit Go.Proofs.YtjampfcibocnlaaDoor.HL Go.Proofs.YtjampfcibocnlaaDoor.BM
set_option linter.unusedVariables false
set_option linter.unusedSimpArgs false
attribute [local irreducible] rowA
theorem packS_range (ws vs : List Int) : 0 ≤ (packS ws vs).1 ∧ (packS ws vs).1 < 18446744073709551616 := by
  unfold packS
  split
  · rename_i h
    have := packG_lt ws vs 0 0 h.1 (by decide) (Int.le_refl 0) (by decide)
    exact ⟨this.1, this.2.1⟩
  · exact ⟨by decide, by decide⟩
theorem k_un (W : World) (ws : List Int) (x : Int) (A : Option Addr) (cp : Nat) (hS : Sl W A (ws.map (Value.int .i64))) (hl : ws.length ≤ 1000) (hx0 : 0 ≤ x) (hx1 : x < 18446744073709551616) : Calls Go.Proofs.Tryd.prog 25 #[.slice A ws.length cp, .int .u64 x] W fun e w' => ∃ v, e = .returned (.tuple #[v, .int .i64 (unS ws x).2]) ∧ (ownR 3 1 v (unS ws x).1.length ((unS ws x).1.map (Value.int .i64))).holds w' ∧ Below W.heap.size W w' ∧ ∀ kk, (ownR 3 1 v (unS ws x).1.length ((unS ws x).1.map (Value.int .i64))).foot kk → W.heap.size ≤ kk := by
  by_cases h : okW ws 0 = true
  · exact k_un_ok W ws x A cp hS hl hx0 hx1 h
  · exact k_un_bad W ws x A cp hS hl hx0 hx1 h
theorem k_run (W : World) (ws : List Int) (x : Int) (A : Option Addr) (cp : Nat) (hS : Sl W A (ws.map (Value.int .i64))) (hl : ws.length ≤ 1000) (hx0 : 0 ≤ x) (hx1 : x < 18446744073709551616) : Calls Go.Proofs.Tryd.prog 26 #[.slice A ws.length cp, .int .u64 x] W fun e w' => ∃ v, e = .returned (.tuple #[v, .int .i64 (unS ws x).2]) ∧ (ownR 3 1 v (unS ws x).1.length ((unS ws x).1.map (Value.int .i64))).holds w' ∧ Below W.heap.size W w' ∧ ∀ kk, (ownR 3 1 v (unS ws x).1.length ((unS ws x).1.map (Value.int .i64))).foot kk → W.heap.size ≤ kk := by
  by_cases h : okW ws 0 = true
  · exact k_run_ok W ws x A cp hS hl hx0 hx1 h
  · exact k_run_bad W ws x A cp hS hl hx0 hx1 h
theorem unS_len (ws : List Int) (x : Int) : (unS ws x).1.length ≤ ws.length := by
  unfold unS
  split
  · rw [unG_length]; exact Nat.le_refl _
  · exact Nat.zero_le _
theorem unG_wf : ∀ (ws : List Int) (n x : Int), okW ws n = true → wfI (unG ws x)
  | [], n, x, _ => by intro y hy; simp [unG] at hy
  | w :: ws, n, x, h => by
    obtain ⟨h1, h2, h3, h4⟩ := okW_cons h
    intro y hy
    unfold unG at hy
    rcases List.mem_cons.1 hy with rfl | hy
    · have p := pow62 h1 h2
      have q1 := Int.emod_nonneg x (Int.ne_of_gt p.2.1)
      have q2 := Int.emod_lt_of_pos x p.2.1
      omega
    · exact unG_wf ws _ _ h4 y hy
theorem unS_wf (ws : List Int) (x : Int) : wfI (unS ws x).1 := by
  unfold unS
  split
  · rename_i h; exact unG_wf ws 0 x h.1
  · intro y hy; simp at hy
set_option maxRecDepth 100000 in
set_option maxHeartbeats 2000000 in
theorem law_Back (W : World) (hT : TabOK W) (ws : List Int) (A : Option Addr) (cp : Nat) (hS : Sl W A (ws.map (Value.int .i64))) (xws : ws.length ≤ 9223372036854775807) (vs : List Int) (B : Option Addr) (cq : Nat) (hS2 : Sl W B (vs.map (Value.int .i64))) (xvs : vs.length ≤ 9223372036854775807) (x : Int) (hx0 : 0 ≤ x) (hx1 : x < 18446744073709551616) (hv : wfI vs) : Calls Tryd.prog 6 #[.slice A ws.length cp, .slice B vs.length cq, .int .u64 x] W fun e w' => e = .returned (.bool true) ∧ Below W.heap.size W w' := by
  have hM : Hp W (fun _ => False) [] W := Hp.start
  refine TC.enter (n := 80) Tryd.func6 rfl rfl rfl hM ?_
  refine TC.seq ?_
  refine TC.region ?_
  refine' TL.y rfl rfl rfl ?hy1 ?_
  case hy1 => exact Yl.assign rfl rfl
  refine TL.nil ?_
  refine TE.next ?_
  refine TC.seq ?_
  refine TC.region ?_
  refine' TL.c rfl rfl rfl ?hy2 ?_
  case hy2 => exact Yc.call rfl Tryd.func11 (by kernel_rfl) rfl rfl (Hp.calls (fun w h => k_works w (hT.below h.below)))
  intro _
  refine' TL.y rfl rfl rfl ?hy3 ?_
  case hy3 => exact Yl.assign rfl rfl
  refine TL.nil ?_
  refine TE.next ?_
  refine TC.seq ?_
  refine TC.seq ?_
  refine TC.region ?_
  refine' TL.y rfl rfl rfl ?hy4 ?_
  case hy4 => exact Yl.move rfl rfl
  refine' TL.y rfl rfl rfl ?hy5 ?_
  case hy5 => exact Yl.not rfl rfl
  refine TL.nil ?_
  refine TE.next ?_
  refine TC.no rfl rfl ?_
  refine TC.skip ?_
  refine TE.next ?_
  refine TC.seq ?_
  refine TC.seq ?_
  refine TC.region ?_
  refine' TL.y rfl rfl rfl ?hy6 ?_
  case hy6 => exact Yl.move rfl rfl
  refine' TL.y rfl rfl rfl ?hy7 ?_
  case hy7 => exact Yl.len rfl rfl Tryd.underlying39
  refine' TL.y rfl rfl rfl ?hy8 ?_
  case hy8 => exact Yl.bin rfl rfl rfl (Bin.gtr _ _ _ _)
  refine' TL.y rfl rfl rfl ?hy9 ?_
  case hy9 => exact Yl.move rfl rfl
  refine TL.split (i := 22) rfl (fun hs22 => ?_) (fun hs22 => ?_)
  · skip
    (try simp only [decide_eq_true_eq, decide_eq_false_iff_not, beq_iff_eq, beq_eq_false_iff_ne, bne_iff_ne, ne_eq, bne_eq_false_iff_eq, Bool.not_eq_true', Bool.not_eq_false', Int.not_lt, Int.not_le, gt_iff_lt, ge_iff_le] at hs22)
    refine TL.skip rfl rfl rfl ?_
    refine TL.skip rfl rfl rfl ?_
    refine TL.skip rfl rfl rfl ?_
    refine' TL.y rfl rfl rfl ?hy10 ?_
    case hy10 => exact Yl.pickT rfl rfl rfl
    refine TL.nil ?_
    refine TE.next ?_
    refine TC.yes rfl rfl ?_
    refine TC.seq ?_
    refine TC.region ?_
    refine' TL.y rfl rfl rfl ?hy11 ?_
    case hy11 => exact Yl.move rfl rfl
    refine' TL.y rfl rfl rfl ?hy12 ?_
    case hy12 => exact Yl.assign rfl rfl
    refine TL.nil ?_
    refine TE.next ?_
    refine TC.ret ?_
    refine TE.thenRet ?_
    refine TE.ret1 rfl rfl ?_
    exact fun w h => ⟨congrArg (fun b => Ending.returned (Value.bool b)) (by first | rfl | (simp; done) | (rw [(unS_bad ws x hs57).1]; rfl) : _ = true), h.below⟩
  · skip
    (try simp only [decide_eq_true_eq, decide_eq_false_iff_not, beq_iff_eq, beq_eq_false_iff_ne, bne_iff_ne, ne_eq, bne_eq_false_iff_eq, Bool.not_eq_true', Bool.not_eq_false', Int.not_lt, Int.not_le, gt_iff_lt, ge_iff_le] at hs22)
    refine' TL.y rfl rfl rfl ?hy13 ?_
    case hy13 => exact Yl.move rfl rfl
    refine' TL.y rfl rfl rfl ?hy14 ?_
    case hy14 => exact Yl.len rfl rfl Tryd.underlying39
    refine' TL.y rfl rfl rfl ?hy15 ?_
    case hy15 => exact Yl.bin rfl rfl rfl (Bin.gtr _ _ _ _)
    refine' TL.y rfl rfl rfl ?hy16 ?_
    case hy16 => exact Yl.pickF rfl rfl rfl
    refine TL.nil ?_
    refine TE.next ?_
    refine TC.cond rfl (fun hs26 => ?_) (fun hs26 => ?_)
    · skip
      (try simp only [decide_eq_true_eq, decide_eq_false_iff_not, beq_iff_eq, beq_eq_false_iff_ne, bne_iff_ne, ne_eq, bne_eq_false_iff_eq, Bool.not_eq_true', Bool.not_eq_false', Int.not_lt, Int.not_le, gt_iff_lt, ge_iff_le] at hs26)
      refine TC.seq ?_
      refine TC.region ?_
      refine' TL.y rfl rfl rfl ?hy17 ?_
      case hy17 => exact Yl.move rfl rfl
      refine' TL.y rfl rfl rfl ?hy18 ?_
      case hy18 => exact Yl.assign rfl rfl
      refine TL.nil ?_
      refine TE.next ?_
      refine TC.ret ?_
      refine TE.thenRet ?_
      refine TE.ret1 rfl rfl ?_
      exact fun w h => ⟨congrArg (fun b => Ending.returned (Value.bool b)) (by first | rfl | (simp; done) | (rw [(unS_bad ws x hs57).1]; rfl) : _ = true), h.below⟩
    · skip
      (try simp only [decide_eq_true_eq, decide_eq_false_iff_not, beq_iff_eq, beq_eq_false_iff_ne, bne_iff_ne, ne_eq, bne_eq_false_iff_eq, Bool.not_eq_true', Bool.not_eq_false', Int.not_lt, Int.not_le, gt_iff_lt, ge_iff_le] at hs26)
      refine TC.skip ?_
      refine TE.next ?_
      refine TC.seq ?_
      refine TC.region ?_
      refine' TL.y rfl rfl rfl ?hy19 ?_
      case hy19 => exact Yl.move rfl rfl
      refine' TL.y rfl rfl rfl ?hy20 ?_
      case hy20 => exact Yl.move rfl rfl
      refine' TL.c rfl rfl rfl ?hy21 ?_
      case hy21 => exact Yc.call rfl Tryd.func23 (by kernel_rfl) rfl rfl (Hp.calls (fun w h => k_pack w ws vs A B cp cq (hS.below h.below) (hS2.below h.below) (by omega) (by omega) hv))
      intro _
      refine' TL.y rfl rfl rfl ?hy22 ?_
      case hy22 => exact Yl.move rfl rfl
      refine' TL.y rfl rfl rfl ?hy23 ?_
      case hy23 => exact Yl.extract rfl rfl rfl
      refine' TL.y rfl rfl rfl ?hy24 ?_
      case hy24 => exact Yl.extract rfl rfl rfl
      refine' TL.y rfl rfl rfl ?hy25 ?_
      case hy25 => exact Yl.assign rfl rfl
      refine' TL.y rfl rfl rfl ?hy26 ?_
      case hy26 => exact Yl.assign rfl rfl
      refine TL.nil ?_
      refine TE.next ?_
      refine TC.meet (σ := Unit) (fun _ => [(0, .slice A ws.length cp), (1, .slice B vs.length cq), (2, .int .u64 x), (7, .bool true)]) (fun _ => Hp W (fun _ => False) []) (fun _ => True) ?hx27 ?hy27
      case hx27 =>
        refine TC.seq ?_
        refine TC.region ?_
        refine' TL.y rfl rfl rfl ?hy28 ?_
        case hy28 => exact Yl.move rfl rfl
        refine' TL.y rfl rfl rfl ?hy29 ?_
        case hy29 => exact Yl.bin rfl rfl rfl (Bin.eql _ _ _ _)
        refine TL.nil ?_
        refine TE.next ?_
        refine TC.cond rfl (fun hs35 => ?_) (fun hs35 => ?_)
        · skip
          (try simp only [decide_eq_true_eq, decide_eq_false_iff_not, beq_iff_eq, beq_eq_false_iff_ne, bne_iff_ne, ne_eq, bne_eq_false_iff_eq, Bool.not_eq_true', Bool.not_eq_false', Int.not_lt, Int.not_le, gt_iff_lt, ge_iff_le] at hs35)
          refine TC.seq ?_
          refine TC.region ?_
          refine' TL.y rfl rfl rfl ?hy30 ?_
          case hy30 => exact Yl.move rfl rfl
          refine' TL.y rfl rfl rfl ?hy31 ?_
          case hy31 => exact Yl.move rfl rfl
          refine' TL.c rfl rfl rfl ?hy32 ?_
          case hy32 => exact Yc.call rfl Tryd.func25 (by kernel_rfl) rfl rfl (Hp.news (fun w h => k_un w ws (packS ws vs).1 A cp (hS.below h.below) (by omega) (packS_range ws vs).1 (packS_range ws vs).2))
          intro v1
          have hq := (back_pack ws vs hs35).1
          have hq2 := (back_pack ws vs hs35).2
          rw [hq]
          refine TL.fact (Hp.ownSl mem0) ?_
          rintro ⟨A1, c1, rfl⟩
          refine' TL.y rfl rfl rfl ?hy33 ?_
          case hy33 => exact Yl.move rfl rfl
          refine' TL.y rfl rfl rfl ?hy34 ?_
          case hy34 => exact Yl.extract rfl rfl rfl
          refine' TL.y rfl rfl rfl ?hy35 ?_
          case hy35 => exact Yl.extract rfl rfl rfl
          refine' TL.y rfl rfl rfl ?hy36 ?_
          case hy36 => exact Yl.assign rfl rfl
          refine' TL.y rfl rfl rfl ?hy37 ?_
          case hy37 => exact Yl.assign rfl rfl
          refine TL.nil ?_
          refine TE.next ?_
          refine TC.seq ?_
          refine TC.region ?_
          refine' TL.y rfl rfl rfl ?hy38 ?_
          case hy38 => exact Yl.move rfl rfl
          refine' TL.y rfl rfl rfl ?hy39 ?_
          case hy39 => exact Yl.bin rfl rfl rfl (Bin.neq _ _ _ _)
          refine' TL.y rfl rfl rfl ?hy40 ?_
          case hy40 => exact Yl.move rfl rfl
          refine TL.re (i := 44) (v' := .bool false) rfl (congrArg Value.bool (rfl)) ?_
          refine' TL.y rfl rfl rfl ?hy41 ?_
          case hy41 => exact Yl.move rfl rfl
          refine' TL.y rfl rfl rfl ?hy42 ?_
          case hy42 => exact Yl.move rfl rfl
          refine' TL.c rfl rfl rfl ?hy43 ?_
          case hy43 => exact Yc.call rfl Tryd.func27 (by kernel_rfl) rfl rfl (Hp.calls (fun w h => k_same w vs vs A1 B c1 cq (Sl.ofOwn (h.all _ mem0)) (hS2.below h.below) (by omega)))
          intro _
          refine' TL.y rfl rfl rfl ?hy44 ?_
          case hy44 => exact Yl.not rfl rfl
          refine' TL.y rfl rfl rfl ?hy45 ?_
          case hy45 => exact Yl.pickF rfl rfl rfl
          refine TL.nil ?_
          refine TE.next ?_
          refine TC.no rfl (by simp) ?_
          refine TC.skip ?_
          refine TE.met () ?hF46 ?hs46 ?hm46
          case hF46 => trivial
          case hs46 => exact ⟨rfl, rfl, rfl, rfl, trivial⟩
          case hm46 => exact fun w h => h.sub (List.nil_sublist _)
        · skip
          (try simp only [decide_eq_true_eq, decide_eq_false_iff_not, beq_iff_eq, beq_eq_false_iff_ne, bne_iff_ne, ne_eq, bne_eq_false_iff_eq, Bool.not_eq_true', Bool.not_eq_false', Int.not_lt, Int.not_le, gt_iff_lt, ge_iff_le] at hs35)
          refine TC.skip ?_
          refine TE.met () ?hF47 ?hs47 ?hm47
          case hF47 => trivial
          case hs47 => exact ⟨rfl, rfl, rfl, rfl, trivial⟩
          case hm47 => exact fun w h => h.sub (List.nil_sublist _)
      case hy27 =>
        intro _ _
        refine TC.seq ?_
        refine TC.region ?_
        refine' TL.y rfl rfl rfl ?hy48 ?_
        case hy48 => exact Yl.move rfl rfl
        refine' TL.y rfl rfl rfl ?hy49 ?_
        case hy49 => exact Yl.move rfl rfl
        refine' TL.c rfl rfl rfl ?hy50 ?_
        case hy50 => exact Yc.call rfl Tryd.func25 (by kernel_rfl) rfl rfl (Hp.news (fun w h => k_un w ws x A cp (hS.below h.below) (by omega) hx0 hx1))
        intro v2
        refine TL.fact (Hp.ownSl mem0) ?_
        rintro ⟨A2, c2, rfl⟩
        refine' TL.y rfl rfl rfl ?hy51 ?_
        case hy51 => exact Yl.move rfl rfl
        refine' TL.y rfl rfl rfl ?hy52 ?_
        case hy52 => exact Yl.extract rfl rfl rfl
        refine' TL.y rfl rfl rfl ?hy53 ?_
        case hy53 => exact Yl.extract rfl rfl rfl
        refine' TL.y rfl rfl rfl ?hy54 ?_
        case hy54 => exact Yl.assign rfl rfl
        refine' TL.y rfl rfl rfl ?hy55 ?_
        case hy55 => exact Yl.assign rfl rfl
        refine TL.nil ?_
        refine TE.next ?_
        refine TC.seq ?_
        refine TC.seq ?_
        refine TC.region ?_
        refine' TL.y rfl rfl rfl ?hy56 ?_
        case hy56 => exact Yl.move rfl rfl
        refine' TL.y rfl rfl rfl ?hy57 ?_
        case hy57 => exact Yl.bin rfl rfl rfl (Bin.neq _ _ _ _)
        refine TL.nil ?_
        refine TE.next ?_
        refine TC.cond rfl (fun hs57 => ?_) (fun hs57 => ?_)
        · skip
          (try simp only [decide_eq_true_eq, decide_eq_false_iff_not, beq_iff_eq, beq_eq_false_iff_ne, bne_iff_ne, ne_eq, bne_eq_false_iff_eq, Bool.not_eq_true', Bool.not_eq_false', Int.not_lt, Int.not_le, gt_iff_lt, ge_iff_le] at hs57)
          refine TC.seq ?_
          refine TC.region ?_
          refine' TL.y rfl rfl rfl ?hy58 ?_
          case hy58 => exact Yl.move rfl rfl
          refine' TL.y rfl rfl rfl ?hy59 ?_
          case hy59 => exact Yl.move rfl rfl
          refine' TL.y rfl rfl rfl ?hy60 ?_
          case hy60 => exact Yl.move rfl rfl
          refine' TL.y rfl rfl rfl ?hy61 ?_
          case hy61 => exact Yl.len rfl rfl Tryd.underlying39
          refine' TL.y rfl rfl rfl ?hy62 ?_
          case hy62 => exact Yl.bin rfl rfl rfl (Bin.eql _ _ _ _)
          refine' TL.y rfl rfl rfl ?hy63 ?_
          case hy63 => exact Yl.pickT rfl rfl rfl
          refine' TL.y rfl rfl rfl ?hy64 ?_
          case hy64 => exact Yl.assign rfl rfl
          refine TL.nil ?_
          refine TE.next ?_
          refine TC.ret ?_
          refine TE.thenRet ?_
          refine TE.ret1 rfl rfl ?_
          exact fun w h => ⟨congrArg (fun b => Ending.returned (Value.bool b)) (by first | rfl | (simp; done) | (rw [(unS_bad ws x hs57).1]; rfl) : _ = true), h.below⟩
        · skip
          (try simp only [decide_eq_true_eq, decide_eq_false_iff_not, beq_iff_eq, beq_eq_false_iff_ne, bne_iff_ne, ne_eq, bne_eq_false_iff_eq, Bool.not_eq_true', Bool.not_eq_false', Int.not_lt, Int.not_le, gt_iff_lt, ge_iff_le] at hs57)
          refine TC.skip ?_
          refine TE.next ?_
          refine TC.seq ?_
          refine TC.region ?_
          refine' TL.y rfl rfl rfl ?hy65 ?_
          case hy65 => exact Yl.move rfl rfl
          refine' TL.y rfl rfl rfl ?hy66 ?_
          case hy66 => exact Yl.move rfl rfl
          refine' TL.c rfl rfl rfl ?hy67 ?_
          case hy67 => exact Yc.call rfl Tryd.func23 (by kernel_rfl) rfl rfl (Hp.calls (fun w h => k_pack w ws (unS ws x).1 A A2 cp c2 (hS.below h.below) (Sl.ofOwn (h.all _ mem0)) (by omega) (by have := unS_len ws x; omega) (unS_wf ws x)))
          intro _
          rw [back_un ws x hx0 hs57]
          refine' TL.y rfl rfl rfl ?hy68 ?_
          case hy68 => exact Yl.move rfl rfl
          refine' TL.y rfl rfl rfl ?hy69 ?_
          case hy69 => exact Yl.extract rfl rfl rfl
          refine' TL.y rfl rfl rfl ?hy70 ?_
          case hy70 => exact Yl.extract rfl rfl rfl
          refine' TL.y rfl rfl rfl ?hy71 ?_
          case hy71 => exact Yl.assign rfl rfl
          refine' TL.y rfl rfl rfl ?hy72 ?_
          case hy72 => exact Yl.assign rfl rfl
          refine TL.nil ?_
          refine TE.next ?_
          refine TC.seq ?_
          refine TC.region ?_
          refine' TL.y rfl rfl rfl ?hy73 ?_
          case hy73 => exact Yl.move rfl rfl
          refine' TL.y rfl rfl rfl ?hy74 ?_
          case hy74 => exact Yl.move rfl rfl
          refine' TL.y rfl rfl rfl ?hy75 ?_
          case hy75 => exact Yl.move rfl rfl
          refine' TL.y rfl rfl rfl ?hy76 ?_
          case hy76 => exact Yl.bin rfl rfl rfl (Bin.eql _ _ _ _)
          refine' TL.y rfl rfl rfl ?hy77 ?_
          case hy77 => exact Yl.pickT rfl rfl rfl
          refine' TL.y rfl rfl rfl ?hy78 ?_
          case hy78 => exact Yl.move rfl rfl
          refine TL.re (i := 75) (v' := .bool true) rfl (congrArg Value.bool (by simp)) ?_
          refine' TL.y rfl rfl rfl ?hy79 ?_
          case hy79 => exact Yl.move rfl rfl
          refine' TL.y rfl rfl rfl ?hy80 ?_
          case hy80 => exact Yl.move rfl rfl
          refine' TL.y rfl rfl rfl ?hy81 ?_
          case hy81 => exact Yl.bin rfl rfl rfl (Bin.eql _ _ _ _)
          refine' TL.y rfl rfl rfl ?hy82 ?_
          case hy82 => exact Yl.pickT rfl rfl rfl
          refine' TL.y rfl rfl rfl ?hy83 ?_
          case hy83 => exact Yl.assign rfl rfl
          refine TL.nil ?_
          refine TE.next ?_
          refine TC.ret ?_
          refine TE.ret1 rfl rfl ?_
          exact fun w h => ⟨congrArg (fun b => Ending.returned (Value.bool b)) (by first | rfl | (simp; done) | (rw [(unS_bad ws x hs57).1]; rfl) : _ = true), h.below⟩
end Go.Proofs.YtjampfcibocnlaaDoor.Pk
