/- The walk through BitsFields. -/
import Derived.Test.YtjampfcibocnlaaDoorWorks
import Derived.Test.YtjampfcibocnlaaDoorProg
import Derived.RowKit3
namespace Go.Proofs.YtjampfcibocnlaaDoor.Pk
open Go Go.RowKit Go.Proofs.YtjampfcibocnlaaDoor.HL Go.Proofs.YtjampfcibocnlaaDoor.BM
set_option linter.unusedVariables false
set_option linter.unusedSimpArgs false
attribute [local irreducible] rowA
theorem packS_range (ws vs : List Int) : 0 ≤ (packS ws vs).1 ∧ (packS ws vs).1 < 18446744073709551616 := by
  unfold packS
  split
  · rename_i h
    have := packG_lt ws vs 0 0 h.1 (by decide) (Int.le_refl 0) (by decide)
    exact ⟨this.1, this.2.1⟩
  · exact ⟨by decide, by decide⟩
theorem k_un (W : World) (ws : List Int) (x : Int) (A : Option Addr) (cp : Nat) (hS : Sl W A (ws.map (Value.int .i64))) (hl : ws.length ≤ 1000) (hx0 : 0 ≤ x) (hx1 : x < 18446744073709551616) : Calls Go.Proofs.Tryd.prog 25 #[.slice A ws.length cp, .int .u64 x] W fun e w' => ∃ v, e = .returned (.tuple #[v, .int .i64 (unS ws x).2]) ∧ (ownR 3 1 v (unS ws x).1.length ((unS ws x).1.map (Value.int .i64))).holds w' ∧ Below W.heap.size W w' ∧ ∀ kk, (ownR 3 1 v (unS ws x).1.length ((unS ws x).1.map (Value.int .i64))).foot kk → W.heap.size ≤ kk := by
  by_cases h : okW ws 0 = true
  · exact k_un_ok W ws x A cp hS hl hx0 hx1 h
  · exact k_un_bad W ws x A cp hS hl hx0 hx1 h
theorem k_run (W : World) (ws : List Int) (x : Int) (A : Option Addr) (cp : Nat) (hS : Sl W A (ws.map (Value.int .i64))) (hl : ws.length ≤ 1000) (hx0 : 0 ≤ x) (hx1 : x < 18446744073709551616) : Calls Go.Proofs.Tryd.prog 26 #[.slice A ws.length cp, .int .u64 x] W fun e w' => ∃ v, e = .returned (.tuple #[v, .int .i64 (unS ws x).2]) ∧ (ownR 3 1 v (unS ws x).1.length ((unS ws x).1.map (Value.int .i64))).holds w' ∧ Below W.heap.size W w' ∧ ∀ kk, (ownR 3 1 v (unS ws x).1.length ((unS ws x).1.map (Value.int .i64))).foot kk → W.heap.size ≤ kk := by
  by_cases h : okW ws 0 = true
  · exact k_run_ok W ws x A cp hS hl hx0 hx1 h
  · exact k_run_bad W ws x A cp hS hl hx0 hx1 h
theorem unS_len (ws : List Int) (x : Int) : (unS ws x).1.length ≤ ws.length := by
  unfold unS
  split
  · rw [unG_length]; exact Nat.le_refl _
  · exact Nat.zero_le _
theorem unG_wf : ∀ (ws : List Int) (n x : Int), okW ws n = true → wfI (unG ws x)
  | [], n, x, _ => by intro y hy; simp [unG] at hy
  | w :: ws, n, x, h => by
    obtain ⟨h1, h2, h3, h4⟩ := okW_cons h
    intro y hy
    unfold unG at hy
    rcases List.mem_cons.1 hy with rfl | hy
    · have p := pow62 h1 h2
      have q1 := Int.emod_nonneg x (Int.ne_of_gt p.2.1)
      have q2 := Int.emod_lt_of_pos x p.2.1
      omega
    · exact unG_wf ws _ _ h4 y hy
theorem unS_wf (ws : List Int) (x : Int) : wfI (unS ws x).1 := by
  unfold unS
  split
  · rename_i h; exact unG_wf ws 0 x h.1
  · intro y hy; simp at hy
theorem take_facts : ∀ (ws : List Int) (m : Int) (k : Nat), okW ws m = true → m ≤ 64 → k < ws.length → 0 ≤ sumW (ws.take k) ∧ m + sumW (ws.take k) ≤ 64 ∧ 0 ≤ ws.getD k 0 ∧ ws.getD k 0 ≤ 62 ∧ sumW (ws.take (k + 1)) = sumW (ws.take k) + ws.getD k 0
  | [], m, k, _, _, h => by simp at h
  | w :: ws, m, 0, h, hm, _ => by
    obtain ⟨a1, a2, a3, a4⟩ := okW_cons h
    simp [sumW]; omega
  | w :: ws, m, k + 1, h, hm, hk => by
    obtain ⟨a1, a2, a3, a4⟩ := okW_cons h
    have := take_facts ws _ k a4 a3 (by simpa using hk)
    simp only [List.take_succ_cons, sumW, List.getD_cons_succ] at this ⊢
    omega
set_option maxRecDepth 100000 in
set_option maxHeartbeats 2000000 in
theorem law_Fields (W : World) (hT : TabOK W) (ws : List Int) (A : Option Addr) (cp : Nat) (hS : Sl W A (ws.map (Value.int .i64))) (xws : ws.length ≤ 9223372036854775807) (vs : List Int) (B : Option Addr) (cq : Nat) (hS2 : Sl W B (vs.map (Value.int .i64))) (xvs : vs.length ≤ 9223372036854775807) (at_ n : Int) (hv : wfI vs) (zvs : vs.length * 8 ≤ 140737488351232) (hn : -9223372036854775808 ≤ n ∧ n ≤ 9223372036854775807) : Calls Tryd.prog 9 #[.slice A ws.length cp, .slice B vs.length cq, .int .i64 at_, .int .i64 n] W fun e w' => e = .returned (.bool true) ∧ Below W.heap.size W w' := by
  have hM : Hp W (fun _ => False) [] W := Hp.start
  refine TC.enter (n := 115) Tryd.func9 rfl rfl rfl hM ?_
  refine TC.seq ?_
  refine TC.region ?_
  refine' TL.y rfl rfl rfl ?hy1 ?_
  case hy1 => exact Yl.assign rfl rfl
  refine TL.nil ?_
  refine TE.next ?_
  refine TC.seq ?_
  refine TC.region ?_
  refine' TL.c rfl rfl rfl ?hy2 ?_
  case hy2 => exact Yc.call rfl Tryd.func11 (by kernel_rfl) rfl rfl (Hp.calls (fun w h => k_works w (hT.below h.below)))
  intro _
  refine' TL.y rfl rfl rfl ?hy3 ?_
  case hy3 => exact Yl.assign rfl rfl
  refine TL.nil ?_
  refine TE.next ?_
  refine TC.seq ?_
  refine TC.seq ?_
  refine TC.region ?_
  refine' TL.y rfl rfl rfl ?hy4 ?_
  case hy4 => exact Yl.move rfl rfl
  refine' TL.y rfl rfl rfl ?hy5 ?_
  case hy5 => exact Yl.not rfl rfl
  refine TL.nil ?_
  refine TE.next ?_
  refine TC.no rfl rfl ?_
  refine TC.skip ?_
  refine TE.next ?_
  refine TC.seq ?_
  refine TC.seq ?_
  refine TC.region ?_
  refine' TL.y rfl rfl rfl ?hy6 ?_
  case hy6 => exact Yl.move rfl rfl
  refine' TL.y rfl rfl rfl ?hy7 ?_
  case hy7 => exact Yl.len rfl rfl Tryd.underlying39
  refine' TL.y rfl rfl rfl ?hy8 ?_
  case hy8 => exact Yl.bin rfl rfl rfl (Bin.gtr _ _ _ _)
  refine' TL.y rfl rfl rfl ?hy9 ?_
  case hy9 => exact Yl.move rfl rfl
  refine TL.split (i := 24) rfl (fun hs24 => ?_) (fun hs24 => ?_)
  · skip
    (try simp only [decide_eq_true_eq, decide_eq_false_iff_not, beq_iff_eq, beq_eq_false_iff_ne, bne_iff_ne, ne_eq, bne_eq_false_iff_eq, Bool.not_eq_true', Bool.not_eq_false', Int.not_lt, Int.not_le, gt_iff_lt, ge_iff_le] at hs24)
    refine TL.skip rfl rfl rfl ?_
    refine TL.skip rfl rfl rfl ?_
    refine' TL.y rfl rfl rfl ?hy10 ?_
    case hy10 => exact Yl.pickT rfl rfl rfl
    refine' TL.y rfl rfl rfl ?hy11 ?_
    case hy11 => exact Yl.move rfl rfl
    refine TL.skip rfl rfl rfl ?_
    refine TL.skip rfl rfl rfl ?_
    refine TL.skip rfl rfl rfl ?_
    refine TL.skip rfl rfl rfl ?_
    refine' TL.y rfl rfl rfl ?hy12 ?_
    case hy12 => exact Yl.pickT rfl rfl rfl
    refine TL.nil ?_
    refine TE.next ?_
    refine TC.yes rfl rfl ?_
    refine TC.seq ?_
    refine TC.region ?_
    refine' TL.y rfl rfl rfl ?hy13 ?_
    case hy13 => exact Yl.move rfl rfl
    refine' TL.y rfl rfl rfl ?hy14 ?_
    case hy14 => exact Yl.assign rfl rfl
    refine TL.nil ?_
    refine TE.next ?_
    refine TC.ret ?_
    refine TE.thenRet ?_
    refine TE.ret1 rfl rfl ?_
    exact fun w h => ⟨congrArg (fun b => Ending.returned (Value.bool b)) (by first | rfl | (have h3 := hf.2.2.2.2.2.2.2.2.2.2.1; by_cases e : a = b; (rw [h3.1 e, e]; simp); (have e2 : n ≠ vs.getD i 0 := fun q => e (h3.2 q); rw [show (a == b) = false from beq_eq_false_iff_ne.2 e, show (n == vs.getD i 0) = false from beq_eq_false_iff_ne.2 e2]; rfl)) : _ = true), h.below⟩
  · skip
    (try simp only [decide_eq_true_eq, decide_eq_false_iff_not, beq_iff_eq, beq_eq_false_iff_ne, bne_iff_ne, ne_eq, bne_eq_false_iff_eq, Bool.not_eq_true', Bool.not_eq_false', Int.not_lt, Int.not_le, gt_iff_lt, ge_iff_le] at hs24)
    refine' TL.y rfl rfl rfl ?hy15 ?_
    case hy15 => exact Yl.move rfl rfl
    refine' TL.y rfl rfl rfl ?hy16 ?_
    case hy16 => exact Yl.bin rfl rfl rfl (Bin.lss _ _ _ _)
    refine' TL.y rfl rfl rfl ?hy17 ?_
    case hy17 => exact Yl.pickF rfl rfl rfl
    refine' TL.y rfl rfl rfl ?hy18 ?_
    case hy18 => exact Yl.move rfl rfl
    refine TL.split (i := 28) rfl (fun hs28 => ?_) (fun hs28 => ?_)
    · skip
      (try simp only [decide_eq_true_eq, decide_eq_false_iff_not, beq_iff_eq, beq_eq_false_iff_ne, bne_iff_ne, ne_eq, bne_eq_false_iff_eq, Bool.not_eq_true', Bool.not_eq_false', Int.not_lt, Int.not_le, gt_iff_lt, ge_iff_le] at hs28)
      refine TL.skip rfl rfl rfl ?_
      refine TL.skip rfl rfl rfl ?_
      refine TL.skip rfl rfl rfl ?_
      refine TL.skip rfl rfl rfl ?_
      refine' TL.y rfl rfl rfl ?hy19 ?_
      case hy19 => exact Yl.pickT rfl rfl rfl
      refine TL.nil ?_
      refine TE.next ?_
      refine TC.yes rfl rfl ?_
      refine TC.seq ?_
      refine TC.region ?_
      refine' TL.y rfl rfl rfl ?hy20 ?_
      case hy20 => exact Yl.move rfl rfl
      refine' TL.y rfl rfl rfl ?hy21 ?_
      case hy21 => exact Yl.assign rfl rfl
      refine TL.nil ?_
      refine TE.next ?_
      refine TC.ret ?_
      refine TE.thenRet ?_
      refine TE.ret1 rfl rfl ?_
      exact fun w h => ⟨congrArg (fun b => Ending.returned (Value.bool b)) (by first | rfl | (have h3 := hf.2.2.2.2.2.2.2.2.2.2.1; by_cases e : a = b; (rw [h3.1 e, e]; simp); (have e2 : n ≠ vs.getD i 0 := fun q => e (h3.2 q); rw [show (a == b) = false from beq_eq_false_iff_ne.2 e, show (n == vs.getD i 0) = false from beq_eq_false_iff_ne.2 e2]; rfl)) : _ = true), h.below⟩
    · skip
      (try simp only [decide_eq_true_eq, decide_eq_false_iff_not, beq_iff_eq, beq_eq_false_iff_ne, bne_iff_ne, ne_eq, bne_eq_false_iff_eq, Bool.not_eq_true', Bool.not_eq_false', Int.not_lt, Int.not_le, gt_iff_lt, ge_iff_le] at hs28)
      refine' TL.y rfl rfl rfl ?hy22 ?_
      case hy22 => exact Yl.move rfl rfl
      refine' TL.y rfl rfl rfl ?hy23 ?_
      case hy23 => exact Yl.move rfl rfl
      refine' TL.y rfl rfl rfl ?hy24 ?_
      case hy24 => exact Yl.len rfl rfl Tryd.underlying39
      refine' TL.y rfl rfl rfl ?hy25 ?_
      case hy25 => exact Yl.bin rfl rfl rfl (Bin.geq _ _ _ _)
      refine' TL.y rfl rfl rfl ?hy26 ?_
      case hy26 => exact Yl.pickF rfl rfl rfl
      refine TL.nil ?_
      refine TE.next ?_
      refine TC.cond rfl (fun hs33 => ?_) (fun hs33 => ?_)
      · skip
        (try simp only [decide_eq_true_eq, decide_eq_false_iff_not, beq_iff_eq, beq_eq_false_iff_ne, bne_iff_ne, ne_eq, bne_eq_false_iff_eq, Bool.not_eq_true', Bool.not_eq_false', Int.not_lt, Int.not_le, gt_iff_lt, ge_iff_le] at hs33)
        refine TC.seq ?_
        refine TC.region ?_
        refine' TL.y rfl rfl rfl ?hy27 ?_
        case hy27 => exact Yl.move rfl rfl
        refine' TL.y rfl rfl rfl ?hy28 ?_
        case hy28 => exact Yl.assign rfl rfl
        refine TL.nil ?_
        refine TE.next ?_
        refine TC.ret ?_
        refine TE.thenRet ?_
        refine TE.ret1 rfl rfl ?_
        exact fun w h => ⟨congrArg (fun b => Ending.returned (Value.bool b)) (by first | rfl | (have h3 := hf.2.2.2.2.2.2.2.2.2.2.1; by_cases e : a = b; (rw [h3.1 e, e]; simp); (have e2 : n ≠ vs.getD i 0 := fun q => e (h3.2 q); rw [show (a == b) = false from beq_eq_false_iff_ne.2 e, show (n == vs.getD i 0) = false from beq_eq_false_iff_ne.2 e2]; rfl)) : _ = true), h.below⟩
      · skip
        (try simp only [decide_eq_true_eq, decide_eq_false_iff_not, beq_iff_eq, beq_eq_false_iff_ne, bne_iff_ne, ne_eq, bne_eq_false_iff_eq, Bool.not_eq_true', Bool.not_eq_false', Int.not_lt, Int.not_le, gt_iff_lt, ge_iff_le] at hs33)
        obtain ⟨k, rfl⟩ := Int.eq_ofNat_of_zero_le (show 0 ≤ at_ by omega)
        have hk : k < vs.length := by omega
        have hvu : wfI (vs.set k n) := fun y hy => by rcases List.mem_or_eq_of_mem_set hy with h | h; exact hv y h; rw [h]; exact hn
        refine TC.skip ?_
        refine TE.next ?_
        refine TC.seq ?_
        refine TC.region ?_
        refine' TL.y rfl rfl rfl ?hy29 ?_
        case hy29 => exact Yl.move rfl rfl
        refine' TL.y rfl rfl rfl ?hy30 ?_
        case hy30 => exact Yl.move rfl rfl
        refine' TL.c rfl rfl rfl ?hy31 ?_
        case hy31 => exact Yc.call rfl Tryd.func23 (by kernel_rfl) rfl rfl (Hp.calls (fun w h => k_pack w ws vs A B cp cq (hS.below h.below) (hS2.below h.below) (by omega) (by omega) hv))
        intro _
        obtain ⟨⟨a, ea⟩, hpa⟩ : ∃ p, packS ws vs = p := ⟨_, rfl⟩
        rw [hpa]
        refine' TL.y rfl rfl rfl ?hy32 ?_
        case hy32 => exact Yl.move rfl rfl
        refine' TL.y rfl rfl rfl ?hy33 ?_
        case hy33 => exact Yl.extract rfl rfl rfl
        refine' TL.y rfl rfl rfl ?hy34 ?_
        case hy34 => exact Yl.extract rfl rfl rfl
        refine' TL.y rfl rfl rfl ?hy35 ?_
        case hy35 => exact Yl.assign rfl rfl
        refine' TL.y rfl rfl rfl ?hy36 ?_
        case hy36 => exact Yl.assign rfl rfl
        refine TL.nil ?_
        refine TE.next ?_
        refine TC.seq ?_
        refine TC.region ?_
        refine' TL.y rfl rfl rfl ?hy37 ?_
        case hy37 => exact Yl.assign rfl rfl
        refine TL.nil ?_
        refine TE.next ?_
        refine TC.seq ?_
        refine TC.region ?_
        refine' TL.y rfl rfl rfl ?hy38 ?_
        case hy38 => exact Yl.move rfl rfl
        refine TL.wk (fun w h => h.nil (e := 3) (size := 1)) ?_
        refine' TL.y rfl rfl rfl ?hy39 ?_
        case hy39 => exact Yl.move rfl rfl
        refine' TL.mx rfl rfl rfl ?hy40 ?_
        case hy40 => exact Ym.appendSl (news := vs.map (Value.int .i64)) rfl Tryd.underlying39 (by kernel_rfl) (z := .int .i64 0) (size := 1) (bytes := 8) rfl (by decide) (by decide) rfl rfl (by simp) (fun w h => hS2.below h.below) (by simp [Value.oneCell']) (by omega) (fun v' => foc0)
        intro b43
        refine TL.wk (M' := Hp W (fun _ => False) [ownR 3 1 b43 vs.length (vs.map (Value.int .i64))]) (fun w h => by simpa using h) ?_
        refine TL.fact (Hp.ownSome mem0 (by omega)) ?_
        rintro ⟨gu, cu, rfl⟩
        refine' TL.y rfl rfl rfl ?hy41 ?_
        case hy41 => exact Yl.assign rfl rfl
        refine TL.nil ?_
        refine TE.next ?_
        refine TC.seq ?_
        refine TC.region ?_
        refine' TL.y rfl rfl rfl ?hy42 ?_
        case hy42 => exact Yl.move rfl rfl
        refine' TL.y rfl rfl rfl ?hy43 ?_
        case hy43 => exact Yl.move rfl rfl
        refine' TL.y rfl rfl rfl ?hy44 ?_
        case hy44 => exact Yl.move rfl rfl
        refine' TL.y rfl rfl rfl ?hy45 ?_
        case hy45 => first | exact Yl.ixn rfl rfl rfl Tryd.underlying39 (by kernel_rfl) (by omega) | exact Yl.ixz rfl rfl rfl Tryd.underlying39 (by kernel_rfl) (by omega) (by omega) | exact Yl.ixcn rfl rfl rfl Tryd.underlying39 (by kernel_rfl) (by omega) | exact Yl.ixcz rfl rfl rfl Tryd.underlying39 (by kernel_rfl) (by omega) (by omega)
        refine' TL.s rfl rfl ?hy46 ?_
        case hy46 => exact Ys.own (seg := [.int .i64 n]) rfl rfl rfl rfl (by kernel_rfl) (by simp [Value.oneCell']) foc0 (by simp; omega) (show putL _ _ [_] = (vs.set k n).map (Value.int .i64) from by rw [List.map_set]; rfl)
        refine TL.nil ?_
        refine TE.next ?_
        refine TC.seq ?_
        refine TC.region ?_
        refine' TL.y rfl rfl rfl ?hy47 ?_
        case hy47 => exact Yl.move rfl rfl
        refine' TL.y rfl rfl rfl ?hy48 ?_
        case hy48 => exact Yl.move rfl rfl
        refine' TL.c rfl rfl rfl ?hy49 ?_
        case hy49 => exact Yc.call rfl Tryd.func23 (by kernel_rfl) rfl rfl (Hp.calls (fun w h => by have h2 := k_pack w ws (vs.set k n) A (some ⟨gu, 0, none⟩) cp cu (hS.below h.below) (Sl.ofOwn (h.all _ mem0)) (by omega) (by rw [List.length_set]; omega) hvu; rw [List.length_set] at h2; exact h2))
        intro _
        obtain ⟨⟨b, eb⟩, hpb⟩ : ∃ p, packS ws (vs.set k n) = p := ⟨_, rfl⟩
        rw [hpb]
        refine' TL.y rfl rfl rfl ?hy50 ?_
        case hy50 => exact Yl.move rfl rfl
        refine' TL.y rfl rfl rfl ?hy51 ?_
        case hy51 => exact Yl.extract rfl rfl rfl
        refine' TL.y rfl rfl rfl ?hy52 ?_
        case hy52 => exact Yl.extract rfl rfl rfl
        refine' TL.y rfl rfl rfl ?hy53 ?_
        case hy53 => exact Yl.assign rfl rfl
        refine' TL.y rfl rfl rfl ?hy54 ?_
        case hy54 => exact Yl.assign rfl rfl
        refine TL.nil ?_
        refine TE.next ?_
        refine TC.seq ?_
        refine TC.seq ?_
        refine TC.region ?_
        refine' TL.y rfl rfl rfl ?hy55 ?_
        case hy55 => exact Yl.move rfl rfl
        refine' TL.y rfl rfl rfl ?hy56 ?_
        case hy56 => exact Yl.bin rfl rfl rfl (Bin.neq _ _ _ _)
        refine' TL.y rfl rfl rfl ?hy57 ?_
        case hy57 => exact Yl.move rfl rfl
        refine TL.split (i := 56) rfl (fun hs56 => ?_) (fun hs56 => ?_)
        · skip
          (try simp only [decide_eq_true_eq, decide_eq_false_iff_not, beq_iff_eq, beq_eq_false_iff_ne, bne_iff_ne, ne_eq, bne_eq_false_iff_eq, Bool.not_eq_true', Bool.not_eq_false', Int.not_lt, Int.not_le, gt_iff_lt, ge_iff_le] at hs56)
          refine TL.skip rfl rfl rfl ?_
          refine TL.skip rfl rfl rfl ?_
          refine' TL.y rfl rfl rfl ?hy58 ?_
          case hy58 => exact Yl.pickT rfl rfl rfl
          refine TL.nil ?_
          refine TE.next ?_
          refine TC.yes rfl rfl ?_
          refine TC.seq ?_
          refine TC.region ?_
          refine' TL.y rfl rfl rfl ?hy59 ?_
          case hy59 => exact Yl.move rfl rfl
          refine' TL.y rfl rfl rfl ?hy60 ?_
          case hy60 => exact Yl.assign rfl rfl
          refine TL.nil ?_
          refine TE.next ?_
          refine TC.ret ?_
          refine TE.thenRet ?_
          refine TE.ret1 rfl rfl ?_
          exact fun w h => ⟨congrArg (fun b => Ending.returned (Value.bool b)) (by first | rfl | (have h3 := hf.2.2.2.2.2.2.2.2.2.2.1; by_cases e : a = b; (rw [h3.1 e, e]; simp); (have e2 : n ≠ vs.getD i 0 := fun q => e (h3.2 q); rw [show (a == b) = false from beq_eq_false_iff_ne.2 e, show (n == vs.getD i 0) = false from beq_eq_false_iff_ne.2 e2]; rfl)) : _ = true), h.below⟩
        · skip
          (try simp only [decide_eq_true_eq, decide_eq_false_iff_not, beq_iff_eq, beq_eq_false_iff_ne, bne_iff_ne, ne_eq, bne_eq_false_iff_eq, Bool.not_eq_true', Bool.not_eq_false', Int.not_lt, Int.not_le, gt_iff_lt, ge_iff_le] at hs56)
          refine' TL.y rfl rfl rfl ?hy61 ?_
          case hy61 => exact Yl.move rfl rfl
          refine' TL.y rfl rfl rfl ?hy62 ?_
          case hy62 => exact Yl.bin rfl rfl rfl (Bin.neq _ _ _ _)
          refine' TL.y rfl rfl rfl ?hy63 ?_
          case hy63 => exact Yl.pickF rfl rfl rfl
          refine TL.nil ?_
          refine TE.next ?_
          refine TC.cond rfl (fun hs59 => ?_) (fun hs59 => ?_)
          · skip
            (try simp only [decide_eq_true_eq, decide_eq_false_iff_not, beq_iff_eq, beq_eq_false_iff_ne, bne_iff_ne, ne_eq, bne_eq_false_iff_eq, Bool.not_eq_true', Bool.not_eq_false', Int.not_lt, Int.not_le, gt_iff_lt, ge_iff_le] at hs59)
            refine TC.seq ?_
            refine TC.region ?_
            refine' TL.y rfl rfl rfl ?hy64 ?_
            case hy64 => exact Yl.move rfl rfl
            refine' TL.y rfl rfl rfl ?hy65 ?_
            case hy65 => exact Yl.assign rfl rfl
            refine TL.nil ?_
            refine TE.next ?_
            refine TC.ret ?_
            refine TE.thenRet ?_
            refine TE.ret1 rfl rfl ?_
            exact fun w h => ⟨congrArg (fun b => Ending.returned (Value.bool b)) (by first | rfl | (have h3 := hf.2.2.2.2.2.2.2.2.2.2.1; by_cases e : a = b; (rw [h3.1 e, e]; simp); (have e2 : n ≠ vs.getD i 0 := fun q => e (h3.2 q); rw [show (a == b) = false from beq_eq_false_iff_ne.2 e, show (n == vs.getD i 0) = false from beq_eq_false_iff_ne.2 e2]; rfl)) : _ = true), h.below⟩
          · skip
            (try simp only [decide_eq_true_eq, decide_eq_false_iff_not, beq_iff_eq, beq_eq_false_iff_ne, bne_iff_ne, ne_eq, bne_eq_false_iff_eq, Bool.not_eq_true', Bool.not_eq_false', Int.not_lt, Int.not_le, gt_iff_lt, ge_iff_le] at hs59)
            have ha : packS ws vs = (a, 0) := by rw [hpa]; exact Prod.ext rfl (by simpa using hs56)
            have hb : packS ws (vs.set k n) = (b, 0) := by rw [hpb]; exact Prod.ext rfl (by simpa using hs59)
            have hf := fields_ok ws vs k n a b hk ha hb
            obtain ⟨hok, hlen, _⟩ := pack_facts ws vs a ha
            have htk := take_facts ws 0 k hok (by decide) (by omega)
            obtain ⟨bb, oo, rfl⟩ := Sl.in hS (by omega)
            obtain ⟨bc, oc, rfl⟩ := Sl.in hS2 (by omega)
            have hxor : Go.bits .xor .u64 a b = ((a.toNat ^^^ b.toNat : Nat) : Int) := (bits2 a b hf.1 (by have := hf.2.1; omega) hf.2.2.1 (by have := hf.2.2.2.1; omega)).2.2
            obtain ⟨z, hz⟩ : ∃ z : Nat, (a.toNat ^^^ b.toNat : Nat) = z := ⟨_, rfl⟩
            rw [hz] at hxor hf
            have hz64 : z < 18446744073709551616 := hf.2.2.2.2.2.2.2.2.2.2.2
            obtain ⟨x, hz3⟩ : ∃ x : Int, x = (z : Int) / 2 ^ (sumW (ws.take k)).toNat := ⟨_, rfl⟩
            refine TC.skip ?_
            refine TE.next ?_
            refine TC.seq ?_
            refine TC.region ?_
            refine' TL.y rfl rfl rfl ?hy66 ?_
            case hy66 => exact Yl.assign rfl rfl
            refine TL.nil ?_
            refine TE.next ?_
            refine TC.seq ?_
            refine TC.seq ?_
            refine TC.region ?_
            refine' TL.y rfl rfl rfl ?hy67 ?_
            case hy67 => exact Yl.assign rfl rfl
            refine TL.nil ?_
            refine TE.next ?_
            refine TC.block ?_
            refine TC.loop (σ := Nat) (fun i => [(0, .slice (some ⟨bb, oo, none⟩) ws.length cp), (1, .slice (some ⟨bc, oc, none⟩) vs.length cq), (2, .int .i64 (k : Int)), (3, .int .i64 n), (9, .bool true), (10, .int .u64 a), (13, .int .u64 b), (15, .int .i64 (sumW (ws.take i))), (16, .int .i64 (i : Int))]) (fun i => Hp W (fun _ => False) []) (fun i => i ≤ k) (fun i => k - i) 0 ?hF68 ?hs68 ?hm68 ?round68
            case hF68 => exact Nat.zero_le _
            case hs68 => exact ⟨rfl, rfl, rfl, rfl, rfl, rfl, rfl, rfl, rfl, trivial⟩
            case hm68 => exact fun w h => h.sub (List.nil_sublist _)
            case round68 =>
              intro i h1
              refine TC.seq ?_
              refine TC.seq ?_
              refine TC.region ?_
              refine' TL.y rfl rfl rfl ?hy69 ?_
              case hy69 => exact Yl.move rfl rfl
              refine' TL.y rfl rfl rfl ?hy70 ?_
              case hy70 => exact Yl.move rfl rfl
              refine' TL.y rfl rfl rfl ?hy71 ?_
              case hy71 => exact Yl.bin rfl rfl rfl (Bin.lss _ _ _ _)
              refine TL.nil ?_
              refine TE.next ?_
              refine TC.cond rfl (fun hs63 => ?_) (fun hs63 => ?_)
              · skip
                (try simp only [decide_eq_true_eq, decide_eq_false_iff_not, beq_iff_eq, beq_eq_false_iff_ne, bne_iff_ne, ne_eq, bne_eq_false_iff_eq, Bool.not_eq_true', Bool.not_eq_false', Int.not_lt, Int.not_le, gt_iff_lt, ge_iff_le] at hs63)
                have hti := take_facts ws 0 i hok (by decide) (by omega)
                refine TC.skip ?_
                refine TE.next ?_
                refine TC.seq ?_
                refine TC.block ?_
                refine TC.region ?_
                refine' TL.y rfl rfl rfl ?hy72 ?_
                case hy72 => exact Yl.move rfl rfl
                refine' TL.y rfl rfl rfl ?hy73 ?_
                case hy73 => exact Yl.move rfl rfl
                refine' TL.y rfl rfl rfl ?hy74 ?_
                case hy74 => exact Yl.move rfl rfl
                refine' TL.y rfl rfl rfl ?hy75 ?_
                case hy75 => first | exact Yl.ixn rfl rfl rfl Tryd.underlying39 (by kernel_rfl) (by omega) | exact Yl.ixz rfl rfl rfl Tryd.underlying39 (by kernel_rfl) (by omega) (by omega) | exact Yl.ixcn rfl rfl rfl Tryd.underlying39 (by kernel_rfl) (by omega) | exact Yl.ixcz rfl rfl rfl Tryd.underlying39 (by kernel_rfl) (by omega) (by omega)
                refine' TL.y rfl rfl rfl ?hy76 ?_
                case hy76 => first | exact Yl.load rfl rfl (by kernel_rfl) (Sl.rd 0 hS rfl (by omega) (fun _ => id)) | exact Yl.load rfl rfl (by kernel_rfl) (Sl.rd 0 hS2 rfl (by omega) (fun _ => id)) | exact Yl.load rfl rfl (by kernel_rfl) (Hp.cell mem0 rfl) | exact Yl.load rfl rfl (by kernel_rfl) (Hp.cell mem1 rfl) | exact Yl.load rfl rfl (by kernel_rfl) (Hp.rowAt mem0 (by omega) rfl) | exact Yl.load rfl rfl (by kernel_rfl) (Hp.rowAt mem1 (by omega) rfl)
                refine' TL.y rfl rfl rfl ?hy77 ?_
                case hy77 => exact Yl.val (Yl.bin rfl rfl rfl (Bin.add _ _ _ _)) (congrArg (Value.int .i64) (show IntKind.i64.wrap (sumW (ws.take i) + ws.getD i 0) = sumW (ws.take (i + 1)) from by rw [i64in (by omega) (by omega)]; omega))
                refine' TL.y rfl rfl rfl ?hy78 ?_
                case hy78 => exact Yl.assign rfl rfl
                refine TL.nil ?_
                refine TE.inNormal ?_
                refine TE.next ?_
                refine TC.region ?_
                refine' TL.y rfl rfl rfl ?hy79 ?_
                case hy79 => exact Yl.move rfl rfl
                refine' TL.y rfl rfl rfl ?hy80 ?_
                case hy80 => first | (refine Yl.val (Yl.bin rfl rfl rfl (Bin.add _ _ _ _)) (congrArg (Value.int .i64) (i64in ?_ ?_)) <;> omega) | exact Yl.bin rfl rfl rfl (Bin.add _ _ _ _)
                refine' TL.y rfl rfl rfl ?hy81 ?_
                case hy81 => exact Yl.assign rfl rfl
                refine TL.nil ?_
                refine TE.round (i + 1) ?hF82 ?hlt82 ?hs82 ?hm82
                case hF82 => omega
                case hlt82 => omega
                case hs82 => exact ⟨rfl, rfl, rfl, rfl, rfl, rfl, rfl, rfl, rfl, trivial⟩
                case hm82 => exact fun _ h => h
              · skip
                (try simp only [decide_eq_true_eq, decide_eq_false_iff_not, beq_iff_eq, beq_eq_false_iff_ne, bne_iff_ne, ne_eq, bne_eq_false_iff_eq, Bool.not_eq_true', Bool.not_eq_false', Int.not_lt, Int.not_le, gt_iff_lt, ge_iff_le] at hs63)
                obtain rfl : i = k := by omega
                refine TC.exit ?_
                refine TE.thenExit ?_
                refine TE.thenExit ?_
                refine TE.inHere ?_
                refine TE.next ?_
                refine TC.seq ?_
                refine TC.region ?_
                refine' TL.y rfl rfl rfl ?hy83 ?_
                case hy83 => exact Yl.move rfl rfl
                refine' TL.y rfl rfl rfl ?hy84 ?_
                case hy84 => exact Yl.move rfl rfl
                refine' TL.y rfl rfl rfl ?hy85 ?_
                case hy85 => exact Yl.val (Yl.bin rfl rfl rfl (Bin.xor _ _ _ _)) (congrArg (Value.int .u64) (hxor))
                refine' TL.y rfl rfl rfl ?hy86 ?_
                case hy86 => exact Yl.move rfl rfl
                refine' TL.y rfl rfl rfl ?hy87 ?_
                case hy87 => exact Yl.val (Yl.bin rfl rfl rfl (Bin.shr _ _ _ _ _ (by omega))) (congrArg (Value.int .u64) (show (z : Int) / 2 ^ min (sumW (ws.take i)).toNat IntKind.u64.bits = x from by rw [hz3, show min (sumW (ws.take i)).toNat IntKind.u64.bits = (sumW (ws.take i)).toNat from (by have : IntKind.u64.bits = 64 := rfl; omega)]))
                refine' TL.y rfl rfl rfl ?hy88 ?_
                case hy88 => exact Yl.assign rfl rfl
                refine TL.nil ?_
                refine TE.next ?_
                refine TC.seq ?_
                refine TC.region ?_
                refine' TL.y rfl rfl rfl ?hy89 ?_
                case hy89 => exact Yl.move rfl rfl
                refine' TL.y rfl rfl rfl ?hy90 ?_
                case hy90 => exact Yl.move rfl rfl
                refine' TL.y rfl rfl rfl ?hy91 ?_
                case hy91 => exact Yl.move rfl rfl
                refine' TL.y rfl rfl rfl ?hy92 ?_
                case hy92 => exact Yl.move rfl rfl
                refine' TL.y rfl rfl rfl ?hy93 ?_
                case hy93 => exact Yl.val (Yl.bin rfl rfl rfl (Bin.shl _ _ _ _ _ (by omega))) (congrArg (Value.int .u64) (show IntKind.u64.wrap (x * 2 ^ min (sumW (ws.take i)).toNat IntKind.u64.bits) = (z : Int) from by rw [show min (sumW (ws.take i)).toNat IntKind.u64.bits = (sumW (ws.take i)).toNat from (by have : IntKind.u64.bits = 64 := rfl; omega), hz3, hf.2.2.2.2.2.2.2.2.1]; exact u64in (by omega) (by omega)))
                refine' TL.y rfl rfl rfl ?hy94 ?_
                case hy94 => exact Yl.move rfl rfl
                refine' TL.y rfl rfl rfl ?hy95 ?_
                case hy95 => exact Yl.move rfl rfl
                refine' TL.y rfl rfl rfl ?hy96 ?_
                case hy96 => exact Yl.val (Yl.bin rfl rfl rfl (Bin.xor _ _ _ _)) (congrArg (Value.int .u64) (hxor))
                refine' TL.y rfl rfl rfl ?hy97 ?_
                case hy97 => exact Yl.bin rfl rfl rfl (Bin.eql _ _ _ _)
                refine' TL.y rfl rfl rfl ?hy98 ?_
                case hy98 => exact Yl.pickT rfl rfl rfl
                refine' TL.y rfl rfl rfl ?hy99 ?_
                case hy99 => exact Yl.move rfl rfl
                refine TL.re (i := 87) (v' := .bool true) rfl (congrArg Value.bool (by first | (simp; done) | rfl)) ?_
                refine' TL.y rfl rfl rfl ?hy100 ?_
                case hy100 => exact Yl.move rfl rfl
                refine' TL.y rfl rfl rfl ?hy101 ?_
                case hy101 => exact Yl.move rfl rfl
                refine' TL.y rfl rfl rfl ?hy102 ?_
                case hy102 => first | exact Yl.ixn rfl rfl rfl Tryd.underlying39 (by kernel_rfl) (by omega) | exact Yl.ixz rfl rfl rfl Tryd.underlying39 (by kernel_rfl) (by omega) (by omega) | exact Yl.ixcn rfl rfl rfl Tryd.underlying39 (by kernel_rfl) (by omega) | exact Yl.ixcz rfl rfl rfl Tryd.underlying39 (by kernel_rfl) (by omega) (by omega)
                refine' TL.y rfl rfl rfl ?hy103 ?_
                case hy103 => first | exact Yl.load rfl rfl (by kernel_rfl) (Sl.rd 0 hS rfl (by omega) (fun _ => id)) | exact Yl.load rfl rfl (by kernel_rfl) (Sl.rd 0 hS2 rfl (by omega) (fun _ => id)) | exact Yl.load rfl rfl (by kernel_rfl) (Hp.cell mem0 rfl) | exact Yl.load rfl rfl (by kernel_rfl) (Hp.cell mem1 rfl) | exact Yl.load rfl rfl (by kernel_rfl) (Hp.rowAt mem0 (by omega) rfl) | exact Yl.load rfl rfl (by kernel_rfl) (Hp.rowAt mem1 (by omega) rfl)
                refine' TL.y rfl rfl rfl ?hy104 ?_
                case hy104 => exact Yl.bin rfl rfl rfl (Bin.geq _ _ _ _)
                refine' TL.y rfl rfl rfl ?hy105 ?_
                case hy105 => exact Yl.move rfl rfl
                refine TL.split (i := 93) rfl (fun hs93 => ?_) (fun hs93 => ?_)
                · skip
                  (try simp only [decide_eq_true_eq, decide_eq_false_iff_not, beq_iff_eq, beq_eq_false_iff_ne, bne_iff_ne, ne_eq, bne_eq_false_iff_eq, Bool.not_eq_true', Bool.not_eq_false', Int.not_lt, Int.not_le, gt_iff_lt, ge_iff_le] at hs93)
                  refine TL.skip rfl rfl rfl ?_
                  refine TL.skip rfl rfl rfl ?_
                  refine TL.skip rfl rfl rfl ?_
                  refine TL.skip rfl rfl rfl ?_
                  refine TL.skip rfl rfl rfl ?_
                  refine TL.skip rfl rfl rfl ?_
                  refine TL.skip rfl rfl rfl ?_
                  refine' TL.y rfl rfl rfl ?hy106 ?_
                  case hy106 => exact Yl.pickT rfl rfl rfl
                  refine' TL.y rfl rfl rfl ?hy107 ?_
                  case hy107 => exact Yl.pickT rfl rfl rfl
                  refine' TL.y rfl rfl rfl ?hy108 ?_
                  case hy108 => exact Yl.move rfl rfl
                  refine' TL.y rfl rfl rfl ?hy109 ?_
                  case hy109 => exact Yl.move rfl rfl
                  refine' TL.y rfl rfl rfl ?hy110 ?_
                  case hy110 => exact Yl.move rfl rfl
                  refine' TL.y rfl rfl rfl ?hy111 ?_
                  case hy111 => exact Yl.bin rfl rfl rfl (Bin.eql _ _ _ _)
                  refine' TL.y rfl rfl rfl ?hy112 ?_
                  case hy112 => exact Yl.move rfl rfl
                  refine' TL.y rfl rfl rfl ?hy113 ?_
                  case hy113 => exact Yl.move rfl rfl
                  refine' TL.y rfl rfl rfl ?hy114 ?_
                  case hy114 => exact Yl.move rfl rfl
                  refine' TL.y rfl rfl rfl ?hy115 ?_
                  case hy115 => first | exact Yl.ixn rfl rfl rfl Tryd.underlying39 (by kernel_rfl) (by omega) | exact Yl.ixz rfl rfl rfl Tryd.underlying39 (by kernel_rfl) (by omega) (by omega) | exact Yl.ixcn rfl rfl rfl Tryd.underlying39 (by kernel_rfl) (by omega) | exact Yl.ixcz rfl rfl rfl Tryd.underlying39 (by kernel_rfl) (by omega) (by omega)
                  refine' TL.y rfl rfl rfl ?hy116 ?_
                  case hy116 => first | exact Yl.load rfl rfl (by kernel_rfl) (Sl.rd 0 hS rfl (by omega) (fun _ => id)) | exact Yl.load rfl rfl (by kernel_rfl) (Sl.rd 0 hS2 rfl (by omega) (fun _ => id)) | exact Yl.load rfl rfl (by kernel_rfl) (Hp.cell mem0 rfl) | exact Yl.load rfl rfl (by kernel_rfl) (Hp.cell mem1 rfl) | exact Yl.load rfl rfl (by kernel_rfl) (Hp.rowAt mem0 (by omega) rfl) | exact Yl.load rfl rfl (by kernel_rfl) (Hp.rowAt mem1 (by omega) rfl)
                  refine' TL.y rfl rfl rfl ?hy117 ?_
                  case hy117 => exact Yl.bin rfl rfl rfl (Bin.eql _ _ _ _)
                  refine' TL.y rfl rfl rfl ?hy118 ?_
                  case hy118 => exact Yl.bin rfl rfl rfl (Bin.eqlB _ _ _ (by kernel_rfl))
                  refine' TL.y rfl rfl rfl ?hy119 ?_
                  case hy119 => exact Yl.pickT rfl rfl rfl
                  refine' TL.y rfl rfl rfl ?hy120 ?_
                  case hy120 => exact Yl.assign rfl rfl
                  refine TL.nil ?_
                  refine TE.next ?_
                  refine TC.ret ?_
                  refine TE.ret1 rfl rfl ?_
                  exact fun w h => ⟨congrArg (fun b => Ending.returned (Value.bool b)) (by first | rfl | (have h3 := hf.2.2.2.2.2.2.2.2.2.2.1; by_cases e : a = b; (rw [h3.1 e, e]; simp); (have e2 : n ≠ vs.getD i 0 := fun q => e (h3.2 q); rw [show (a == b) = false from beq_eq_false_iff_ne.2 e, show (n == vs.getD i 0) = false from beq_eq_false_iff_ne.2 e2]; rfl)) : _ = true), h.below⟩
                · skip
                  (try simp only [decide_eq_true_eq, decide_eq_false_iff_not, beq_iff_eq, beq_eq_false_iff_ne, bne_iff_ne, ne_eq, bne_eq_false_iff_eq, Bool.not_eq_true', Bool.not_eq_false', Int.not_lt, Int.not_le, gt_iff_lt, ge_iff_le] at hs93)
                  refine' TL.y rfl rfl rfl ?hy121 ?_
                  case hy121 => exact Yl.move rfl rfl
                  refine' TL.y rfl rfl rfl ?hy122 ?_
                  case hy122 => exact Yl.move rfl rfl
                  refine' TL.y rfl rfl rfl ?hy123 ?_
                  case hy123 => exact Yl.move rfl rfl
                  refine' TL.y rfl rfl rfl ?hy124 ?_
                  case hy124 => first | exact Yl.ixn rfl rfl rfl Tryd.underlying39 (by kernel_rfl) (by omega) | exact Yl.ixz rfl rfl rfl Tryd.underlying39 (by kernel_rfl) (by omega) (by omega) | exact Yl.ixcn rfl rfl rfl Tryd.underlying39 (by kernel_rfl) (by omega) | exact Yl.ixcz rfl rfl rfl Tryd.underlying39 (by kernel_rfl) (by omega) (by omega)
                  refine' TL.y rfl rfl rfl ?hy125 ?_
                  case hy125 => first | exact Yl.load rfl rfl (by kernel_rfl) (Sl.rd 0 hS rfl (by omega) (fun _ => id)) | exact Yl.load rfl rfl (by kernel_rfl) (Sl.rd 0 hS2 rfl (by omega) (fun _ => id)) | exact Yl.load rfl rfl (by kernel_rfl) (Hp.cell mem0 rfl) | exact Yl.load rfl rfl (by kernel_rfl) (Hp.cell mem1 rfl) | exact Yl.load rfl rfl (by kernel_rfl) (Hp.rowAt mem0 (by omega) rfl) | exact Yl.load rfl rfl (by kernel_rfl) (Hp.rowAt mem1 (by omega) rfl)
                  refine' TL.y rfl rfl rfl ?hy126 ?_
                  case hy126 => exact Yl.val (Yl.bin rfl rfl rfl (Bin.shl _ _ _ _ _ (by omega))) (congrArg (Value.int .u64) (show IntKind.u64.wrap (1 * 2 ^ min (ws.getD i 0).toNat IntKind.u64.bits) = 2 ^ (ws.getD i 0).toNat from by rw [show min (ws.getD i 0).toNat IntKind.u64.bits = (ws.getD i 0).toNat from (by have : IntKind.u64.bits = 64 := rfl; omega), Int.one_mul]; have := pow62 htk.2.2.1 htk.2.2.2.1; exact u64in (by omega) (by omega)))
                  refine' TL.y rfl rfl rfl ?hy127 ?_
                  case hy127 => exact Yl.bin rfl rfl rfl (Bin.lss _ _ _ _)
                  refine' TL.y rfl rfl rfl ?hy128 ?_
                  case hy128 => exact Yl.pickF rfl rfl rfl
                  refine' TL.y rfl rfl rfl ?hy129 ?_
                  case hy129 => exact Yl.pickT rfl rfl rfl
                  refine' TL.y rfl rfl rfl ?hy130 ?_
                  case hy130 => exact Yl.move rfl rfl
                  refine TL.re (i := 103) (v' := .bool true) rfl (congrArg Value.bool (by first | rfl | exact decide_eq_true (by rw [hz3]; exact hf.2.2.2.2.2.2.2.2.2.1))) ?_
                  refine' TL.y rfl rfl rfl ?hy131 ?_
                  case hy131 => exact Yl.move rfl rfl
                  refine' TL.y rfl rfl rfl ?hy132 ?_
                  case hy132 => exact Yl.move rfl rfl
                  refine' TL.y rfl rfl rfl ?hy133 ?_
                  case hy133 => exact Yl.bin rfl rfl rfl (Bin.eql _ _ _ _)
                  refine' TL.y rfl rfl rfl ?hy134 ?_
                  case hy134 => exact Yl.move rfl rfl
                  refine' TL.y rfl rfl rfl ?hy135 ?_
                  case hy135 => exact Yl.move rfl rfl
                  refine' TL.y rfl rfl rfl ?hy136 ?_
                  case hy136 => exact Yl.move rfl rfl
                  refine' TL.y rfl rfl rfl ?hy137 ?_
                  case hy137 => first | exact Yl.ixn rfl rfl rfl Tryd.underlying39 (by kernel_rfl) (by omega) | exact Yl.ixz rfl rfl rfl Tryd.underlying39 (by kernel_rfl) (by omega) (by omega) | exact Yl.ixcn rfl rfl rfl Tryd.underlying39 (by kernel_rfl) (by omega) | exact Yl.ixcz rfl rfl rfl Tryd.underlying39 (by kernel_rfl) (by omega) (by omega)
                  refine' TL.y rfl rfl rfl ?hy138 ?_
                  case hy138 => first | exact Yl.load rfl rfl (by kernel_rfl) (Sl.rd 0 hS rfl (by omega) (fun _ => id)) | exact Yl.load rfl rfl (by kernel_rfl) (Sl.rd 0 hS2 rfl (by omega) (fun _ => id)) | exact Yl.load rfl rfl (by kernel_rfl) (Hp.cell mem0 rfl) | exact Yl.load rfl rfl (by kernel_rfl) (Hp.cell mem1 rfl) | exact Yl.load rfl rfl (by kernel_rfl) (Hp.rowAt mem0 (by omega) rfl) | exact Yl.load rfl rfl (by kernel_rfl) (Hp.rowAt mem1 (by omega) rfl)
                  refine' TL.y rfl rfl rfl ?hy139 ?_
                  case hy139 => exact Yl.bin rfl rfl rfl (Bin.eql _ _ _ _)
                  refine' TL.y rfl rfl rfl ?hy140 ?_
                  case hy140 => exact Yl.bin rfl rfl rfl (Bin.eqlB _ _ _ (by kernel_rfl))
                  refine' TL.y rfl rfl rfl ?hy141 ?_
                  case hy141 => exact Yl.pickT rfl rfl rfl
                  refine' TL.y rfl rfl rfl ?hy142 ?_
                  case hy142 => exact Yl.assign rfl rfl
                  refine TL.nil ?_
                  refine TE.next ?_
                  refine TC.ret ?_
                  refine TE.ret1 rfl rfl ?_
                  exact fun w h => ⟨congrArg (fun b => Ending.returned (Value.bool b)) (by first | rfl | (have h3 := hf.2.2.2.2.2.2.2.2.2.2.1; by_cases e : a = b; (rw [h3.1 e, e]; simp); (have e2 : n ≠ vs.getD i 0 := fun q => e (h3.2 q); rw [show (a == b) = false from beq_eq_false_iff_ne.2 e, show (n == vs.getD i 0) = false from beq_eq_false_iff_ne.2 e2]; rfl)) : _ = true), h.below⟩
end Go.Proofs.YtjampfcibocnlaaDoor.Pk
