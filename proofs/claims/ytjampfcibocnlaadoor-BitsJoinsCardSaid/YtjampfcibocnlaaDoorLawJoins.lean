/- The walk through BitsJoins. -/
import Derived.Test.YtjampfcibocnlaaDoorWorks
import Derived.Test.YtjampfcibocnlaaDoorProg
import Derived.RowKit3
namespace Go.Proofs.YtjampfcibocnlaaDoor.Pk
open Go Go.RowKit Go.Proofs.YtjampfcibocnlaaDoor.HL Go.Proofs.YtjampfcibocnlaaDoor.BM
set_option linter.unusedVariables false
set_option linter.unusedSimpArgs false
attribute [local irreducible] rowA
theorem packS_range (ws vs : List Int) : 0 ≤ (packS ws vs).1 ∧ (packS ws vs).1 < 18446744073709551616 := by
  unfold packS
  split
  · rename_i h
    have := packG_lt ws vs 0 0 h.1 (by decide) (Int.le_refl 0) (by decide)
    exact ⟨this.1, this.2.1⟩
  · exact ⟨by decide, by decide⟩
theorem k_un (W : World) (ws : List Int) (x : Int) (A : Option Addr) (cp : Nat) (hS : Sl W A (ws.map (Value.int .i64))) (hl : ws.length ≤ 1000) (hx0 : 0 ≤ x) (hx1 : x < 18446744073709551616) : Calls Go.Proofs.Tryd.prog 25 #[.slice A ws.length cp, .int .u64 x] W fun e w' => ∃ v, e = .returned (.tuple #[v, .int .i64 (unS ws x).2]) ∧ (ownR 3 1 v (unS ws x).1.length ((unS ws x).1.map (Value.int .i64))).holds w' ∧ Below W.heap.size W w' ∧ ∀ kk, (ownR 3 1 v (unS ws x).1.length ((unS ws x).1.map (Value.int .i64))).foot kk → W.heap.size ≤ kk := by
  by_cases h : okW ws 0 = true
  · exact k_un_ok W ws x A cp hS hl hx0 hx1 h
  · exact k_un_bad W ws x A cp hS hl hx0 hx1 h
theorem k_run (W : World) (ws : List Int) (x : Int) (A : Option Addr) (cp : Nat) (hS : Sl W A (ws.map (Value.int .i64))) (hl : ws.length ≤ 1000) (hx0 : 0 ≤ x) (hx1 : x < 18446744073709551616) : Calls Go.Proofs.Tryd.prog 26 #[.slice A ws.length cp, .int .u64 x] W fun e w' => ∃ v, e = .returned (.tuple #[v, .int .i64 (unS ws x).2]) ∧ (ownR 3 1 v (unS ws x).1.length ((unS ws x).1.map (Value.int .i64))).holds w' ∧ Below W.heap.size W w' ∧ ∀ kk, (ownR 3 1 v (unS ws x).1.length ((unS ws x).1.map (Value.int .i64))).foot kk → W.heap.size ≤ kk := by
  by_cases h : okW ws 0 = true
  · exact k_run_ok W ws x A cp hS hl hx0 hx1 h
  · exact k_run_bad W ws x A cp hS hl hx0 hx1 h
theorem unS_len (ws : List Int) (x : Int) : (unS ws x).1.length ≤ ws.length := by
  unfold unS
  split
  · rw [unG_length]; exact Nat.le_refl _
  · exact Nat.zero_le _
theorem unG_wf : ∀ (ws : List Int) (n x : Int), okW ws n = true → wfI (unG ws x)
  | [], n, x, _ => by intro y hy; simp [unG] at hy
  | w :: ws, n, x, h => by
    obtain ⟨h1, h2, h3, h4⟩ := okW_cons h
    intro y hy
    unfold unG at hy
    rcases List.mem_cons.1 hy with rfl | hy
    · have p := pow62 h1 h2
      have q1 := Int.emod_nonneg x (Int.ne_of_gt p.2.1)
      have q2 := Int.emod_lt_of_pos x p.2.1
      omega
    · exact unG_wf ws _ _ h4 y hy
theorem unS_wf (ws : List Int) (x : Int) : wfI (unS ws x).1 := by
  unfold unS
  split
  · rename_i h; exact unG_wf ws 0 x h.1
  · intro y hy; simp at hy
theorem jS_in {l : List Int} {k : Nat} (h : 1 ≤ k) (h1 : k ≤ 16) : jS l (k : Int) = joinS k l := by
  unfold jS; rw [if_pos (by omega), Int.toNat_natCast]
set_option maxRecDepth 100000 in
set_option maxHeartbeats 2000000 in
theorem law_Joins (W : World) (hT : TabOK W) (l : List Int) (A : Option Addr) (cp : Nat) (hS : Sl W A (l.map (Value.int .i64))) (xl : l.length ≤ 9223372036854775807) (d w0 : Int) : Calls Tryd.prog 10 #[.slice A l.length cp, .int .i64 d, .int .i64 w0] W fun e w' => e = .returned (.bool true) ∧ Below W.heap.size W w' := by
  have hM : Hp W (fun _ => False) [] W := Hp.start
  refine TC.enter (n := 67) Tryd.func10 rfl rfl rfl hM ?_
  refine TC.seq ?_
  refine TC.region ?_
  refine' TL.y rfl rfl rfl ?hy1 ?_
  case hy1 => exact Yl.assign rfl rfl
  refine TL.nil ?_
  refine TE.next ?_
  refine TC.seq ?_
  refine TC.region ?_
  refine' TL.c rfl rfl rfl ?hy2 ?_
  case hy2 => exact Yc.call rfl Tryd.func11 (by kernel_rfl) rfl rfl (Hp.calls (fun w h => k_works w (hT.below h.below)))
  intro _
  refine' TL.y rfl rfl rfl ?hy3 ?_
  case hy3 => exact Yl.assign rfl rfl
  refine TL.nil ?_
  refine TE.next ?_
  refine TC.seq ?_
  refine TC.seq ?_
  refine TC.region ?_
  refine' TL.y rfl rfl rfl ?hy4 ?_
  case hy4 => exact Yl.move rfl rfl
  refine' TL.y rfl rfl rfl ?hy5 ?_
  case hy5 => exact Yl.not rfl rfl
  refine TL.nil ?_
  refine TE.next ?_
  refine TC.no rfl rfl ?_
  refine TC.skip ?_
  refine TE.next ?_
  refine TC.seq ?_
  refine TC.seq ?_
  refine TC.region ?_
  refine' TL.y rfl rfl rfl ?hy6 ?_
  case hy6 => exact Yl.move rfl rfl
  refine' TL.y rfl rfl rfl ?hy7 ?_
  case hy7 => exact Yl.len rfl rfl Tryd.underlying39
  refine' TL.y rfl rfl rfl ?hy8 ?_
  case hy8 => exact Yl.bin rfl rfl rfl (Bin.gtr _ _ _ _)
  refine' TL.y rfl rfl rfl ?hy9 ?_
  case hy9 => exact Yl.move rfl rfl
  refine TL.split (i := 18) rfl (fun hs18 => ?_) (fun hs18 => ?_)
  · skip
    (try simp only [decide_eq_true_eq, decide_eq_false_iff_not, beq_iff_eq, beq_eq_false_iff_ne, bne_iff_ne, ne_eq, bne_eq_false_iff_eq, Bool.not_eq_true', Bool.not_eq_false', Int.not_lt, Int.not_le, gt_iff_lt, ge_iff_le] at hs18)
    refine TL.skip rfl rfl rfl ?_
    refine TL.skip rfl rfl rfl ?_
    refine' TL.y rfl rfl rfl ?hy10 ?_
    case hy10 => exact Yl.pickT rfl rfl rfl
    refine' TL.y rfl rfl rfl ?hy11 ?_
    case hy11 => exact Yl.move rfl rfl
    refine TL.skip rfl rfl rfl ?_
    refine TL.skip rfl rfl rfl ?_
    refine' TL.y rfl rfl rfl ?hy12 ?_
    case hy12 => exact Yl.pickT rfl rfl rfl
    refine TL.nil ?_
    refine TE.next ?_
    refine TC.yes rfl rfl ?_
    refine TC.seq ?_
    refine TC.region ?_
    refine' TL.y rfl rfl rfl ?hy13 ?_
    case hy13 => exact Yl.move rfl rfl
    refine' TL.y rfl rfl rfl ?hy14 ?_
    case hy14 => exact Yl.assign rfl rfl
    refine TL.nil ?_
    refine TE.next ?_
    refine TC.ret ?_
    refine TE.thenRet ?_
    refine TE.ret1 rfl rfl ?_
    exact fun w h => ⟨congrArg (fun b => Ending.returned (Value.bool b)) (by first | rfl | (rw [jS_in hk hk1, jS_in hk hk1, join_zeros]; simp) : _ = true), h.below⟩
  · skip
    (try simp only [decide_eq_true_eq, decide_eq_false_iff_not, beq_iff_eq, beq_eq_false_iff_ne, bne_iff_ne, ne_eq, bne_eq_false_iff_eq, Bool.not_eq_true', Bool.not_eq_false', Int.not_lt, Int.not_le, gt_iff_lt, ge_iff_le] at hs18)
    refine' TL.y rfl rfl rfl ?hy15 ?_
    case hy15 => exact Yl.move rfl rfl
    refine' TL.y rfl rfl rfl ?hy16 ?_
    case hy16 => exact Yl.bin rfl rfl rfl (Bin.lss _ _ _ _)
    refine' TL.y rfl rfl rfl ?hy17 ?_
    case hy17 => exact Yl.pickF rfl rfl rfl
    refine' TL.y rfl rfl rfl ?hy18 ?_
    case hy18 => exact Yl.move rfl rfl
    refine TL.split (i := 22) rfl (fun hs22 => ?_) (fun hs22 => ?_)
    · skip
      (try simp only [decide_eq_true_eq, decide_eq_false_iff_not, beq_iff_eq, beq_eq_false_iff_ne, bne_iff_ne, ne_eq, bne_eq_false_iff_eq, Bool.not_eq_true', Bool.not_eq_false', Int.not_lt, Int.not_le, gt_iff_lt, ge_iff_le] at hs22)
      refine TL.skip rfl rfl rfl ?_
      refine TL.skip rfl rfl rfl ?_
      refine' TL.y rfl rfl rfl ?hy19 ?_
      case hy19 => exact Yl.pickT rfl rfl rfl
      refine TL.nil ?_
      refine TE.next ?_
      refine TC.yes rfl rfl ?_
      refine TC.seq ?_
      refine TC.region ?_
      refine' TL.y rfl rfl rfl ?hy20 ?_
      case hy20 => exact Yl.move rfl rfl
      refine' TL.y rfl rfl rfl ?hy21 ?_
      case hy21 => exact Yl.assign rfl rfl
      refine TL.nil ?_
      refine TE.next ?_
      refine TC.ret ?_
      refine TE.thenRet ?_
      refine TE.ret1 rfl rfl ?_
      exact fun w h => ⟨congrArg (fun b => Ending.returned (Value.bool b)) (by first | rfl | (rw [jS_in hk hk1, jS_in hk hk1, join_zeros]; simp) : _ = true), h.below⟩
    · skip
      (try simp only [decide_eq_true_eq, decide_eq_false_iff_not, beq_iff_eq, beq_eq_false_iff_ne, bne_iff_ne, ne_eq, bne_eq_false_iff_eq, Bool.not_eq_true', Bool.not_eq_false', Int.not_lt, Int.not_le, gt_iff_lt, ge_iff_le] at hs22)
      refine' TL.y rfl rfl rfl ?hy22 ?_
      case hy22 => exact Yl.move rfl rfl
      refine' TL.y rfl rfl rfl ?hy23 ?_
      case hy23 => exact Yl.bin rfl rfl rfl (Bin.gtr _ _ _ _)
      refine' TL.y rfl rfl rfl ?hy24 ?_
      case hy24 => exact Yl.pickF rfl rfl rfl
      refine TL.nil ?_
      refine TE.next ?_
      refine TC.cond rfl (fun hs25 => ?_) (fun hs25 => ?_)
      · skip
        (try simp only [decide_eq_true_eq, decide_eq_false_iff_not, beq_iff_eq, beq_eq_false_iff_ne, bne_iff_ne, ne_eq, bne_eq_false_iff_eq, Bool.not_eq_true', Bool.not_eq_false', Int.not_lt, Int.not_le, gt_iff_lt, ge_iff_le] at hs25)
        refine TC.seq ?_
        refine TC.region ?_
        refine' TL.y rfl rfl rfl ?hy25 ?_
        case hy25 => exact Yl.move rfl rfl
        refine' TL.y rfl rfl rfl ?hy26 ?_
        case hy26 => exact Yl.assign rfl rfl
        refine TL.nil ?_
        refine TE.next ?_
        refine TC.ret ?_
        refine TE.thenRet ?_
        refine TE.ret1 rfl rfl ?_
        exact fun w h => ⟨congrArg (fun b => Ending.returned (Value.bool b)) (by first | rfl | (rw [jS_in hk hk1, jS_in hk hk1, join_zeros]; simp) : _ = true), h.below⟩
      · skip
        (try simp only [decide_eq_true_eq, decide_eq_false_iff_not, beq_iff_eq, beq_eq_false_iff_ne, bne_iff_ne, ne_eq, bne_eq_false_iff_eq, Bool.not_eq_true', Bool.not_eq_false', Int.not_lt, Int.not_le, gt_iff_lt, ge_iff_le] at hs25)
        obtain ⟨k, rfl⟩ := Int.eq_ofNat_of_zero_le (show 0 ≤ w0 by omega)
        have hk : 1 ≤ k := by omega
        have hk1 : k ≤ 16 := by omega
        have hp := pow16 hk1
        refine TC.skip ?_
        refine TE.next ?_
        refine TC.seq ?_
        refine TC.region ?_
        refine' TL.y rfl rfl rfl ?hy27 ?_
        case hy27 => exact Yl.move rfl rfl
        refine' TL.y rfl rfl rfl ?hy28 ?_
        case hy28 => exact Yl.move rfl rfl
        refine' TL.c rfl rfl rfl ?hy29 ?_
        case hy29 => exact Yc.call rfl Tryd.func30 (by kernel_rfl) rfl rfl (Hp.calls (fun w h => k_join w l A cp (hS.below h.below) (by omega) (k : Int)))
        intro _
        refine' TL.y rfl rfl rfl ?hy30 ?_
        case hy30 => exact Yl.assign rfl rfl
        refine TL.nil ?_
        refine TE.next ?_
        refine TC.seq ?_
        refine TC.region ?_
        refine' TL.y rfl rfl rfl ?hy31 ?_
        case hy31 => exact Yl.assign rfl rfl
        refine TL.nil ?_
        refine TE.next ?_
        refine TC.seq ?_
        refine TC.region ?_
        refine' TL.y rfl rfl rfl ?hy32 ?_
        case hy32 => exact Yl.move rfl rfl
        refine TL.wk (fun w h => h.nil (e := 3) (size := 1)) ?_
        refine' TL.y rfl rfl rfl ?hy33 ?_
        case hy33 => exact Yl.move rfl rfl
        refine' TL.mx rfl rfl rfl ?hy34 ?_
        case hy34 => exact Ym.appendSl (news := l.map (Value.int .i64)) rfl Tryd.underlying39 (by kernel_rfl) (z := .int .i64 0) (size := 1) (bytes := 8) rfl (by decide) (by decide) rfl rfl (by simp) (fun w h => hS.below h.below) (by simp [Value.oneCell']) (by omega) (fun v' => foc0)
        intro b32
        rw [show ([] : List Value) ++ l.map (Value.int .i64) = l.map (Value.int .i64) from rfl]
        refine' TL.y rfl rfl rfl ?hy35 ?_
        case hy35 => exact Yl.assign rfl rfl
        refine TL.nil ?_
        refine TE.next ?_
        refine TC.seq ?_
        refine TC.region ?_
        refine' TL.y rfl rfl rfl ?hy36 ?_
        case hy36 => exact Yl.move rfl rfl
        refine' TL.y rfl rfl rfl ?hy37 ?_
        case hy37 => exact Yl.move rfl rfl
        refine' TL.mx rfl rfl rfl ?hy38 ?_
        case hy38 => exact Ym.buildSlice (cells := #[_]) (z := .int .i64 0) (size := 1) #[.int .i64 0] rfl Tryd.underlying39 (by kernel_rfl) (by decide) (by decide) (by kernel_rfl) rfl rfl
        intro b35
        refine' TL.mx rfl rfl rfl ?hy39 ?_
        case hy39 => exact Ym.append (news := [.int .i64 d]) rfl Tryd.underlying39 (by kernel_rfl) (z := .int .i64 0) (size := 1) (bytes := 8) rfl (by decide) (by decide) rfl rfl rfl (Hp.cells mem0 (fun j v hj => by simpa [Value.cells] using hj)) (by simp [Value.oneCell']) (by first | omega | (simp; omega)) (fun v' => foc1)
        intro b36
        refine TL.wk (M' := Hp W (fun _ => False) [ownR 3 1 b36 (l ++ [d]).length ((l ++ [d]).map (Value.int .i64))]) (fun w h => by have h2 := h.sub (.cons _ (.refl _)); simpa using h2) ?_
        refine TL.fact (Hp.ownSl mem0) ?_
        rintro ⟨A1, c1, rfl⟩
        refine' TL.y rfl rfl rfl ?hy40 ?_
        case hy40 => exact Yl.assign rfl rfl
        refine TL.nil ?_
        refine TE.next ?_
        refine TC.seq ?_
        refine TC.region ?_
        refine' TL.y rfl rfl rfl ?hy41 ?_
        case hy41 => exact Yl.move rfl rfl
        refine' TL.y rfl rfl rfl ?hy42 ?_
        case hy42 => exact Yl.move rfl rfl
        refine' TL.c rfl rfl rfl ?hy43 ?_
        case hy43 => exact Yc.call rfl Tryd.func30 (by kernel_rfl) rfl rfl (Hp.calls (fun w h => k_join w (l ++ [d]) A1 c1 (Sl.ofOwn (h.all _ mem0)) (by simp; omega) (k : Int)))
        intro _
        refine' TL.y rfl rfl rfl ?hy44 ?_
        case hy44 => exact Yl.assign rfl rfl
        refine TL.nil ?_
        refine TE.next ?_
        refine TC.seq ?_
        refine TC.region ?_
        refine' TL.y rfl rfl rfl ?hy45 ?_
        case hy45 => exact Yl.assign rfl rfl
        refine TL.nil ?_
        refine TE.next ?_
        refine TC.seq ?_
        refine TC.region ?_
        refine' TL.y rfl rfl rfl ?hy46 ?_
        case hy46 => exact Yl.move rfl rfl
        refine TL.wk (fun w h => h.nil (e := 3) (size := 1)) ?_
        refine' TL.mx rfl rfl rfl ?hy47 ?_
        case hy47 => exact Ym.buildSlice (cells := #[_, _]) (z := .int .i64 0) (size := 1) #[.int .i64 0, .int .i64 0] rfl Tryd.underlying39 (by kernel_rfl) (by decide) (by decide) (by kernel_rfl) rfl rfl
        intro b41
        refine' TL.mx rfl rfl rfl ?hy48 ?_
        case hy48 => exact Ym.append (news := [.int .i64 0, .int .i64 0]) rfl Tryd.underlying39 (by kernel_rfl) (z := .int .i64 0) (size := 1) (bytes := 8) rfl (by decide) (by decide) rfl rfl rfl (Hp.cells mem0 (fun j v hj => by simpa [Value.cells] using hj)) (by simp [Value.oneCell']) (by first | omega | (simp; omega)) (fun v' => foc1)
        intro b42
        refine' TL.y rfl rfl rfl ?hy49 ?_
        case hy49 => exact Yl.assign rfl rfl
        refine TL.nil ?_
        refine TE.next ?_
        refine TC.seq ?_
        refine TC.region ?_
        refine' TL.y rfl rfl rfl ?hy50 ?_
        case hy50 => exact Yl.move rfl rfl
        refine' TL.y rfl rfl rfl ?hy51 ?_
        case hy51 => exact Yl.move rfl rfl
        refine' TL.mx rfl rfl rfl ?hy52 ?_
        case hy52 => exact Ym.appendSl (news := l.map (Value.int .i64)) rfl Tryd.underlying39 (by kernel_rfl) (z := .int .i64 0) (size := 1) (bytes := 8) rfl (by decide) (by decide) rfl rfl (by simp) (fun w h => hS.below h.below) (by simp [Value.oneCell']) (by simp; omega) (fun v' => foc1)
        intro b45
        refine TL.wk (M' := Hp W (fun _ => False) [ownR 3 1 b45 (0 :: 0 :: l).length ((0 :: 0 :: l).map (Value.int .i64))]) (fun w h => by have h2 := h.sub ((List.Sublist.refl _).cons _); have h3 := h2.sub (.cons_cons _ (List.nil_sublist _)); rw [show (0 :: 0 :: l : List Int).length = 0 + 2 + l.length from by simp only [List.length_cons]; omega]; exact h3) ?_
        refine TL.fact (Hp.ownSl mem0) ?_
        rintro ⟨A2, c2, rfl⟩
        refine' TL.y rfl rfl rfl ?hy53 ?_
        case hy53 => exact Yl.assign rfl rfl
        refine TL.nil ?_
        refine TE.next ?_
        refine TC.seq ?_
        refine TC.draw (k := 22) _ [] #[false, false, false, false, false, false, false, false, false, false, false, false, false, false, false, false, false, false, false, false, false, false] (by kernel_rfl) rfl rfl (fun _ h => h.drew) (fun _ h => h) ?_
        refine' TA.y (i := 0) #[true, false, false, false, false, false, false, false, false, false, false, false, false, false, false, false, false, false, false, false, false, false] rfl rfl rfl (by kernel_rfl) (fun _ _ _ h => h) (fun _ h => by exact Hp.sub h (by repeat (first | exact List.Sublist.refl _ | apply List.Sublist.cons))) rfl ?hy54 ?_
        case hy54 => exact Yl.move rfl rfl
        refine' TA.y (i := 1) #[true, true, false, false, false, false, false, false, false, false, false, false, false, false, false, false, false, false, false, false, false, false] rfl rfl rfl (by kernel_rfl) (fun _ _ _ h => h) (fun _ h => by exact Hp.sub h (by repeat (first | exact List.Sublist.refl _ | apply List.Sublist.cons))) rfl ?hy55 ?_
        case hy55 => exact Yl.move rfl rfl
        refine' TA.y (i := 2) #[true, true, true, false, false, false, false, false, false, false, false, false, false, false, false, false, false, false, false, false, false, false] rfl rfl rfl (by kernel_rfl) (fun _ _ _ h => h) (fun _ h => by exact Hp.sub h (by repeat (first | exact List.Sublist.refl _ | apply List.Sublist.cons))) rfl ?hy56 ?_
        case hy56 => exact Yl.move rfl rfl
        refine' TA.y (i := 3) #[true, true, true, true, false, false, false, false, false, false, false, false, false, false, false, false, false, false, false, false, false, false] rfl rfl rfl (by kernel_rfl) (fun _ _ _ h => h) (fun _ h => by exact Hp.sub h (by repeat (first | exact List.Sublist.refl _ | apply List.Sublist.cons))) rfl ?hy57 ?_
        case hy57 => exact Yl.move rfl rfl
        refine' TA.y (i := 4) #[true, true, true, true, true, false, false, false, false, false, false, false, false, false, false, false, false, false, false, false, false, false] rfl rfl rfl (by kernel_rfl) (fun _ _ _ h => h) (fun _ h => by exact Hp.sub h (by repeat (first | exact List.Sublist.refl _ | apply List.Sublist.cons))) rfl ?hy58 ?_
        case hy58 => exact Yl.move rfl rfl
        refine' TA.y (i := 5) #[true, true, true, true, true, true, false, false, false, false, false, false, false, false, false, false, false, false, false, false, false, false] rfl rfl rfl (by kernel_rfl) (fun _ _ _ h => h) (fun _ h => by exact Hp.sub h (by repeat (first | exact List.Sublist.refl _ | apply List.Sublist.cons))) rfl ?hy59 ?_
        case hy59 => exact Yl.val (Yl.bin rfl rfl rfl (Bin.shl _ _ _ _ _ (by omega))) (congrArg (Value.int .u64) (show IntKind.u64.wrap (jS l (k : Int) * 2 ^ min (k : Int).toNat IntKind.u64.bits) = jS l (k : Int) * 2 ^ k % 18446744073709551616 from by rw [Int.toNat_natCast, show min k IntKind.u64.bits = k from by (have : IntKind.u64.bits = 64 := rfl); omega, u64mod]))
        refine' TA.y (i := 6) #[true, true, true, true, true, true, true, false, false, false, false, false, false, false, false, false, false, false, false, false, false, false] rfl rfl rfl (by kernel_rfl) (fun _ _ _ h => h) (fun _ h => by exact Hp.sub h (by repeat (first | exact List.Sublist.refl _ | apply List.Sublist.cons))) rfl ?hy60 ?_
        case hy60 => exact Yl.move rfl rfl
        refine' TA.y (i := 7) #[true, true, true, true, true, true, true, true, false, false, false, false, false, false, false, false, false, false, false, false, false, false] rfl rfl rfl (by kernel_rfl) (fun _ _ _ h => h) (fun _ h => by exact Hp.sub h (by repeat (first | exact List.Sublist.refl _ | apply List.Sublist.cons))) rfl ?hy61 ?_
        case hy61 => exact Yl.val (Yl.conv rfl rfl (by kernel_rfl) Tryd.underlying40) (congrArg (Value.int .u64) (show IntKind.u64.wrap d = d % 18446744073709551616 from u64mod d))
        refine' TA.y (i := 8) #[true, true, true, true, true, true, true, true, true, false, false, false, false, false, false, false, false, false, false, false, false, false] rfl rfl rfl (by kernel_rfl) (fun _ _ _ h => h) (fun _ h => by exact Hp.sub h (by repeat (first | exact List.Sublist.refl _ | apply List.Sublist.cons))) rfl ?hy62 ?_
        case hy62 => exact Yl.move rfl rfl
        refine' TA.y (i := 9) #[true, true, true, true, true, true, true, true, true, true, false, false, false, false, false, false, false, false, false, false, false, false] rfl rfl rfl (by kernel_rfl) (fun _ _ _ h => h) (fun _ h => by exact Hp.sub h (by repeat (first | exact List.Sublist.refl _ | apply List.Sublist.cons))) rfl ?hy63 ?_
        case hy63 => exact Yl.val (Yl.bin rfl rfl rfl (Bin.shl _ _ _ _ _ (by omega))) (congrArg (Value.int .u64) (show IntKind.u64.wrap (1 * 2 ^ min (k : Int).toNat IntKind.u64.bits) = 2 ^ k from by rw [Int.toNat_natCast, show min k IntKind.u64.bits = k from by (have : IntKind.u64.bits = 64 := rfl); omega, Int.one_mul]; exact u64in (by omega) (by omega)))
        refine' TA.y (i := 10) #[true, true, true, true, true, true, true, true, true, true, true, false, false, false, false, false, false, false, false, false, false, false] rfl rfl rfl (by kernel_rfl) (fun _ _ _ h => h) (fun _ h => by exact Hp.sub h (by repeat (first | exact List.Sublist.refl _ | apply List.Sublist.cons))) rfl ?hy64 ?_
        case hy64 => exact Yl.val (Yl.bin rfl rfl rfl (Bin.rem _ _ _ _ (by omega))) (congrArg (Value.int .u64) (show (d % 18446744073709551616).tmod (2 ^ k) = d % 2 ^ k from by rw [Int.tmod_eq_emod_of_nonneg (by omega), emod64 _ hk1]))
        refine' TA.y (i := 11) #[true, true, true, true, true, true, true, true, true, true, true, true, false, false, false, false, false, false, false, false, false, false] rfl rfl rfl (by kernel_rfl) (fun _ _ _ h => h) (fun _ h => by exact Hp.sub h (by repeat (first | exact List.Sublist.refl _ | apply List.Sublist.cons))) rfl ?hy65 ?_
        case hy65 => exact Yl.val (Yl.bin rfl rfl rfl (Bin.add _ _ _ _)) (congrArg (Value.int .u64) (show IntKind.u64.wrap (jS l (k : Int) * 2 ^ k % 18446744073709551616 + d % 2 ^ k) = jS (l ++ [d]) (k : Int) from by rw [join_add (jS l (k : Int)) d hk1, jS_in hk hk1, jS_in hk hk1, joinS, joinS, List.foldl_append]; rfl))
        refine' TA.y (i := 12) #[true, true, true, true, true, true, true, true, true, true, true, true, true, false, false, false, false, false, false, false, false, false] rfl rfl rfl (by kernel_rfl) (fun _ _ _ h => h) (fun _ h => by exact Hp.sub h (by repeat (first | exact List.Sublist.refl _ | apply List.Sublist.cons))) rfl ?hy66 ?_
        case hy66 => exact Yl.bin rfl rfl rfl (Bin.eql _ _ _ _)
        refine' TA.y (i := 13) #[true, true, true, true, true, true, true, true, true, true, true, true, true, true, false, false, false, false, false, false, false, false] rfl rfl rfl (by kernel_rfl) (fun _ _ _ h => h) (fun _ h => by exact Hp.sub h (by repeat (first | exact List.Sublist.refl _ | apply List.Sublist.cons))) rfl ?hy67 ?_
        case hy67 => exact Yl.pickT rfl rfl rfl
        refine' TA.y (i := 14) #[true, true, true, true, true, true, true, true, true, true, true, true, true, true, true, false, false, false, false, false, false, false] rfl rfl rfl (by kernel_rfl) (fun _ _ _ h => h) (fun _ h => by exact Hp.sub h (by repeat (first | exact List.Sublist.refl _ | apply List.Sublist.cons))) rfl ?hy68 ?_
        case hy68 => exact Yl.move rfl rfl
        refine TA.re (i := 60) (v' := .bool true) rfl (congrArg Value.bool (by simp)) ?_
        refine' TA.y (i := 15) #[true, true, true, true, true, true, true, true, true, true, true, true, true, true, true, true, false, false, false, false, false, false] rfl rfl rfl (by kernel_rfl) (fun _ _ _ h => h) (fun _ h => by exact Hp.sub h (by repeat (first | exact List.Sublist.refl _ | apply List.Sublist.cons))) rfl ?hy69 ?_
        case hy69 => exact Yl.move rfl rfl
        refine' TA.y (i := 16) #[true, true, true, true, true, true, true, true, true, true, true, true, true, true, true, true, true, false, false, false, false, false] rfl rfl rfl (by kernel_rfl) (fun _ _ _ h => h) (fun _ h => by exact Hp.sub h (by repeat (first | exact List.Sublist.refl _ | apply List.Sublist.cons))) rfl ?hy70 ?_
        case hy70 => exact Yl.move rfl rfl
        refine' TA.y (i := 18) #[true, true, true, true, true, true, true, true, true, true, true, true, true, true, true, true, true, false, true, false, false, false] rfl rfl rfl (by kernel_rfl) (fun _ _ _ h => h) (fun _ h => by exact Hp.sub h (by repeat (first | exact List.Sublist.refl _ | apply List.Sublist.cons))) rfl ?hy71 ?_
        case hy71 => exact Yl.move rfl rfl
        refine' TA.c (i := 17) #[true, true, true, true, true, true, true, true, true, true, true, true, true, true, true, true, true, true, true, false, false, false] rfl rfl rfl (by kernel_rfl) (by decide) rfl ?hy72 ?hz72 ?_
        case hy72 => exact Yc.call rfl Tryd.func30 (by kernel_rfl) rfl rfl (Hp.calls (fun w h => k_join w (0 :: 0 :: l) A2 c2 (Sl.ofOwn (h.all _ mem0)) (by simp; omega) (k : Int)))
        case hz72 => exact (fun _ _ h => by exact Hp.sub h (by repeat (first | exact List.Sublist.refl _ | apply List.Sublist.cons)))
        intro _
        refine' TA.y (i := 19) #[true, true, true, true, true, true, true, true, true, true, true, true, true, true, true, true, true, true, true, true, false, false] rfl rfl rfl (by kernel_rfl) (fun _ _ _ h => h) (fun _ h => by exact Hp.sub h (by repeat (first | exact List.Sublist.refl _ | apply List.Sublist.cons))) rfl ?hy73 ?_
        case hy73 => exact Yl.bin rfl rfl rfl (Bin.eql _ _ _ _)
        refine' TA.y (i := 20) #[true, true, true, true, true, true, true, true, true, true, true, true, true, true, true, true, true, true, true, true, true, false] rfl rfl rfl (by kernel_rfl) (fun _ _ _ h => h) (fun _ h => by exact Hp.sub h (by repeat (first | exact List.Sublist.refl _ | apply List.Sublist.cons))) rfl ?hy74 ?_
        case hy74 => exact Yl.pickT rfl rfl rfl
        refine' TA.y (i := 21) #[true, true, true, true, true, true, true, true, true, true, true, true, true, true, true, true, true, true, true, true, true, true] rfl rfl rfl (by kernel_rfl) (fun _ _ _ h => h) (fun _ h => by exact Hp.sub h (by repeat (first | exact List.Sublist.refl _ | apply List.Sublist.cons))) rfl ?hy75 ?_
        case hy75 => exact Yl.assign rfl rfl
        refine TA.done (by kernel_rfl) ?_
        refine TE.next ?_
        refine TC.ret ?_
        refine TE.ret1 rfl rfl ?_
        exact fun w h => ⟨congrArg (fun b => Ending.returned (Value.bool b)) (by first | rfl | (rw [jS_in hk hk1, jS_in hk hk1, join_zeros]; simp) : _ = true), h.below⟩
end Go.Proofs.YtjampfcibocnlaaDoor.Pk
