/- One. -/
import Derived.Test.YthjllhaebanplaaShW
import Derived.Test.YthjllhaebanplaaProg
import Derived.RowKit3
namespace Go.Proofs.Ythjllhaebanplaa.Pk
open Go Go.RowKit Go.Proofs.Ythjllhaebanplaa.HL Go.Proofs.Ythjllhaebanplaa.Ev Go.Proofs.YthjllhaebanplaaW.PrintWords Go.Proofs.ShP
set_option linter.unusedVariables false
set_option linter.unusedSimpArgs false
attribute [local irreducible] sumF Vw splitF capF
def zF (p : Nat) (u : Nat → Int) : Nat → Int := fun j => if j < p then u j else if j = p then 0 else u (j - 1)
theorem zF_ins (p m : Nat) (u : Nat → Int) : Ins p m u (zF p u) := ⟨by unfold zF; rw [if_neg (by omega), if_pos rfl], fun j hj => by
  unfold zF sh
  by_cases h : j < p
  · rw [if_pos h, if_pos h]
  · rw [if_neg h, if_neg (by omega), if_neg (by omega)]; congr 1⟩
theorem Vw_z {p m : Nat} {u : Nat → Int} (hp : p ≤ m) : Vw p u ++ [.int .i64 0] ++ Vw (m - p) (fun j => u (p + j)) = Vw (m + 1) (zF p u) := by
  apply List.ext_getElem?
  intro j
  have hl : (Vw p u ++ [Value.int .i64 0]).length = p + 1 := by simp [Vw_length]
  by_cases h : j < p
  · rw [List.getElem?_append_left (by omega), List.getElem?_append_left (by rw [Vw_length]; exact h), Vw_get h, Vw_get (by omega)]; unfold zF; rw [if_pos h]
  · by_cases h1 : j = p
    · subst h1
      rw [List.getElem?_append_left (by omega), List.getElem?_append_right (by rw [Vw_length]; exact Nat.le_refl _), Vw_length, Nat.sub_self, Vw_get (by omega)]; unfold zF; rw [if_neg h, if_pos rfl]; rfl
    · rw [List.getElem?_append_right (by omega), hl]
      by_cases h2 : j < m + 1
      · rw [Vw_get (by omega), Vw_get h2]; unfold zF; rw [if_neg h, if_neg h1, show p + (j - (p + 1)) = j - 1 by omega]
      · rw [List.getElem?_eq_none (by rw [Vw_length]; omega), List.getElem?_eq_none (by rw [Vw_length]; omega)]
theorem Vw_pre {p m : Nat} {u : Nat → Int} (hp : p ≤ m) {j : Nat} {v : Value} (h : (Vw p u)[j]? = some v) : (Vw m u)[j]? = some v := by
  by_cases hj : j < p
  · rw [Vw_get hj] at h; rw [Vw_get (by omega)]; exact h
  · rw [List.getElem?_eq_none (by rw [Vw_length]; omega)] at h; cases h
theorem sl_pre {W : World} {A : Option Addr} {p m : Nat} {u : Nat → Int} (hp : p ≤ m) (h : Sl W A (Vw m u)) : Sl W A (Vw p u) := fun j v hj => h j v (Vw_pre hp hj)
theorem sl_tail {W : World} {b o p m cp : Nat} {u : Nat → Int} (hp : p ≤ m) (hm : m ≤ cp) (h : Sl W (some ⟨b, o, none⟩) (Vw m u)) : ∃ A', sliced (some ⟨b, o, none⟩) p m cp 1 = .slice A' (m - p) (cp - p) ∧ Sl W A' (Vw (m - p) (fun j => u (p + j))) := by
  refine ⟨_, rfl, fun j v hj => ?_⟩
  have hj2 : j < m - p := by
    rcases Nat.lt_or_ge j (m - p) with h | h
    · exact h
    · rw [List.getElem?_eq_none (by rw [Vw_length]; exact h)] at hj; cases hj
  rw [if_neg (by omega)]
  rw [Vw_get hj2] at hj
  refine ⟨⟨b, o + p, none⟩, by simp [Addr.at_], ?_⟩
  obtain ⟨ad, e, hc⟩ := h (p + j) v (by rw [Vw_get (by omega)]; exact hj)
  cases e
  rw [Addr.at_] at hc ⊢
  rw [Nat.add_assoc]; exact hc
theorem capF_ins {n : Int} {m p : Nat} {w w' : Nat → Int} (h : Ok n m w) (hi : Ins p m w w') (hm : m < 64) (hp : p ≤ m) : Ins p m (capF n m w) (capF n (m + 1) w') := by
  unfold capF
  exact cap_ins (out := fun _ => 0) (out' := fun _ => 0) h hi ⟨rfl, fun _ _ => rfl⟩ hm hp _
theorem ok_one {n : Int} {m : Nat} {u : Nat → Int} (h : Ok n m u) (hm : 0 < m) : Ok n 1 u := ⟨h.n0, h.n1, by decide, fun j hj => h.w0 j (by omega), fun j hj => h.w1 j (by omega)⟩
set_option maxRecDepth 100000 in
set_option maxHeartbeats 2000000 in
theorem law_one (W : World) {m : Nat} {u : Nat → Int} {A : Option Addr} {cp : Nat} (hS : Sl W A (Vw m u)) (hm : m ≤ 9223372036854775807) (n at_ : Int) (hcp : m ≤ cp) : Calls Try.prog 7 #[.int .i64 n, .slice A m cp, .int .i64 at_] W fun e w' => e = .returned (.bool true) ∧ Below W.heap.size W w' := by
  have hM : Hp W (fun _ => False) [] W := Hp.start
  refine TC.enter (n := 192) Try.func7 rfl rfl rfl hM ?_
  refine TC.seq ?_
  refine TC.region ?_
  refine' TL.y rfl rfl rfl ?hy1 ?_
  case hy1 => exact Yl.assign rfl rfl
  refine TL.nil ?_
  refine TE.next ?_
  refine TC.seq ?_
  refine TC.region ?_
  refine' TL.c rfl rfl rfl ?hy2 ?_
  case hy2 => exact Yc.call rfl Try.func9 (by kernel_rfl) rfl rfl (Hp.calls (fun w h => k_works w))
  intro _
  refine' TL.y rfl rfl rfl ?hy3 ?_
  case hy3 => exact Yl.assign rfl rfl
  refine TL.nil ?_
  refine TE.next ?_
  refine TC.seq ?_
  refine TC.seq ?_
  refine TC.region ?_
  refine' TL.y rfl rfl rfl ?hy4 ?_
  case hy4 => exact Yl.move rfl rfl
  refine' TL.y rfl rfl rfl ?hy5 ?_
  case hy5 => exact Yl.not rfl rfl
  refine TL.nil ?_
  refine TE.next ?_
  refine TC.no rfl rfl ?_
  refine TC.skip ?_
  refine TE.next ?_
  refine TC.seq ?_
  refine TC.region ?_
  refine' TL.y rfl rfl rfl ?hy6 ?_
  case hy6 => exact Yl.move rfl rfl
  refine' TL.y rfl rfl rfl ?hy7 ?_
  case hy7 => exact Yl.move rfl rfl
  refine' TL.c rfl rfl rfl ?hy8 ?_
  case hy8 => exact Yc.call rfl Try.func17 (by kernel_rfl) rfl rfl (Hp.calls (fun w h => k_rright w (hS.below h.below) hm n))
  intro _
  refine' TL.y rfl rfl rfl ?hy9 ?_
  case hy9 => exact Yl.assign rfl rfl
  refine TL.nil ?_
  refine TE.next ?_
  refine TC.seq ?_
  refine TC.seq ?_
  refine TC.region ?_
  refine' TL.y rfl rfl rfl ?hy10 ?_
  case hy10 => exact Yl.move rfl rfl
  refine' TL.y rfl rfl rfl ?hy11 ?_
  case hy11 => exact Yl.not rfl rfl
  refine' TL.y rfl rfl rfl ?hy12 ?_
  case hy12 => exact Yl.move rfl rfl
  refine TL.split (i := 27) rfl (fun hs27 => ?_) (fun hs27 => ?_)
  · skip
    (try simp only [decide_eq_true_eq, decide_eq_false_iff_not, beq_iff_eq, beq_eq_false_iff_ne, bne_iff_ne, ne_eq, bne_eq_false_iff_eq, Bool.not_eq_true', Bool.not_eq_false', Int.not_lt, Int.not_le, gt_iff_lt, ge_iff_le] at hs27)
    refine TL.skip rfl rfl rfl ?_
    refine TL.skip rfl rfl rfl ?_
    refine TL.skip rfl rfl rfl ?_
    refine' TL.y rfl rfl rfl ?hy13 ?_
    case hy13 => exact Yl.pickT rfl rfl rfl
    refine' TL.y rfl rfl rfl ?hy14 ?_
    case hy14 => exact Yl.move rfl rfl
    refine TL.skip rfl rfl rfl ?_
    refine TL.skip rfl rfl rfl ?_
    refine' TL.y rfl rfl rfl ?hy15 ?_
    case hy15 => exact Yl.pickT rfl rfl rfl
    refine' TL.y rfl rfl rfl ?hy16 ?_
    case hy16 => exact Yl.move rfl rfl
    refine TL.skip rfl rfl rfl ?_
    refine TL.skip rfl rfl rfl ?_
    refine TL.skip rfl rfl rfl ?_
    refine TL.skip rfl rfl rfl ?_
    refine' TL.y rfl rfl rfl ?hy17 ?_
    case hy17 => exact Yl.pickT rfl rfl rfl
    refine' TL.y rfl rfl rfl ?hy18 ?_
    case hy18 => exact Yl.move rfl rfl
    refine TL.skip rfl rfl rfl ?_
    refine TL.skip rfl rfl rfl ?_
    refine TL.skip rfl rfl rfl ?_
    refine' TL.y rfl rfl rfl ?hy19 ?_
    case hy19 => exact Yl.pickT rfl rfl rfl
    refine' TL.y rfl rfl rfl ?hy20 ?_
    case hy20 => exact Yl.move rfl rfl
    refine TL.skip rfl rfl rfl ?_
    refine TL.skip rfl rfl rfl ?_
    refine TL.skip rfl rfl rfl ?_
    refine' TL.y rfl rfl rfl ?hy21 ?_
    case hy21 => exact Yl.pickT rfl rfl rfl
    refine TL.nil ?_
    refine TE.next ?_
    refine TC.yes rfl rfl ?_
    refine TC.seq ?_
    refine TC.region ?_
    refine' TL.y rfl rfl rfl ?hy22 ?_
    case hy22 => exact Yl.move rfl rfl
    refine' TL.y rfl rfl rfl ?hy23 ?_
    case hy23 => exact Yl.assign rfl rfl
    refine TL.nil ?_
    refine TE.next ?_
    refine TC.ret ?_
    refine TE.thenRet ?_
    refine TE.ret1 rfl rfl ?_
    exact fun w h => ⟨by simp, (h.sub (List.nil_sublist _)).below⟩
  · skip
    (try simp only [decide_eq_true_eq, decide_eq_false_iff_not, beq_iff_eq, beq_eq_false_iff_ne, bne_iff_ne, ne_eq, bne_eq_false_iff_eq, Bool.not_eq_true', Bool.not_eq_false', Int.not_lt, Int.not_le, gt_iff_lt, ge_iff_le] at hs27)
    refine' TL.y rfl rfl rfl ?hy24 ?_
    case hy24 => exact Yl.move rfl rfl
    refine' TL.y rfl rfl rfl ?hy25 ?_
    case hy25 => exact Yl.len rfl rfl Try.underlying22
    refine' TL.y rfl rfl rfl ?hy26 ?_
    case hy26 => exact Yl.bin rfl rfl rfl (Bin.gtr _ _ _ _)
    refine' TL.y rfl rfl rfl ?hy27 ?_
    case hy27 => exact Yl.pickF rfl rfl rfl
    refine' TL.y rfl rfl rfl ?hy28 ?_
    case hy28 => exact Yl.move rfl rfl
    refine TL.split (i := 32) rfl (fun hs32 => ?_) (fun hs32 => ?_)
    · skip
      (try simp only [decide_eq_true_eq, decide_eq_false_iff_not, beq_iff_eq, beq_eq_false_iff_ne, bne_iff_ne, ne_eq, bne_eq_false_iff_eq, Bool.not_eq_true', Bool.not_eq_false', Int.not_lt, Int.not_le, gt_iff_lt, ge_iff_le] at hs32)
      refine TL.skip rfl rfl rfl ?_
      refine TL.skip rfl rfl rfl ?_
      refine' TL.y rfl rfl rfl ?hy29 ?_
      case hy29 => exact Yl.pickT rfl rfl rfl
      refine' TL.y rfl rfl rfl ?hy30 ?_
      case hy30 => exact Yl.move rfl rfl
      refine TL.skip rfl rfl rfl ?_
      refine TL.skip rfl rfl rfl ?_
      refine TL.skip rfl rfl rfl ?_
      refine TL.skip rfl rfl rfl ?_
      refine' TL.y rfl rfl rfl ?hy31 ?_
      case hy31 => exact Yl.pickT rfl rfl rfl
      refine' TL.y rfl rfl rfl ?hy32 ?_
      case hy32 => exact Yl.move rfl rfl
      refine TL.skip rfl rfl rfl ?_
      refine TL.skip rfl rfl rfl ?_
      refine TL.skip rfl rfl rfl ?_
      refine' TL.y rfl rfl rfl ?hy33 ?_
      case hy33 => exact Yl.pickT rfl rfl rfl
      refine' TL.y rfl rfl rfl ?hy34 ?_
      case hy34 => exact Yl.move rfl rfl
      refine TL.skip rfl rfl rfl ?_
      refine TL.skip rfl rfl rfl ?_
      refine TL.skip rfl rfl rfl ?_
      refine' TL.y rfl rfl rfl ?hy35 ?_
      case hy35 => exact Yl.pickT rfl rfl rfl
      refine TL.nil ?_
      refine TE.next ?_
      refine TC.yes rfl rfl ?_
      refine TC.seq ?_
      refine TC.region ?_
      refine' TL.y rfl rfl rfl ?hy36 ?_
      case hy36 => exact Yl.move rfl rfl
      refine' TL.y rfl rfl rfl ?hy37 ?_
      case hy37 => exact Yl.assign rfl rfl
      refine TL.nil ?_
      refine TE.next ?_
      refine TC.ret ?_
      refine TE.thenRet ?_
      refine TE.ret1 rfl rfl ?_
      exact fun w h => ⟨by simp, (h.sub (List.nil_sublist _)).below⟩
    · skip
      (try simp only [decide_eq_true_eq, decide_eq_false_iff_not, beq_iff_eq, beq_eq_false_iff_ne, bne_iff_ne, ne_eq, bne_eq_false_iff_eq, Bool.not_eq_true', Bool.not_eq_false', Int.not_lt, Int.not_le, gt_iff_lt, ge_iff_le] at hs32)
      refine' TL.y rfl rfl rfl ?hy38 ?_
      case hy38 => exact Yl.move rfl rfl
      refine' TL.y rfl rfl rfl ?hy39 ?_
      case hy39 => exact Yl.bin rfl rfl rfl (Bin.lss _ _ _ _)
      refine' TL.y rfl rfl rfl ?hy40 ?_
      case hy40 => exact Yl.pickF rfl rfl rfl
      refine' TL.y rfl rfl rfl ?hy41 ?_
      case hy41 => exact Yl.move rfl rfl
      refine TL.split (i := 36) rfl (fun hs36 => ?_) (fun hs36 => ?_)
      · skip
        (try simp only [decide_eq_true_eq, decide_eq_false_iff_not, beq_iff_eq, beq_eq_false_iff_ne, bne_iff_ne, ne_eq, bne_eq_false_iff_eq, Bool.not_eq_true', Bool.not_eq_false', Int.not_lt, Int.not_le, gt_iff_lt, ge_iff_le] at hs36)
        refine TL.skip rfl rfl rfl ?_
        refine TL.skip rfl rfl rfl ?_
        refine TL.skip rfl rfl rfl ?_
        refine TL.skip rfl rfl rfl ?_
        refine' TL.y rfl rfl rfl ?hy42 ?_
        case hy42 => exact Yl.pickT rfl rfl rfl
        refine' TL.y rfl rfl rfl ?hy43 ?_
        case hy43 => exact Yl.move rfl rfl
        refine TL.skip rfl rfl rfl ?_
        refine TL.skip rfl rfl rfl ?_
        refine TL.skip rfl rfl rfl ?_
        refine' TL.y rfl rfl rfl ?hy44 ?_
        case hy44 => exact Yl.pickT rfl rfl rfl
        refine' TL.y rfl rfl rfl ?hy45 ?_
        case hy45 => exact Yl.move rfl rfl
        refine TL.skip rfl rfl rfl ?_
        refine TL.skip rfl rfl rfl ?_
        refine TL.skip rfl rfl rfl ?_
        refine' TL.y rfl rfl rfl ?hy46 ?_
        case hy46 => exact Yl.pickT rfl rfl rfl
        refine TL.nil ?_
        refine TE.next ?_
        refine TC.yes rfl rfl ?_
        refine TC.seq ?_
        refine TC.region ?_
        refine' TL.y rfl rfl rfl ?hy47 ?_
        case hy47 => exact Yl.move rfl rfl
        refine' TL.y rfl rfl rfl ?hy48 ?_
        case hy48 => exact Yl.assign rfl rfl
        refine TL.nil ?_
        refine TE.next ?_
        refine TC.ret ?_
        refine TE.thenRet ?_
        refine TE.ret1 rfl rfl ?_
        exact fun w h => ⟨by simp, (h.sub (List.nil_sublist _)).below⟩
      · skip
        (try simp only [decide_eq_true_eq, decide_eq_false_iff_not, beq_iff_eq, beq_eq_false_iff_ne, bne_iff_ne, ne_eq, bne_eq_false_iff_eq, Bool.not_eq_true', Bool.not_eq_false', Int.not_lt, Int.not_le, gt_iff_lt, ge_iff_le] at hs36)
        refine' TL.y rfl rfl rfl ?hy49 ?_
        case hy49 => exact Yl.move rfl rfl
        refine' TL.y rfl rfl rfl ?hy50 ?_
        case hy50 => exact Yl.move rfl rfl
        refine' TL.y rfl rfl rfl ?hy51 ?_
        case hy51 => exact Yl.len rfl rfl Try.underlying22
        refine' TL.y rfl rfl rfl ?hy52 ?_
        case hy52 => exact Yl.bin rfl rfl rfl (Bin.gtr _ _ _ _)
        refine' TL.y rfl rfl rfl ?hy53 ?_
        case hy53 => exact Yl.pickF rfl rfl rfl
        refine' TL.y rfl rfl rfl ?hy54 ?_
        case hy54 => exact Yl.move rfl rfl
        refine TL.split (i := 42) rfl (fun hs42 => ?_) (fun hs42 => ?_)
        · skip
          (try simp only [decide_eq_true_eq, decide_eq_false_iff_not, beq_iff_eq, beq_eq_false_iff_ne, bne_iff_ne, ne_eq, bne_eq_false_iff_eq, Bool.not_eq_true', Bool.not_eq_false', Int.not_lt, Int.not_le, gt_iff_lt, ge_iff_le] at hs42)
          refine TL.skip rfl rfl rfl ?_
          refine TL.skip rfl rfl rfl ?_
          refine TL.skip rfl rfl rfl ?_
          refine' TL.y rfl rfl rfl ?hy55 ?_
          case hy55 => exact Yl.pickT rfl rfl rfl
          refine' TL.y rfl rfl rfl ?hy56 ?_
          case hy56 => exact Yl.move rfl rfl
          refine TL.skip rfl rfl rfl ?_
          refine TL.skip rfl rfl rfl ?_
          refine TL.skip rfl rfl rfl ?_
          refine' TL.y rfl rfl rfl ?hy57 ?_
          case hy57 => exact Yl.pickT rfl rfl rfl
          refine TL.nil ?_
          refine TE.next ?_
          refine TC.yes rfl rfl ?_
          refine TC.seq ?_
          refine TC.region ?_
          refine' TL.y rfl rfl rfl ?hy58 ?_
          case hy58 => exact Yl.move rfl rfl
          refine' TL.y rfl rfl rfl ?hy59 ?_
          case hy59 => exact Yl.assign rfl rfl
          refine TL.nil ?_
          refine TE.next ?_
          refine TC.ret ?_
          refine TE.thenRet ?_
          refine TE.ret1 rfl rfl ?_
          exact fun w h => ⟨by simp, (h.sub (List.nil_sublist _)).below⟩
        · skip
          (try simp only [decide_eq_true_eq, decide_eq_false_iff_not, beq_iff_eq, beq_eq_false_iff_ne, bne_iff_ne, ne_eq, bne_eq_false_iff_eq, Bool.not_eq_true', Bool.not_eq_false', Int.not_lt, Int.not_le, gt_iff_lt, ge_iff_le] at hs42)
          refine' TL.y rfl rfl rfl ?hy60 ?_
          case hy60 => exact Yl.move rfl rfl
          refine' TL.y rfl rfl rfl ?hy61 ?_
          case hy61 => exact Yl.len rfl rfl Try.underlying22
          refine' TL.y rfl rfl rfl ?hy62 ?_
          case hy62 => exact Yl.bin rfl rfl rfl (Bin.eql _ _ _ _)
          refine' TL.y rfl rfl rfl ?hy63 ?_
          case hy63 => exact Yl.pickF rfl rfl rfl
          refine' TL.y rfl rfl rfl ?hy64 ?_
          case hy64 => exact Yl.move rfl rfl
          refine TL.split (i := 47) rfl (fun hs47 => ?_) (fun hs47 => ?_)
          · skip
            (try simp only [decide_eq_true_eq, decide_eq_false_iff_not, beq_iff_eq, beq_eq_false_iff_ne, bne_iff_ne, ne_eq, bne_eq_false_iff_eq, Bool.not_eq_true', Bool.not_eq_false', Int.not_lt, Int.not_le, gt_iff_lt, ge_iff_le] at hs47)
            refine TL.skip rfl rfl rfl ?_
            refine TL.skip rfl rfl rfl ?_
            refine TL.skip rfl rfl rfl ?_
            refine' TL.y rfl rfl rfl ?hy65 ?_
            case hy65 => exact Yl.pickT rfl rfl rfl
            refine TL.nil ?_
            refine TE.next ?_
            refine TC.yes rfl rfl ?_
            refine TC.seq ?_
            refine TC.region ?_
            refine' TL.y rfl rfl rfl ?hy66 ?_
            case hy66 => exact Yl.move rfl rfl
            refine' TL.y rfl rfl rfl ?hy67 ?_
            case hy67 => exact Yl.assign rfl rfl
            refine TL.nil ?_
            refine TE.next ?_
            refine TC.ret ?_
            refine TE.thenRet ?_
            refine TE.ret1 rfl rfl ?_
            exact fun w h => ⟨by simp, (h.sub (List.nil_sublist _)).below⟩
          · skip
            (try simp only [decide_eq_true_eq, decide_eq_false_iff_not, beq_iff_eq, beq_eq_false_iff_ne, bne_iff_ne, ne_eq, bne_eq_false_iff_eq, Bool.not_eq_true', Bool.not_eq_false', Int.not_lt, Int.not_le, gt_iff_lt, ge_iff_le] at hs47)
            refine' TL.y rfl rfl rfl ?hy68 ?_
            case hy68 => exact Yl.move rfl rfl
            refine' TL.c rfl rfl rfl ?hy69 ?_
            case hy69 => exact Yc.call rfl Try.func14 (by kernel_rfl) rfl rfl (Hp.calls (fun w h => k_rsum w (hS.below h.below) hm))
            intro _
            refine' TL.y rfl rfl rfl ?hy70 ?_
            case hy70 => exact Yl.bin rfl rfl rfl (Bin.eql _ _ _ _)
            refine' TL.y rfl rfl rfl ?hy71 ?_
            case hy71 => exact Yl.pickF rfl rfl rfl
            refine TL.nil ?_
            refine TE.next ?_
            refine TC.cond rfl (fun hs51 => ?_) (fun hs51 => ?_)
            · skip
              (try simp only [decide_eq_true_eq, decide_eq_false_iff_not, beq_iff_eq, beq_eq_false_iff_ne, bne_iff_ne, ne_eq, bne_eq_false_iff_eq, Bool.not_eq_true', Bool.not_eq_false', Int.not_lt, Int.not_le, gt_iff_lt, ge_iff_le] at hs51)
              refine TC.seq ?_
              refine TC.region ?_
              refine' TL.y rfl rfl rfl ?hy72 ?_
              case hy72 => exact Yl.move rfl rfl
              refine' TL.y rfl rfl rfl ?hy73 ?_
              case hy73 => exact Yl.assign rfl rfl
              refine TL.nil ?_
              refine TE.next ?_
              refine TC.ret ?_
              refine TE.thenRet ?_
              refine TE.ret1 rfl rfl ?_
              exact fun w h => ⟨by simp, (h.sub (List.nil_sublist _)).below⟩
            · skip
              (try simp only [decide_eq_true_eq, decide_eq_false_iff_not, beq_iff_eq, beq_eq_false_iff_ne, bne_iff_ne, ne_eq, bne_eq_false_iff_eq, Bool.not_eq_true', Bool.not_eq_false', Int.not_lt, Int.not_le, gt_iff_lt, ge_iff_le] at hs51)
              have hok : Ok n m u := by by_cases e : Ok n m u; exact e; simp_all
              have hm0 : 0 < m := by omega
              have hm64 := hok.m1
              obtain ⟨p, rfl⟩ := Int.eq_ofNat_of_zero_le (show 0 ≤ at_ by omega)
              have hpm : p ≤ m := by omega
              obtain ⟨b, o, rfl⟩ := Sl.some2 hS (by rw [Vw_length]; omega)
              have hok1 := ok_one hok hm0
              have hok2 := hok.ins (zF_ins p m u) (by omega) hpm
              have hsi := split_ins hok (zF_ins p m u) (by omega) hpm
              have hci := capF_ins hok (zF_ins p m u) (by omega) hpm
              have hS1 : Sl W (some ⟨b, o, none⟩) (Vw 1 u) := sl_pre (by omega) hS
              have hSp : Sl W (some ⟨b, o, none⟩) (Vw p u) := sl_pre hpm hS
              refine TC.skip ?_
              refine TE.next ?_
              refine TC.seq ?_
              refine TC.region ?_
              refine' TL.y rfl rfl rfl ?hy74 ?_
              case hy74 => exact Yl.assign rfl rfl
              refine TL.nil ?_
              refine TE.next ?_
              refine TC.seq ?_
              refine TC.wk (fun w h => Hp.nil (e := 3) (size := 1) h) ?_
              refine TC.region ?_
              refine' TL.y rfl rfl rfl ?hy75 ?_
              case hy75 => exact Yl.move rfl rfl
              refine' TL.y rfl rfl rfl ?hy76 ?_
              case hy76 => exact Yl.move rfl rfl
              refine' TL.y rfl rfl rfl ?hy77 ?_
              case hy77 => exact Yl.move rfl rfl
              refine' TL.y rfl rfl rfl ?hy78 ?_
              case hy78 => exact Yl.sliceH (k := 1) rfl rfl rfl Try.underlying22 (by kernel_rfl) (by omega) (by omega) (fun ad e => by cases e; exact ⟨b, o, rfl⟩)
              rw [Int.toNat_natCast]
              refine' TL.mx rfl rfl rfl ?hy79 ?_
              case hy79 => exact Ym.appendSl (news := Vw p u) rfl Try.underlying22 (by kernel_rfl) (z := .int .i64 0) (size := 1) (bytes := 8) rfl (by decide) (by decide) rfl rfl (by rw [Vw_length, Nat.mul_one]) (fun w h => hSp.below h.below) (fun x hx => by unfold Vw at hx; obtain ⟨_, _, rfl⟩ := List.mem_map.1 hx; rfl) (by omega) (fun v' => foc0)
              intro v57
              refine' TL.y rfl rfl rfl ?hy80 ?_
              case hy80 => exact Yl.assign rfl rfl
              refine TL.nil ?_
              refine TE.next ?_
              refine TC.seq ?_
              refine TC.region ?_
              refine' TL.y rfl rfl rfl ?hy81 ?_
              case hy81 => exact Yl.move rfl rfl
              refine' TL.mx rfl rfl rfl ?hy82 ?_
              case hy82 => exact Ym.buildSlice (cells := #[.int .i64 0]) (z := .int .i64 0) (size := 1) #[.int .i64 0] rfl Try.underlying22 (by kernel_rfl) (by decide) (by decide) (by kernel_rfl) rfl rfl
              intro b59
              refine' TL.mx rfl rfl rfl ?hy83 ?_
              case hy83 => exact Ym.append (news := [.int .i64 0]) rfl Try.underlying22 (by kernel_rfl) (z := .int .i64 0) (size := 1) (bytes := 8) rfl (by decide) (by decide) rfl rfl rfl (Hp.cells mem0 (fun j v hj => by simpa using hj)) (by simp [Value.oneCell']) (by omega) (fun v' => foc1)
              intro v60
              refine' TL.y rfl rfl rfl ?hy84 ?_
              case hy84 => exact Yl.assign rfl rfl
              refine TL.nil ?_
              refine TE.next ?_
              refine TC.seq ?_
              refine TC.region ?_
              refine' TL.y rfl rfl rfl ?hy85 ?_
              case hy85 => exact Yl.move rfl rfl
              refine' TL.y rfl rfl rfl ?hy86 ?_
              case hy86 => exact Yl.move rfl rfl
              refine' TL.y rfl rfl rfl ?hy87 ?_
              case hy87 => exact Yl.move rfl rfl
              refine' TL.y rfl rfl rfl ?hy88 ?_
              case hy88 => exact Yl.sliceL (k := 1) rfl rfl rfl Try.underlying22 (by kernel_rfl) (by omega) (by omega)
              rw [Int.toNat_natCast]
              obtain ⟨At, hAt, hSt⟩ := sl_tail hpm hcp hS
              rw [hAt]
              refine' TL.mx rfl rfl rfl ?hy89 ?_
              case hy89 => exact Ym.appendSl (news := Vw (m - p) (fun j => u (p + j))) rfl Try.underlying22 (by kernel_rfl) (z := .int .i64 0) (size := 1) (bytes := 8) rfl (by decide) (by decide) rfl rfl (by rw [Vw_length, Nat.mul_one]) (fun w h => hSt.below h.below) (fun x hx => by unfold Vw at hx; obtain ⟨_, _, rfl⟩ := List.mem_map.1 hx; rfl) (by omega) (fun v' => foc1)
              intro v65
              refine TL.wk (M' := Hp W (fun _ => False) [ownR 3 1 (v65) (m + 1) (Vw (m + 1) (zF p u))]) (fun w h => by rw [Nat.zero_add, List.nil_append, Vw_z hpm, show p + 1 + (m - p) = m + 1 by omega] at h; exact h.sub (by repeat (first | exact List.Sublist.refl _ | apply List.Sublist.cons_cons | apply List.Sublist.cons))) ?_
              refine TL.fact (fun w h => h.ownSl mem0) ?_
              rintro ⟨Az, cz, rfl⟩
              refine' TL.y rfl rfl rfl ?hy90 ?_
              case hy90 => exact Yl.assign rfl rfl
              refine TL.nil ?_
              refine TE.next ?_
              refine TC.seq ?_
              refine TC.region ?_
              refine' TL.y rfl rfl rfl ?hy91 ?_
              case hy91 => exact Yl.move rfl rfl
              refine' TL.y rfl rfl rfl ?hy92 ?_
              case hy92 => exact Yl.move rfl rfl
              refine' TL.c rfl rfl rfl ?hy93 ?_
              case hy93 => exact Yc.call rfl Try.func11 (by kernel_rfl) rfl rfl (Hp.news (fun w h => k_split w (hS.below h.below) (by omega) n))
              intro v68
              rw [lenR_ok hok]
              refine TL.fact (fun w h => h.ownSl mem0) ?_
              rintro ⟨Aa, ca, rfl⟩
              refine' TL.y rfl rfl rfl ?hy94 ?_
              case hy94 => exact Yl.assign rfl rfl
              refine TL.nil ?_
              refine TE.next ?_
              refine TC.seq ?_
              refine TC.region ?_
              refine' TL.y rfl rfl rfl ?hy95 ?_
              case hy95 => exact Yl.move rfl rfl
              refine' TL.y rfl rfl rfl ?hy96 ?_
              case hy96 => exact Yl.move rfl rfl
              refine' TL.c rfl rfl rfl ?hy97 ?_
              case hy97 => exact Yc.call rfl Try.func11 (by kernel_rfl) rfl rfl (Hp.news (fun w h => k_split w (h.ownVw mem1) (by omega) n))
              intro v71
              rw [lenR_ok hok2]
              refine TL.fact (fun w h => h.ownSl mem0) ?_
              rintro ⟨Ab, cb, rfl⟩
              refine' TL.y rfl rfl rfl ?hy98 ?_
              case hy98 => exact Yl.assign rfl rfl
              refine TL.nil ?_
              refine TE.next ?_
              refine TC.seq ?_
              refine TC.region ?_
              refine' TL.y rfl rfl rfl ?hy99 ?_
              case hy99 => exact Yl.move rfl rfl
              refine' TL.y rfl rfl rfl ?hy100 ?_
              case hy100 => exact Yl.move rfl rfl
              refine' TL.c rfl rfl rfl ?hy101 ?_
              case hy101 => exact Yc.call rfl Try.func15 (by kernel_rfl) rfl rfl (Hp.news (fun w h => k_capped w (hS.below h.below) (by omega) n))
              intro v74
              rw [lenR_ok hok]
              refine TL.fact (fun w h => h.ownSl mem0) ?_
              rintro ⟨Ac, cc, rfl⟩
              refine' TL.y rfl rfl rfl ?hy102 ?_
              case hy102 => exact Yl.assign rfl rfl
              refine TL.nil ?_
              refine TE.next ?_
              refine TC.seq ?_
              refine TC.region ?_
              refine' TL.y rfl rfl rfl ?hy103 ?_
              case hy103 => exact Yl.move rfl rfl
              refine' TL.y rfl rfl rfl ?hy104 ?_
              case hy104 => exact Yl.move rfl rfl
              refine' TL.c rfl rfl rfl ?hy105 ?_
              case hy105 => exact Yc.call rfl Try.func15 (by kernel_rfl) rfl rfl (Hp.news (fun w h => k_capped w (h.ownVw mem3) (by omega) n))
              intro v77
              rw [lenR_ok hok2]
              refine TL.fact (fun w h => h.ownSl mem0) ?_
              rintro ⟨Ad, cd, rfl⟩
              refine' TL.y rfl rfl rfl ?hy106 ?_
              case hy106 => exact Yl.assign rfl rfl
              refine TL.nil ?_
              refine TE.next ?_
              refine TC.seq ?_
              refine TC.region ?_
              refine' TL.y rfl rfl rfl ?hy107 ?_
              case hy107 => exact Yl.move rfl rfl
              refine' TL.y rfl rfl rfl ?hy108 ?_
              case hy108 => exact Yl.move rfl rfl
              refine' TL.y rfl rfl rfl ?hy109 ?_
              case hy109 => exact Yl.sliceH (k := 1) rfl rfl rfl Try.underlying22 (by kernel_rfl) (by omega) (by omega) (fun ad e => by cases e; exact ⟨b, o, rfl⟩)
              refine TL.re (i := 80) (v' := .slice (some ⟨b, o, none⟩) 1 cp) rfl rfl ?_
              refine' TL.c rfl rfl rfl ?hy110 ?_
              case hy110 => exact Yc.call rfl Try.func11 (by kernel_rfl) rfl rfl (Hp.news (fun w h => k_split w (hS1.below h.below) (by omega) n))
              intro v81
              rw [lenR_ok hok1]
              refine TL.fact (fun w h => h.ownSl mem0) ?_
              rintro ⟨Ae, ce, rfl⟩
              refine' TL.y rfl rfl rfl ?hy111 ?_
              case hy111 => exact Yl.assign rfl rfl
              refine TL.nil ?_
              refine TE.next ?_
              refine TC.seq ?_
              refine TC.region ?_
              refine' TL.y rfl rfl rfl ?hy112 ?_
              case hy112 => exact Yl.move rfl rfl
              refine' TL.y rfl rfl rfl ?hy113 ?_
              case hy113 => exact Yl.move rfl rfl
              refine' TL.y rfl rfl rfl ?hy114 ?_
              case hy114 => exact Yl.sliceH (k := 1) rfl rfl rfl Try.underlying22 (by kernel_rfl) (by omega) (by omega) (fun ad e => by cases e; exact ⟨b, o, rfl⟩)
              refine TL.re (i := 84) (v' := .slice (some ⟨b, o, none⟩) 1 cp) rfl rfl ?_
              refine' TL.c rfl rfl rfl ?hy115 ?_
              case hy115 => exact Yc.call rfl Try.func15 (by kernel_rfl) rfl rfl (Hp.news (fun w h => k_capped w (hS1.below h.below) (by omega) n))
              intro v85
              rw [lenR_ok hok1]
              refine TL.fact (fun w h => h.ownSl mem0) ?_
              rintro ⟨Af, cf, rfl⟩
              refine' TL.y rfl rfl rfl ?hy116 ?_
              case hy116 => exact Yl.assign rfl rfl
              refine TL.nil ?_
              refine TE.next ?_
              refine TC.seq ?_
              refine TC.seq ?_
              refine TC.region ?_
              refine' TL.y rfl rfl rfl ?hy117 ?_
              case hy117 => exact Yl.move rfl rfl
              refine' TL.y rfl rfl rfl ?hy118 ?_
              case hy118 => exact Yl.len rfl rfl Try.underlying22
              refine' TL.y rfl rfl rfl ?hy119 ?_
              case hy119 => exact Yl.move rfl rfl
              refine' TL.y rfl rfl rfl ?hy120 ?_
              case hy120 => exact Yl.len rfl rfl Try.underlying22
              refine' TL.y rfl rfl rfl ?hy121 ?_
              case hy121 => exact Yl.bin rfl rfl rfl (Bin.neq _ _ _ _)
              refine' TL.y rfl rfl rfl ?hy122 ?_
              case hy122 => exact Yl.move rfl rfl
              refine TL.re (i := 91) (v' := .bool false) rfl (congrArg Value.bool (by simp)) ?_
              refine' TL.y rfl rfl rfl ?hy123 ?_
              case hy123 => exact Yl.move rfl rfl
              refine' TL.y rfl rfl rfl ?hy124 ?_
              case hy124 => exact Yl.len rfl rfl Try.underlying22
              refine' TL.y rfl rfl rfl ?hy125 ?_
              case hy125 => exact Yl.move rfl rfl
              refine' TL.y rfl rfl rfl ?hy126 ?_
              case hy126 => exact Yl.len rfl rfl Try.underlying22
              refine' TL.y rfl rfl rfl ?hy127 ?_
              case hy127 => exact Yl.bin rfl rfl rfl (Bin.neq _ _ _ _)
              refine' TL.y rfl rfl rfl ?hy128 ?_
              case hy128 => exact Yl.pickF rfl rfl rfl
              refine' TL.y rfl rfl rfl ?hy129 ?_
              case hy129 => exact Yl.move rfl rfl
              refine TL.re (i := 98) (v' := .bool false) rfl (congrArg Value.bool (by simp)) ?_
              refine' TL.y rfl rfl rfl ?hy130 ?_
              case hy130 => exact Yl.move rfl rfl
              refine' TL.y rfl rfl rfl ?hy131 ?_
              case hy131 => exact Yl.len rfl rfl Try.underlying22
              refine' TL.y rfl rfl rfl ?hy132 ?_
              case hy132 => exact Yl.move rfl rfl
              refine' TL.y rfl rfl rfl ?hy133 ?_
              case hy133 => exact Yl.len rfl rfl Try.underlying22
              refine' TL.y rfl rfl rfl ?hy134 ?_
              case hy134 => exact Yl.bin rfl rfl rfl (Bin.neq _ _ _ _)
              refine' TL.y rfl rfl rfl ?hy135 ?_
              case hy135 => exact Yl.pickF rfl rfl rfl
              refine' TL.y rfl rfl rfl ?hy136 ?_
              case hy136 => exact Yl.move rfl rfl
              refine TL.re (i := 105) (v' := .bool false) rfl (congrArg Value.bool (by simp)) ?_
              refine' TL.y rfl rfl rfl ?hy137 ?_
              case hy137 => exact Yl.move rfl rfl
              refine' TL.y rfl rfl rfl ?hy138 ?_
              case hy138 => exact Yl.len rfl rfl Try.underlying22
              refine' TL.y rfl rfl rfl ?hy139 ?_
              case hy139 => exact Yl.move rfl rfl
              refine' TL.y rfl rfl rfl ?hy140 ?_
              case hy140 => exact Yl.len rfl rfl Try.underlying22
              refine' TL.y rfl rfl rfl ?hy141 ?_
              case hy141 => exact Yl.bin rfl rfl rfl (Bin.neq _ _ _ _)
              refine' TL.y rfl rfl rfl ?hy142 ?_
              case hy142 => exact Yl.pickF rfl rfl rfl
              refine' TL.y rfl rfl rfl ?hy143 ?_
              case hy143 => exact Yl.move rfl rfl
              refine TL.re (i := 112) (v' := .bool false) rfl (congrArg Value.bool (by simp)) ?_
              refine' TL.y rfl rfl rfl ?hy144 ?_
              case hy144 => exact Yl.move rfl rfl
              refine' TL.y rfl rfl rfl ?hy145 ?_
              case hy145 => exact Yl.len rfl rfl Try.underlying22
              refine' TL.y rfl rfl rfl ?hy146 ?_
              case hy146 => exact Yl.bin rfl rfl rfl (Bin.neq _ _ _ _)
              refine' TL.y rfl rfl rfl ?hy147 ?_
              case hy147 => exact Yl.pickF rfl rfl rfl
              refine' TL.y rfl rfl rfl ?hy148 ?_
              case hy148 => exact Yl.move rfl rfl
              refine TL.re (i := 117) (v' := .bool false) rfl (congrArg Value.bool (by simp)) ?_
              refine' TL.y rfl rfl rfl ?hy149 ?_
              case hy149 => exact Yl.move rfl rfl
              refine' TL.y rfl rfl rfl ?hy150 ?_
              case hy150 => exact Yl.len rfl rfl Try.underlying22
              refine' TL.y rfl rfl rfl ?hy151 ?_
              case hy151 => exact Yl.bin rfl rfl rfl (Bin.neq _ _ _ _)
              refine' TL.y rfl rfl rfl ?hy152 ?_
              case hy152 => exact Yl.pickF rfl rfl rfl
              refine TL.nil ?_
              refine TE.next ?_
              refine TC.no rfl (by simp) ?_
              refine TC.skip ?_
              refine TE.next ?_
              refine TC.seq ?_
              refine TC.seq ?_
              refine TC.fact (fun w h => h.ownSome' mem0 (by omega)) ?_
              rintro ⟨gf, rfl⟩
              refine TC.fact (fun w h => h.ownSome' mem1 (by omega)) ?_
              rintro ⟨ge, rfl⟩
              refine TC.fact (fun w h => h.ownSome' mem2 (by omega)) ?_
              rintro ⟨gd, rfl⟩
              refine TC.fact (fun w h => h.ownSome' mem3 hm0) ?_
              rintro ⟨gc, rfl⟩
              refine TC.fact (fun w h => h.ownSome' mem4 (by omega)) ?_
              rintro ⟨gb, rfl⟩
              refine TC.fact (fun w h => h.ownSome' mem5 hm0) ?_
              rintro ⟨ga, rfl⟩
              refine TC.region ?_
              refine' TL.y rfl rfl rfl ?hy153 ?_
              case hy153 => exact Yl.assign rfl rfl
              refine TL.nil ?_
              refine TE.next ?_
              refine TC.block ?_
              refine TC.loop (σ := Nat) (fun i => [(0, .int .i64 n), (1, .slice (some ⟨b, o, none⟩) m cp), (2, .int .i64 (p : Int)), (7, .bool true), (10, .slice (some ⟨ga, 0, none⟩) m ca), (11, .slice (some ⟨gb, 0, none⟩) (m + 1) cb), (12, .slice (some ⟨gc, 0, none⟩) m cc), (13, .slice (some ⟨gd, 0, none⟩) (m + 1) cd), (14, .slice (some ⟨ge, 0, none⟩) 1 ce), (15, .slice (some ⟨gf, 0, none⟩) 1 cf), (16, .int .i64 (i : Int))]) (fun i => Hp W (fun _ => False) [ownR 3 1 (.slice (some ⟨gf, 0, none⟩) 1 cf) (1) (Vw (1) (capF n 1 u)), ownR 3 1 (.slice (some ⟨ge, 0, none⟩) 1 ce) (1) (Vw (1) (splitF n 1 u)), ownR 3 1 (.slice (some ⟨gd, 0, none⟩) (m + 1) cd) (m + 1) (Vw (m + 1) (capF n (m + 1) (zF p u))), ownR 3 1 (.slice (some ⟨gc, 0, none⟩) m cc) (m) (Vw (m) (capF n m u)), ownR 3 1 (.slice (some ⟨gb, 0, none⟩) (m + 1) cb) (m + 1) (Vw (m + 1) (splitF n (m + 1) (zF p u))), ownR 3 1 (.slice (some ⟨ga, 0, none⟩) m ca) (m) (Vw (m) (splitF n m u)), ownR 3 1 (.slice Az (m + 1) cz) (m + 1) (Vw (m + 1) (zF p u))]) (fun i => i ≤ m) (fun i => m - i) 0 ?hF154 ?hs154 ?hm154 ?round154
              case hF154 => exact Nat.zero_le _
              case hs154 => exact ⟨rfl, rfl, rfl, rfl, rfl, rfl, rfl, rfl, rfl, rfl, rfl, trivial⟩
              case hm154 => exact fun _ h => h
              case round154 =>
                intro i hi
                refine TC.seq ?_
                refine TC.seq ?_
                refine TC.region ?_
                refine' TL.y rfl rfl rfl ?hy155 ?_
                case hy155 => exact Yl.move rfl rfl
                refine' TL.y rfl rfl rfl ?hy156 ?_
                case hy156 => exact Yl.move rfl rfl
                refine' TL.y rfl rfl rfl ?hy157 ?_
                case hy157 => exact Yl.len rfl rfl Try.underlying22
                refine' TL.y rfl rfl rfl ?hy158 ?_
                case hy158 => exact Yl.bin rfl rfl rfl (Bin.lss _ _ _ _)
                refine TL.nil ?_
                refine TE.next ?_
                refine TC.cond rfl (fun hs125 => ?_) (fun hs125 => ?_)
                · skip
                  (try simp only [decide_eq_true_eq, decide_eq_false_iff_not, beq_iff_eq, beq_eq_false_iff_ne, bne_iff_ne, ne_eq, bne_eq_false_iff_eq, Bool.not_eq_true', Bool.not_eq_false', Int.not_lt, Int.not_le, gt_iff_lt, ge_iff_le] at hs125)
                  refine TC.skip ?_
                  refine TE.next ?_
                  refine TC.seq ?_
                  refine TC.block ?_
                  refine TC.seq ?_
                  refine TC.region ?_
                  refine' TL.y rfl rfl rfl ?hy159 ?_
                  case hy159 => exact Yl.move rfl rfl
                  refine' TL.y rfl rfl rfl ?hy160 ?_
                  case hy160 => exact Yl.assign rfl rfl
                  refine TL.nil ?_
                  refine TE.next ?_
                  refine TC.meet (σ := Unit) (fun _ => [(0, .int .i64 n), (1, .slice (some ⟨b, o, none⟩) m cp), (2, .int .i64 (p : Int)), (7, .bool true), (10, .slice (some ⟨ga, 0, none⟩) m ca), (11, .slice (some ⟨gb, 0, none⟩) (m + 1) cb), (12, .slice (some ⟨gc, 0, none⟩) m cc), (13, .slice (some ⟨gd, 0, none⟩) (m + 1) cd), (14, .slice (some ⟨ge, 0, none⟩) 1 ce), (15, .slice (some ⟨gf, 0, none⟩) 1 cf), (16, .int .i64 (i : Int)), (17, .int .i64 ((sh p i : Nat) : Int))]) (fun _ => Hp W (fun _ => False) [ownR 3 1 (.slice (some ⟨gf, 0, none⟩) 1 cf) (1) (Vw (1) (capF n 1 u)), ownR 3 1 (.slice (some ⟨ge, 0, none⟩) 1 ce) (1) (Vw (1) (splitF n 1 u)), ownR 3 1 (.slice (some ⟨gd, 0, none⟩) (m + 1) cd) (m + 1) (Vw (m + 1) (capF n (m + 1) (zF p u))), ownR 3 1 (.slice (some ⟨gc, 0, none⟩) m cc) (m) (Vw (m) (capF n m u)), ownR 3 1 (.slice (some ⟨gb, 0, none⟩) (m + 1) cb) (m + 1) (Vw (m + 1) (splitF n (m + 1) (zF p u))), ownR 3 1 (.slice (some ⟨ga, 0, none⟩) m ca) (m) (Vw (m) (splitF n m u)), ownR 3 1 (.slice Az (m + 1) cz) (m + 1) (Vw (m + 1) (zF p u))]) (fun _ => True) ?hx161 ?hy161
                  case hx161 =>
                    refine TC.seq ?_
                    refine TC.region ?_
                    refine' TL.y rfl rfl rfl ?hy162 ?_
                    case hy162 => exact Yl.move rfl rfl
                    refine' TL.y rfl rfl rfl ?hy163 ?_
                    case hy163 => exact Yl.move rfl rfl
                    refine' TL.y rfl rfl rfl ?hy164 ?_
                    case hy164 => exact Yl.bin rfl rfl rfl (Bin.geq _ _ _ _)
                    refine TL.nil ?_
                    refine TE.next ?_
                    refine TC.cond rfl (fun hs131 => ?_) (fun hs131 => ?_)
                    · skip
                      (try simp only [decide_eq_true_eq, decide_eq_false_iff_not, beq_iff_eq, beq_eq_false_iff_ne, bne_iff_ne, ne_eq, bne_eq_false_iff_eq, Bool.not_eq_true', Bool.not_eq_false', Int.not_lt, Int.not_le, gt_iff_lt, ge_iff_le] at hs131)
                      refine TC.region ?_
                      refine' TL.y rfl rfl rfl ?hy165 ?_
                      case hy165 => exact Yl.move rfl rfl
                      refine' TL.y rfl rfl rfl ?hy166 ?_
                      case hy166 => first | (refine Yl.val (Yl.bin rfl rfl rfl (Bin.add _ _ _ _)) (congrArg (Value.int .i64) (i64in ?_ ?_)) <;> omega) | exact Yl.bin rfl rfl rfl (Bin.add _ _ _ _)
                      refine' TL.y rfl rfl rfl ?hy167 ?_
                      case hy167 => exact Yl.assign rfl rfl
                      refine TL.nil ?_
                      refine TE.met () ?hF168 ?hs168 ?hm168
                      case hF168 => trivial
                      case hs168 => exact ⟨rfl, rfl, rfl, rfl, rfl, rfl, rfl, rfl, rfl, rfl, rfl, congrArg (fun x => some (Value.int .i64 x)) (by unfold sh; split <;> omega), trivial⟩
                      case hm168 => exact fun _ h => h
                    · skip
                      (try simp only [decide_eq_true_eq, decide_eq_false_iff_not, beq_iff_eq, beq_eq_false_iff_ne, bne_iff_ne, ne_eq, bne_eq_false_iff_eq, Bool.not_eq_true', Bool.not_eq_false', Int.not_lt, Int.not_le, gt_iff_lt, ge_iff_le] at hs131)
                      refine TC.skip ?_
                      refine TE.met () ?hF169 ?hs169 ?hm169
                      case hF169 => trivial
                      case hs169 => exact ⟨rfl, rfl, rfl, rfl, rfl, rfl, rfl, rfl, rfl, rfl, rfl, congrArg (fun x => some (Value.int .i64 x)) (by unfold sh; split <;> omega), trivial⟩
                      case hm169 => exact fun _ h => h
                  case hy161 =>
                    intro _ _
                    have hsh : sh p i < m + 1 := by unfold sh; split <;> omega
                    refine TC.seq ?_
                    refine TC.draw (k := 20) _ [] #[false, false, false, false, false, false, false, false, false, false, false, false, false, false, false, false, false, false, false, false] (by kernel_rfl) rfl rfl (fun _ h => h.drew) (fun _ h => h) ?_
                    refine' TA.y (i := 0) #[true, false, false, false, false, false, false, false, false, false, false, false, false, false, false, false, false, false, false, false] rfl rfl rfl (by kernel_rfl) (fun _ _ _ h => h) (fun _ h => by exact Hp.sub h (by repeat (first | exact List.Sublist.refl _ | apply List.Sublist.cons))) rfl ?hy170 ?_
                    case hy170 => exact Yl.move rfl rfl
                    refine' TA.y (i := 1) #[true, true, false, false, false, false, false, false, false, false, false, false, false, false, false, false, false, false, false, false] rfl rfl rfl (by kernel_rfl) (fun _ _ _ h => h) (fun _ h => by exact Hp.sub h (by repeat (first | exact List.Sublist.refl _ | apply List.Sublist.cons))) rfl ?hy171 ?_
                    case hy171 => exact Yl.move rfl rfl
                    refine' TA.y (i := 2) #[true, true, true, false, false, false, false, false, false, false, false, false, false, false, false, false, false, false, false, false] rfl rfl rfl (by kernel_rfl) (fun _ _ _ h => h) (fun _ h => by exact Hp.sub h (by repeat (first | exact List.Sublist.refl _ | apply List.Sublist.cons))) rfl ?hy172 ?_
                    case hy172 => first | exact Yl.ixn rfl rfl rfl Try.underlying22 (by kernel_rfl) (by omega) | exact Yl.ixz rfl rfl rfl Try.underlying22 (by kernel_rfl) (by omega) (by omega) | exact Yl.ixcn rfl rfl rfl Try.underlying22 (by kernel_rfl) (by omega) | exact Yl.ixcz rfl rfl rfl Try.underlying22 (by kernel_rfl) (by omega) (by omega)
                    refine' TA.y (i := 3) #[true, true, true, true, false, false, false, false, false, false, false, false, false, false, false, false, false, false, false, false] rfl rfl rfl (by kernel_rfl) (fun _ _ _ h => h) (fun _ h => by exact Hp.sub h (by repeat (first | exact List.Sublist.refl _ | apply List.Sublist.cons))) rfl ?hy173 ?_
                    case hy173 => first | exact Yl.load rfl rfl (by kernel_rfl) (Hp.vw mem0 (by omega)) | exact Yl.load rfl rfl (by kernel_rfl) (Hp.vw mem1 (by omega)) | exact Yl.load rfl rfl (by kernel_rfl) (Hp.vw mem2 (by omega)) | exact Yl.load rfl rfl (by kernel_rfl) (Hp.vw mem3 (by omega)) | exact Yl.load rfl rfl (by kernel_rfl) (Hp.vw mem4 (by omega)) | exact Yl.load rfl rfl (by kernel_rfl) (Hp.vw mem5 (by omega)) | exact Yl.load rfl rfl (by kernel_rfl) (Hp.vw mem6 (by omega)) | exact Yl.load rfl rfl (by kernel_rfl) (Sl.vw hS rfl (by omega) (fun _ h => h)) | exact Yl.load rfl rfl (by kernel_rfl) (Hp.cell mem0 rfl) | exact Yl.load rfl rfl (by kernel_rfl) (Hp.cell mem1 rfl) | exact Yl.load rfl rfl (by kernel_rfl) (Hp.cell mem2 rfl) | exact Yl.load rfl rfl (by kernel_rfl) (Hp.cell mem3 rfl) | exact Yl.load rfl rfl (by kernel_rfl) (Hp.cell mem4 rfl) | exact Yl.load rfl rfl (by kernel_rfl) (Hp.cell mem5 rfl) | exact Yl.load rfl rfl (by kernel_rfl) (Hp.cell mem6 rfl) | exact Yl.load rfl rfl (by kernel_rfl) (Hp.rowAt mem0 (by omega) rfl) | exact Yl.load rfl rfl (by kernel_rfl) (Hp.rowAt mem1 (by omega) rfl) | exact Yl.load rfl rfl (by kernel_rfl) (Hp.rowAt mem2 (by omega) rfl) | exact Yl.load rfl rfl (by kernel_rfl) (Hp.rowAt mem3 (by omega) rfl) | exact Yl.load rfl rfl (by kernel_rfl) (Hp.rowAt mem4 (by omega) rfl) | exact Yl.load rfl rfl (by kernel_rfl) (Hp.rowAt mem5 (by omega) rfl) | exact Yl.load rfl rfl (by kernel_rfl) (Hp.rowAt mem6 (by omega) rfl)
                    refine' TA.y (i := 4) #[true, true, true, true, true, false, false, false, false, false, false, false, false, false, false, false, false, false, false, false] rfl rfl rfl (by kernel_rfl) (fun _ _ _ h => h) (fun _ h => by exact Hp.sub h (by repeat (first | exact List.Sublist.refl _ | apply List.Sublist.cons))) rfl ?hy174 ?_
                    case hy174 => exact Yl.move rfl rfl
                    refine' TA.y (i := 5) #[true, true, true, true, true, true, false, false, false, false, false, false, false, false, false, false, false, false, false, false] rfl rfl rfl (by kernel_rfl) (fun _ _ _ h => h) (fun _ h => by exact Hp.sub h (by repeat (first | exact List.Sublist.refl _ | apply List.Sublist.cons))) rfl ?hy175 ?_
                    case hy175 => exact Yl.move rfl rfl
                    refine' TA.y (i := 6) #[true, true, true, true, true, true, true, false, false, false, false, false, false, false, false, false, false, false, false, false] rfl rfl rfl (by kernel_rfl) (fun _ _ _ h => h) (fun _ h => by exact Hp.sub h (by repeat (first | exact List.Sublist.refl _ | apply List.Sublist.cons))) rfl ?hy176 ?_
                    case hy176 => first | exact Yl.ixn rfl rfl rfl Try.underlying22 (by kernel_rfl) (by omega) | exact Yl.ixz rfl rfl rfl Try.underlying22 (by kernel_rfl) (by omega) (by omega) | exact Yl.ixcn rfl rfl rfl Try.underlying22 (by kernel_rfl) (by omega) | exact Yl.ixcz rfl rfl rfl Try.underlying22 (by kernel_rfl) (by omega) (by omega)
                    refine' TA.y (i := 7) #[true, true, true, true, true, true, true, true, false, false, false, false, false, false, false, false, false, false, false, false] rfl rfl rfl (by kernel_rfl) (fun _ _ _ h => h) (fun _ h => by exact Hp.sub h (by repeat (first | exact List.Sublist.refl _ | apply List.Sublist.cons))) rfl ?hy177 ?_
                    case hy177 => first | exact Yl.load rfl rfl (by kernel_rfl) (Hp.vw mem0 (by omega)) | exact Yl.load rfl rfl (by kernel_rfl) (Hp.vw mem1 (by omega)) | exact Yl.load rfl rfl (by kernel_rfl) (Hp.vw mem2 (by omega)) | exact Yl.load rfl rfl (by kernel_rfl) (Hp.vw mem3 (by omega)) | exact Yl.load rfl rfl (by kernel_rfl) (Hp.vw mem4 (by omega)) | exact Yl.load rfl rfl (by kernel_rfl) (Hp.vw mem5 (by omega)) | exact Yl.load rfl rfl (by kernel_rfl) (Hp.vw mem6 (by omega)) | exact Yl.load rfl rfl (by kernel_rfl) (Sl.vw hS rfl (by omega) (fun _ h => h)) | exact Yl.load rfl rfl (by kernel_rfl) (Hp.cell mem0 rfl) | exact Yl.load rfl rfl (by kernel_rfl) (Hp.cell mem1 rfl) | exact Yl.load rfl rfl (by kernel_rfl) (Hp.cell mem2 rfl) | exact Yl.load rfl rfl (by kernel_rfl) (Hp.cell mem3 rfl) | exact Yl.load rfl rfl (by kernel_rfl) (Hp.cell mem4 rfl) | exact Yl.load rfl rfl (by kernel_rfl) (Hp.cell mem5 rfl) | exact Yl.load rfl rfl (by kernel_rfl) (Hp.cell mem6 rfl) | exact Yl.load rfl rfl (by kernel_rfl) (Hp.rowAt mem0 (by omega) rfl) | exact Yl.load rfl rfl (by kernel_rfl) (Hp.rowAt mem1 (by omega) rfl) | exact Yl.load rfl rfl (by kernel_rfl) (Hp.rowAt mem2 (by omega) rfl) | exact Yl.load rfl rfl (by kernel_rfl) (Hp.rowAt mem3 (by omega) rfl) | exact Yl.load rfl rfl (by kernel_rfl) (Hp.rowAt mem4 (by omega) rfl) | exact Yl.load rfl rfl (by kernel_rfl) (Hp.rowAt mem5 (by omega) rfl) | exact Yl.load rfl rfl (by kernel_rfl) (Hp.rowAt mem6 (by omega) rfl)
                    refine' TA.y (i := 8) #[true, true, true, true, true, true, true, true, true, false, false, false, false, false, false, false, false, false, false, false] rfl rfl rfl (by kernel_rfl) (fun _ _ _ h => h) (fun _ h => by exact Hp.sub h (by repeat (first | exact List.Sublist.refl _ | apply List.Sublist.cons))) rfl ?hy178 ?_
                    case hy178 => exact Yl.bin rfl rfl rfl (Bin.neq _ _ _ _)
                    refine' TA.y (i := 9) #[true, true, true, true, true, true, true, true, true, true, false, false, false, false, false, false, false, false, false, false] rfl rfl rfl (by kernel_rfl) (fun _ _ _ h => h) (fun _ h => by exact Hp.sub h (by repeat (first | exact List.Sublist.refl _ | apply List.Sublist.cons))) rfl ?hy179 ?_
                    case hy179 => exact Yl.move rfl rfl
                    refine TA.re (i := 143) (v' := .bool false) rfl (congrArg Value.bool (by rw [hsi.2 i (by omega)]; simp)) ?_
                    refine' TA.y (i := 10) #[true, true, true, true, true, true, true, true, true, true, true, false, false, false, false, false, false, false, false, false] rfl rfl rfl (by kernel_rfl) (fun _ _ _ h => h) (fun _ h => by exact Hp.sub h (by repeat (first | exact List.Sublist.refl _ | apply List.Sublist.cons))) rfl ?hy180 ?_
                    case hy180 => exact Yl.move rfl rfl
                    refine' TA.y (i := 11) #[true, true, true, true, true, true, true, true, true, true, true, true, false, false, false, false, false, false, false, false] rfl rfl rfl (by kernel_rfl) (fun _ _ _ h => h) (fun _ h => by exact Hp.sub h (by repeat (first | exact List.Sublist.refl _ | apply List.Sublist.cons))) rfl ?hy181 ?_
                    case hy181 => exact Yl.move rfl rfl
                    refine' TA.y (i := 12) #[true, true, true, true, true, true, true, true, true, true, true, true, true, false, false, false, false, false, false, false] rfl rfl rfl (by kernel_rfl) (fun _ _ _ h => h) (fun _ h => by exact Hp.sub h (by repeat (first | exact List.Sublist.refl _ | apply List.Sublist.cons))) rfl ?hy182 ?_
                    case hy182 => first | exact Yl.ixn rfl rfl rfl Try.underlying22 (by kernel_rfl) (by omega) | exact Yl.ixz rfl rfl rfl Try.underlying22 (by kernel_rfl) (by omega) (by omega) | exact Yl.ixcn rfl rfl rfl Try.underlying22 (by kernel_rfl) (by omega) | exact Yl.ixcz rfl rfl rfl Try.underlying22 (by kernel_rfl) (by omega) (by omega)
                    refine' TA.y (i := 13) #[true, true, true, true, true, true, true, true, true, true, true, true, true, true, false, false, false, false, false, false] rfl rfl rfl (by kernel_rfl) (fun _ _ _ h => h) (fun _ h => by exact Hp.sub h (by repeat (first | exact List.Sublist.refl _ | apply List.Sublist.cons))) rfl ?hy183 ?_
                    case hy183 => first | exact Yl.load rfl rfl (by kernel_rfl) (Hp.vw mem0 (by omega)) | exact Yl.load rfl rfl (by kernel_rfl) (Hp.vw mem1 (by omega)) | exact Yl.load rfl rfl (by kernel_rfl) (Hp.vw mem2 (by omega)) | exact Yl.load rfl rfl (by kernel_rfl) (Hp.vw mem3 (by omega)) | exact Yl.load rfl rfl (by kernel_rfl) (Hp.vw mem4 (by omega)) | exact Yl.load rfl rfl (by kernel_rfl) (Hp.vw mem5 (by omega)) | exact Yl.load rfl rfl (by kernel_rfl) (Hp.vw mem6 (by omega)) | exact Yl.load rfl rfl (by kernel_rfl) (Sl.vw hS rfl (by omega) (fun _ h => h)) | exact Yl.load rfl rfl (by kernel_rfl) (Hp.cell mem0 rfl) | exact Yl.load rfl rfl (by kernel_rfl) (Hp.cell mem1 rfl) | exact Yl.load rfl rfl (by kernel_rfl) (Hp.cell mem2 rfl) | exact Yl.load rfl rfl (by kernel_rfl) (Hp.cell mem3 rfl) | exact Yl.load rfl rfl (by kernel_rfl) (Hp.cell mem4 rfl) | exact Yl.load rfl rfl (by kernel_rfl) (Hp.cell mem5 rfl) | exact Yl.load rfl rfl (by kernel_rfl) (Hp.cell mem6 rfl) | exact Yl.load rfl rfl (by kernel_rfl) (Hp.rowAt mem0 (by omega) rfl) | exact Yl.load rfl rfl (by kernel_rfl) (Hp.rowAt mem1 (by omega) rfl) | exact Yl.load rfl rfl (by kernel_rfl) (Hp.rowAt mem2 (by omega) rfl) | exact Yl.load rfl rfl (by kernel_rfl) (Hp.rowAt mem3 (by omega) rfl) | exact Yl.load rfl rfl (by kernel_rfl) (Hp.rowAt mem4 (by omega) rfl) | exact Yl.load rfl rfl (by kernel_rfl) (Hp.rowAt mem5 (by omega) rfl) | exact Yl.load rfl rfl (by kernel_rfl) (Hp.rowAt mem6 (by omega) rfl)
                    refine' TA.y (i := 14) #[true, true, true, true, true, true, true, true, true, true, true, true, true, true, true, false, false, false, false, false] rfl rfl rfl (by kernel_rfl) (fun _ _ _ h => h) (fun _ h => by exact Hp.sub h (by repeat (first | exact List.Sublist.refl _ | apply List.Sublist.cons))) rfl ?hy184 ?_
                    case hy184 => exact Yl.move rfl rfl
                    refine' TA.y (i := 15) #[true, true, true, true, true, true, true, true, true, true, true, true, true, true, true, true, false, false, false, false] rfl rfl rfl (by kernel_rfl) (fun _ _ _ h => h) (fun _ h => by exact Hp.sub h (by repeat (first | exact List.Sublist.refl _ | apply List.Sublist.cons))) rfl ?hy185 ?_
                    case hy185 => exact Yl.move rfl rfl
                    refine' TA.y (i := 16) #[true, true, true, true, true, true, true, true, true, true, true, true, true, true, true, true, true, false, false, false] rfl rfl rfl (by kernel_rfl) (fun _ _ _ h => h) (fun _ h => by exact Hp.sub h (by repeat (first | exact List.Sublist.refl _ | apply List.Sublist.cons))) rfl ?hy186 ?_
                    case hy186 => first | exact Yl.ixn rfl rfl rfl Try.underlying22 (by kernel_rfl) (by omega) | exact Yl.ixz rfl rfl rfl Try.underlying22 (by kernel_rfl) (by omega) (by omega) | exact Yl.ixcn rfl rfl rfl Try.underlying22 (by kernel_rfl) (by omega) | exact Yl.ixcz rfl rfl rfl Try.underlying22 (by kernel_rfl) (by omega) (by omega)
                    refine' TA.y (i := 17) #[true, true, true, true, true, true, true, true, true, true, true, true, true, true, true, true, true, true, false, false] rfl rfl rfl (by kernel_rfl) (fun _ _ _ h => h) (fun _ h => by exact Hp.sub h (by repeat (first | exact List.Sublist.refl _ | apply List.Sublist.cons))) rfl ?hy187 ?_
                    case hy187 => first | exact Yl.load rfl rfl (by kernel_rfl) (Hp.vw mem0 (by omega)) | exact Yl.load rfl rfl (by kernel_rfl) (Hp.vw mem1 (by omega)) | exact Yl.load rfl rfl (by kernel_rfl) (Hp.vw mem2 (by omega)) | exact Yl.load rfl rfl (by kernel_rfl) (Hp.vw mem3 (by omega)) | exact Yl.load rfl rfl (by kernel_rfl) (Hp.vw mem4 (by omega)) | exact Yl.load rfl rfl (by kernel_rfl) (Hp.vw mem5 (by omega)) | exact Yl.load rfl rfl (by kernel_rfl) (Hp.vw mem6 (by omega)) | exact Yl.load rfl rfl (by kernel_rfl) (Sl.vw hS rfl (by omega) (fun _ h => h)) | exact Yl.load rfl rfl (by kernel_rfl) (Hp.cell mem0 rfl) | exact Yl.load rfl rfl (by kernel_rfl) (Hp.cell mem1 rfl) | exact Yl.load rfl rfl (by kernel_rfl) (Hp.cell mem2 rfl) | exact Yl.load rfl rfl (by kernel_rfl) (Hp.cell mem3 rfl) | exact Yl.load rfl rfl (by kernel_rfl) (Hp.cell mem4 rfl) | exact Yl.load rfl rfl (by kernel_rfl) (Hp.cell mem5 rfl) | exact Yl.load rfl rfl (by kernel_rfl) (Hp.cell mem6 rfl) | exact Yl.load rfl rfl (by kernel_rfl) (Hp.rowAt mem0 (by omega) rfl) | exact Yl.load rfl rfl (by kernel_rfl) (Hp.rowAt mem1 (by omega) rfl) | exact Yl.load rfl rfl (by kernel_rfl) (Hp.rowAt mem2 (by omega) rfl) | exact Yl.load rfl rfl (by kernel_rfl) (Hp.rowAt mem3 (by omega) rfl) | exact Yl.load rfl rfl (by kernel_rfl) (Hp.rowAt mem4 (by omega) rfl) | exact Yl.load rfl rfl (by kernel_rfl) (Hp.rowAt mem5 (by omega) rfl) | exact Yl.load rfl rfl (by kernel_rfl) (Hp.rowAt mem6 (by omega) rfl)
                    refine' TA.y (i := 18) #[true, true, true, true, true, true, true, true, true, true, true, true, true, true, true, true, true, true, true, false] rfl rfl rfl (by kernel_rfl) (fun _ _ _ h => h) (fun _ h => by exact Hp.sub h (by repeat (first | exact List.Sublist.refl _ | apply List.Sublist.cons))) rfl ?hy188 ?_
                    case hy188 => exact Yl.bin rfl rfl rfl (Bin.neq _ _ _ _)
                    refine' TA.y (i := 19) #[true, true, true, true, true, true, true, true, true, true, true, true, true, true, true, true, true, true, true, true] rfl rfl rfl (by kernel_rfl) (fun _ _ _ h => h) (fun _ h => by exact Hp.sub h (by repeat (first | exact List.Sublist.refl _ | apply List.Sublist.cons))) rfl ?hy189 ?_
                    case hy189 => exact Yl.pickF rfl rfl rfl
                    refine TA.done (by kernel_rfl) ?_
                    refine TE.next ?_
                    refine TC.no rfl (by rw [hci.2 i (by omega)]; simp) ?_
                    refine TC.skip ?_
                    refine TE.inNormal ?_
                    refine TE.next ?_
                    refine TC.region ?_
                    refine' TL.y rfl rfl rfl ?hy190 ?_
                    case hy190 => exact Yl.move rfl rfl
                    refine' TL.y rfl rfl rfl ?hy191 ?_
                    case hy191 => first | (refine Yl.val (Yl.bin rfl rfl rfl (Bin.add _ _ _ _)) (congrArg (Value.int .i64) (i64in ?_ ?_)) <;> omega) | exact Yl.bin rfl rfl rfl (Bin.add _ _ _ _)
                    refine' TL.y rfl rfl rfl ?hy192 ?_
                    case hy192 => exact Yl.assign rfl rfl
                    refine TL.nil ?_
                    refine TE.round (i + 1) ?hF193 ?hlt193 ?hs193 ?hm193
                    case hF193 => omega
                    case hlt193 => omega
                    case hs193 => exact ⟨rfl, rfl, rfl, rfl, rfl, rfl, rfl, rfl, rfl, rfl, rfl, trivial⟩
                    case hm193 => exact fun _ h => h
                · skip
                  (try simp only [decide_eq_true_eq, decide_eq_false_iff_not, beq_iff_eq, beq_eq_false_iff_ne, bne_iff_ne, ne_eq, bne_eq_false_iff_eq, Bool.not_eq_true', Bool.not_eq_false', Int.not_lt, Int.not_le, gt_iff_lt, ge_iff_le] at hs125)
                  refine TC.exit ?_
                  refine TE.thenExit ?_
                  refine TE.thenExit ?_
                  refine TE.inHere ?_
                  refine TE.next ?_
                  refine TC.seq ?_
                  refine TC.region ?_
                  refine' TL.y rfl rfl rfl ?hy194 ?_
                  case hy194 => exact Yl.move rfl rfl
                  refine' TL.y rfl rfl rfl ?hy195 ?_
                  case hy195 => exact Yl.assign rfl rfl
                  refine TL.nil ?_
                  refine TE.next ?_
                  refine TC.meet (σ := Unit) (fun _ => [(0, .int .i64 n), (1, .slice (some ⟨b, o, none⟩) m cp), (2, .int .i64 (p : Int)), (7, .bool true), (10, .slice (some ⟨ga, 0, none⟩) m ca), (11, .slice (some ⟨gb, 0, none⟩) (m + 1) cb), (12, .slice (some ⟨gc, 0, none⟩) m cc), (13, .slice (some ⟨gd, 0, none⟩) (m + 1) cd), (14, .slice (some ⟨ge, 0, none⟩) 1 ce), (15, .slice (some ⟨gf, 0, none⟩) 1 cf), (18, .int .i64 (if u 0 = 0 then 0 else n))]) (fun _ => Hp W (fun _ => False) [ownR 3 1 (.slice (some ⟨gf, 0, none⟩) 1 cf) (1) (Vw (1) (capF n 1 u)), ownR 3 1 (.slice (some ⟨ge, 0, none⟩) 1 ce) (1) (Vw (1) (splitF n 1 u)), ownR 3 1 (.slice (some ⟨gd, 0, none⟩) (m + 1) cd) (m + 1) (Vw (m + 1) (capF n (m + 1) (zF p u))), ownR 3 1 (.slice (some ⟨gc, 0, none⟩) m cc) (m) (Vw (m) (capF n m u)), ownR 3 1 (.slice (some ⟨gb, 0, none⟩) (m + 1) cb) (m + 1) (Vw (m + 1) (splitF n (m + 1) (zF p u))), ownR 3 1 (.slice (some ⟨ga, 0, none⟩) m ca) (m) (Vw (m) (splitF n m u)), ownR 3 1 (.slice Az (m + 1) cz) (m + 1) (Vw (m + 1) (zF p u))]) (fun _ => True) ?hx196 ?hy196
                  case hx196 =>
                    refine TC.seq ?_
                    refine TC.region ?_
                    refine' TL.y rfl rfl rfl ?hy197 ?_
                    case hy197 => exact Yl.move rfl rfl
                    refine' TL.y rfl rfl rfl ?hy198 ?_
                    case hy198 => first | exact Yl.ixn rfl rfl rfl Try.underlying22 (by kernel_rfl) (by omega) | exact Yl.ixz rfl rfl rfl Try.underlying22 (by kernel_rfl) (by omega) (by omega) | exact Yl.ixcn rfl rfl rfl Try.underlying22 (by kernel_rfl) (by omega) | exact Yl.ixcz rfl rfl rfl Try.underlying22 (by kernel_rfl) (by omega) (by omega)
                    refine' TL.y rfl rfl rfl ?hy199 ?_
                    case hy199 => first | exact Yl.load rfl rfl (by kernel_rfl) (Hp.vw mem0 (by omega)) | exact Yl.load rfl rfl (by kernel_rfl) (Hp.vw mem1 (by omega)) | exact Yl.load rfl rfl (by kernel_rfl) (Hp.vw mem2 (by omega)) | exact Yl.load rfl rfl (by kernel_rfl) (Hp.vw mem3 (by omega)) | exact Yl.load rfl rfl (by kernel_rfl) (Hp.vw mem4 (by omega)) | exact Yl.load rfl rfl (by kernel_rfl) (Hp.vw mem5 (by omega)) | exact Yl.load rfl rfl (by kernel_rfl) (Hp.vw mem6 (by omega)) | exact Yl.load rfl rfl (by kernel_rfl) (Sl.vw hS rfl (by omega) (fun _ h => h)) | exact Yl.load rfl rfl (by kernel_rfl) (Hp.cell mem0 rfl) | exact Yl.load rfl rfl (by kernel_rfl) (Hp.cell mem1 rfl) | exact Yl.load rfl rfl (by kernel_rfl) (Hp.cell mem2 rfl) | exact Yl.load rfl rfl (by kernel_rfl) (Hp.cell mem3 rfl) | exact Yl.load rfl rfl (by kernel_rfl) (Hp.cell mem4 rfl) | exact Yl.load rfl rfl (by kernel_rfl) (Hp.cell mem5 rfl) | exact Yl.load rfl rfl (by kernel_rfl) (Hp.cell mem6 rfl) | exact Yl.load rfl rfl (by kernel_rfl) (Hp.rowAt mem0 (by omega) rfl) | exact Yl.load rfl rfl (by kernel_rfl) (Hp.rowAt mem1 (by omega) rfl) | exact Yl.load rfl rfl (by kernel_rfl) (Hp.rowAt mem2 (by omega) rfl) | exact Yl.load rfl rfl (by kernel_rfl) (Hp.rowAt mem3 (by omega) rfl) | exact Yl.load rfl rfl (by kernel_rfl) (Hp.rowAt mem4 (by omega) rfl) | exact Yl.load rfl rfl (by kernel_rfl) (Hp.rowAt mem5 (by omega) rfl) | exact Yl.load rfl rfl (by kernel_rfl) (Hp.rowAt mem6 (by omega) rfl)
                    refine' TL.y rfl rfl rfl ?hy200 ?_
                    case hy200 => exact Yl.bin rfl rfl rfl (Bin.eql _ _ _ _)
                    refine TL.nil ?_
                    refine TE.next ?_
                    refine TC.cond rfl (fun hs158 => ?_) (fun hs158 => ?_)
                    · skip
                      (try simp only [decide_eq_true_eq, decide_eq_false_iff_not, beq_iff_eq, beq_eq_false_iff_ne, bne_iff_ne, ne_eq, bne_eq_false_iff_eq, Bool.not_eq_true', Bool.not_eq_false', Int.not_lt, Int.not_le, gt_iff_lt, ge_iff_le] at hs158)
                      have hz0 : u 0 = 0 := by first | exact hs158 | simpa using hs158
                      refine TC.region ?_
                      refine' TL.y rfl rfl rfl ?hy201 ?_
                      case hy201 => exact Yl.assign rfl rfl
                      refine TL.nil ?_
                      refine TE.met () ?hF202 ?hs202 ?hm202
                      case hF202 => trivial
                      case hs202 => exact ⟨rfl, rfl, rfl, rfl, rfl, rfl, rfl, rfl, rfl, rfl, congrArg (fun x => some (Value.int .i64 x)) (by first | exact (if_pos hz0).symm | exact (if_neg hz0).symm), trivial⟩
                      case hm202 => exact fun _ h => h
                    · skip
                      (try simp only [decide_eq_true_eq, decide_eq_false_iff_not, beq_iff_eq, beq_eq_false_iff_ne, bne_iff_ne, ne_eq, bne_eq_false_iff_eq, Bool.not_eq_true', Bool.not_eq_false', Int.not_lt, Int.not_le, gt_iff_lt, ge_iff_le] at hs158)
                      have hz0 : ¬ u 0 = 0 := by first | exact hs158 | simpa using hs158
                      refine TC.skip ?_
                      refine TE.met () ?hF203 ?hs203 ?hm203
                      case hF203 => trivial
                      case hs203 => exact ⟨rfl, rfl, rfl, rfl, rfl, rfl, rfl, rfl, rfl, rfl, congrArg (fun x => some (Value.int .i64 x)) (by first | exact (if_pos hz0).symm | exact (if_neg hz0).symm), trivial⟩
                      case hm203 => exact fun _ h => h
                  case hy196 =>
                    intro _ _
                    refine TC.seq ?_
                    refine TC.draw (k := 34) _ [] #[false, false, false, false, false, false, false, false, false, false, false, false, false, false, false, false, false, false, false, false, false, false, false, false, false, false, false, false, false, false, false, false, false, false] (by kernel_rfl) rfl rfl (fun _ h => h.drew) (fun _ h => h) ?_
                    refine' TA.y (i := 0) #[true, false, false, false, false, false, false, false, false, false, false, false, false, false, false, false, false, false, false, false, false, false, false, false, false, false, false, false, false, false, false, false, false, false] rfl rfl rfl (by kernel_rfl) (fun _ _ _ h => h) (fun _ h => by exact Hp.sub h (by repeat (first | exact List.Sublist.refl _ | apply List.Sublist.cons))) rfl ?hy204 ?_
                    case hy204 => exact Yl.move rfl rfl
                    refine' TA.y (i := 1) #[true, true, false, false, false, false, false, false, false, false, false, false, false, false, false, false, false, false, false, false, false, false, false, false, false, false, false, false, false, false, false, false, false, false] rfl rfl rfl (by kernel_rfl) (fun _ _ _ h => h) (fun _ h => by exact Hp.sub h (by repeat (first | exact List.Sublist.refl _ | apply List.Sublist.cons))) rfl ?hy205 ?_
                    case hy205 => exact Yl.move rfl rfl
                    refine' TA.y (i := 2) #[true, true, true, false, false, false, false, false, false, false, false, false, false, false, false, false, false, false, false, false, false, false, false, false, false, false, false, false, false, false, false, false, false, false] rfl rfl rfl (by kernel_rfl) (fun _ _ _ h => h) (fun _ h => by exact Hp.sub h (by repeat (first | exact List.Sublist.refl _ | apply List.Sublist.cons))) rfl ?hy206 ?_
                    case hy206 => exact Yl.move rfl rfl
                    refine' TA.y (i := 3) #[true, true, true, true, false, false, false, false, false, false, false, false, false, false, false, false, false, false, false, false, false, false, false, false, false, false, false, false, false, false, false, false, false, false] rfl rfl rfl (by kernel_rfl) (fun _ _ _ h => h) (fun _ h => by exact Hp.sub h (by repeat (first | exact List.Sublist.refl _ | apply List.Sublist.cons))) rfl ?hy207 ?_
                    case hy207 => exact Yl.move rfl rfl
                    refine' TA.y (i := 4) #[true, true, true, true, true, false, false, false, false, false, false, false, false, false, false, false, false, false, false, false, false, false, false, false, false, false, false, false, false, false, false, false, false, false] rfl rfl rfl (by kernel_rfl) (fun _ _ _ h => h) (fun _ h => by exact Hp.sub h (by repeat (first | exact List.Sublist.refl _ | apply List.Sublist.cons))) rfl ?hy208 ?_
                    case hy208 => first | exact Yl.ixn rfl rfl rfl Try.underlying22 (by kernel_rfl) (by omega) | exact Yl.ixz rfl rfl rfl Try.underlying22 (by kernel_rfl) (by omega) (by omega) | exact Yl.ixcn rfl rfl rfl Try.underlying22 (by kernel_rfl) (by omega) | exact Yl.ixcz rfl rfl rfl Try.underlying22 (by kernel_rfl) (by omega) (by omega)
                    refine' TA.y (i := 5) #[true, true, true, true, true, true, false, false, false, false, false, false, false, false, false, false, false, false, false, false, false, false, false, false, false, false, false, false, false, false, false, false, false, false] rfl rfl rfl (by kernel_rfl) (fun _ _ _ h => h) (fun _ h => by exact Hp.sub h (by repeat (first | exact List.Sublist.refl _ | apply List.Sublist.cons))) rfl ?hy209 ?_
                    case hy209 => first | exact Yl.load rfl rfl (by kernel_rfl) (Hp.vw mem0 (by omega)) | exact Yl.load rfl rfl (by kernel_rfl) (Hp.vw mem1 (by omega)) | exact Yl.load rfl rfl (by kernel_rfl) (Hp.vw mem2 (by omega)) | exact Yl.load rfl rfl (by kernel_rfl) (Hp.vw mem3 (by omega)) | exact Yl.load rfl rfl (by kernel_rfl) (Hp.vw mem4 (by omega)) | exact Yl.load rfl rfl (by kernel_rfl) (Hp.vw mem5 (by omega)) | exact Yl.load rfl rfl (by kernel_rfl) (Hp.vw mem6 (by omega)) | exact Yl.load rfl rfl (by kernel_rfl) (Sl.vw hS rfl (by omega) (fun _ h => h)) | exact Yl.load rfl rfl (by kernel_rfl) (Hp.cell mem0 rfl) | exact Yl.load rfl rfl (by kernel_rfl) (Hp.cell mem1 rfl) | exact Yl.load rfl rfl (by kernel_rfl) (Hp.cell mem2 rfl) | exact Yl.load rfl rfl (by kernel_rfl) (Hp.cell mem3 rfl) | exact Yl.load rfl rfl (by kernel_rfl) (Hp.cell mem4 rfl) | exact Yl.load rfl rfl (by kernel_rfl) (Hp.cell mem5 rfl) | exact Yl.load rfl rfl (by kernel_rfl) (Hp.cell mem6 rfl) | exact Yl.load rfl rfl (by kernel_rfl) (Hp.rowAt mem0 (by omega) rfl) | exact Yl.load rfl rfl (by kernel_rfl) (Hp.rowAt mem1 (by omega) rfl) | exact Yl.load rfl rfl (by kernel_rfl) (Hp.rowAt mem2 (by omega) rfl) | exact Yl.load rfl rfl (by kernel_rfl) (Hp.rowAt mem3 (by omega) rfl) | exact Yl.load rfl rfl (by kernel_rfl) (Hp.rowAt mem4 (by omega) rfl) | exact Yl.load rfl rfl (by kernel_rfl) (Hp.rowAt mem5 (by omega) rfl) | exact Yl.load rfl rfl (by kernel_rfl) (Hp.rowAt mem6 (by omega) rfl)
                    refine' TA.y (i := 6) #[true, true, true, true, true, true, true, false, false, false, false, false, false, false, false, false, false, false, false, false, false, false, false, false, false, false, false, false, false, false, false, false, false, false] rfl rfl rfl (by kernel_rfl) (fun _ _ _ h => h) (fun _ h => by exact Hp.sub h (by repeat (first | exact List.Sublist.refl _ | apply List.Sublist.cons))) rfl ?hy210 ?_
                    case hy210 => exact Yl.bin rfl rfl rfl (Bin.eql _ _ _ _)
                    refine' TA.y (i := 7) #[true, true, true, true, true, true, true, true, false, false, false, false, false, false, false, false, false, false, false, false, false, false, false, false, false, false, false, false, false, false, false, false, false, false] rfl rfl rfl (by kernel_rfl) (fun _ _ _ h => h) (fun _ h => by exact Hp.sub h (by repeat (first | exact List.Sublist.refl _ | apply List.Sublist.cons))) rfl ?hy211 ?_
                    case hy211 => exact Yl.pickT rfl rfl rfl
                    refine' TA.y (i := 8) #[true, true, true, true, true, true, true, true, true, false, false, false, false, false, false, false, false, false, false, false, false, false, false, false, false, false, false, false, false, false, false, false, false, false] rfl rfl rfl (by kernel_rfl) (fun _ _ _ h => h) (fun _ h => by exact Hp.sub h (by repeat (first | exact List.Sublist.refl _ | apply List.Sublist.cons))) rfl ?hy212 ?_
                    case hy212 => exact Yl.move rfl rfl
                    refine TA.re (i := 167) (v' := .bool true) rfl (congrArg Value.bool (by rw [hsi.1]; rfl)) ?_
                    refine' TA.y (i := 9) #[true, true, true, true, true, true, true, true, true, true, false, false, false, false, false, false, false, false, false, false, false, false, false, false, false, false, false, false, false, false, false, false, false, false] rfl rfl rfl (by kernel_rfl) (fun _ _ _ h => h) (fun _ h => by exact Hp.sub h (by repeat (first | exact List.Sublist.refl _ | apply List.Sublist.cons))) rfl ?hy213 ?_
                    case hy213 => exact Yl.move rfl rfl
                    refine' TA.y (i := 10) #[true, true, true, true, true, true, true, true, true, true, true, false, false, false, false, false, false, false, false, false, false, false, false, false, false, false, false, false, false, false, false, false, false, false] rfl rfl rfl (by kernel_rfl) (fun _ _ _ h => h) (fun _ h => by exact Hp.sub h (by repeat (first | exact List.Sublist.refl _ | apply List.Sublist.cons))) rfl ?hy214 ?_
                    case hy214 => exact Yl.move rfl rfl
                    refine' TA.y (i := 11) #[true, true, true, true, true, true, true, true, true, true, true, true, false, false, false, false, false, false, false, false, false, false, false, false, false, false, false, false, false, false, false, false, false, false] rfl rfl rfl (by kernel_rfl) (fun _ _ _ h => h) (fun _ h => by exact Hp.sub h (by repeat (first | exact List.Sublist.refl _ | apply List.Sublist.cons))) rfl ?hy215 ?_
                    case hy215 => first | exact Yl.ixn rfl rfl rfl Try.underlying22 (by kernel_rfl) (by omega) | exact Yl.ixz rfl rfl rfl Try.underlying22 (by kernel_rfl) (by omega) (by omega) | exact Yl.ixcn rfl rfl rfl Try.underlying22 (by kernel_rfl) (by omega) | exact Yl.ixcz rfl rfl rfl Try.underlying22 (by kernel_rfl) (by omega) (by omega)
                    refine' TA.y (i := 12) #[true, true, true, true, true, true, true, true, true, true, true, true, true, false, false, false, false, false, false, false, false, false, false, false, false, false, false, false, false, false, false, false, false, false] rfl rfl rfl (by kernel_rfl) (fun _ _ _ h => h) (fun _ h => by exact Hp.sub h (by repeat (first | exact List.Sublist.refl _ | apply List.Sublist.cons))) rfl ?hy216 ?_
                    case hy216 => first | exact Yl.load rfl rfl (by kernel_rfl) (Hp.vw mem0 (by omega)) | exact Yl.load rfl rfl (by kernel_rfl) (Hp.vw mem1 (by omega)) | exact Yl.load rfl rfl (by kernel_rfl) (Hp.vw mem2 (by omega)) | exact Yl.load rfl rfl (by kernel_rfl) (Hp.vw mem3 (by omega)) | exact Yl.load rfl rfl (by kernel_rfl) (Hp.vw mem4 (by omega)) | exact Yl.load rfl rfl (by kernel_rfl) (Hp.vw mem5 (by omega)) | exact Yl.load rfl rfl (by kernel_rfl) (Hp.vw mem6 (by omega)) | exact Yl.load rfl rfl (by kernel_rfl) (Sl.vw hS rfl (by omega) (fun _ h => h)) | exact Yl.load rfl rfl (by kernel_rfl) (Hp.cell mem0 rfl) | exact Yl.load rfl rfl (by kernel_rfl) (Hp.cell mem1 rfl) | exact Yl.load rfl rfl (by kernel_rfl) (Hp.cell mem2 rfl) | exact Yl.load rfl rfl (by kernel_rfl) (Hp.cell mem3 rfl) | exact Yl.load rfl rfl (by kernel_rfl) (Hp.cell mem4 rfl) | exact Yl.load rfl rfl (by kernel_rfl) (Hp.cell mem5 rfl) | exact Yl.load rfl rfl (by kernel_rfl) (Hp.cell mem6 rfl) | exact Yl.load rfl rfl (by kernel_rfl) (Hp.rowAt mem0 (by omega) rfl) | exact Yl.load rfl rfl (by kernel_rfl) (Hp.rowAt mem1 (by omega) rfl) | exact Yl.load rfl rfl (by kernel_rfl) (Hp.rowAt mem2 (by omega) rfl) | exact Yl.load rfl rfl (by kernel_rfl) (Hp.rowAt mem3 (by omega) rfl) | exact Yl.load rfl rfl (by kernel_rfl) (Hp.rowAt mem4 (by omega) rfl) | exact Yl.load rfl rfl (by kernel_rfl) (Hp.rowAt mem5 (by omega) rfl) | exact Yl.load rfl rfl (by kernel_rfl) (Hp.rowAt mem6 (by omega) rfl)
                    refine' TA.y (i := 13) #[true, true, true, true, true, true, true, true, true, true, true, true, true, true, false, false, false, false, false, false, false, false, false, false, false, false, false, false, false, false, false, false, false, false] rfl rfl rfl (by kernel_rfl) (fun _ _ _ h => h) (fun _ h => by exact Hp.sub h (by repeat (first | exact List.Sublist.refl _ | apply List.Sublist.cons))) rfl ?hy217 ?_
                    case hy217 => exact Yl.bin rfl rfl rfl (Bin.eql _ _ _ _)
                    refine' TA.y (i := 14) #[true, true, true, true, true, true, true, true, true, true, true, true, true, true, true, false, false, false, false, false, false, false, false, false, false, false, false, false, false, false, false, false, false, false] rfl rfl rfl (by kernel_rfl) (fun _ _ _ h => h) (fun _ h => by exact Hp.sub h (by repeat (first | exact List.Sublist.refl _ | apply List.Sublist.cons))) rfl ?hy218 ?_
                    case hy218 => exact Yl.pickT rfl rfl rfl
                    refine' TA.y (i := 15) #[true, true, true, true, true, true, true, true, true, true, true, true, true, true, true, true, false, false, false, false, false, false, false, false, false, false, false, false, false, false, false, false, false, false] rfl rfl rfl (by kernel_rfl) (fun _ _ _ h => h) (fun _ h => by exact Hp.sub h (by repeat (first | exact List.Sublist.refl _ | apply List.Sublist.cons))) rfl ?hy219 ?_
                    case hy219 => exact Yl.move rfl rfl
                    refine TA.re (i := 174) (v' := .bool true) rfl (congrArg Value.bool (by rw [hci.1]; rfl)) ?_
                    refine' TA.y (i := 16) #[true, true, true, true, true, true, true, true, true, true, true, true, true, true, true, true, true, false, false, false, false, false, false, false, false, false, false, false, false, false, false, false, false, false] rfl rfl rfl (by kernel_rfl) (fun _ _ _ h => h) (fun _ h => by exact Hp.sub h (by repeat (first | exact List.Sublist.refl _ | apply List.Sublist.cons))) rfl ?hy220 ?_
                    case hy220 => exact Yl.move rfl rfl
                    refine' TA.y (i := 17) #[true, true, true, true, true, true, true, true, true, true, true, true, true, true, true, true, true, true, false, false, false, false, false, false, false, false, false, false, false, false, false, false, false, false] rfl rfl rfl (by kernel_rfl) (fun _ _ _ h => h) (fun _ h => by exact Hp.sub h (by repeat (first | exact List.Sublist.refl _ | apply List.Sublist.cons))) rfl ?hy221 ?_
                    case hy221 => first | exact Yl.ixn rfl rfl rfl Try.underlying22 (by kernel_rfl) (by omega) | exact Yl.ixz rfl rfl rfl Try.underlying22 (by kernel_rfl) (by omega) (by omega) | exact Yl.ixcn rfl rfl rfl Try.underlying22 (by kernel_rfl) (by omega) | exact Yl.ixcz rfl rfl rfl Try.underlying22 (by kernel_rfl) (by omega) (by omega)
                    refine' TA.y (i := 18) #[true, true, true, true, true, true, true, true, true, true, true, true, true, true, true, true, true, true, true, false, false, false, false, false, false, false, false, false, false, false, false, false, false, false] rfl rfl rfl (by kernel_rfl) (fun _ _ _ h => h) (fun _ h => by exact Hp.sub h (by repeat (first | exact List.Sublist.refl _ | apply List.Sublist.cons))) rfl ?hy222 ?_
                    case hy222 => first | exact Yl.load rfl rfl (by kernel_rfl) (Hp.vw mem0 (by omega)) | exact Yl.load rfl rfl (by kernel_rfl) (Hp.vw mem1 (by omega)) | exact Yl.load rfl rfl (by kernel_rfl) (Hp.vw mem2 (by omega)) | exact Yl.load rfl rfl (by kernel_rfl) (Hp.vw mem3 (by omega)) | exact Yl.load rfl rfl (by kernel_rfl) (Hp.vw mem4 (by omega)) | exact Yl.load rfl rfl (by kernel_rfl) (Hp.vw mem5 (by omega)) | exact Yl.load rfl rfl (by kernel_rfl) (Hp.vw mem6 (by omega)) | exact Yl.load rfl rfl (by kernel_rfl) (Sl.vw hS rfl (by omega) (fun _ h => h)) | exact Yl.load rfl rfl (by kernel_rfl) (Hp.cell mem0 rfl) | exact Yl.load rfl rfl (by kernel_rfl) (Hp.cell mem1 rfl) | exact Yl.load rfl rfl (by kernel_rfl) (Hp.cell mem2 rfl) | exact Yl.load rfl rfl (by kernel_rfl) (Hp.cell mem3 rfl) | exact Yl.load rfl rfl (by kernel_rfl) (Hp.cell mem4 rfl) | exact Yl.load rfl rfl (by kernel_rfl) (Hp.cell mem5 rfl) | exact Yl.load rfl rfl (by kernel_rfl) (Hp.cell mem6 rfl) | exact Yl.load rfl rfl (by kernel_rfl) (Hp.rowAt mem0 (by omega) rfl) | exact Yl.load rfl rfl (by kernel_rfl) (Hp.rowAt mem1 (by omega) rfl) | exact Yl.load rfl rfl (by kernel_rfl) (Hp.rowAt mem2 (by omega) rfl) | exact Yl.load rfl rfl (by kernel_rfl) (Hp.rowAt mem3 (by omega) rfl) | exact Yl.load rfl rfl (by kernel_rfl) (Hp.rowAt mem4 (by omega) rfl) | exact Yl.load rfl rfl (by kernel_rfl) (Hp.rowAt mem5 (by omega) rfl) | exact Yl.load rfl rfl (by kernel_rfl) (Hp.rowAt mem6 (by omega) rfl)
                    refine' TA.y (i := 19) #[true, true, true, true, true, true, true, true, true, true, true, true, true, true, true, true, true, true, true, true, false, false, false, false, false, false, false, false, false, false, false, false, false, false] rfl rfl rfl (by kernel_rfl) (fun _ _ _ h => h) (fun _ h => by exact Hp.sub h (by repeat (first | exact List.Sublist.refl _ | apply List.Sublist.cons))) rfl ?hy223 ?_
                    case hy223 => exact Yl.move rfl rfl
                    refine' TA.y (i := 20) #[true, true, true, true, true, true, true, true, true, true, true, true, true, true, true, true, true, true, true, true, true, false, false, false, false, false, false, false, false, false, false, false, false, false] rfl rfl rfl (by kernel_rfl) (fun _ _ _ h => h) (fun _ h => by exact Hp.sub h (by repeat (first | exact List.Sublist.refl _ | apply List.Sublist.cons))) rfl ?hy224 ?_
                    case hy224 => exact Yl.bin rfl rfl rfl (Bin.eql _ _ _ _)
                    refine' TA.y (i := 21) #[true, true, true, true, true, true, true, true, true, true, true, true, true, true, true, true, true, true, true, true, true, true, false, false, false, false, false, false, false, false, false, false, false, false] rfl rfl rfl (by kernel_rfl) (fun _ _ _ h => h) (fun _ h => by exact Hp.sub h (by repeat (first | exact List.Sublist.refl _ | apply List.Sublist.cons))) rfl ?hy225 ?_
                    case hy225 => exact Yl.pickT rfl rfl rfl
                    refine' TA.y (i := 22) #[true, true, true, true, true, true, true, true, true, true, true, true, true, true, true, true, true, true, true, true, true, true, true, false, false, false, false, false, false, false, false, false, false, false] rfl rfl rfl (by kernel_rfl) (fun _ _ _ h => h) (fun _ h => by exact Hp.sub h (by repeat (first | exact List.Sublist.refl _ | apply List.Sublist.cons))) rfl ?hy226 ?_
                    case hy226 => exact Yl.move rfl rfl
                    refine TA.re (i := 181) (v' := .bool true) rfl (congrArg Value.bool (by show (splitF n 1 u 0 == _) = true; rw [split_one hok1]; simp)) ?_
                    refine' TA.y (i := 23) #[true, true, true, true, true, true, true, true, true, true, true, true, true, true, true, true, true, true, true, true, true, true, true, true, false, false, false, false, false, false, false, false, false, false] rfl rfl rfl (by kernel_rfl) (fun _ _ _ h => h) (fun _ h => by exact Hp.sub h (by repeat (first | exact List.Sublist.refl _ | apply List.Sublist.cons))) rfl ?hy227 ?_
                    case hy227 => exact Yl.move rfl rfl
                    refine' TA.y (i := 24) #[true, true, true, true, true, true, true, true, true, true, true, true, true, true, true, true, true, true, true, true, true, true, true, true, true, false, false, false, false, false, false, false, false, false] rfl rfl rfl (by kernel_rfl) (fun _ _ _ h => h) (fun _ h => by exact Hp.sub h (by repeat (first | exact List.Sublist.refl _ | apply List.Sublist.cons))) rfl ?hy228 ?_
                    case hy228 => first | exact Yl.ixn rfl rfl rfl Try.underlying22 (by kernel_rfl) (by omega) | exact Yl.ixz rfl rfl rfl Try.underlying22 (by kernel_rfl) (by omega) (by omega) | exact Yl.ixcn rfl rfl rfl Try.underlying22 (by kernel_rfl) (by omega) | exact Yl.ixcz rfl rfl rfl Try.underlying22 (by kernel_rfl) (by omega) (by omega)
                    refine' TA.y (i := 25) #[true, true, true, true, true, true, true, true, true, true, true, true, true, true, true, true, true, true, true, true, true, true, true, true, true, true, false, false, false, false, false, false, false, false] rfl rfl rfl (by kernel_rfl) (fun _ _ _ h => h) (fun _ h => by exact Hp.sub h (by repeat (first | exact List.Sublist.refl _ | apply List.Sublist.cons))) rfl ?hy229 ?_
                    case hy229 => first | exact Yl.load rfl rfl (by kernel_rfl) (Hp.vw mem0 (by omega)) | exact Yl.load rfl rfl (by kernel_rfl) (Hp.vw mem1 (by omega)) | exact Yl.load rfl rfl (by kernel_rfl) (Hp.vw mem2 (by omega)) | exact Yl.load rfl rfl (by kernel_rfl) (Hp.vw mem3 (by omega)) | exact Yl.load rfl rfl (by kernel_rfl) (Hp.vw mem4 (by omega)) | exact Yl.load rfl rfl (by kernel_rfl) (Hp.vw mem5 (by omega)) | exact Yl.load rfl rfl (by kernel_rfl) (Hp.vw mem6 (by omega)) | exact Yl.load rfl rfl (by kernel_rfl) (Sl.vw hS rfl (by omega) (fun _ h => h)) | exact Yl.load rfl rfl (by kernel_rfl) (Hp.cell mem0 rfl) | exact Yl.load rfl rfl (by kernel_rfl) (Hp.cell mem1 rfl) | exact Yl.load rfl rfl (by kernel_rfl) (Hp.cell mem2 rfl) | exact Yl.load rfl rfl (by kernel_rfl) (Hp.cell mem3 rfl) | exact Yl.load rfl rfl (by kernel_rfl) (Hp.cell mem4 rfl) | exact Yl.load rfl rfl (by kernel_rfl) (Hp.cell mem5 rfl) | exact Yl.load rfl rfl (by kernel_rfl) (Hp.cell mem6 rfl) | exact Yl.load rfl rfl (by kernel_rfl) (Hp.rowAt mem0 (by omega) rfl) | exact Yl.load rfl rfl (by kernel_rfl) (Hp.rowAt mem1 (by omega) rfl) | exact Yl.load rfl rfl (by kernel_rfl) (Hp.rowAt mem2 (by omega) rfl) | exact Yl.load rfl rfl (by kernel_rfl) (Hp.rowAt mem3 (by omega) rfl) | exact Yl.load rfl rfl (by kernel_rfl) (Hp.rowAt mem4 (by omega) rfl) | exact Yl.load rfl rfl (by kernel_rfl) (Hp.rowAt mem5 (by omega) rfl) | exact Yl.load rfl rfl (by kernel_rfl) (Hp.rowAt mem6 (by omega) rfl)
                    refine' TA.y (i := 26) #[true, true, true, true, true, true, true, true, true, true, true, true, true, true, true, true, true, true, true, true, true, true, true, true, true, true, true, false, false, false, false, false, false, false] rfl rfl rfl (by kernel_rfl) (fun _ _ _ h => h) (fun _ h => by exact Hp.sub h (by repeat (first | exact List.Sublist.refl _ | apply List.Sublist.cons))) rfl ?hy230 ?_
                    case hy230 => exact Yl.move rfl rfl
                    refine' TA.y (i := 27) #[true, true, true, true, true, true, true, true, true, true, true, true, true, true, true, true, true, true, true, true, true, true, true, true, true, true, true, true, false, false, false, false, false, false] rfl rfl rfl (by kernel_rfl) (fun _ _ _ h => h) (fun _ h => by exact Hp.sub h (by repeat (first | exact List.Sublist.refl _ | apply List.Sublist.cons))) rfl ?hy231 ?_
                    case hy231 => exact Yl.move rfl rfl
                    refine' TA.y (i := 28) #[true, true, true, true, true, true, true, true, true, true, true, true, true, true, true, true, true, true, true, true, true, true, true, true, true, true, true, true, true, false, false, false, false, false] rfl rfl rfl (by kernel_rfl) (fun _ _ _ h => h) (fun _ h => by exact Hp.sub h (by repeat (first | exact List.Sublist.refl _ | apply List.Sublist.cons))) rfl ?hy232 ?_
                    case hy232 => first | exact Yl.ixn rfl rfl rfl Try.underlying22 (by kernel_rfl) (by omega) | exact Yl.ixz rfl rfl rfl Try.underlying22 (by kernel_rfl) (by omega) (by omega) | exact Yl.ixcn rfl rfl rfl Try.underlying22 (by kernel_rfl) (by omega) | exact Yl.ixcz rfl rfl rfl Try.underlying22 (by kernel_rfl) (by omega) (by omega)
                    refine' TA.y (i := 29) #[true, true, true, true, true, true, true, true, true, true, true, true, true, true, true, true, true, true, true, true, true, true, true, true, true, true, true, true, true, true, false, false, false, false] rfl rfl rfl (by kernel_rfl) (fun _ _ _ h => h) (fun _ h => by exact Hp.sub h (by repeat (first | exact List.Sublist.refl _ | apply List.Sublist.cons))) rfl ?hy233 ?_
                    case hy233 => first | exact Yl.load rfl rfl (by kernel_rfl) (Hp.vw mem0 (by omega)) | exact Yl.load rfl rfl (by kernel_rfl) (Hp.vw mem1 (by omega)) | exact Yl.load rfl rfl (by kernel_rfl) (Hp.vw mem2 (by omega)) | exact Yl.load rfl rfl (by kernel_rfl) (Hp.vw mem3 (by omega)) | exact Yl.load rfl rfl (by kernel_rfl) (Hp.vw mem4 (by omega)) | exact Yl.load rfl rfl (by kernel_rfl) (Hp.vw mem5 (by omega)) | exact Yl.load rfl rfl (by kernel_rfl) (Hp.vw mem6 (by omega)) | exact Yl.load rfl rfl (by kernel_rfl) (Sl.vw hS rfl (by omega) (fun _ h => h)) | exact Yl.load rfl rfl (by kernel_rfl) (Hp.cell mem0 rfl) | exact Yl.load rfl rfl (by kernel_rfl) (Hp.cell mem1 rfl) | exact Yl.load rfl rfl (by kernel_rfl) (Hp.cell mem2 rfl) | exact Yl.load rfl rfl (by kernel_rfl) (Hp.cell mem3 rfl) | exact Yl.load rfl rfl (by kernel_rfl) (Hp.cell mem4 rfl) | exact Yl.load rfl rfl (by kernel_rfl) (Hp.cell mem5 rfl) | exact Yl.load rfl rfl (by kernel_rfl) (Hp.cell mem6 rfl) | exact Yl.load rfl rfl (by kernel_rfl) (Hp.rowAt mem0 (by omega) rfl) | exact Yl.load rfl rfl (by kernel_rfl) (Hp.rowAt mem1 (by omega) rfl) | exact Yl.load rfl rfl (by kernel_rfl) (Hp.rowAt mem2 (by omega) rfl) | exact Yl.load rfl rfl (by kernel_rfl) (Hp.rowAt mem3 (by omega) rfl) | exact Yl.load rfl rfl (by kernel_rfl) (Hp.rowAt mem4 (by omega) rfl) | exact Yl.load rfl rfl (by kernel_rfl) (Hp.rowAt mem5 (by omega) rfl) | exact Yl.load rfl rfl (by kernel_rfl) (Hp.rowAt mem6 (by omega) rfl)
                    refine' TA.y (i := 30) #[true, true, true, true, true, true, true, true, true, true, true, true, true, true, true, true, true, true, true, true, true, true, true, true, true, true, true, true, true, true, true, false, false, false] rfl rfl rfl (by kernel_rfl) (fun _ _ _ h => h) (fun _ h => by exact Hp.sub h (by repeat (first | exact List.Sublist.refl _ | apply List.Sublist.cons))) rfl ?hy234 ?_
                    case hy234 => exact Yl.min rfl rfl rfl
                    refine' TA.y (i := 31) #[true, true, true, true, true, true, true, true, true, true, true, true, true, true, true, true, true, true, true, true, true, true, true, true, true, true, true, true, true, true, true, true, false, false] rfl rfl rfl (by kernel_rfl) (fun _ _ _ h => h) (fun _ h => by exact Hp.sub h (by repeat (first | exact List.Sublist.refl _ | apply List.Sublist.cons))) rfl ?hy235 ?_
                    case hy235 => exact Yl.bin rfl rfl rfl (Bin.eql _ _ _ _)
                    refine' TA.y (i := 32) #[true, true, true, true, true, true, true, true, true, true, true, true, true, true, true, true, true, true, true, true, true, true, true, true, true, true, true, true, true, true, true, true, true, false] rfl rfl rfl (by kernel_rfl) (fun _ _ _ h => h) (fun _ h => by exact Hp.sub h (by repeat (first | exact List.Sublist.refl _ | apply List.Sublist.cons))) rfl ?hy236 ?_
                    case hy236 => exact Yl.pickT rfl rfl rfl
                    refine' TA.y (i := 33) #[true, true, true, true, true, true, true, true, true, true, true, true, true, true, true, true, true, true, true, true, true, true, true, true, true, true, true, true, true, true, true, true, true, true] rfl rfl rfl (by kernel_rfl) (fun _ _ _ h => h) (fun _ h => by exact Hp.sub h (by repeat (first | exact List.Sublist.refl _ | apply List.Sublist.cons))) rfl ?hy237 ?_
                    case hy237 => exact Yl.assign rfl rfl
                    refine TA.done (by kernel_rfl) ?_
                    refine TE.next ?_
                    refine TC.ret ?_
                    refine TE.ret1 rfl rfl ?_
                    have hfin : (capF n 1 u 0 == (if u 0 < n then u 0 else n)) = true := by rw [cap_one hok1, beq_iff_eq]; split <;> omega
                    exact fun w h => ⟨congrArg (fun x => Ending.returned (Value.bool x)) hfin, (h.sub (List.nil_sublist _)).below⟩
end Go.Proofs.Ythjllhaebanplaa.Pk
