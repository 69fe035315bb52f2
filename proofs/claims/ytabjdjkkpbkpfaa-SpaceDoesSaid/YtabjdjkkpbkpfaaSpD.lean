/- Regions: one more. -/
import Derived.Test.YtabjdjkkpbkpfaaSpB
import Derived.Test.YtabjdjkkpbkpfaaProg
import Derived.RowKit3
namespace Go.Proofs.Ytabjdjkkpbkpfaa.Pk
open Go Go.RowKit Go.Proofs.Ytabjdjkkpbkpfaa.HL Go.Proofs.Ytabjdjkkpbkpfaa.Ev Go.Proofs.YtabjdjkkpbkpfaaW.PrintWords Go.Proofs.RgP
set_option linter.unusedVariables false
set_option linter.unusedSimpArgs false
theorem busy_idx (x : S25) : ∀ l : List S25, busy x l = true ↔ (l.findIdx (afterB x) < l.length ∧ (atG l (l.findIdx (afterB x))).f0 < x.f1)
  | [] => by simp [busy]
  | y :: ys => by
    have ih := busy_idx x ys
    rw [List.findIdx_cons]
    simp only [busy]
    by_cases h : y.f1 > x.f0
    · have ha : afterB x y = true := decide_eq_true h
      rw [if_pos h, ha, cond_true]
      have e : atG (y :: ys) 0 = y := rfl
      rw [e, decide_eq_true_iff]; simp
    · have ha : afterB x y = false := decide_eq_false h
      rw [if_neg h, ha, cond_false, ih]
      have e : atG (y :: ys) (ys.findIdx (afterB x) + 1) = atG ys (ys.findIdx (afterB x)) := rfl
      rw [e, List.length_cons]
      constructor
      · rintro ⟨h1, h2⟩; exact ⟨by omega, h2⟩
      · rintro ⟨h1, h2⟩; exact ⟨by omega, h2⟩
theorem ins_idx (x : S25) : ∀ l : List S25, ins x l = l.take (l.findIdx (afterB x)) ++ [x] ++ l.drop (l.findIdx (afterB x))
  | [] => rfl
  | y :: ys => by
    have ih := ins_idx x ys
    rw [List.findIdx_cons]
    simp only [ins]
    by_cases h : y.f1 > x.f0
    · have ha : afterB x y = true := decide_eq_true h
      rw [if_pos h, ha, cond_true]; rfl
    · have ha : afterB x y = false := decide_eq_false h
      rw [if_neg h, ha, cond_false, ih, List.take_succ_cons, List.drop_succ_cons]; rfl
theorem sl0 {W : World} {A : Option Addr} {l : List S25} (h : Sl W A (Rw l)) {k : Nat} (hk : k ≤ l.length) : sliced A 0 k k 6 = .slice A k k := by
  unfold sliced
  by_cases h0 : k = 0
  · rw [if_pos h0, Nat.sub_zero]
  · obtain ⟨b, o, rfl⟩ := Sl.some2 h (by rw [Rw_length]; omega)
    rw [if_neg h0, Nat.zero_mul]
    simp [Addr.at_]
theorem rw_tail {W : World} {A : Option Addr} {cp : Nat} {l : List S25} (h : Sl W A (Rw l)) {k : Nat} (hk : k ≤ l.length) (hcp : l.length ≤ cp) : ∃ A', sliced A k l.length cp 6 = .slice A' (l.length - k) (cp - k) ∧ Sl W A' (Rw (l.drop k)) := by
  refine ⟨_, rfl, fun j v hj => ?_⟩
  by_cases h0 : k = l.length
  · rw [h0, List.drop_length] at hj; simp [Rw] at hj
  · obtain ⟨b, o, rfl⟩ := Sl.some2 h (by rw [Rw_length]; omega)
    rw [if_neg (by omega)]
    have e : (Rw l)[k * 6 + j]? = some v := by
      rw [← List.take_append_drop k l, Rw_app]
      have hl : (Rw (l.take k)).length = k * 6 := by rw [Rw_length, List.length_take]; omega
      rw [List.getElem?_append_right (by omega), hl, show k * 6 + j - k * 6 = j by omega]; exact hj
    obtain ⟨ad, e2, hc⟩ := h _ v e
    cases e2
    refine ⟨⟨b, o + k * 6, none⟩, by simp [Addr.at_], ?_⟩
    rw [Addr.at_] at hc ⊢
    rw [show o + k * 6 + j = o + (k * 6 + j) by omega]; exact hc
theorem sl_take {W : World} {A : Option Addr} {l : List S25} (h : Sl W A (Rw l)) (k : Nat) : Sl W A (Rw (l.take k)) := fun j v hj => h j v (by
  rw [← List.take_append_drop k l, Rw_app, List.getElem?_append_left ?_]; exact hj
  exact (List.getElem?_eq_some_iff.1 hj).1)
def addL (l : List S25) (x : S25) : List S25 × Int := if rightB l = true ∧ validB x = true ∧ l.length < 64 then (if busy x l = true then ([], 4) else (ins x l, 0)) else ([], 1)
attribute [local irreducible] Rw atG
set_option maxRecDepth 100000 in
set_option maxHeartbeats 2000000 in
theorem k_gadd (W : World) {l : List S25} {A : Option Addr} {cp : Nat} (hS : Sl W A (Rw l)) (hm : l.length ≤ 100000) (hcp : l.length ≤ cp) (x : S25) : Calls Try.prog 35 #[.slice A l.length cp, .agg #[.int .i64 (x).f0, .int .i64 (x).f1, .int .i64 (x).f2, .int .i64 (x).f3, .int .i64 (x).f4, .bool (x).f5]] W fun e w' => ∃ v : Value, e = .returned (.tuple #[v, .int .i64 (addL l x).2]) ∧ (rowG v (addL l x).1).holds w' ∧ Below W.heap.size W w' ∧ ∀ k, (rowG v (addL l x).1).foot k → W.heap.size ≤ k := by
  obtain ⟨k, hkd⟩ : ∃ k, k = l.findIdx (afterB x) := ⟨_, rfl⟩
  have hM : Hp W (fun _ => False) [] W := Hp.start
  refine TC.enter (n := 52) Try.func35 rfl rfl rfl hM ?_
  refine TC.seq ?_
  refine TC.region ?_
  refine' TL.mx rfl rfl rfl ?hy1 ?_
  case hy1 => exact Ym.box rfl rfl
  intro b3
  refine' TL.y rfl rfl rfl ?hy2 ?_
  case hy2 => exact Yl.assign rfl rfl
  refine' TL.y rfl rfl rfl ?hy3 ?_
  case hy3 => exact Yl.assign rfl rfl
  refine TL.nil ?_
  refine TE.next ?_
  refine TC.seq ?_
  refine TC.seq ?_
  refine TC.region ?_
  refine' TL.y rfl rfl rfl ?hy4 ?_
  case hy4 => exact Yl.move rfl rfl
  refine' TL.c rfl rfl rfl ?hy5 ?_
  case hy5 => exact Yc.call rfl Try.func62 (by kernel_rfl) rfl rfl (Hp.calls (fun w h => k_gright w (hS.below h.below) hm))
  intro _
  refine' TL.y rfl rfl rfl ?hy6 ?_
  case hy6 => exact Yl.not rfl rfl
  refine' TL.y rfl rfl rfl ?hy7 ?_
  case hy7 => exact Yl.move rfl rfl
  refine TL.split (i := 10) rfl (fun hs10 => ?_) (fun hs10 => ?_)
  · skip
    (try simp only [nrm] at hs10)
    refine TL.skip rfl rfl rfl ?_
    refine TL.skip rfl rfl rfl ?_
    refine TL.skip rfl rfl rfl ?_
    refine' TL.y rfl rfl rfl ?hy8 ?_
    case hy8 => exact Yl.pickT rfl rfl rfl
    refine' TL.y rfl rfl rfl ?hy9 ?_
    case hy9 => exact Yl.move rfl rfl
    refine TL.skip rfl rfl rfl ?_
    refine TL.skip rfl rfl rfl ?_
    refine TL.skip rfl rfl rfl ?_
    refine' TL.y rfl rfl rfl ?hy10 ?_
    case hy10 => exact Yl.pickT rfl rfl rfl
    refine TL.nil ?_
    refine TE.next ?_
    refine TC.yes rfl rfl ?_
    refine TC.seq ?_
    refine TC.region ?_
    refine' TL.y rfl rfl rfl ?hy11 ?_
    case hy11 => exact Yl.assign rfl rfl
    refine' TL.y rfl rfl rfl ?hy12 ?_
    case hy12 => exact Yl.assign rfl rfl
    refine TL.nil ?_
    refine TE.next ?_
    refine TC.ret ?_
    refine TE.thenRet ?_
    refine TE.ret2 rfl rfl rfl ?_
    have hb : addL l x = ([], 1) := if_neg (by rintro ⟨h1, h2, h3⟩; rw [h1] at hs10; simp at hs10)
    exact fun w h => ⟨.slice none 0 0, by rw [hb], by rw [hb]; exact (rowG_nil (h.sub (List.nil_sublist _))).leaveNew⟩
  · skip
    (try simp only [nrm] at hs10)
    refine' TL.y rfl rfl rfl ?hy13 ?_
    case hy13 => exact Yl.loads (cs := [.int .i64 (x).f0, .int .i64 (x).f1, .int .i64 (x).f2, .int .i64 (x).f3, .int .i64 (x).f4, .bool (x).f5]) rfl rfl (by kernel_rfl) (by kernel_rfl) (Hp.cells mem0 (fun j v hj => by simpa [Value.cells] using hj))
    refine' TL.c rfl rfl rfl ?hy14 ?_
    case hy14 => exact Yc.call rfl Try.func63 (by kernel_rfl) rfl rfl (Hp.calls (fun w h => k_gvalid w x))
    intro _
    refine' TL.y rfl rfl rfl ?hy15 ?_
    case hy15 => exact Yl.not rfl rfl
    refine' TL.y rfl rfl rfl ?hy16 ?_
    case hy16 => exact Yl.pickF rfl rfl rfl
    refine' TL.y rfl rfl rfl ?hy17 ?_
    case hy17 => exact Yl.move rfl rfl
    refine TL.split (i := 15) rfl (fun hs15 => ?_) (fun hs15 => ?_)
    · skip
      (try simp only [nrm] at hs15)
      refine TL.skip rfl rfl rfl ?_
      refine TL.skip rfl rfl rfl ?_
      refine TL.skip rfl rfl rfl ?_
      refine' TL.y rfl rfl rfl ?hy18 ?_
      case hy18 => exact Yl.pickT rfl rfl rfl
      refine TL.nil ?_
      refine TE.next ?_
      refine TC.yes rfl rfl ?_
      refine TC.seq ?_
      refine TC.region ?_
      refine' TL.y rfl rfl rfl ?hy19 ?_
      case hy19 => exact Yl.assign rfl rfl
      refine' TL.y rfl rfl rfl ?hy20 ?_
      case hy20 => exact Yl.assign rfl rfl
      refine TL.nil ?_
      refine TE.next ?_
      refine TC.ret ?_
      refine TE.thenRet ?_
      refine TE.ret2 rfl rfl rfl ?_
      have hb : addL l x = ([], 1) := if_neg (by rintro ⟨h1, h2, h3⟩; rw [h2] at hs15; simp at hs15)
      exact fun w h => ⟨.slice none 0 0, by rw [hb], by rw [hb]; exact (rowG_nil (h.sub (List.nil_sublist _))).leaveNew⟩
    · skip
      (try simp only [nrm] at hs15)
      refine' TL.y rfl rfl rfl ?hy21 ?_
      case hy21 => exact Yl.move rfl rfl
      refine' TL.y rfl rfl rfl ?hy22 ?_
      case hy22 => exact Yl.len rfl rfl Try.underlying44
      refine' TL.y rfl rfl rfl ?hy23 ?_
      case hy23 => exact Yl.bin rfl rfl rfl (Bin.geq _ _ _ _)
      refine' TL.y rfl rfl rfl ?hy24 ?_
      case hy24 => exact Yl.pickF rfl rfl rfl
      refine TL.nil ?_
      refine TE.next ?_
      refine TC.cond rfl (fun hs19 => ?_) (fun hs19 => ?_)
      · skip
        (try simp only [nrm] at hs19)
        refine TC.seq ?_
        refine TC.region ?_
        refine' TL.y rfl rfl rfl ?hy25 ?_
        case hy25 => exact Yl.assign rfl rfl
        refine' TL.y rfl rfl rfl ?hy26 ?_
        case hy26 => exact Yl.assign rfl rfl
        refine TL.nil ?_
        refine TE.next ?_
        refine TC.ret ?_
        refine TE.thenRet ?_
        refine TE.ret2 rfl rfl rfl ?_
        have hb : addL l x = ([], 1) := if_neg (by rintro ⟨h1, h2, h3⟩; omega)
        exact fun w h => ⟨.slice none 0 0, by rw [hb], by rw [hb]; exact (rowG_nil (h.sub (List.nil_sublist _))).leaveNew⟩
      · skip
        (try simp only [nrm] at hs19)
        refine TC.skip ?_
        refine TE.next ?_
        refine TC.seq ?_
        refine TC.region ?_
        refine' TL.y rfl rfl rfl ?hy27 ?_
        case hy27 => exact Yl.move rfl rfl
        refine' TL.y rfl rfl rfl ?hy28 ?_
        case hy28 => exact Yl.makeFunc rfl rfl rfl
        refine' TL.c rfl rfl rfl ?hy29 ?_
        case hy29 => exact Yc.call rfl Try.func64 (by kernel_rfl) rfl rfl (Hp.calls (fun w h => k_idxA w (hS.below h.below) hm (h.all _ mem0)))
        intro _
        refine' TL.y rfl rfl rfl ?hy30 ?_
        case hy30 => exact Yl.assign rfl rfl
        refine TL.nil ?_
        refine TE.next ?_
        refine TC.meet (σ := Unit) (fun _ => [(0, .slice A l.length cp), (3, .pointer (some ⟨b3, 0, none⟩)), (6, .int .i64 ((k : Nat) : Int))]) (fun _ => Hp W (fun _ => False) [blk b3 (.cells #[.int .i64 (x).f0, .int .i64 (x).f1, .int .i64 (x).f2, .int .i64 (x).f3, .int .i64 (x).f4, .bool (x).f5] 28 (0, 0))]) (fun _ => rightB l = true ∧ validB x = true ∧ l.length < 64) ?hx31 ?hy31
        case hx31 =>
          refine TC.seq ?_
          refine TC.region ?_
          refine' TL.y rfl rfl rfl ?hy32 ?_
          case hy32 => exact Yl.move rfl rfl
          refine' TL.y rfl rfl rfl ?hy33 ?_
          case hy33 => exact Yl.bin rfl rfl rfl (Bin.lss _ _ _ _)
          refine TL.nil ?_
          refine TE.next ?_
          refine TC.cond rfl (fun hs24 => ?_) (fun hs24 => ?_)
          · skip
            (try simp only [nrm] at hs24)
            have hix : (l.length : Int) = ((k : Nat) : Int) := by unfold fidx at hs24; rw [← hkd] at hs24; have := hkd ▸ List.findIdx_le_length (xs := l) (p := afterB x); split at hs24 <;> omega
            refine TC.region ?_
            refine' TL.y rfl rfl rfl ?hy34 ?_
            case hy34 => exact Yl.move rfl rfl
            refine' TL.y rfl rfl rfl ?hy35 ?_
            case hy35 => exact Yl.len rfl rfl Try.underlying44
            refine TL.re (i := 26) (v' := .int .i64 (((k : Nat) : Int))) rfl (congrArg (Value.int .i64) (hix)) ?_
            refine' TL.y rfl rfl rfl ?hy36 ?_
            case hy36 => exact Yl.assign rfl rfl
            refine TL.nil ?_
            refine TE.met () ?hF37 ?hs37 ?hm37
            case hF37 => exact ⟨by simpa using hs10, by simpa using hs15, by omega⟩
            case hs37 => exact ⟨rfl, rfl, rfl, trivial⟩
            case hm37 => exact fun _ h => h
          · skip
            (try simp only [nrm] at hs24)
            have hix : fidx (afterB x) l = ((k : Nat) : Int) := by unfold fidx at hs24 ⊢; rw [← hkd] at hs24 ⊢; split at hs24; rw [if_pos (by assumption)]; omega
            rw [hix]
            refine TC.skip ?_
            refine TE.met () ?hF38 ?hs38 ?hm38
            case hF38 => exact ⟨by simpa using hs10, by simpa using hs15, by omega⟩
            case hs38 => exact ⟨rfl, rfl, rfl, trivial⟩
            case hm38 => exact fun _ h => h
        case hy31 =>
          intro _ hok
          have hk : k ≤ l.length := hkd ▸ List.findIdx_le_length
          have hle := List.length_take (i := k) (l := l)
          have hA0 : A = none → k = 0 := fun e => by
            apply Classical.byContradiction
            intro h0
            obtain ⟨b, o, h⟩ := Sl.some2 hS (by rw [Rw_length]; omega)
            rw [e] at h; cases h
          obtain ⟨A', hA', hS'⟩ := rw_tail hS hk hcp
          refine TC.meet (σ := Unit) (fun _ => [(0, .slice A l.length cp), (3, .pointer (some ⟨b3, 0, none⟩)), (6, .int .i64 ((k : Nat) : Int))]) (fun _ => Hp W (fun _ => False) [blk b3 (.cells #[.int .i64 (x).f0, .int .i64 (x).f1, .int .i64 (x).f2, .int .i64 (x).f3, .int .i64 (x).f4, .bool (x).f5] 28 (0, 0))]) (fun _ => busy x l = false) ?hx39 ?hy39
          case hx39 =>
            refine TC.seq ?_
            refine TC.draw (k := 14) (Hp W (fun _ => False) [blk b3 (.cells #[.int .i64 (x).f0, .int .i64 (x).f1, .int .i64 (x).f2, .int .i64 (x).f3, .int .i64 (x).f4, .bool (x).f5] 28 (0, 0))]) [] #[false, false, false, false, false, false, false, false, false, false, false, false, false, false] (by kernel_rfl) rfl rfl (fun _ h => h.drew) (fun _ h => by exact Hp.sub h (by repeat (first | exact sR _ | exact sN _ | apply sK | apply sC))) ?_
            refine' TA.y (i := 0) #[true, false, false, false, false, false, false, false, false, false, false, false, false, false] rfl rfl rfl (by kernel_rfl) (fun _ _ _ h => h) (fun _ h => by exact Hp.sub h (by repeat (first | exact sR _ | exact sN _ | apply sK | apply sC))) rfl ?hy40 ?_
            case hy40 => exact Yl.move rfl rfl
            refine' TA.y (i := 1) #[true, true, false, false, false, false, false, false, false, false, false, false, false, false] rfl rfl rfl (by kernel_rfl) (fun _ _ _ h => h) (fun _ h => by exact Hp.sub h (by repeat (first | exact sR _ | exact sN _ | apply sK | apply sC))) rfl ?hy41 ?_
            case hy41 => exact Yl.move rfl rfl
            refine' TA.y (i := 2) #[true, true, true, false, false, false, false, false, false, false, false, false, false, false] rfl rfl rfl (by kernel_rfl) (fun _ _ _ h => h) (fun _ h => by exact Hp.sub h (by repeat (first | exact sR _ | exact sN _ | apply sK | apply sC))) rfl ?hy42 ?_
            case hy42 => exact Yl.len rfl rfl Try.underlying44
            refine' TA.y (i := 3) #[true, true, true, true, false, false, false, false, false, false, false, false, false, false] rfl rfl rfl (by kernel_rfl) (fun _ _ _ h => h) (fun _ h => by exact Hp.sub h (by repeat (first | exact sR _ | exact sN _ | apply sK | apply sC))) rfl ?hy43 ?_
            case hy43 => exact Yl.bin rfl rfl rfl (Bin.lss _ _ _ _)
            refine' TA.y (i := 4) #[true, true, true, true, true, false, false, false, false, false, false, false, false, false] rfl rfl rfl (by kernel_rfl) (fun _ _ _ h => h) (fun _ h => by exact Hp.sub h (by repeat (first | exact sR _ | exact sN _ | apply sK | apply sC))) rfl ?hy44 ?_
            case hy44 => exact Yl.move rfl rfl
            refine TA.split (i := 31) rfl (fun hs31 => ?_) (fun hs31 => ?_)
            · skip
              (try simp only [nrm] at hs31)
              obtain ⟨b, o, rfl⟩ := Sl.some2 hS (by rw [Rw_length]; omega)
              refine' TA.y (i := 5) #[true, true, true, true, true, true, false, false, false, false, false, false, false, false] rfl rfl rfl (by kernel_rfl) (fun _ _ _ h => h) (fun _ h => by exact Hp.sub h (by repeat (first | exact sR _ | exact sN _ | apply sK | apply sC))) rfl ?hy45 ?_
              case hy45 => exact Yl.move rfl rfl
              refine' TA.y (i := 6) #[true, true, true, true, true, true, true, false, false, false, false, false, false, false] rfl rfl rfl (by kernel_rfl) (fun _ _ _ h => h) (fun _ h => by exact Hp.sub h (by repeat (first | exact sR _ | exact sN _ | apply sK | apply sC))) rfl ?hy46 ?_
              case hy46 => exact Yl.move rfl rfl
              refine' TA.y (i := 7) #[true, true, true, true, true, true, true, true, false, false, false, false, false, false] rfl rfl rfl (by kernel_rfl) (fun _ _ _ h => h) (fun _ h => by exact Hp.sub h (by repeat (first | exact sR _ | exact sN _ | apply sK | apply sC))) rfl ?hy47 ?_
              case hy47 => first | exact Yl.ixkn (k := 6) rfl rfl rfl Try.underlying44 (by kernel_rfl) (by omega) | exact Yl.ixkz (k := 6) rfl rfl rfl Try.underlying44 (by kernel_rfl) (by omega) (by omega)
              refine' TA.y (i := 8) #[true, true, true, true, true, true, true, true, true, false, false, false, false, false] rfl rfl rfl (by kernel_rfl) (fun _ _ _ h => h) (fun _ h => by exact Hp.sub h (by repeat (first | exact sR _ | exact sN _ | apply sK | apply sC))) rfl ?hy48 ?_
              case hy48 => first | exact Yl.field0 (k := 0) 0 rfl rfl Try.underlying28 rfl (by kernel_rfl) rfl | exact Yl.field (k := 0) 0 rfl rfl Try.underlying28 rfl (by kernel_rfl) rfl
              refine' TA.y (i := 9) #[true, true, true, true, true, true, true, true, true, true, false, false, false, false] rfl rfl rfl (by kernel_rfl) (fun _ _ _ h => h) (fun _ h => by exact Hp.sub h (by repeat (first | exact sR _ | exact sN _ | apply sK | apply sC))) rfl ?hy49 ?_
              case hy49 => exact Yl.load (v := .int .i64 (atG l k).f0) rfl rfl (by kernel_rfl) (Sl.rg (i := k) (j := 0) hS rfl (by omega) (by decide))
              refine' TA.y (i := 10) #[true, true, true, true, true, true, true, true, true, true, true, false, false, false] rfl rfl rfl (by kernel_rfl) (fun _ _ _ h => h) (fun _ h => by exact Hp.sub h (by repeat (first | exact sR _ | exact sN _ | apply sK | apply sC))) rfl ?hy50 ?_
              case hy50 => first | exact Yl.field0 (k := 0) 1 rfl rfl Try.underlying28 rfl (by kernel_rfl) rfl | exact Yl.field (k := 0) 1 rfl rfl Try.underlying28 rfl (by kernel_rfl) rfl
              refine' TA.y (i := 11) #[true, true, true, true, true, true, true, true, true, true, true, true, false, false] rfl rfl rfl (by kernel_rfl) (fun _ _ _ h => h) (fun _ h => by exact Hp.sub h (by repeat (first | exact sR _ | exact sN _ | apply sK | apply sC))) rfl ?hy51 ?_
              case hy51 => exact Yl.load rfl rfl (by kernel_rfl) (by first | exact Hp.cell mem0 rfl | exact Hp.cell mem1 rfl | exact Hp.cell mem2 rfl | exact Hp.cell mem3 rfl | exact Hp.cell mem4 rfl | exact Hp.rowAt mem0 (by omega) rfl | exact Hp.rowAt mem1 (by omega) rfl | exact Hp.rowAt mem2 (by omega) rfl | exact Hp.rowAt mem3 (by omega) rfl | exact Hp.rowAt mem4 (by omega) rfl)
              refine' TA.y (i := 12) #[true, true, true, true, true, true, true, true, true, true, true, true, true, false] rfl rfl rfl (by kernel_rfl) (fun _ _ _ h => h) (fun _ h => by exact Hp.sub h (by repeat (first | exact sR _ | exact sN _ | apply sK | apply sC))) rfl ?hy52 ?_
              case hy52 => exact Yl.bin rfl rfl rfl (Bin.lss _ _ _ _)
              refine' TA.y (i := 13) #[true, true, true, true, true, true, true, true, true, true, true, true, true, true] rfl rfl rfl (by kernel_rfl) (fun _ _ _ h => h) (fun _ h => by exact Hp.sub h (by repeat (first | exact sR _ | exact sN _ | apply sK | apply sC))) rfl ?hy53 ?_
              case hy53 => exact Yl.pickT rfl rfl rfl
              refine TA.done (by kernel_rfl) ?_
              refine TE.next ?_
              refine TC.cond rfl (fun hs40 => ?_) (fun hs40 => ?_)
              · skip
                (try simp only [nrm] at hs40)
                refine TC.seq ?_
                refine TC.region ?_
                refine' TL.y rfl rfl rfl ?hy54 ?_
                case hy54 => exact Yl.assign rfl rfl
                refine' TL.y rfl rfl rfl ?hy55 ?_
                case hy55 => exact Yl.assign rfl rfl
                refine TL.nil ?_
                refine TE.next ?_
                refine TC.ret ?_
                refine TE.thenRet ?_
                refine TE.ret2 rfl rfl rfl ?_
                have hb : addL l x = ([], 4) := by
                  unfold addL; rw [if_pos hok, if_pos ((busy_idx x l).2 (by rw [← hkd]; exact ⟨by omega, by omega⟩))]
                exact fun w h => ⟨.slice none 0 0, by rw [hb], by rw [hb]; exact (rowG_nil (h.sub (List.nil_sublist _))).leaveNew⟩
              · skip
                (try simp only [nrm] at hs40)
                refine TC.skip ?_
                refine TE.met () ?hF56 ?hs56 ?hm56
                case hF56 => exact by rw [← Bool.not_eq_true, busy_idx, ← hkd]; omega
                case hs56 => exact ⟨rfl, rfl, rfl, trivial⟩
                case hm56 => exact fun _ h => h
            · skip
              (try simp only [nrm] at hs31)
              refine TA.skip (i := 5) #[true, true, true, true, true, true, false, false, false, false, false, false, false, false] rfl rfl rfl (by kernel_rfl) (fun _ _ _ h => h) rfl ?_
              refine TA.skip (i := 6) #[true, true, true, true, true, true, true, false, false, false, false, false, false, false] rfl rfl rfl (by kernel_rfl) (fun _ _ _ h => h) rfl ?_
              refine TA.skip (i := 7) #[true, true, true, true, true, true, true, true, false, false, false, false, false, false] rfl rfl rfl (by kernel_rfl) (fun _ _ _ h => h) rfl ?_
              refine TA.skip (i := 8) #[true, true, true, true, true, true, true, true, true, false, false, false, false, false] rfl rfl rfl (by kernel_rfl) (fun _ _ _ h => h) rfl ?_
              refine TA.skip (i := 9) #[true, true, true, true, true, true, true, true, true, true, false, false, false, false] rfl rfl rfl (by kernel_rfl) (fun _ _ _ h => h) rfl ?_
              refine TA.skip (i := 10) #[true, true, true, true, true, true, true, true, true, true, true, false, false, false] rfl rfl rfl (by kernel_rfl) (fun _ _ _ h => h) rfl ?_
              refine TA.skip (i := 11) #[true, true, true, true, true, true, true, true, true, true, true, true, false, false] rfl rfl rfl (by kernel_rfl) (fun _ _ _ h => h) rfl ?_
              refine TA.skip (i := 12) #[true, true, true, true, true, true, true, true, true, true, true, true, true, false] rfl rfl rfl (by kernel_rfl) (fun _ _ _ h => h) rfl ?_
              refine' TA.y (i := 13) #[true, true, true, true, true, true, true, true, true, true, true, true, true, true] rfl rfl rfl (by kernel_rfl) (fun _ _ _ h => h) (fun _ h => by exact Hp.sub h (by repeat (first | exact sR _ | exact sN _ | apply sK | apply sC))) rfl ?hy57 ?_
              case hy57 => exact Yl.pickF rfl rfl rfl
              refine TA.done (by kernel_rfl) ?_
              refine TE.next ?_
              refine TC.no rfl rfl ?_
              refine TC.skip ?_
              refine TE.met () ?hF58 ?hs58 ?hm58
              case hF58 => exact by rw [← Bool.not_eq_true, busy_idx, ← hkd]; omega
              case hs58 => exact ⟨rfl, rfl, rfl, trivial⟩
              case hm58 => exact fun _ h => h
          case hy39 =>
            intro _ hbz
            refine TC.seq ?_
            refine TC.draw (k := 13) (Hp W (fun _ => False) [blk b3 (.cells #[.int .i64 (x).f0, .int .i64 (x).f1, .int .i64 (x).f2, .int .i64 (x).f3, .int .i64 (x).f4, .bool (x).f5] 28 (0, 0))]) [] #[false, false, false, false, false, false, false, false, false, false, false, false, false] (by kernel_rfl) rfl rfl (fun _ h => h.drew) (fun _ h => by exact Hp.sub h (by repeat (first | exact sR _ | exact sN _ | apply sK | apply sC))) ?_
            refine' TA.y (i := 0) #[true, false, false, false, false, false, false, false, false, false, false, false, false] rfl rfl rfl (by kernel_rfl) (fun _ _ _ h => h) (fun _ h => by exact Hp.sub h (by repeat (first | exact sR _ | exact sN _ | apply sK | apply sC))) rfl ?hy59 ?_
            case hy59 => exact Yl.move rfl rfl
            refine' TA.y (i := 1) #[true, true, false, false, false, false, false, false, false, false, false, false, false] rfl rfl rfl (by kernel_rfl) (fun _ _ _ h => h) (fun _ h => by exact Hp.sub h (by repeat (first | exact sR _ | exact sN _ | apply sK | apply sC))) rfl ?hy60 ?_
            case hy60 => exact Yl.move rfl rfl
            refine' TA.y (i := 2) #[true, true, true, false, false, false, false, false, false, false, false, false, false] rfl rfl rfl (by kernel_rfl) (fun _ _ _ h => h) (fun _ h => by exact Hp.sub h (by repeat (first | exact sR _ | exact sN _ | apply sK | apply sC))) rfl ?hy61 ?_
            case hy61 => exact Yl.move rfl rfl
            refine' TA.y (i := 3) #[true, true, true, true, false, false, false, false, false, false, false, false, false] rfl rfl rfl (by kernel_rfl) (fun _ _ _ h => h) (fun _ h => by exact Hp.sub h (by repeat (first | exact sR _ | exact sN _ | apply sK | apply sC))) rfl ?hy62 ?_
            case hy62 => exact Yl.sliceHM (k := 6) rfl rfl rfl rfl Try.underlying44 (by kernel_rfl) (by omega) (by omega) (by omega)
            simp only [Int.toNat_natCast]
            rw [sl0 hS hk]
            refine' TA.y (i := 4) #[true, true, true, true, true, false, false, false, false, false, false, false, false] rfl rfl rfl (by kernel_rfl) (fun _ _ _ h => h) (fun _ h => by exact Hp.sub h (by repeat (first | exact sR _ | exact sN _ | apply sK | apply sC))) rfl ?hy63 ?_
            case hy63 => exact Yl.loads (cs := [.int .i64 (x).f0, .int .i64 (x).f1, .int .i64 (x).f2, .int .i64 (x).f3, .int .i64 (x).f4, .bool (x).f5]) rfl rfl (by kernel_rfl) (by kernel_rfl) (Hp.cells mem0 (fun j v hj => by simpa [Value.cells] using hj))
            refine' TA.y (i := 7) #[true, true, true, true, true, false, false, true, false, false, false, false, false] rfl rfl rfl (by kernel_rfl) (fun _ _ _ h => h) (fun _ h => by exact Hp.sub h (by repeat (first | exact sR _ | exact sN _ | apply sK | apply sC))) rfl ?hy64 ?_
            case hy64 => exact Yl.move rfl rfl
            refine' TA.y (i := 8) #[true, true, true, true, true, false, false, true, true, false, false, false, false] rfl rfl rfl (by kernel_rfl) (fun _ _ _ h => h) (fun _ h => by exact Hp.sub h (by repeat (first | exact sR _ | exact sN _ | apply sK | apply sC))) rfl ?hy65 ?_
            case hy65 => exact Yl.move rfl rfl
            refine' TA.y (i := 9) #[true, true, true, true, true, false, false, true, true, true, false, false, false] rfl rfl rfl (by kernel_rfl) (fun _ _ _ h => h) (fun _ h => by exact Hp.sub h (by repeat (first | exact sR _ | exact sN _ | apply sK | apply sC))) rfl ?hy66 ?_
            case hy66 => exact Yl.sliceL (k := 6) rfl rfl rfl Try.underlying44 (by kernel_rfl) (by omega) (by omega)
            simp only [Int.toNat_natCast]
            rw [hA']
            refine' TA.mx (i := 5) #[true, true, true, true, true, true, false, true, true, true, false, false, false] rfl rfl rfl (by kernel_rfl) (by decide) rfl ?hy67 ?hz67 ?_
            case hy67 => exact Ym.buildSlice (cells := #[.int .i64 (x).f0, .int .i64 (x).f1, .int .i64 (x).f2, .int .i64 (x).f3, .int .i64 (x).f4, .bool (x).f5]) (z := .agg #[.int .i64 0, .int .i64 0, .int .i64 0, .int .i64 0, .int .i64 0, .bool false]) (size := 6) #[.int .i64 0, .int .i64 0, .int .i64 0, .int .i64 0, .int .i64 0, .bool false] rfl Try.underlying44 (by kernel_rfl) (by decide) (by decide) (by kernel_rfl) rfl rfl
            case hz67 => exact (fun _ _ h => by exact Hp.sub h (by repeat (first | exact sR _ | exact sN _ | apply sK | apply sC)))
            intro b46
            refine' TA.mx (i := 6) #[true, true, true, true, true, true, true, true, true, true, false, false, false] rfl rfl rfl (by kernel_rfl) (by decide) rfl ?hy68 ?hz68 ?_
            case hy68 => exact Ym.appendGrow (e := 28) (news := [.int .i64 (x).f0, .int .i64 (x).f1, .int .i64 (x).f2, .int .i64 (x).f3, .int .i64 (x).f4, .bool (x).f5]) (olds := Rw (l.take k)) (A := A) (m := k) rfl Try.underlying44 (by kernel_rfl) (z := .agg #[.int .i64 0, .int .i64 0, .int .i64 0, .int .i64 0, .int .i64 0, .bool false]) (size := 6) (bytes := 48) rfl (by decide) (by decide) rfl hA0 rfl (by decide) rfl (by rw [Rw_length]; omega) (fun w h => sl_take (hS.below h.below) k) (Hp.cells mem0 (fun j v hj => by simpa [Value.cells] using hj)) (by simp [Value.oneCell']) (by omega)
            case hz68 => exact (fun _ _ h => by exact Hp.sub h (by repeat (first | exact sR _ | exact sN _ | apply sK | apply sC)))
            intro v47
            refine' TA.mx (i := 10) #[true, true, true, true, true, true, true, true, true, true, true, false, false] rfl rfl rfl (by kernel_rfl) (by decide) rfl ?hy69 ?hz69 ?_
            case hy69 => exact Ym.appendSl (e := 28) (m := k + 1) (xs := Rw (l.take k) ++ [.int .i64 (x).f0, .int .i64 (x).f1, .int .i64 (x).f2, .int .i64 (x).f3, .int .i64 (x).f4, .bool (x).f5]) (news := Rw (l.drop k)) rfl Try.underlying44 (by kernel_rfl) (z := .agg #[.int .i64 0, .int .i64 0, .int .i64 0, .int .i64 0, .int .i64 0, .bool false]) (size := 6) (bytes := 48) rfl (by decide) (by decide) rfl rfl (by rw [Rw_length, List.length_drop]) (fun w h => hS'.below h.below) Rw_cell1 (by omega) (fun v' => foc0)
            case hz69 => exact (fun _ _ h => by exact Hp.sub h (by repeat (first | exact sR _ | exact sN _ | apply sK | apply sC)))
            intro v51
            refine' TA.y (i := 11) #[true, true, true, true, true, true, true, true, true, true, true, true, false] rfl rfl rfl (by kernel_rfl) (fun _ _ _ h => h) (fun _ h => by exact Hp.sub h (by repeat (first | exact sR _ | exact sN _ | apply sK | apply sC))) rfl ?hy70 ?_
            case hy70 => exact Yl.assign rfl rfl
            refine' TA.y (i := 12) #[true, true, true, true, true, true, true, true, true, true, true, true, true] rfl rfl rfl (by kernel_rfl) (fun _ _ _ h => h) (fun _ h => by exact Hp.sub h (by repeat (first | exact sR _ | exact sN _ | apply sK | apply sC))) rfl ?hy71 ?_
            case hy71 => exact Yl.assign rfl rfl
            refine TA.done (by kernel_rfl) ?_
            refine TE.next ?_
            refine TC.ret ?_
            refine TE.ret2 rfl rfl rfl ?_
            have hb : addL l x = (l.take k ++ [x] ++ l.drop k, 0) := by
              unfold addL; rw [if_pos hok, if_neg (by rw [hbz]; simp), ins_idx, ← hkd]
            exact fun w h => ⟨v51, by rw [hb], by 
              rw [hb]
              have e : ownR 28 6 v51 (k + 1 + (l.length - k)) (Rw (l.take k) ++ [.int .i64 (x).f0, .int .i64 (x).f1, .int .i64 (x).f2, .int .i64 (x).f3, .int .i64 (x).f4, .bool (x).f5] ++ Rw (l.drop k)) = rowG v51 (l.take k ++ [x] ++ l.drop k) := by
                unfold rowG; rw [Rw_app, Rw_app, Rw_one]; congr 1; simp; omega
              rw [e] at h
              exact (h.sub (.cons_cons _ (List.nil_sublist _))).leaveNew⟩
end Go.Proofs.Ytabjdjkkpbkpfaa.Pk
