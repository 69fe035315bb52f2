/- The document's regions. -/
import Derived.Test.YtabjdjkkpbkpfaaSpD
import Derived.Test.YtabjdjkkpbkpfaaSpQ
import Derived.Test.YtabjdjkkpbkpfaaProg
import Derived.RowKit3
namespace Go.Proofs.Ytabjdjkkpbkpfaa.Pk
open Go Go.RowKit Go.Proofs.Ytabjdjkkpbkpfaa.HL Go.Proofs.Ytabjdjkkpbkpfaa.Ev Go.Proofs.YtabjdjkkpbkpfaaW.PrintWords Go.Proofs.RgP
set_option linter.unusedVariables false
set_option linter.unusedSimpArgs false
theorem step_two' {x : S25} {p q : Int} (h : p < q) (h1 : p < x.f1) (h2 : x.f0 < q) : stepC p q x = (if x.f0 < p then [partS x x.f0 p] else []) ++ (if q < x.f1 then [partS x q x.f1] else []) := by
  unfold stepC keepL mnG mxG
  rw [if_neg (by omega), if_pos (by omega : p < x.f1), if_pos (by omega : q > x.f0)]
theorem fnd_at {l : List S25} {n : Int} {i : Nat} (hr : rightB l = true) (hi : i < l.length) (hp : inB n (atG l i) = true) (hF : ∀ j, j < i → inB n (atG l j) = false) : fnd l n = some (atG l i) := by
  unfold fnd
  rw [if_pos hr, find_idx, fidx_at hi hp hF, if_pos hi]
theorem fnd_end {l : List S25} {n : Int} (hF : ∀ j, j < l.length → inB n (atG l j) = false) : fnd l n = none := by
  unfold fnd
  split
  · rw [find_idx, fidx_none hF, if_neg (by omega)]
  · rfl
theorem fnd_bad {l : List S25} {n : Int} (h : rightB l = false) : fnd l n = none := if_neg (by rw [h]; simp)
/-! One more, as the document puts it in. -/
def ins2 (x : S25) : List S25 → List S25
  | [] => [x]
  | y :: ys => if x.f0 < y.f0 then x :: y :: ys else y :: ins2 x ys
def plB (x : S25) (t : List S25) : Bool := t.any fun y => decide (x.f0 < y.f0)
def radL (x : S25) (t : List S25) : List S25 := if plB x t = true then ins2 x t else t
theorem plB_snoc (x y : S25) (t : List S25) : plB x (t ++ [y]) = (plB x t || decide (x.f0 < y.f0)) := by unfold plB; rw [List.any_append]; simp
theorem ins2_end {x : S25} : ∀ {t : List S25}, plB x t = false → ins2 x t = t ++ [x]
  | [], _ => rfl
  | y :: t, h => by
    unfold plB at h
    rw [List.any_cons, Bool.or_eq_false_iff] at h
    rw [ins2, if_neg (by simpa using h.1), ins2_end h.2]; rfl
theorem ins2_mid {x : S25} {s : List S25} : ∀ {t : List S25}, plB x t = true → ins2 x (t ++ s) = ins2 x t ++ s
  | [], h => by cases h
  | y :: t, h => by
    rw [List.cons_append, ins2, ins2]
    by_cases h1 : x.f0 < y.f0
    · rw [if_pos h1, if_pos h1]; rfl
    · rw [if_neg h1, if_neg h1, List.cons_append]
      congr 1
      refine ins2_mid ?_
      unfold plB at h ⊢
      rw [List.any_cons, decide_eq_false h1, Bool.false_or] at h; exact h
theorem rad_ins {x y : S25} {t : List S25} (h : plB x t = false) (hy : x.f0 < y.f0) : radL x (t ++ [y]) = radL x t ++ [x] ++ [y] := by
  have h1 : ∀ t : List S25, plB x t = false → ins2 x (t ++ [y]) = t ++ [x] ++ [y] := by
    intro t
    induction t with
    | nil => intro _; show ins2 x [y] = _; rw [ins2, if_pos hy]; rfl
    | cons z t ih =>
      intro hz
      unfold plB at hz
      rw [List.any_cons, Bool.or_eq_false_iff] at hz
      rw [List.cons_append, ins2, if_neg (by simpa using hz.1), ih hz.2]; rfl
  unfold radL
  rw [if_pos (by rw [plB_snoc, h, decide_eq_true hy]; rfl), if_neg (by rw [h]; simp), h1 t h]
theorem rad_on {x y : S25} {t : List S25} (h : plB x t = true ∨ ¬ x.f0 < y.f0) : radL x (t ++ [y]) = radL x t ++ [y] := by
  cases h1 : plB x t
  · have h2 : ¬ x.f0 < y.f0 := by rcases h with h | h; rw [h1] at h; cases h; exact h
    have h3 : plB x (t ++ [y]) = false := by rw [plB_snoc, h1, decide_eq_false h2]; rfl
    unfold radL
    rw [h1, h3]; rfl
  · have h3 : plB x (t ++ [y]) = true := by rw [plB_snoc, h1]; rfl
    unfold radL
    rw [h1, h3, if_pos rfl, if_pos rfl, ins2_mid h1]
theorem ins2_len (x : S25) : ∀ t : List S25, (ins2 x t).length = t.length + 1
  | [] => rfl
  | y :: t => by rw [ins2]; split; rfl; rw [List.length_cons, ins2_len x t, List.length_cons]
theorem rad_len (x : S25) (t : List S25) : (radL x t).length ≤ t.length + 1 := by unfold radL; split; rw [ins2_len]; omega; omega
theorem rad_fin {x : S25} : ∀ {l : List S25} {a : Int}, GoodG x → rightAt a l = true → (∀ y ∈ l, ovB x y = false) → ins2 x l = ins x l
  | [], _, _, _, _ => rfl
  | y :: l, a, hx, hr, ho => by
    rw [rightAt_cons] at hr
    have h1 := ovB_false.1 (ho y List.mem_cons_self)
    have h2 := hr.1.b; have h3 := hx.b
    rw [ins2, ins]
    by_cases h : x.f0 < y.f0
    · rw [if_pos h, if_pos (by omega)]
    · rw [if_neg h, if_neg (by omega), rad_fin hx hr.2.2 fun z hz => ho z (List.mem_cons_of_mem _ hz)]
theorem eqG_iff (x y : S25) : (x.f0 == y.f0 && (x.f1 == y.f1 && (x.f2 == y.f2 && (x.f3 == y.f3 && (x.f4 == y.f4 && (x.f5 == y.f5)))))) = true ↔ x = y := by
  simp only [Bool.and_eq_true, beq_iff_eq]
  exact ⟨fun ⟨a, b, c, d, e, f⟩ => ext25 a b c d e f, fun h => by subst h; exact ⟨rfl, rfl, rfl, rfl, rfl, rfl⟩⟩
instance : DecidableEq S25 := fun x y => decidable_of_iff _ (eqG_iff x y)
attribute [local irreducible] Rw atG
set_option maxRecDepth 100000 in
set_option maxHeartbeats 2000000 in
theorem k_rvalid (W : World) (x : S25) : Calls Try.prog 80 #[.agg #[.int .i64 (x).f0, .int .i64 (x).f1, .int .i64 (x).f2, .int .i64 (x).f3, .int .i64 (x).f4, .bool (x).f5]] W fun e w' => e = .returned (.bool (validB x)) ∧ Below W.heap.size W w' := by
  have hv := validB_iff x
  have hM : Hp W (fun _ => False) [] W := Hp.start
  refine TC.enter (n := 63) Try.func80 rfl rfl rfl hM ?_
  refine TC.seq ?_
  refine TC.region ?_
  refine' TL.mx rfl rfl rfl ?hy1 ?_
  case hy1 => exact Ym.box rfl rfl
  intro b1
  refine' TL.y rfl rfl rfl ?hy2 ?_
  case hy2 => exact Yl.assign rfl rfl
  refine TL.nil ?_
  refine TE.next ?_
  refine TC.seq ?_
  refine TC.seq ?_
  refine TC.region ?_
  refine' TL.y rfl rfl rfl ?hy3 ?_
  case hy3 => first | exact Yl.field0 (k := 0) 0 rfl rfl Try.underlying28 rfl (by kernel_rfl) rfl | exact Yl.field (k := 0) 0 rfl rfl Try.underlying28 rfl (by kernel_rfl) rfl
  refine' TL.y rfl rfl rfl ?hy4 ?_
  case hy4 => exact Yl.load rfl rfl (by kernel_rfl) (by first | exact Hp.cell mem0 rfl | exact Hp.cell mem1 rfl | exact Hp.cell mem2 rfl | exact Hp.cell mem3 rfl | exact Hp.cell mem4 rfl | exact Hp.rowAt mem0 (by omega) rfl | exact Hp.rowAt mem1 (by omega) rfl | exact Hp.rowAt mem2 (by omega) rfl | exact Hp.rowAt mem3 (by omega) rfl | exact Hp.rowAt mem4 (by omega) rfl)
  refine' TL.y rfl rfl rfl ?hy5 ?_
  case hy5 => exact Yl.bin rfl rfl rfl (Bin.lss _ _ _ _)
  refine' TL.y rfl rfl rfl ?hy6 ?_
  case hy6 => exact Yl.move rfl rfl
  refine TL.split (i := 6) rfl (fun hs6 => ?_) (fun hs6 => ?_)
  · skip
    (try simp only [nrm] at hs6)
    refine TL.skip rfl rfl rfl ?_
    refine TL.skip rfl rfl rfl ?_
    refine TL.skip rfl rfl rfl ?_
    refine TL.skip rfl rfl rfl ?_
    refine TL.skip rfl rfl rfl ?_
    refine' TL.y rfl rfl rfl ?hy7 ?_
    case hy7 => exact Yl.pickT rfl rfl rfl
    refine' TL.y rfl rfl rfl ?hy8 ?_
    case hy8 => exact Yl.move rfl rfl
    refine TL.skip rfl rfl rfl ?_
    refine TL.skip rfl rfl rfl ?_
    refine TL.skip rfl rfl rfl ?_
    refine' TL.y rfl rfl rfl ?hy9 ?_
    case hy9 => exact Yl.pickT rfl rfl rfl
    refine TL.nil ?_
    refine TE.next ?_
    refine TC.yes rfl rfl ?_
    refine TC.seq ?_
    refine TC.region ?_
    refine' TL.y rfl rfl rfl ?hy10 ?_
    case hy10 => exact Yl.assign rfl rfl
    refine TL.nil ?_
    refine TE.next ?_
    refine TC.ret ?_
    refine TE.thenRet ?_
    refine TE.ret1 rfl rfl ?_
    have hb : validB x = false := by cases e : validB x; rfl; have := hv.1 e; omega
    exact fun w h => ⟨by rw [hb], (h.sub (List.nil_sublist _)).below⟩
  · skip
    (try simp only [nrm] at hs6)
    refine' TL.y rfl rfl rfl ?hy11 ?_
    case hy11 => first | exact Yl.field0 (k := 0) 1 rfl rfl Try.underlying28 rfl (by kernel_rfl) rfl | exact Yl.field (k := 0) 1 rfl rfl Try.underlying28 rfl (by kernel_rfl) rfl
    refine' TL.y rfl rfl rfl ?hy12 ?_
    case hy12 => exact Yl.load rfl rfl (by kernel_rfl) (by first | exact Hp.cell mem0 rfl | exact Hp.cell mem1 rfl | exact Hp.cell mem2 rfl | exact Hp.cell mem3 rfl | exact Hp.cell mem4 rfl | exact Hp.rowAt mem0 (by omega) rfl | exact Hp.rowAt mem1 (by omega) rfl | exact Hp.rowAt mem2 (by omega) rfl | exact Hp.rowAt mem3 (by omega) rfl | exact Hp.rowAt mem4 (by omega) rfl)
    refine' TL.y rfl rfl rfl ?hy13 ?_
    case hy13 => first | exact Yl.field0 (k := 0) 0 rfl rfl Try.underlying28 rfl (by kernel_rfl) rfl | exact Yl.field (k := 0) 0 rfl rfl Try.underlying28 rfl (by kernel_rfl) rfl
    refine' TL.y rfl rfl rfl ?hy14 ?_
    case hy14 => exact Yl.load rfl rfl (by kernel_rfl) (by first | exact Hp.cell mem0 rfl | exact Hp.cell mem1 rfl | exact Hp.cell mem2 rfl | exact Hp.cell mem3 rfl | exact Hp.cell mem4 rfl | exact Hp.rowAt mem0 (by omega) rfl | exact Hp.rowAt mem1 (by omega) rfl | exact Hp.rowAt mem2 (by omega) rfl | exact Hp.rowAt mem3 (by omega) rfl | exact Hp.rowAt mem4 (by omega) rfl)
    refine' TL.y rfl rfl rfl ?hy15 ?_
    case hy15 => exact Yl.bin rfl rfl rfl (Bin.leq _ _ _ _)
    refine' TL.y rfl rfl rfl ?hy16 ?_
    case hy16 => exact Yl.pickF rfl rfl rfl
    refine' TL.y rfl rfl rfl ?hy17 ?_
    case hy17 => exact Yl.move rfl rfl
    refine TL.split (i := 13) rfl (fun hs13 => ?_) (fun hs13 => ?_)
    · skip
      (try simp only [nrm] at hs13)
      refine TL.skip rfl rfl rfl ?_
      refine TL.skip rfl rfl rfl ?_
      refine TL.skip rfl rfl rfl ?_
      refine' TL.y rfl rfl rfl ?hy18 ?_
      case hy18 => exact Yl.pickT rfl rfl rfl
      refine TL.nil ?_
      refine TE.next ?_
      refine TC.yes rfl rfl ?_
      refine TC.seq ?_
      refine TC.region ?_
      refine' TL.y rfl rfl rfl ?hy19 ?_
      case hy19 => exact Yl.assign rfl rfl
      refine TL.nil ?_
      refine TE.next ?_
      refine TC.ret ?_
      refine TE.thenRet ?_
      refine TE.ret1 rfl rfl ?_
      have hb : validB x = false := by cases e : validB x; rfl; have := hv.1 e; omega
      exact fun w h => ⟨by rw [hb], (h.sub (List.nil_sublist _)).below⟩
    · skip
      (try simp only [nrm] at hs13)
      refine' TL.y rfl rfl rfl ?hy20 ?_
      case hy20 => first | exact Yl.field0 (k := 0) 1 rfl rfl Try.underlying28 rfl (by kernel_rfl) rfl | exact Yl.field (k := 0) 1 rfl rfl Try.underlying28 rfl (by kernel_rfl) rfl
      refine' TL.y rfl rfl rfl ?hy21 ?_
      case hy21 => exact Yl.load rfl rfl (by kernel_rfl) (by first | exact Hp.cell mem0 rfl | exact Hp.cell mem1 rfl | exact Hp.cell mem2 rfl | exact Hp.cell mem3 rfl | exact Hp.cell mem4 rfl | exact Hp.rowAt mem0 (by omega) rfl | exact Hp.rowAt mem1 (by omega) rfl | exact Hp.rowAt mem2 (by omega) rfl | exact Hp.rowAt mem3 (by omega) rfl | exact Hp.rowAt mem4 (by omega) rfl)
      refine' TL.y rfl rfl rfl ?hy22 ?_
      case hy22 => exact Yl.bin rfl rfl rfl (Bin.gtr _ _ _ _)
      refine' TL.y rfl rfl rfl ?hy23 ?_
      case hy23 => exact Yl.pickF rfl rfl rfl
      refine TL.nil ?_
      refine TE.next ?_
      refine TC.cond rfl (fun hs17 => ?_) (fun hs17 => ?_)
      · skip
        (try simp only [nrm] at hs17)
        refine TC.seq ?_
        refine TC.region ?_
        refine' TL.y rfl rfl rfl ?hy24 ?_
        case hy24 => exact Yl.assign rfl rfl
        refine TL.nil ?_
        refine TE.next ?_
        refine TC.ret ?_
        refine TE.thenRet ?_
        refine TE.ret1 rfl rfl ?_
        have hb : validB x = false := by cases e : validB x; rfl; have := hv.1 e; omega
        exact fun w h => ⟨by rw [hb], (h.sub (List.nil_sublist _)).below⟩
      · skip
        (try simp only [nrm] at hs17)
        refine TC.skip ?_
        refine TE.next ?_
        refine TC.seq ?_
        refine TC.seq ?_
        refine TC.region ?_
        refine' TL.y rfl rfl rfl ?hy25 ?_
        case hy25 => first | exact Yl.field0 (k := 0) 2 rfl rfl Try.underlying28 rfl (by kernel_rfl) rfl | exact Yl.field (k := 0) 2 rfl rfl Try.underlying28 rfl (by kernel_rfl) rfl
        refine' TL.y rfl rfl rfl ?hy26 ?_
        case hy26 => exact Yl.load rfl rfl (by kernel_rfl) (by first | exact Hp.cell mem0 rfl | exact Hp.cell mem1 rfl | exact Hp.cell mem2 rfl | exact Hp.cell mem3 rfl | exact Hp.cell mem4 rfl | exact Hp.rowAt mem0 (by omega) rfl | exact Hp.rowAt mem1 (by omega) rfl | exact Hp.rowAt mem2 (by omega) rfl | exact Hp.rowAt mem3 (by omega) rfl | exact Hp.rowAt mem4 (by omega) rfl)
        refine' TL.y rfl rfl rfl ?hy27 ?_
        case hy27 => exact Yl.bin rfl rfl rfl (Bin.eql _ _ _ _)
        refine TL.nil ?_
        refine TE.next ?_
        refine TC.cond rfl (fun hs20 => ?_) (fun hs20 => ?_)
        · skip
          (try simp only [nrm] at hs20)
          refine TC.seq ?_
          refine TC.region ?_
          refine' TL.y rfl rfl rfl ?hy28 ?_
          case hy28 => first | exact Yl.field0 (k := 0) 3 rfl rfl Try.underlying28 rfl (by kernel_rfl) rfl | exact Yl.field (k := 0) 3 rfl rfl Try.underlying28 rfl (by kernel_rfl) rfl
          refine' TL.y rfl rfl rfl ?hy29 ?_
          case hy29 => exact Yl.load rfl rfl (by kernel_rfl) (by first | exact Hp.cell mem0 rfl | exact Hp.cell mem1 rfl | exact Hp.cell mem2 rfl | exact Hp.cell mem3 rfl | exact Hp.cell mem4 rfl | exact Hp.rowAt mem0 (by omega) rfl | exact Hp.rowAt mem1 (by omega) rfl | exact Hp.rowAt mem2 (by omega) rfl | exact Hp.rowAt mem3 (by omega) rfl | exact Hp.rowAt mem4 (by omega) rfl)
          refine' TL.y rfl rfl rfl ?hy30 ?_
          case hy30 => exact Yl.bin rfl rfl rfl (Bin.eql _ _ _ _)
          refine' TL.y rfl rfl rfl ?hy31 ?_
          case hy31 => exact Yl.move rfl rfl
          refine TL.split (i := 24) rfl (fun hs24 => ?_) (fun hs24 => ?_)
          · skip
            (try simp only [nrm] at hs24)
            refine' TL.y rfl rfl rfl ?hy32 ?_
            case hy32 => first | exact Yl.field0 (k := 0) 4 rfl rfl Try.underlying28 rfl (by kernel_rfl) rfl | exact Yl.field (k := 0) 4 rfl rfl Try.underlying28 rfl (by kernel_rfl) rfl
            refine' TL.y rfl rfl rfl ?hy33 ?_
            case hy33 => exact Yl.load rfl rfl (by kernel_rfl) (by first | exact Hp.cell mem0 rfl | exact Hp.cell mem1 rfl | exact Hp.cell mem2 rfl | exact Hp.cell mem3 rfl | exact Hp.cell mem4 rfl | exact Hp.rowAt mem0 (by omega) rfl | exact Hp.rowAt mem1 (by omega) rfl | exact Hp.rowAt mem2 (by omega) rfl | exact Hp.rowAt mem3 (by omega) rfl | exact Hp.rowAt mem4 (by omega) rfl)
            refine' TL.y rfl rfl rfl ?hy34 ?_
            case hy34 => exact Yl.bin rfl rfl rfl (Bin.eql _ _ _ _)
            refine' TL.y rfl rfl rfl ?hy35 ?_
            case hy35 => exact Yl.pickT rfl rfl rfl
            refine' TL.y rfl rfl rfl ?hy36 ?_
            case hy36 => exact Yl.assign rfl rfl
            refine TL.nil ?_
            refine TE.next ?_
            refine TC.ret ?_
            refine TE.thenRet ?_
            refine TE.ret1 rfl rfl ?_
            have hb : validB x = (x.f4 == 0) := by rw [Bool.eq_iff_iff, hv, beq_iff_eq]; omega
            exact fun w h => ⟨by rw [hb], (h.sub (List.nil_sublist _)).below⟩
          · skip
            (try simp only [nrm] at hs24)
            refine TL.skip rfl rfl rfl ?_
            refine TL.skip rfl rfl rfl ?_
            refine TL.skip rfl rfl rfl ?_
            refine' TL.y rfl rfl rfl ?hy37 ?_
            case hy37 => exact Yl.pickF rfl rfl rfl
            refine' TL.y rfl rfl rfl ?hy38 ?_
            case hy38 => exact Yl.assign rfl rfl
            refine TL.nil ?_
            refine TE.next ?_
            refine TC.ret ?_
            refine TE.thenRet ?_
            refine TE.ret1 rfl rfl ?_
            have hb : validB x = false := by cases e : validB x; rfl; have := hv.1 e; omega
            exact fun w h => ⟨by rw [hb], (h.sub (List.nil_sublist _)).below⟩
        · skip
          (try simp only [nrm] at hs20)
          refine TC.skip ?_
          refine TE.next ?_
          refine TC.seq ?_
          refine TC.region ?_
          refine' TL.y rfl rfl rfl ?hy39 ?_
          case hy39 => first | exact Yl.field0 (k := 0) 2 rfl rfl Try.underlying28 rfl (by kernel_rfl) rfl | exact Yl.field (k := 0) 2 rfl rfl Try.underlying28 rfl (by kernel_rfl) rfl
          refine' TL.y rfl rfl rfl ?hy40 ?_
          case hy40 => exact Yl.load rfl rfl (by kernel_rfl) (by first | exact Hp.cell mem0 rfl | exact Hp.cell mem1 rfl | exact Hp.cell mem2 rfl | exact Hp.cell mem3 rfl | exact Hp.cell mem4 rfl | exact Hp.rowAt mem0 (by omega) rfl | exact Hp.rowAt mem1 (by omega) rfl | exact Hp.rowAt mem2 (by omega) rfl | exact Hp.rowAt mem3 (by omega) rfl | exact Hp.rowAt mem4 (by omega) rfl)
          refine' TL.y rfl rfl rfl ?hy41 ?_
          case hy41 => exact Yl.bin rfl rfl rfl (Bin.eql _ _ _ _)
          refine' TL.y rfl rfl rfl ?hy42 ?_
          case hy42 => exact Yl.move rfl rfl
          refine TL.split (i := 32) rfl (fun hs32 => ?_) (fun hs32 => ?_)
          · skip
            (try simp only [nrm] at hs32)
            refine' TL.y rfl rfl rfl ?hy43 ?_
            case hy43 => first | exact Yl.field0 (k := 0) 3 rfl rfl Try.underlying28 rfl (by kernel_rfl) rfl | exact Yl.field (k := 0) 3 rfl rfl Try.underlying28 rfl (by kernel_rfl) rfl
            refine' TL.y rfl rfl rfl ?hy44 ?_
            case hy44 => exact Yl.load rfl rfl (by kernel_rfl) (by first | exact Hp.cell mem0 rfl | exact Hp.cell mem1 rfl | exact Hp.cell mem2 rfl | exact Hp.cell mem3 rfl | exact Hp.cell mem4 rfl | exact Hp.rowAt mem0 (by omega) rfl | exact Hp.rowAt mem1 (by omega) rfl | exact Hp.rowAt mem2 (by omega) rfl | exact Hp.rowAt mem3 (by omega) rfl | exact Hp.rowAt mem4 (by omega) rfl)
            refine' TL.y rfl rfl rfl ?hy45 ?_
            case hy45 => exact Yl.bin rfl rfl rfl (Bin.geq _ _ _ _)
            refine' TL.y rfl rfl rfl ?hy46 ?_
            case hy46 => exact Yl.pickT rfl rfl rfl
            refine' TL.y rfl rfl rfl ?hy47 ?_
            case hy47 => exact Yl.move rfl rfl
            refine TL.split (i := 37) rfl (fun hs37 => ?_) (fun hs37 => ?_)
            · skip
              (try simp only [nrm] at hs37)
              refine' TL.y rfl rfl rfl ?hy48 ?_
              case hy48 => first | exact Yl.field0 (k := 0) 3 rfl rfl Try.underlying28 rfl (by kernel_rfl) rfl | exact Yl.field (k := 0) 3 rfl rfl Try.underlying28 rfl (by kernel_rfl) rfl
              refine' TL.y rfl rfl rfl ?hy49 ?_
              case hy49 => exact Yl.load rfl rfl (by kernel_rfl) (by first | exact Hp.cell mem0 rfl | exact Hp.cell mem1 rfl | exact Hp.cell mem2 rfl | exact Hp.cell mem3 rfl | exact Hp.cell mem4 rfl | exact Hp.rowAt mem0 (by omega) rfl | exact Hp.rowAt mem1 (by omega) rfl | exact Hp.rowAt mem2 (by omega) rfl | exact Hp.rowAt mem3 (by omega) rfl | exact Hp.rowAt mem4 (by omega) rfl)
              refine' TL.y rfl rfl rfl ?hy50 ?_
              case hy50 => exact Yl.bin rfl rfl rfl (Bin.leq _ _ _ _)
              refine' TL.y rfl rfl rfl ?hy51 ?_
              case hy51 => exact Yl.pickT rfl rfl rfl
              refine' TL.y rfl rfl rfl ?hy52 ?_
              case hy52 => exact Yl.move rfl rfl
              refine TL.split (i := 42) rfl (fun hs42 => ?_) (fun hs42 => ?_)
              · skip
                (try simp only [nrm] at hs42)
                refine' TL.y rfl rfl rfl ?hy53 ?_
                case hy53 => first | exact Yl.field0 (k := 0) 4 rfl rfl Try.underlying28 rfl (by kernel_rfl) rfl | exact Yl.field (k := 0) 4 rfl rfl Try.underlying28 rfl (by kernel_rfl) rfl
                refine' TL.y rfl rfl rfl ?hy54 ?_
                case hy54 => exact Yl.load rfl rfl (by kernel_rfl) (by first | exact Hp.cell mem0 rfl | exact Hp.cell mem1 rfl | exact Hp.cell mem2 rfl | exact Hp.cell mem3 rfl | exact Hp.cell mem4 rfl | exact Hp.rowAt mem0 (by omega) rfl | exact Hp.rowAt mem1 (by omega) rfl | exact Hp.rowAt mem2 (by omega) rfl | exact Hp.rowAt mem3 (by omega) rfl | exact Hp.rowAt mem4 (by omega) rfl)
                refine' TL.y rfl rfl rfl ?hy55 ?_
                case hy55 => exact Yl.bin rfl rfl rfl (Bin.geq _ _ _ _)
                refine' TL.y rfl rfl rfl ?hy56 ?_
                case hy56 => exact Yl.pickT rfl rfl rfl
                refine' TL.y rfl rfl rfl ?hy57 ?_
                case hy57 => exact Yl.move rfl rfl
                refine TL.split (i := 47) rfl (fun hs47 => ?_) (fun hs47 => ?_)
                · skip
                  (try simp only [nrm] at hs47)
                  refine' TL.y rfl rfl rfl ?hy58 ?_
                  case hy58 => first | exact Yl.field0 (k := 0) 4 rfl rfl Try.underlying28 rfl (by kernel_rfl) rfl | exact Yl.field (k := 0) 4 rfl rfl Try.underlying28 rfl (by kernel_rfl) rfl
                  refine' TL.y rfl rfl rfl ?hy59 ?_
                  case hy59 => exact Yl.load rfl rfl (by kernel_rfl) (by first | exact Hp.cell mem0 rfl | exact Hp.cell mem1 rfl | exact Hp.cell mem2 rfl | exact Hp.cell mem3 rfl | exact Hp.cell mem4 rfl | exact Hp.rowAt mem0 (by omega) rfl | exact Hp.rowAt mem1 (by omega) rfl | exact Hp.rowAt mem2 (by omega) rfl | exact Hp.rowAt mem3 (by omega) rfl | exact Hp.rowAt mem4 (by omega) rfl)
                  refine' TL.y rfl rfl rfl ?hy60 ?_
                  case hy60 => exact Yl.bin rfl rfl rfl (Bin.leq _ _ _ _)
                  refine' TL.y rfl rfl rfl ?hy61 ?_
                  case hy61 => exact Yl.pickT rfl rfl rfl
                  refine' TL.y rfl rfl rfl ?hy62 ?_
                  case hy62 => exact Yl.move rfl rfl
                  refine TL.split (i := 52) rfl (fun hs52 => ?_) (fun hs52 => ?_)
                  · skip
                    (try simp only [nrm] at hs52)
                    refine' TL.y rfl rfl rfl ?hy63 ?_
                    case hy63 => first | exact Yl.field0 (k := 0) 4 rfl rfl Try.underlying28 rfl (by kernel_rfl) rfl | exact Yl.field (k := 0) 4 rfl rfl Try.underlying28 rfl (by kernel_rfl) rfl
                    refine' TL.y rfl rfl rfl ?hy64 ?_
                    case hy64 => exact Yl.load rfl rfl (by kernel_rfl) (by first | exact Hp.cell mem0 rfl | exact Hp.cell mem1 rfl | exact Hp.cell mem2 rfl | exact Hp.cell mem3 rfl | exact Hp.cell mem4 rfl | exact Hp.rowAt mem0 (by omega) rfl | exact Hp.rowAt mem1 (by omega) rfl | exact Hp.rowAt mem2 (by omega) rfl | exact Hp.rowAt mem3 (by omega) rfl | exact Hp.rowAt mem4 (by omega) rfl)
                    refine' TL.y rfl rfl rfl ?hy65 ?_
                    case hy65 => first | exact Yl.field0 (k := 0) 1 rfl rfl Try.underlying28 rfl (by kernel_rfl) rfl | exact Yl.field (k := 0) 1 rfl rfl Try.underlying28 rfl (by kernel_rfl) rfl
                    refine' TL.y rfl rfl rfl ?hy66 ?_
                    case hy66 => exact Yl.load rfl rfl (by kernel_rfl) (by first | exact Hp.cell mem0 rfl | exact Hp.cell mem1 rfl | exact Hp.cell mem2 rfl | exact Hp.cell mem3 rfl | exact Hp.cell mem4 rfl | exact Hp.rowAt mem0 (by omega) rfl | exact Hp.rowAt mem1 (by omega) rfl | exact Hp.rowAt mem2 (by omega) rfl | exact Hp.rowAt mem3 (by omega) rfl | exact Hp.rowAt mem4 (by omega) rfl)
                    refine' TL.y rfl rfl rfl ?hy67 ?_
                    case hy67 => first | (refine Yl.val (Yl.bin rfl rfl rfl (Bin.add _ _ _ _)) (congrArg (Value.int .i64) (i64in ?_ ?_)) <;> omega) | exact Yl.bin rfl rfl rfl (Bin.add _ _ _ _)
                    refine' TL.y rfl rfl rfl ?hy68 ?_
                    case hy68 => first | exact Yl.field0 (k := 0) 0 rfl rfl Try.underlying28 rfl (by kernel_rfl) rfl | exact Yl.field (k := 0) 0 rfl rfl Try.underlying28 rfl (by kernel_rfl) rfl
                    refine' TL.y rfl rfl rfl ?hy69 ?_
                    case hy69 => exact Yl.load rfl rfl (by kernel_rfl) (by first | exact Hp.cell mem0 rfl | exact Hp.cell mem1 rfl | exact Hp.cell mem2 rfl | exact Hp.cell mem3 rfl | exact Hp.cell mem4 rfl | exact Hp.rowAt mem0 (by omega) rfl | exact Hp.rowAt mem1 (by omega) rfl | exact Hp.rowAt mem2 (by omega) rfl | exact Hp.rowAt mem3 (by omega) rfl | exact Hp.rowAt mem4 (by omega) rfl)
                    refine' TL.y rfl rfl rfl ?hy70 ?_
                    case hy70 => first | (refine Yl.val (Yl.bin rfl rfl rfl (Bin.sub _ _ _ _)) (congrArg (Value.int .i64) (i64in ?_ ?_)) <;> omega) | exact Yl.bin rfl rfl rfl (Bin.sub _ _ _ _)
                    refine' TL.y rfl rfl rfl ?hy71 ?_
                    case hy71 => exact Yl.bin rfl rfl rfl (Bin.leq _ _ _ _)
                    refine' TL.y rfl rfl rfl ?hy72 ?_
                    case hy72 => exact Yl.pickT rfl rfl rfl
                    refine' TL.y rfl rfl rfl ?hy73 ?_
                    case hy73 => exact Yl.assign rfl rfl
                    refine TL.nil ?_
                    refine TE.next ?_
                    refine TC.ret ?_
                    refine TE.ret1 rfl rfl ?_
                    have hb : validB x = decide (x.f4 + x.f1 - x.f0 ≤ 2097152) := by rw [Bool.eq_iff_iff, hv, decide_eq_true_iff]; omega
                    exact fun w h => ⟨by rw [hb], (h.sub (List.nil_sublist _)).below⟩
                  · skip
                    (try simp only [nrm] at hs52)
                    refine TL.skip rfl rfl rfl ?_
                    refine TL.skip rfl rfl rfl ?_
                    refine TL.skip rfl rfl rfl ?_
                    refine TL.skip rfl rfl rfl ?_
                    refine TL.skip rfl rfl rfl ?_
                    refine TL.skip rfl rfl rfl ?_
                    refine TL.skip rfl rfl rfl ?_
                    refine TL.skip rfl rfl rfl ?_
                    refine TL.skip rfl rfl rfl ?_
                    refine' TL.y rfl rfl rfl ?hy74 ?_
                    case hy74 => exact Yl.pickF rfl rfl rfl
                    refine' TL.y rfl rfl rfl ?hy75 ?_
                    case hy75 => exact Yl.assign rfl rfl
                    refine TL.nil ?_
                    refine TE.next ?_
                    refine TC.ret ?_
                    refine TE.ret1 rfl rfl ?_
                    have hb : validB x = false := by cases e : validB x; rfl; have := hv.1 e; omega
                    exact fun w h => ⟨by rw [hb], (h.sub (List.nil_sublist _)).below⟩
                · skip
                  (try simp only [nrm] at hs47)
                  refine TL.skip rfl rfl rfl ?_
                  refine TL.skip rfl rfl rfl ?_
                  refine TL.skip rfl rfl rfl ?_
                  refine' TL.y rfl rfl rfl ?hy76 ?_
                  case hy76 => exact Yl.pickF rfl rfl rfl
                  refine' TL.y rfl rfl rfl ?hy77 ?_
                  case hy77 => exact Yl.move rfl rfl
                  refine TL.skip rfl rfl rfl ?_
                  refine TL.skip rfl rfl rfl ?_
                  refine TL.skip rfl rfl rfl ?_
                  refine TL.skip rfl rfl rfl ?_
                  refine TL.skip rfl rfl rfl ?_
                  refine TL.skip rfl rfl rfl ?_
                  refine TL.skip rfl rfl rfl ?_
                  refine TL.skip rfl rfl rfl ?_
                  refine TL.skip rfl rfl rfl ?_
                  refine' TL.y rfl rfl rfl ?hy78 ?_
                  case hy78 => exact Yl.pickF rfl rfl rfl
                  refine' TL.y rfl rfl rfl ?hy79 ?_
                  case hy79 => exact Yl.assign rfl rfl
                  refine TL.nil ?_
                  refine TE.next ?_
                  refine TC.ret ?_
                  refine TE.ret1 rfl rfl ?_
                  have hb : validB x = false := by cases e : validB x; rfl; have := hv.1 e; omega
                  exact fun w h => ⟨by rw [hb], (h.sub (List.nil_sublist _)).below⟩
              · skip
                (try simp only [nrm] at hs42)
                refine TL.skip rfl rfl rfl ?_
                refine TL.skip rfl rfl rfl ?_
                refine TL.skip rfl rfl rfl ?_
                refine' TL.y rfl rfl rfl ?hy80 ?_
                case hy80 => exact Yl.pickF rfl rfl rfl
                refine' TL.y rfl rfl rfl ?hy81 ?_
                case hy81 => exact Yl.move rfl rfl
                refine TL.skip rfl rfl rfl ?_
                refine TL.skip rfl rfl rfl ?_
                refine TL.skip rfl rfl rfl ?_
                refine' TL.y rfl rfl rfl ?hy82 ?_
                case hy82 => exact Yl.pickF rfl rfl rfl
                refine' TL.y rfl rfl rfl ?hy83 ?_
                case hy83 => exact Yl.move rfl rfl
                refine TL.skip rfl rfl rfl ?_
                refine TL.skip rfl rfl rfl ?_
                refine TL.skip rfl rfl rfl ?_
                refine TL.skip rfl rfl rfl ?_
                refine TL.skip rfl rfl rfl ?_
                refine TL.skip rfl rfl rfl ?_
                refine TL.skip rfl rfl rfl ?_
                refine TL.skip rfl rfl rfl ?_
                refine TL.skip rfl rfl rfl ?_
                refine' TL.y rfl rfl rfl ?hy84 ?_
                case hy84 => exact Yl.pickF rfl rfl rfl
                refine' TL.y rfl rfl rfl ?hy85 ?_
                case hy85 => exact Yl.assign rfl rfl
                refine TL.nil ?_
                refine TE.next ?_
                refine TC.ret ?_
                refine TE.ret1 rfl rfl ?_
                have hb : validB x = false := by cases e : validB x; rfl; have := hv.1 e; omega
                exact fun w h => ⟨by rw [hb], (h.sub (List.nil_sublist _)).below⟩
            · skip
              (try simp only [nrm] at hs37)
              refine TL.skip rfl rfl rfl ?_
              refine TL.skip rfl rfl rfl ?_
              refine TL.skip rfl rfl rfl ?_
              refine' TL.y rfl rfl rfl ?hy86 ?_
              case hy86 => exact Yl.pickF rfl rfl rfl
              refine' TL.y rfl rfl rfl ?hy87 ?_
              case hy87 => exact Yl.move rfl rfl
              refine TL.skip rfl rfl rfl ?_
              refine TL.skip rfl rfl rfl ?_
              refine TL.skip rfl rfl rfl ?_
              refine' TL.y rfl rfl rfl ?hy88 ?_
              case hy88 => exact Yl.pickF rfl rfl rfl
              refine' TL.y rfl rfl rfl ?hy89 ?_
              case hy89 => exact Yl.move rfl rfl
              refine TL.skip rfl rfl rfl ?_
              refine TL.skip rfl rfl rfl ?_
              refine TL.skip rfl rfl rfl ?_
              refine' TL.y rfl rfl rfl ?hy90 ?_
              case hy90 => exact Yl.pickF rfl rfl rfl
              refine' TL.y rfl rfl rfl ?hy91 ?_
              case hy91 => exact Yl.move rfl rfl
              refine TL.skip rfl rfl rfl ?_
              refine TL.skip rfl rfl rfl ?_
              refine TL.skip rfl rfl rfl ?_
              refine TL.skip rfl rfl rfl ?_
              refine TL.skip rfl rfl rfl ?_
              refine TL.skip rfl rfl rfl ?_
              refine TL.skip rfl rfl rfl ?_
              refine TL.skip rfl rfl rfl ?_
              refine TL.skip rfl rfl rfl ?_
              refine' TL.y rfl rfl rfl ?hy92 ?_
              case hy92 => exact Yl.pickF rfl rfl rfl
              refine' TL.y rfl rfl rfl ?hy93 ?_
              case hy93 => exact Yl.assign rfl rfl
              refine TL.nil ?_
              refine TE.next ?_
              refine TC.ret ?_
              refine TE.ret1 rfl rfl ?_
              have hb : validB x = false := by cases e : validB x; rfl; have := hv.1 e; omega
              exact fun w h => ⟨by rw [hb], (h.sub (List.nil_sublist _)).below⟩
          · skip
            (try simp only [nrm] at hs32)
            refine TL.skip rfl rfl rfl ?_
            refine TL.skip rfl rfl rfl ?_
            refine TL.skip rfl rfl rfl ?_
            refine' TL.y rfl rfl rfl ?hy94 ?_
            case hy94 => exact Yl.pickF rfl rfl rfl
            refine' TL.y rfl rfl rfl ?hy95 ?_
            case hy95 => exact Yl.move rfl rfl
            refine TL.skip rfl rfl rfl ?_
            refine TL.skip rfl rfl rfl ?_
            refine TL.skip rfl rfl rfl ?_
            refine' TL.y rfl rfl rfl ?hy96 ?_
            case hy96 => exact Yl.pickF rfl rfl rfl
            refine' TL.y rfl rfl rfl ?hy97 ?_
            case hy97 => exact Yl.move rfl rfl
            refine TL.skip rfl rfl rfl ?_
            refine TL.skip rfl rfl rfl ?_
            refine TL.skip rfl rfl rfl ?_
            refine' TL.y rfl rfl rfl ?hy98 ?_
            case hy98 => exact Yl.pickF rfl rfl rfl
            refine' TL.y rfl rfl rfl ?hy99 ?_
            case hy99 => exact Yl.move rfl rfl
            refine TL.skip rfl rfl rfl ?_
            refine TL.skip rfl rfl rfl ?_
            refine TL.skip rfl rfl rfl ?_
            refine' TL.y rfl rfl rfl ?hy100 ?_
            case hy100 => exact Yl.pickF rfl rfl rfl
            refine' TL.y rfl rfl rfl ?hy101 ?_
            case hy101 => exact Yl.move rfl rfl
            refine TL.skip rfl rfl rfl ?_
            refine TL.skip rfl rfl rfl ?_
            refine TL.skip rfl rfl rfl ?_
            refine TL.skip rfl rfl rfl ?_
            refine TL.skip rfl rfl rfl ?_
            refine TL.skip rfl rfl rfl ?_
            refine TL.skip rfl rfl rfl ?_
            refine TL.skip rfl rfl rfl ?_
            refine TL.skip rfl rfl rfl ?_
            refine' TL.y rfl rfl rfl ?hy102 ?_
            case hy102 => exact Yl.pickF rfl rfl rfl
            refine' TL.y rfl rfl rfl ?hy103 ?_
            case hy103 => exact Yl.assign rfl rfl
            refine TL.nil ?_
            refine TE.next ?_
            refine TC.ret ?_
            refine TE.ret1 rfl rfl ?_
            have hb : validB x = false := by cases e : validB x; rfl; have := hv.1 e; omega
            exact fun w h => ⟨by rw [hb], (h.sub (List.nil_sublist _)).below⟩
set_option maxRecDepth 100000 in
set_option maxHeartbeats 2000000 in
theorem k_rrightG (W : World) {l : List S25} {A : Option Addr} {cp : Nat} (hS : Sl W A (Rw l)) (hm : l.length ≤ 100000) : Calls Try.prog 61 #[.slice A l.length cp] W fun e w' => e = .returned (.bool (rightB l)) ∧ Below W.heap.size W w' := by
  have hM : Hp W (fun _ => False) [] W := Hp.start
  refine TC.enter (n := 34) Try.func61 rfl rfl rfl hM ?_
  refine TC.seq ?_
  refine TC.region ?_
  refine' TL.y rfl rfl rfl ?hy1 ?_
  case hy1 => exact Yl.assign rfl rfl
  refine TL.nil ?_
  refine TE.next ?_
  refine TC.seq ?_
  refine TC.seq ?_
  refine TC.region ?_
  refine' TL.y rfl rfl rfl ?hy2 ?_
  case hy2 => exact Yl.assign rfl rfl
  refine TL.nil ?_
  refine TE.next ?_
  refine TC.block ?_
  refine TC.loop (σ := Nat) (fun i => [(0, .slice A l.length cp), (3, .int .i64 (i : Int))]) (fun i => Hp W (fun _ => False) []) (fun i => i ≤ l.length ∧ rightAt (if i = 0 then 0 else (atG l (i - 1)).f1) (l.drop i) = rightB l) (fun i => l.length - i) 0 ?hF3 ?hs3 ?hm3 ?round3
  case hF3 => exact ⟨Nat.zero_le _, rfl⟩
  case hs3 => exact ⟨rfl, rfl, trivial⟩
  case hm3 => exact fun _ h => h
  case round3 =>
    rintro i ⟨hi, hF⟩
    refine TC.seq ?_
    refine TC.seq ?_
    refine TC.region ?_
    refine' TL.y rfl rfl rfl ?hy4 ?_
    case hy4 => exact Yl.move rfl rfl
    refine' TL.y rfl rfl rfl ?hy5 ?_
    case hy5 => exact Yl.move rfl rfl
    refine' TL.y rfl rfl rfl ?hy6 ?_
    case hy6 => exact Yl.len rfl rfl Try.underlying44
    refine' TL.y rfl rfl rfl ?hy7 ?_
    case hy7 => exact Yl.bin rfl rfl rfl (Bin.lss _ _ _ _)
    refine TL.nil ?_
    refine TE.next ?_
    refine TC.cond rfl (fun hs7 => ?_) (fun hs7 => ?_)
    · skip
      (try simp only [nrm] at hs7)
      obtain ⟨b, o, rfl⟩ := Sl.some2 hS (by rw [Rw_length]; omega)
      have hdr := atG_drop (l := l) (i := i) (by omega)
      refine TC.skip ?_
      refine TE.next ?_
      refine TC.seq ?_
      refine TC.block ?_
      refine TC.seq ?_
      refine TC.draw (k := 24) (Hp W (fun _ => False) []) [] #[false, false, false, false, false, false, false, false, false, false, false, false, false, false, false, false, false, false, false, false, false, false, false, false] (by kernel_rfl) rfl rfl (fun _ h => h.drew) (fun _ h => by exact Hp.sub h (by repeat (first | exact sR _ | exact sN _ | apply sK | apply sC))) ?_
      refine' TA.y (i := 0) #[true, false, false, false, false, false, false, false, false, false, false, false, false, false, false, false, false, false, false, false, false, false, false, false] rfl rfl rfl (by kernel_rfl) (fun _ _ _ h => h) (fun _ h => by exact Hp.sub h (by repeat (first | exact sR _ | exact sN _ | apply sK | apply sC))) rfl ?hy8 ?_
      case hy8 => exact Yl.move rfl rfl
      refine' TA.y (i := 1) #[true, true, false, false, false, false, false, false, false, false, false, false, false, false, false, false, false, false, false, false, false, false, false, false] rfl rfl rfl (by kernel_rfl) (fun _ _ _ h => h) (fun _ h => by exact Hp.sub h (by repeat (first | exact sR _ | exact sN _ | apply sK | apply sC))) rfl ?hy9 ?_
      case hy9 => exact Yl.move rfl rfl
      refine' TA.y (i := 2) #[true, true, true, false, false, false, false, false, false, false, false, false, false, false, false, false, false, false, false, false, false, false, false, false] rfl rfl rfl (by kernel_rfl) (fun _ _ _ h => h) (fun _ h => by exact Hp.sub h (by repeat (first | exact sR _ | exact sN _ | apply sK | apply sC))) rfl ?hy10 ?_
      case hy10 => first | exact Yl.ixkn (k := 6) rfl rfl rfl Try.underlying44 (by kernel_rfl) (by omega) | exact Yl.ixkz (k := 6) rfl rfl rfl Try.underlying44 (by kernel_rfl) (by omega) (by omega)
      refine' TA.y (i := 3) #[true, true, true, true, false, false, false, false, false, false, false, false, false, false, false, false, false, false, false, false, false, false, false, false] rfl rfl rfl (by kernel_rfl) (fun _ _ _ h => h) (fun _ h => by exact Hp.sub h (by repeat (first | exact sR _ | exact sN _ | apply sK | apply sC))) rfl ?hy11 ?_
      case hy11 => exact Yl.loads (cs := [.int .i64 (atG l i).f0, .int .i64 (atG l i).f1, .int .i64 (atG l i).f2, .int .i64 (atG l i).f3, .int .i64 (atG l i).f4, .bool (atG l i).f5]) rfl rfl (by kernel_rfl) (by kernel_rfl) (Sl.rgs hS (i := i) (by omega))
      refine' TA.c (i := 4) #[true, true, true, true, true, false, false, false, false, false, false, false, false, false, false, false, false, false, false, false, false, false, false, false] rfl rfl rfl (by kernel_rfl) (by decide) rfl ?hy12 ?hz12 ?_
      case hy12 => exact Yc.call rfl Try.func80 (by kernel_rfl) rfl rfl (Hp.calls (fun w h => k_rvalid w (atG l i)))
      case hz12 => exact (fun _ _ h => by exact Hp.sub h (by repeat (first | exact sR _ | exact sN _ | apply sK | apply sC)))
      intro _
      refine' TA.y (i := 5) #[true, true, true, true, true, true, false, false, false, false, false, false, false, false, false, false, false, false, false, false, false, false, false, false] rfl rfl rfl (by kernel_rfl) (fun _ _ _ h => h) (fun _ h => by exact Hp.sub h (by repeat (first | exact sR _ | exact sN _ | apply sK | apply sC))) rfl ?hy13 ?_
      case hy13 => exact Yl.not rfl rfl
      refine' TA.y (i := 6) #[true, true, true, true, true, true, true, false, false, false, false, false, false, false, false, false, false, false, false, false, false, false, false, false] rfl rfl rfl (by kernel_rfl) (fun _ _ _ h => h) (fun _ h => by exact Hp.sub h (by repeat (first | exact sR _ | exact sN _ | apply sK | apply sC))) rfl ?hy14 ?_
      case hy14 => exact Yl.move rfl rfl
      refine TA.split (i := 16) rfl (fun hs16 => ?_) (fun hs16 => ?_)
      · skip
        (try simp only [nrm] at hs16)
        refine TA.skip (i := 7) #[true, true, true, true, true, true, true, true, false, false, false, false, false, false, false, false, false, false, false, false, false, false, false, false] rfl rfl rfl (by kernel_rfl) (fun _ _ _ h => h) rfl ?_
        refine TA.skip (i := 8) #[true, true, true, true, true, true, true, true, true, false, false, false, false, false, false, false, false, false, false, false, false, false, false, false] rfl rfl rfl (by kernel_rfl) (fun _ _ _ h => h) rfl ?_
        refine TA.skip (i := 9) #[true, true, true, true, true, true, true, true, true, true, false, false, false, false, false, false, false, false, false, false, false, false, false, false] rfl rfl rfl (by kernel_rfl) (fun _ _ _ h => h) rfl ?_
        refine TA.skip (i := 10) #[true, true, true, true, true, true, true, true, true, true, true, false, false, false, false, false, false, false, false, false, false, false, false, false] rfl rfl rfl (by kernel_rfl) (fun _ _ _ h => h) rfl ?_
        refine TA.skip (i := 11) #[true, true, true, true, true, true, true, true, true, true, true, true, false, false, false, false, false, false, false, false, false, false, false, false] rfl rfl rfl (by kernel_rfl) (fun _ _ _ h => h) rfl ?_
        refine TA.skip (i := 12) #[true, true, true, true, true, true, true, true, true, true, true, true, true, false, false, false, false, false, false, false, false, false, false, false] rfl rfl rfl (by kernel_rfl) (fun _ _ _ h => h) rfl ?_
        refine TA.skip (i := 13) #[true, true, true, true, true, true, true, true, true, true, true, true, true, true, false, false, false, false, false, false, false, false, false, false] rfl rfl rfl (by kernel_rfl) (fun _ _ _ h => h) rfl ?_
        refine TA.skip (i := 14) #[true, true, true, true, true, true, true, true, true, true, true, true, true, true, true, false, false, false, false, false, false, false, false, false] rfl rfl rfl (by kernel_rfl) (fun _ _ _ h => h) rfl ?_
        refine TA.skip (i := 15) #[true, true, true, true, true, true, true, true, true, true, true, true, true, true, true, true, false, false, false, false, false, false, false, false] rfl rfl rfl (by kernel_rfl) (fun _ _ _ h => h) rfl ?_
        refine TA.skip (i := 16) #[true, true, true, true, true, true, true, true, true, true, true, true, true, true, true, true, true, false, false, false, false, false, false, false] rfl rfl rfl (by kernel_rfl) (fun _ _ _ h => h) rfl ?_
        refine TA.skip (i := 17) #[true, true, true, true, true, true, true, true, true, true, true, true, true, true, true, true, true, true, false, false, false, false, false, false] rfl rfl rfl (by kernel_rfl) (fun _ _ _ h => h) rfl ?_
        refine TA.skip (i := 18) #[true, true, true, true, true, true, true, true, true, true, true, true, true, true, true, true, true, true, true, false, false, false, false, false] rfl rfl rfl (by kernel_rfl) (fun _ _ _ h => h) rfl ?_
        refine TA.skip (i := 19) #[true, true, true, true, true, true, true, true, true, true, true, true, true, true, true, true, true, true, true, true, false, false, false, false] rfl rfl rfl (by kernel_rfl) (fun _ _ _ h => h) rfl ?_
        refine TA.skip (i := 20) #[true, true, true, true, true, true, true, true, true, true, true, true, true, true, true, true, true, true, true, true, true, false, false, false] rfl rfl rfl (by kernel_rfl) (fun _ _ _ h => h) rfl ?_
        refine TA.skip (i := 21) #[true, true, true, true, true, true, true, true, true, true, true, true, true, true, true, true, true, true, true, true, true, true, false, false] rfl rfl rfl (by kernel_rfl) (fun _ _ _ h => h) rfl ?_
        refine TA.skip (i := 22) #[true, true, true, true, true, true, true, true, true, true, true, true, true, true, true, true, true, true, true, true, true, true, true, false] rfl rfl rfl (by kernel_rfl) (fun _ _ _ h => h) rfl ?_
        refine' TA.y (i := 23) #[true, true, true, true, true, true, true, true, true, true, true, true, true, true, true, true, true, true, true, true, true, true, true, true] rfl rfl rfl (by kernel_rfl) (fun _ _ _ h => h) (fun _ h => by exact Hp.sub h (by repeat (first | exact sR _ | exact sN _ | apply sK | apply sC))) rfl ?hy15 ?_
        case hy15 => exact Yl.pickT rfl rfl rfl
        refine TA.done (by kernel_rfl) ?_
        refine TE.next ?_
        refine TC.yes rfl rfl ?_
        refine TC.seq ?_
        refine TC.region ?_
        refine' TL.y rfl rfl rfl ?hy16 ?_
        case hy16 => exact Yl.assign rfl rfl
        refine TL.nil ?_
        refine TE.next ?_
        refine TC.ret ?_
        refine TE.inRet ?_
        refine TE.thenRet ?_
        refine TE.thenRet ?_
        refine TE.inRet ?_
        refine TE.thenRet ?_
        refine TE.ret1 rfl rfl ?_
        have hb : rightB l = false := by
          have h1 : validB (atG l i) = false := by simpa using hs16
          rw [← hF, hdr, rightAt, h1]; rfl
        exact fun w h => ⟨by rw [hb], (h.sub (List.nil_sublist _)).below⟩
      · skip
        (try simp only [nrm] at hs16)
        refine' TA.y (i := 7) #[true, true, true, true, true, true, true, true, false, false, false, false, false, false, false, false, false, false, false, false, false, false, false, false] rfl rfl rfl (by kernel_rfl) (fun _ _ _ h => h) (fun _ h => by exact Hp.sub h (by repeat (first | exact sR _ | exact sN _ | apply sK | apply sC))) rfl ?hy17 ?_
        case hy17 => exact Yl.move rfl rfl
        refine' TA.y (i := 8) #[true, true, true, true, true, true, true, true, true, false, false, false, false, false, false, false, false, false, false, false, false, false, false, false] rfl rfl rfl (by kernel_rfl) (fun _ _ _ h => h) (fun _ h => by exact Hp.sub h (by repeat (first | exact sR _ | exact sN _ | apply sK | apply sC))) rfl ?hy18 ?_
        case hy18 => exact Yl.bin rfl rfl rfl (Bin.gtr _ _ _ _)
        refine' TA.y (i := 9) #[true, true, true, true, true, true, true, true, true, true, false, false, false, false, false, false, false, false, false, false, false, false, false, false] rfl rfl rfl (by kernel_rfl) (fun _ _ _ h => h) (fun _ h => by exact Hp.sub h (by repeat (first | exact sR _ | exact sN _ | apply sK | apply sC))) rfl ?hy19 ?_
        case hy19 => exact Yl.move rfl rfl
        refine TA.split (i := 19) rfl (fun hs19 => ?_) (fun hs19 => ?_)
        · skip
          (try simp only [nrm] at hs19)
          refine' TA.y (i := 10) #[true, true, true, true, true, true, true, true, true, true, true, false, false, false, false, false, false, false, false, false, false, false, false, false] rfl rfl rfl (by kernel_rfl) (fun _ _ _ h => h) (fun _ h => by exact Hp.sub h (by repeat (first | exact sR _ | exact sN _ | apply sK | apply sC))) rfl ?hy20 ?_
          case hy20 => exact Yl.move rfl rfl
          refine' TA.y (i := 11) #[true, true, true, true, true, true, true, true, true, true, true, true, false, false, false, false, false, false, false, false, false, false, false, false] rfl rfl rfl (by kernel_rfl) (fun _ _ _ h => h) (fun _ h => by exact Hp.sub h (by repeat (first | exact sR _ | exact sN _ | apply sK | apply sC))) rfl ?hy21 ?_
          case hy21 => exact Yl.move rfl rfl
          refine' TA.y (i := 12) #[true, true, true, true, true, true, true, true, true, true, true, true, true, false, false, false, false, false, false, false, false, false, false, false] rfl rfl rfl (by kernel_rfl) (fun _ _ _ h => h) (fun _ h => by exact Hp.sub h (by repeat (first | exact sR _ | exact sN _ | apply sK | apply sC))) rfl ?hy22 ?_
          case hy22 => first | exact Yl.ixkn (k := 6) rfl rfl rfl Try.underlying44 (by kernel_rfl) (by omega) | exact Yl.ixkz (k := 6) rfl rfl rfl Try.underlying44 (by kernel_rfl) (by omega) (by omega)
          refine' TA.y (i := 13) #[true, true, true, true, true, true, true, true, true, true, true, true, true, true, false, false, false, false, false, false, false, false, false, false] rfl rfl rfl (by kernel_rfl) (fun _ _ _ h => h) (fun _ h => by exact Hp.sub h (by repeat (first | exact sR _ | exact sN _ | apply sK | apply sC))) rfl ?hy23 ?_
          case hy23 => first | exact Yl.field0 (k := 0) 0 rfl rfl Try.underlying28 rfl (by kernel_rfl) rfl | exact Yl.field (k := 0) 0 rfl rfl Try.underlying28 rfl (by kernel_rfl) rfl
          refine' TA.y (i := 14) #[true, true, true, true, true, true, true, true, true, true, true, true, true, true, true, false, false, false, false, false, false, false, false, false] rfl rfl rfl (by kernel_rfl) (fun _ _ _ h => h) (fun _ h => by exact Hp.sub h (by repeat (first | exact sR _ | exact sN _ | apply sK | apply sC))) rfl ?hy24 ?_
          case hy24 => exact Yl.load (v := .int .i64 (atG l (i)).f0) rfl rfl (by kernel_rfl) (Sl.rg (i := i) (j := 0) hS rfl (by omega) (by decide))
          refine' TA.y (i := 15) #[true, true, true, true, true, true, true, true, true, true, true, true, true, true, true, true, false, false, false, false, false, false, false, false] rfl rfl rfl (by kernel_rfl) (fun _ _ _ h => h) (fun _ h => by exact Hp.sub h (by repeat (first | exact sR _ | exact sN _ | apply sK | apply sC))) rfl ?hy25 ?_
          case hy25 => exact Yl.move rfl rfl
          refine' TA.y (i := 16) #[true, true, true, true, true, true, true, true, true, true, true, true, true, true, true, true, true, false, false, false, false, false, false, false] rfl rfl rfl (by kernel_rfl) (fun _ _ _ h => h) (fun _ h => by exact Hp.sub h (by repeat (first | exact sR _ | exact sN _ | apply sK | apply sC))) rfl ?hy26 ?_
          case hy26 => exact Yl.move rfl rfl
          refine' TA.y (i := 17) #[true, true, true, true, true, true, true, true, true, true, true, true, true, true, true, true, true, true, false, false, false, false, false, false] rfl rfl rfl (by kernel_rfl) (fun _ _ _ h => h) (fun _ h => by exact Hp.sub h (by repeat (first | exact sR _ | exact sN _ | apply sK | apply sC))) rfl ?hy27 ?_
          case hy27 => first | (refine Yl.val (Yl.bin rfl rfl rfl (Bin.sub _ _ _ _)) (congrArg (Value.int .i64) (i64in ?_ ?_)) <;> omega) | exact Yl.bin rfl rfl rfl (Bin.sub _ _ _ _)
          refine TA.re (i := 27) (v' := .int .i64 ((i - 1 : Nat) : Int)) rfl (congrArg (Value.int .i64) (by omega)) ?_
          refine' TA.y (i := 18) #[true, true, true, true, true, true, true, true, true, true, true, true, true, true, true, true, true, true, true, false, false, false, false, false] rfl rfl rfl (by kernel_rfl) (fun _ _ _ h => h) (fun _ h => by exact Hp.sub h (by repeat (first | exact sR _ | exact sN _ | apply sK | apply sC))) rfl ?hy28 ?_
          case hy28 => first | exact Yl.ixkn (k := 6) rfl rfl rfl Try.underlying44 (by kernel_rfl) (by omega) | exact Yl.ixkz (k := 6) rfl rfl rfl Try.underlying44 (by kernel_rfl) (by omega) (by omega)
          refine' TA.y (i := 19) #[true, true, true, true, true, true, true, true, true, true, true, true, true, true, true, true, true, true, true, true, false, false, false, false] rfl rfl rfl (by kernel_rfl) (fun _ _ _ h => h) (fun _ h => by exact Hp.sub h (by repeat (first | exact sR _ | exact sN _ | apply sK | apply sC))) rfl ?hy29 ?_
          case hy29 => first | exact Yl.field0 (k := 0) 1 rfl rfl Try.underlying28 rfl (by kernel_rfl) rfl | exact Yl.field (k := 0) 1 rfl rfl Try.underlying28 rfl (by kernel_rfl) rfl
          refine' TA.y (i := 20) #[true, true, true, true, true, true, true, true, true, true, true, true, true, true, true, true, true, true, true, true, true, false, false, false] rfl rfl rfl (by kernel_rfl) (fun _ _ _ h => h) (fun _ h => by exact Hp.sub h (by repeat (first | exact sR _ | exact sN _ | apply sK | apply sC))) rfl ?hy30 ?_
          case hy30 => exact Yl.load (v := .int .i64 (atG l (i - 1)).f1) rfl rfl (by kernel_rfl) (Sl.rg (i := i - 1) (j := 1) hS rfl (by omega) (by decide))
          refine' TA.y (i := 21) #[true, true, true, true, true, true, true, true, true, true, true, true, true, true, true, true, true, true, true, true, true, true, false, false] rfl rfl rfl (by kernel_rfl) (fun _ _ _ h => h) (fun _ h => by exact Hp.sub h (by repeat (first | exact sR _ | exact sN _ | apply sK | apply sC))) rfl ?hy31 ?_
          case hy31 => exact Yl.bin rfl rfl rfl (Bin.lss _ _ _ _)
          refine' TA.y (i := 22) #[true, true, true, true, true, true, true, true, true, true, true, true, true, true, true, true, true, true, true, true, true, true, true, false] rfl rfl rfl (by kernel_rfl) (fun _ _ _ h => h) (fun _ h => by exact Hp.sub h (by repeat (first | exact sR _ | exact sN _ | apply sK | apply sC))) rfl ?hy32 ?_
          case hy32 => exact Yl.pickT rfl rfl rfl
          refine' TA.y (i := 23) #[true, true, true, true, true, true, true, true, true, true, true, true, true, true, true, true, true, true, true, true, true, true, true, true] rfl rfl rfl (by kernel_rfl) (fun _ _ _ h => h) (fun _ h => by exact Hp.sub h (by repeat (first | exact sR _ | exact sN _ | apply sK | apply sC))) rfl ?hy33 ?_
          case hy33 => exact Yl.pickF rfl rfl rfl
          refine TA.done (by kernel_rfl) ?_
          refine TE.next ?_
          refine TC.cond rfl (fun hs33 => ?_) (fun hs33 => ?_)
          · skip
            (try simp only [nrm] at hs33)
            refine TC.seq ?_
            refine TC.region ?_
            refine' TL.y rfl rfl rfl ?hy34 ?_
            case hy34 => exact Yl.assign rfl rfl
            refine TL.nil ?_
            refine TE.next ?_
            refine TC.ret ?_
            refine TE.inRet ?_
            refine TE.thenRet ?_
            refine TE.thenRet ?_
            refine TE.inRet ?_
            refine TE.thenRet ?_
            refine TE.ret1 rfl rfl ?_
            have hb : rightB l = false := by
              rw [← hF, hdr, rightAt, decide_eq_false (by rw [if_neg (by omega)]; omega : ¬ (if i = 0 then 0 else (atG l (i - 1)).f1) ≤ (atG l i).f0), Bool.false_and, Bool.and_false]
            exact fun w h => ⟨by rw [hb], (h.sub (List.nil_sublist _)).below⟩
          · skip
            (try simp only [nrm] at hs33)
            refine TC.skip ?_
            refine TE.inNormal ?_
            refine TE.next ?_
            refine TC.region ?_
            refine' TL.y rfl rfl rfl ?hy35 ?_
            case hy35 => exact Yl.move rfl rfl
            refine' TL.y rfl rfl rfl ?hy36 ?_
            case hy36 => first | (refine Yl.val (Yl.bin rfl rfl rfl (Bin.add _ _ _ _)) (congrArg (Value.int .i64) (i64in ?_ ?_)) <;> omega) | exact Yl.bin rfl rfl rfl (Bin.add _ _ _ _)
            refine' TL.y rfl rfl rfl ?hy37 ?_
            case hy37 => exact Yl.assign rfl rfl
            refine TL.nil ?_
            refine TE.round (i + 1) ?hF38 ?hlt38 ?hs38 ?hm38
            case hF38 => exact ⟨by omega, by
              have h1 : validB (atG l i) = true := by simpa using hs16
              have h0 := ((good_iff _).1 h1).a
              rw [← hF, hdr, rightAt, h1, decide_eq_true (by split <;> omega : (if i = 0 then 0 else (atG l (i - 1)).f1) ≤ (atG l i).f0), if_neg (by omega), Nat.add_sub_cancel]; rfl⟩
            case hlt38 => omega
            case hs38 => exact ⟨rfl, rfl, trivial⟩
            case hm38 => exact fun _ h => h
        · skip
          (try simp only [nrm] at hs19)
          refine TA.skip (i := 10) #[true, true, true, true, true, true, true, true, true, true, true, false, false, false, false, false, false, false, false, false, false, false, false, false] rfl rfl rfl (by kernel_rfl) (fun _ _ _ h => h) rfl ?_
          refine TA.skip (i := 11) #[true, true, true, true, true, true, true, true, true, true, true, true, false, false, false, false, false, false, false, false, false, false, false, false] rfl rfl rfl (by kernel_rfl) (fun _ _ _ h => h) rfl ?_
          refine TA.skip (i := 12) #[true, true, true, true, true, true, true, true, true, true, true, true, true, false, false, false, false, false, false, false, false, false, false, false] rfl rfl rfl (by kernel_rfl) (fun _ _ _ h => h) rfl ?_
          refine TA.skip (i := 13) #[true, true, true, true, true, true, true, true, true, true, true, true, true, true, false, false, false, false, false, false, false, false, false, false] rfl rfl rfl (by kernel_rfl) (fun _ _ _ h => h) rfl ?_
          refine TA.skip (i := 14) #[true, true, true, true, true, true, true, true, true, true, true, true, true, true, true, false, false, false, false, false, false, false, false, false] rfl rfl rfl (by kernel_rfl) (fun _ _ _ h => h) rfl ?_
          refine TA.skip (i := 15) #[true, true, true, true, true, true, true, true, true, true, true, true, true, true, true, true, false, false, false, false, false, false, false, false] rfl rfl rfl (by kernel_rfl) (fun _ _ _ h => h) rfl ?_
          refine TA.skip (i := 16) #[true, true, true, true, true, true, true, true, true, true, true, true, true, true, true, true, true, false, false, false, false, false, false, false] rfl rfl rfl (by kernel_rfl) (fun _ _ _ h => h) rfl ?_
          refine TA.skip (i := 17) #[true, true, true, true, true, true, true, true, true, true, true, true, true, true, true, true, true, true, false, false, false, false, false, false] rfl rfl rfl (by kernel_rfl) (fun _ _ _ h => h) rfl ?_
          refine TA.skip (i := 18) #[true, true, true, true, true, true, true, true, true, true, true, true, true, true, true, true, true, true, true, false, false, false, false, false] rfl rfl rfl (by kernel_rfl) (fun _ _ _ h => h) rfl ?_
          refine TA.skip (i := 19) #[true, true, true, true, true, true, true, true, true, true, true, true, true, true, true, true, true, true, true, true, false, false, false, false] rfl rfl rfl (by kernel_rfl) (fun _ _ _ h => h) rfl ?_
          refine TA.skip (i := 20) #[true, true, true, true, true, true, true, true, true, true, true, true, true, true, true, true, true, true, true, true, true, false, false, false] rfl rfl rfl (by kernel_rfl) (fun _ _ _ h => h) rfl ?_
          refine TA.skip (i := 21) #[true, true, true, true, true, true, true, true, true, true, true, true, true, true, true, true, true, true, true, true, true, true, false, false] rfl rfl rfl (by kernel_rfl) (fun _ _ _ h => h) rfl ?_
          refine' TA.y (i := 22) #[true, true, true, true, true, true, true, true, true, true, true, true, true, true, true, true, true, true, true, true, true, true, true, false] rfl rfl rfl (by kernel_rfl) (fun _ _ _ h => h) (fun _ h => by exact Hp.sub h (by repeat (first | exact sR _ | exact sN _ | apply sK | apply sC))) rfl ?hy39 ?_
          case hy39 => exact Yl.pickF rfl rfl rfl
          refine' TA.y (i := 23) #[true, true, true, true, true, true, true, true, true, true, true, true, true, true, true, true, true, true, true, true, true, true, true, true] rfl rfl rfl (by kernel_rfl) (fun _ _ _ h => h) (fun _ h => by exact Hp.sub h (by repeat (first | exact sR _ | exact sN _ | apply sK | apply sC))) rfl ?hy40 ?_
          case hy40 => exact Yl.pickF rfl rfl rfl
          refine TA.done (by kernel_rfl) ?_
          refine TE.next ?_
          refine TC.no rfl rfl ?_
          refine TC.skip ?_
          refine TE.inNormal ?_
          refine TE.next ?_
          refine TC.region ?_
          refine' TL.y rfl rfl rfl ?hy41 ?_
          case hy41 => exact Yl.move rfl rfl
          refine' TL.y rfl rfl rfl ?hy42 ?_
          case hy42 => first | (refine Yl.val (Yl.bin rfl rfl rfl (Bin.add _ _ _ _)) (congrArg (Value.int .i64) (i64in ?_ ?_)) <;> omega) | exact Yl.bin rfl rfl rfl (Bin.add _ _ _ _)
          refine' TL.y rfl rfl rfl ?hy43 ?_
          case hy43 => exact Yl.assign rfl rfl
          refine TL.nil ?_
          refine TE.round (i + 1) ?hF44 ?hlt44 ?hs44 ?hm44
          case hF44 => exact ⟨by omega, by
            have h1 : validB (atG l i) = true := by simpa using hs16
            have h0 := ((good_iff _).1 h1).a
            rw [← hF, hdr, rightAt, h1, decide_eq_true (by split <;> omega : (if i = 0 then 0 else (atG l (i - 1)).f1) ≤ (atG l i).f0), if_neg (by omega), Nat.add_sub_cancel]; rfl⟩
          case hlt44 => omega
          case hs44 => exact ⟨rfl, rfl, trivial⟩
          case hm44 => exact fun _ h => h
    · skip
      (try simp only [nrm] at hs7)
      refine TC.exit ?_
      refine TE.thenExit ?_
      refine TE.thenExit ?_
      refine TE.inHere ?_
      refine TE.next ?_
      refine TC.seq ?_
      refine TC.region ?_
      refine' TL.y rfl rfl rfl ?hy45 ?_
      case hy45 => exact Yl.assign rfl rfl
      refine TL.nil ?_
      refine TE.next ?_
      refine TC.ret ?_
      refine TE.ret1 rfl rfl ?_
      obtain rfl : i = l.length := by omega
      have hb : rightB l = true := by rw [← hF, List.drop_length]; rfl
      exact fun w h => ⟨by rw [hb], (h.sub (List.nil_sublist _)).below⟩
set_option maxRecDepth 100000 in
set_option maxHeartbeats 2000000 in
theorem k_rpartG (W : World) {x : S25} (hg : GoodG x) {a c : Int} (ha : x.f0 ≤ a) (hb : a ≤ 65536) : Calls Try.prog 81 #[.agg #[.int .i64 (x).f0, .int .i64 (x).f1, .int .i64 (x).f2, .int .i64 (x).f3, .int .i64 (x).f4, .bool (x).f5], .int .i64 a, .int .i64 c] W fun e w' => e = .returned (.agg #[.int .i64 ((partS x a c)).f0, .int .i64 ((partS x a c)).f1, .int .i64 ((partS x a c)).f2, .int .i64 ((partS x a c)).f3, .int .i64 ((partS x a c)).f4, .bool ((partS x a c)).f5]) ∧ Below W.heap.size W w' := by
  have h0 := hg.a; have h1 := hg.b; have h2 := hg.c; have hk := hg.k
  have hM : Hp W (fun _ => False) [] W := Hp.start
  refine TC.enter (n := 23) Try.func81 rfl rfl rfl hM ?_
  refine TC.seq ?_
  refine TC.region ?_
  refine' TL.mx rfl rfl rfl ?hy1 ?_
  case hy1 => exact Ym.box rfl rfl
  intro b3
  refine' TL.mx rfl rfl rfl ?hy2 ?_
  case hy2 => exact Ym.alloc (z := .agg #[.int .i64 0, .int .i64 0, .int .i64 0, .int .i64 0, .int .i64 0, .bool false]) rfl (by kernel_rfl)
  intro b6
  refine TL.nil ?_
  refine TE.next ?_
  refine TC.seq ?_
  refine TC.seq ?_
  refine TC.region ?_
  refine' TL.y rfl rfl rfl ?hy3 ?_
  case hy3 => first | exact Yl.field0 (k := 0) 2 rfl rfl Try.underlying28 rfl (by kernel_rfl) rfl | exact Yl.field (k := 0) 2 rfl rfl Try.underlying28 rfl (by kernel_rfl) rfl
  refine' TL.y rfl rfl rfl ?hy4 ?_
  case hy4 => exact Yl.load rfl rfl (by kernel_rfl) (by first | exact Hp.cell mem0 rfl | exact Hp.cell mem1 rfl | exact Hp.cell mem2 rfl | exact Hp.cell mem3 rfl | exact Hp.cell mem4 rfl | exact Hp.rowAt mem0 (by omega) rfl | exact Hp.rowAt mem1 (by omega) rfl | exact Hp.rowAt mem2 (by omega) rfl | exact Hp.rowAt mem3 (by omega) rfl | exact Hp.rowAt mem4 (by omega) rfl)
  refine' TL.y rfl rfl rfl ?hy5 ?_
  case hy5 => exact Yl.bin rfl rfl rfl (Bin.eql _ _ _ _)
  refine TL.nil ?_
  refine TE.next ?_
  refine TC.cond rfl (fun hs9 => ?_) (fun hs9 => ?_)
  · skip
    (try simp only [nrm] at hs9)
    refine TC.region ?_
    refine' TL.y rfl rfl rfl ?hy6 ?_
    case hy6 => first | exact Yl.field0 (k := 0) 4 rfl rfl Try.underlying28 rfl (by kernel_rfl) rfl | exact Yl.field (k := 0) 4 rfl rfl Try.underlying28 rfl (by kernel_rfl) rfl
    refine' TL.y rfl rfl rfl ?hy7 ?_
    case hy7 => exact Yl.load rfl rfl (by kernel_rfl) (by first | exact Hp.cell mem0 rfl | exact Hp.cell mem1 rfl | exact Hp.cell mem2 rfl | exact Hp.cell mem3 rfl | exact Hp.cell mem4 rfl | exact Hp.rowAt mem0 (by omega) rfl | exact Hp.rowAt mem1 (by omega) rfl | exact Hp.rowAt mem2 (by omega) rfl | exact Hp.rowAt mem3 (by omega) rfl | exact Hp.rowAt mem4 (by omega) rfl)
    refine' TL.y rfl rfl rfl ?hy8 ?_
    case hy8 => exact Yl.move rfl rfl
    refine' TL.y rfl rfl rfl ?hy9 ?_
    case hy9 => first | (refine Yl.val (Yl.bin rfl rfl rfl (Bin.add _ _ _ _)) (congrArg (Value.int .i64) (i64in ?_ ?_)) <;> omega) | exact Yl.bin rfl rfl rfl (Bin.add _ _ _ _)
    refine' TL.y rfl rfl rfl ?hy10 ?_
    case hy10 => first | exact Yl.field0 (k := 0) 0 rfl rfl Try.underlying28 rfl (by kernel_rfl) rfl | exact Yl.field (k := 0) 0 rfl rfl Try.underlying28 rfl (by kernel_rfl) rfl
    refine' TL.y rfl rfl rfl ?hy11 ?_
    case hy11 => exact Yl.load rfl rfl (by kernel_rfl) (by first | exact Hp.cell mem0 rfl | exact Hp.cell mem1 rfl | exact Hp.cell mem2 rfl | exact Hp.cell mem3 rfl | exact Hp.cell mem4 rfl | exact Hp.rowAt mem0 (by omega) rfl | exact Hp.rowAt mem1 (by omega) rfl | exact Hp.rowAt mem2 (by omega) rfl | exact Hp.rowAt mem3 (by omega) rfl | exact Hp.rowAt mem4 (by omega) rfl)
    refine' TL.y rfl rfl rfl ?hy12 ?_
    case hy12 => first | (refine Yl.val (Yl.bin rfl rfl rfl (Bin.sub _ _ _ _)) (congrArg (Value.int .i64) (i64in ?_ ?_)) <;> omega) | exact Yl.bin rfl rfl rfl (Bin.sub _ _ _ _)
    refine TL.re (i := 16) (v' := .int .i64 (x.f4 + (a - x.f0))) rfl (congrArg (Value.int .i64) (by omega)) ?_
    refine' TL.y rfl rfl rfl ?hy13 ?_
    case hy13 => first | exact Yl.field0 (k := 0) 4 rfl rfl Try.underlying28 rfl (by kernel_rfl) rfl | exact Yl.field (k := 0) 4 rfl rfl Try.underlying28 rfl (by kernel_rfl) rfl
    refine' TL.s rfl rfl ?hy14 ?_
    case hy14 => exact Ys.store (seg := [.int .i64 (x.f4 + (a - x.f0))]) (c' := #[.int .i64 x.f0, .int .i64 x.f1, .int .i64 x.f2, .int .i64 x.f3, .int .i64 (x.f4 + (a - x.f0)), .bool x.f5]) rfl rfl rfl (by simp [Value.cells]) (by kernel_rfl) (by simp [Value.oneCell']) foc1 (by simp [Value.cells]) (by kernel_rfl)
    refine TL.nil ?_
    refine TE.next ?_
    refine TC.seq ?_
    refine TC.region ?_
    refine' TL.y rfl rfl rfl ?hy15 ?_
    case hy15 => exact Yl.move rfl rfl
    refine' TL.y rfl rfl rfl ?hy16 ?_
    case hy16 => first | exact Yl.field0 (k := 0) 0 rfl rfl Try.underlying28 rfl (by kernel_rfl) rfl | exact Yl.field (k := 0) 0 rfl rfl Try.underlying28 rfl (by kernel_rfl) rfl
    refine' TL.s rfl rfl ?hy17 ?_
    case hy17 => exact Ys.store (seg := [.int .i64 a]) (c' := #[.int .i64 a, .int .i64 x.f1, .int .i64 x.f2, .int .i64 x.f3, .int .i64 (x.f4 + (a - x.f0)), .bool x.f5]) rfl rfl rfl (by simp [Value.cells]) (by kernel_rfl) (by simp [Value.oneCell']) foc1 (by simp [Value.cells]) (by kernel_rfl)
    refine TL.nil ?_
    refine TE.next ?_
    refine TC.seq ?_
    refine TC.region ?_
    refine' TL.y rfl rfl rfl ?hy18 ?_
    case hy18 => exact Yl.move rfl rfl
    refine' TL.y rfl rfl rfl ?hy19 ?_
    case hy19 => first | exact Yl.field0 (k := 0) 1 rfl rfl Try.underlying28 rfl (by kernel_rfl) rfl | exact Yl.field (k := 0) 1 rfl rfl Try.underlying28 rfl (by kernel_rfl) rfl
    refine' TL.s rfl rfl ?hy20 ?_
    case hy20 => exact Ys.store (seg := [.int .i64 c]) (c' := #[.int .i64 a, .int .i64 c, .int .i64 x.f2, .int .i64 x.f3, .int .i64 (x.f4 + (a - x.f0)), .bool x.f5]) rfl rfl rfl (by simp [Value.cells]) (by kernel_rfl) (by simp [Value.oneCell']) foc1 (by simp [Value.cells]) (by kernel_rfl)
    refine TL.nil ?_
    refine TE.next ?_
    refine TC.seq ?_
    refine TC.region ?_
    refine' TL.y rfl rfl rfl ?hy21 ?_
    case hy21 => exact Yl.loads (cs := [.int .i64 a, .int .i64 c, .int .i64 x.f2, .int .i64 x.f3, .int .i64 (x.f4 + (a - x.f0)), .bool x.f5]) rfl rfl (by kernel_rfl) (by kernel_rfl) (Hp.cells mem1 (fun j v hj => by simpa [Value.cells] using hj))
    refine' TL.s rfl rfl ?hy22 ?_
    case hy22 => exact Ys.store (seg := [.int .i64 a, .int .i64 c, .int .i64 x.f2, .int .i64 x.f3, .int .i64 (x.f4 + (a - x.f0)), .bool x.f5]) (c' := #[.int .i64 a, .int .i64 c, .int .i64 x.f2, .int .i64 x.f3, .int .i64 (x.f4 + (a - x.f0)), .bool x.f5]) rfl rfl rfl (by simp [Value.cells]) (by kernel_rfl) (by simp [Value.oneCell']) foc0 (by simp [Value.cells]) (by kernel_rfl)
    refine TL.nil ?_
    refine TE.next ?_
    refine TC.ret ?_
    refine TE.retCA [.int .i64 a, .int .i64 c, .int .i64 x.f2, .int .i64 x.f3, .int .i64 (x.f4 + (a - x.f0)), .bool x.f5] rfl rfl (by kernel_rfl) (by kernel_rfl) (Hp.cells mem0 (fun j v hj => by simpa [Value.cells] using hj)) ?_
    exact fun w h => ⟨by unfold partS; dsimp only; rw [if_pos (by omega)], (h.sub (List.nil_sublist _)).below⟩
  · skip
    (try simp only [nrm] at hs9)
    refine TC.skip ?_
    refine TE.next ?_
    refine TC.seq ?_
    refine TC.region ?_
    refine' TL.y rfl rfl rfl ?hy23 ?_
    case hy23 => exact Yl.move rfl rfl
    refine' TL.y rfl rfl rfl ?hy24 ?_
    case hy24 => first | exact Yl.field0 (k := 0) 0 rfl rfl Try.underlying28 rfl (by kernel_rfl) rfl | exact Yl.field (k := 0) 0 rfl rfl Try.underlying28 rfl (by kernel_rfl) rfl
    refine' TL.s rfl rfl ?hy25 ?_
    case hy25 => exact Ys.store (seg := [.int .i64 a]) (c' := #[.int .i64 a, .int .i64 x.f1, .int .i64 x.f2, .int .i64 x.f3, .int .i64 (x.f4), .bool x.f5]) rfl rfl rfl (by simp [Value.cells]) (by kernel_rfl) (by simp [Value.oneCell']) foc1 (by simp [Value.cells]) (by kernel_rfl)
    refine TL.nil ?_
    refine TE.next ?_
    refine TC.seq ?_
    refine TC.region ?_
    refine' TL.y rfl rfl rfl ?hy26 ?_
    case hy26 => exact Yl.move rfl rfl
    refine' TL.y rfl rfl rfl ?hy27 ?_
    case hy27 => first | exact Yl.field0 (k := 0) 1 rfl rfl Try.underlying28 rfl (by kernel_rfl) rfl | exact Yl.field (k := 0) 1 rfl rfl Try.underlying28 rfl (by kernel_rfl) rfl
    refine' TL.s rfl rfl ?hy28 ?_
    case hy28 => exact Ys.store (seg := [.int .i64 c]) (c' := #[.int .i64 a, .int .i64 c, .int .i64 x.f2, .int .i64 x.f3, .int .i64 (x.f4), .bool x.f5]) rfl rfl rfl (by simp [Value.cells]) (by kernel_rfl) (by simp [Value.oneCell']) foc1 (by simp [Value.cells]) (by kernel_rfl)
    refine TL.nil ?_
    refine TE.next ?_
    refine TC.seq ?_
    refine TC.region ?_
    refine' TL.y rfl rfl rfl ?hy29 ?_
    case hy29 => exact Yl.loads (cs := [.int .i64 a, .int .i64 c, .int .i64 x.f2, .int .i64 x.f3, .int .i64 (x.f4), .bool x.f5]) rfl rfl (by kernel_rfl) (by kernel_rfl) (Hp.cells mem1 (fun j v hj => by simpa [Value.cells] using hj))
    refine' TL.s rfl rfl ?hy30 ?_
    case hy30 => exact Ys.store (seg := [.int .i64 a, .int .i64 c, .int .i64 x.f2, .int .i64 x.f3, .int .i64 (x.f4), .bool x.f5]) (c' := #[.int .i64 a, .int .i64 c, .int .i64 x.f2, .int .i64 x.f3, .int .i64 (x.f4), .bool x.f5]) rfl rfl rfl (by simp [Value.cells]) (by kernel_rfl) (by simp [Value.oneCell']) foc0 (by simp [Value.cells]) (by kernel_rfl)
    refine TL.nil ?_
    refine TE.next ?_
    refine TC.ret ?_
    refine TE.retCA [.int .i64 a, .int .i64 c, .int .i64 x.f2, .int .i64 x.f3, .int .i64 (x.f4), .bool x.f5] rfl rfl (by kernel_rfl) (by kernel_rfl) (Hp.cells mem0 (fun j v hj => by simpa [Value.cells] using hj)) ?_
    exact fun w h => ⟨by unfold partS; dsimp only; rw [if_neg (by omega)], (h.sub (List.nil_sublist _)).below⟩
set_option maxRecDepth 100000 in
set_option maxHeartbeats 2000000 in
theorem k_rfind (W : World) {l : List S25} {A : Option Addr} {cp : Nat} (hS : Sl W A (Rw l)) (hm : l.length ≤ 100000) (n : Int) : Calls Try.prog 30 #[.slice A l.length cp, .int .i64 n] W fun e w' => e = .returned (.tuple #[.agg #[.int .i64 (((fnd l n).getD z25)).f0, .int .i64 (((fnd l n).getD z25)).f1, .int .i64 (((fnd l n).getD z25)).f2, .int .i64 (((fnd l n).getD z25)).f3, .int .i64 (((fnd l n).getD z25)).f4, .bool (((fnd l n).getD z25)).f5], .bool (fnd l n).isSome]) ∧ Below W.heap.size W w' := by
  have hM : Hp W (fun _ => False) [] W := Hp.start
  refine TC.enter (n := 38) Try.func30 rfl rfl rfl hM ?_
  refine TC.seq ?_
  refine TC.region ?_
  refine' TL.mx rfl rfl rfl ?hy1 ?_
  case hy1 => exact Ym.alloc (z := .agg #[.int .i64 0, .int .i64 0, .int .i64 0, .int .i64 0, .int .i64 0, .bool false]) rfl (by kernel_rfl)
  intro b4
  refine' TL.y rfl rfl rfl ?hy2 ?_
  case hy2 => exact Yl.assign rfl rfl
  refine TL.nil ?_
  refine TE.next ?_
  refine TC.seq ?_
  refine TC.seq ?_
  refine TC.region ?_
  refine' TL.y rfl rfl rfl ?hy3 ?_
  case hy3 => exact Yl.assign rfl rfl
  refine TL.nil ?_
  refine TE.next ?_
  refine TC.block ?_
  refine TC.loop (σ := Nat) (fun i => [(0, .slice A l.length cp), (1, .int .i64 n), (4, .pointer (some ⟨b4, 0, none⟩)), (6, .int .i64 (i : Int))]) (fun i => Hp W (fun _ => False) [blk b4 (.cells #[.int .i64 0, .int .i64 0, .int .i64 0, .int .i64 0, .int .i64 0, .bool false] 28 (0, 0))]) (fun i => i ≤ l.length ∧ ∀ j, j < i → inB n (atG l j) = false) (fun i => l.length - i) 0 ?hF4 ?hs4 ?hm4 ?round4
  case hF4 => exact ⟨Nat.zero_le _, fun j hj => by omega⟩
  case hs4 => exact ⟨rfl, rfl, rfl, rfl, trivial⟩
  case hm4 => exact fun _ h => h
  case round4 =>
    rintro i ⟨hi, hF⟩
    refine TC.seq ?_
    refine TC.seq ?_
    refine TC.region ?_
    refine' TL.y rfl rfl rfl ?hy5 ?_
    case hy5 => exact Yl.move rfl rfl
    refine' TL.y rfl rfl rfl ?hy6 ?_
    case hy6 => exact Yl.move rfl rfl
    refine' TL.y rfl rfl rfl ?hy7 ?_
    case hy7 => exact Yl.len rfl rfl Try.underlying44
    refine' TL.y rfl rfl rfl ?hy8 ?_
    case hy8 => exact Yl.bin rfl rfl rfl (Bin.lss _ _ _ _)
    refine' TL.y rfl rfl rfl ?hy9 ?_
    case hy9 => exact Yl.move rfl rfl
    refine TL.split (i := 11) rfl (fun hs11 => ?_) (fun hs11 => ?_)
    · skip
      (try simp only [nrm] at hs11)
      refine' TL.y rfl rfl rfl ?hy10 ?_
      case hy10 => exact Yl.move rfl rfl
      refine' TL.c rfl rfl rfl ?hy11 ?_
      case hy11 => exact Yc.call rfl Try.func61 (by kernel_rfl) rfl rfl (Hp.calls (fun w h => k_rrightG w (hS.below h.below) hm))
      intro _
      refine' TL.y rfl rfl rfl ?hy12 ?_
      case hy12 => exact Yl.pickT rfl rfl rfl
      refine TL.nil ?_
      refine TE.next ?_
      refine TC.cond rfl (fun hs14 => ?_) (fun hs14 => ?_)
      · skip
        (try simp only [nrm] at hs14)
        obtain ⟨b, o, rfl⟩ := Sl.some2 hS (by rw [Rw_length]; omega)
        have hrt : rightB l = true := by simpa using hs14
        refine TC.skip ?_
        refine TE.next ?_
        refine TC.seq ?_
        refine TC.block ?_
        refine TC.seq ?_
        refine TC.region ?_
        refine' TL.y rfl rfl rfl ?hy13 ?_
        case hy13 => exact Yl.move rfl rfl
        refine' TL.y rfl rfl rfl ?hy14 ?_
        case hy14 => exact Yl.move rfl rfl
        refine' TL.y rfl rfl rfl ?hy15 ?_
        case hy15 => exact Yl.move rfl rfl
        refine' TL.y rfl rfl rfl ?hy16 ?_
        case hy16 => first | exact Yl.ixkn (k := 6) rfl rfl rfl Try.underlying44 (by kernel_rfl) (by omega) | exact Yl.ixkz (k := 6) rfl rfl rfl Try.underlying44 (by kernel_rfl) (by omega) (by omega)
        refine' TL.y rfl rfl rfl ?hy17 ?_
        case hy17 => first | exact Yl.field0 (k := 0) 0 rfl rfl Try.underlying28 rfl (by kernel_rfl) rfl | exact Yl.field (k := 0) 0 rfl rfl Try.underlying28 rfl (by kernel_rfl) rfl
        refine' TL.y rfl rfl rfl ?hy18 ?_
        case hy18 => exact Yl.load (v := .int .i64 (atG l (i)).f0) rfl rfl (by kernel_rfl) (Sl.rg (i := i) (j := 0) hS rfl (by omega) (by decide))
        refine' TL.y rfl rfl rfl ?hy19 ?_
        case hy19 => exact Yl.bin rfl rfl rfl (Bin.geq _ _ _ _)
        refine' TL.y rfl rfl rfl ?hy20 ?_
        case hy20 => exact Yl.move rfl rfl
        refine TL.split (i := 24) rfl (fun hs24 => ?_) (fun hs24 => ?_)
        · skip
          (try simp only [nrm] at hs24)
          refine' TL.y rfl rfl rfl ?hy21 ?_
          case hy21 => exact Yl.move rfl rfl
          refine' TL.y rfl rfl rfl ?hy22 ?_
          case hy22 => exact Yl.move rfl rfl
          refine' TL.y rfl rfl rfl ?hy23 ?_
          case hy23 => exact Yl.move rfl rfl
          refine' TL.y rfl rfl rfl ?hy24 ?_
          case hy24 => first | exact Yl.ixkn (k := 6) rfl rfl rfl Try.underlying44 (by kernel_rfl) (by omega) | exact Yl.ixkz (k := 6) rfl rfl rfl Try.underlying44 (by kernel_rfl) (by omega) (by omega)
          refine' TL.y rfl rfl rfl ?hy25 ?_
          case hy25 => first | exact Yl.field0 (k := 0) 1 rfl rfl Try.underlying28 rfl (by kernel_rfl) rfl | exact Yl.field (k := 0) 1 rfl rfl Try.underlying28 rfl (by kernel_rfl) rfl
          refine' TL.y rfl rfl rfl ?hy26 ?_
          case hy26 => exact Yl.load (v := .int .i64 (atG l (i)).f1) rfl rfl (by kernel_rfl) (Sl.rg (i := i) (j := 1) hS rfl (by omega) (by decide))
          refine' TL.y rfl rfl rfl ?hy27 ?_
          case hy27 => exact Yl.bin rfl rfl rfl (Bin.lss _ _ _ _)
          refine' TL.y rfl rfl rfl ?hy28 ?_
          case hy28 => exact Yl.pickT rfl rfl rfl
          refine TL.nil ?_
          refine TE.next ?_
          refine TC.cond rfl (fun hs32 => ?_) (fun hs32 => ?_)
          · skip
            (try simp only [nrm] at hs32)
            refine TC.seq ?_
            refine TC.region ?_
            refine' TL.y rfl rfl rfl ?hy29 ?_
            case hy29 => exact Yl.move rfl rfl
            refine' TL.y rfl rfl rfl ?hy30 ?_
            case hy30 => exact Yl.move rfl rfl
            refine' TL.y rfl rfl rfl ?hy31 ?_
            case hy31 => first | exact Yl.ixkn (k := 6) rfl rfl rfl Try.underlying44 (by kernel_rfl) (by omega) | exact Yl.ixkz (k := 6) rfl rfl rfl Try.underlying44 (by kernel_rfl) (by omega) (by omega)
            refine' TL.y rfl rfl rfl ?hy32 ?_
            case hy32 => exact Yl.loads (cs := [.int .i64 (atG l i).f0, .int .i64 (atG l i).f1, .int .i64 (atG l i).f2, .int .i64 (atG l i).f3, .int .i64 (atG l i).f4, .bool (atG l i).f5]) rfl rfl (by kernel_rfl) (by kernel_rfl) (Sl.rgs hS (i := i) (by omega))
            refine' TL.s rfl rfl ?hy33 ?_
            case hy33 => exact Ys.store (seg := [.int .i64 (atG l i).f0, .int .i64 (atG l i).f1, .int .i64 (atG l i).f2, .int .i64 (atG l i).f3, .int .i64 (atG l i).f4, .bool (atG l i).f5]) (c' := #[.int .i64 (atG l i).f0, .int .i64 (atG l i).f1, .int .i64 (atG l i).f2, .int .i64 (atG l i).f3, .int .i64 (atG l i).f4, .bool (atG l i).f5]) rfl rfl rfl (by simp [Value.cells]) (by kernel_rfl) (by simp [Value.oneCell']) foc0 (by simp [Value.cells]) (by kernel_rfl)
            refine' TL.y rfl rfl rfl ?hy34 ?_
            case hy34 => exact Yl.assign rfl rfl
            refine TL.nil ?_
            refine TE.next ?_
            refine TC.ret ?_
            refine TE.inRet ?_
            refine TE.thenRet ?_
            refine TE.thenRet ?_
            refine TE.inRet ?_
            refine TE.thenRet ?_
            have hb := fnd_at (n := n) hrt (show i < l.length by omega) ((inB_iff _ _).2 ⟨by omega, by omega⟩) hF
            refine TE.retCAT [.int .i64 (atG l i).f0, .int .i64 (atG l i).f1, .int .i64 (atG l i).f2, .int .i64 (atG l i).f3, .int .i64 (atG l i).f4, .bool (atG l i).f5] rfl rfl rfl (by kernel_rfl) (by kernel_rfl) (Hp.cells mem0 (fun j v hj => by simpa [Value.cells] using hj)) ?_
            exact fun w h => ⟨by rw [hb]; rfl, (h.sub (List.nil_sublist _)).below⟩
          · skip
            (try simp only [nrm] at hs32)
            refine TC.skip ?_
            refine TE.inNormal ?_
            refine TE.next ?_
            refine TC.region ?_
            refine' TL.y rfl rfl rfl ?hy35 ?_
            case hy35 => exact Yl.move rfl rfl
            refine' TL.y rfl rfl rfl ?hy36 ?_
            case hy36 => first | (refine Yl.val (Yl.bin rfl rfl rfl (Bin.add _ _ _ _)) (congrArg (Value.int .i64) (i64in ?_ ?_)) <;> omega) | exact Yl.bin rfl rfl rfl (Bin.add _ _ _ _)
            refine' TL.y rfl rfl rfl ?hy37 ?_
            case hy37 => exact Yl.assign rfl rfl
            refine TL.nil ?_
            refine TE.round (i + 1) ?hF38 ?hlt38 ?hs38 ?hm38
            case hF38 => exact ⟨by omega, fun j hj => by
              by_cases e : j = i
              · rw [e, Bool.eq_false_iff]; intro hx; rw [inB_iff] at hx; omega
              · exact hF j (by omega)⟩
            case hlt38 => omega
            case hs38 => exact ⟨rfl, rfl, rfl, rfl, trivial⟩
            case hm38 => exact fun _ h => h
        · skip
          (try simp only [nrm] at hs24)
          refine TL.skip rfl rfl rfl ?_
          refine TL.skip rfl rfl rfl ?_
          refine TL.skip rfl rfl rfl ?_
          refine TL.skip rfl rfl rfl ?_
          refine TL.skip rfl rfl rfl ?_
          refine TL.skip rfl rfl rfl ?_
          refine TL.skip rfl rfl rfl ?_
          refine' TL.y rfl rfl rfl ?hy39 ?_
          case hy39 => exact Yl.pickF rfl rfl rfl
          refine TL.nil ?_
          refine TE.next ?_
          refine TC.no rfl rfl ?_
          refine TC.skip ?_
          refine TE.inNormal ?_
          refine TE.next ?_
          refine TC.region ?_
          refine' TL.y rfl rfl rfl ?hy40 ?_
          case hy40 => exact Yl.move rfl rfl
          refine' TL.y rfl rfl rfl ?hy41 ?_
          case hy41 => first | (refine Yl.val (Yl.bin rfl rfl rfl (Bin.add _ _ _ _)) (congrArg (Value.int .i64) (i64in ?_ ?_)) <;> omega) | exact Yl.bin rfl rfl rfl (Bin.add _ _ _ _)
          refine' TL.y rfl rfl rfl ?hy42 ?_
          case hy42 => exact Yl.assign rfl rfl
          refine TL.nil ?_
          refine TE.round (i + 1) ?hF43 ?hlt43 ?hs43 ?hm43
          case hF43 => exact ⟨by omega, fun j hj => by
            by_cases e : j = i
            · rw [e, Bool.eq_false_iff]; intro hx; rw [inB_iff] at hx; omega
            · exact hF j (by omega)⟩
          case hlt43 => omega
          case hs43 => exact ⟨rfl, rfl, rfl, rfl, trivial⟩
          case hm43 => exact fun _ h => h
      · skip
        (try simp only [nrm] at hs14)
        refine TC.exit ?_
        refine TE.thenExit ?_
        refine TE.thenExit ?_
        refine TE.inHere ?_
        refine TE.next ?_
        refine TC.seq ?_
        refine TC.region ?_
        refine' TL.y rfl rfl rfl ?hy44 ?_
        case hy44 => exact Yl.build (z := .agg #[.int .i64 0, .int .i64 0, .int .i64 0, .int .i64 0, .int .i64 0, .bool false]) [(0, 1), (1, 1), (2, 1), (3, 1), (4, 1), (5, 1)] rfl (by kernel_rfl) Try.underlying28 (by kernel_rfl) rfl rfl
        refine' TL.s rfl rfl ?hy45 ?_
        case hy45 => exact Ys.store (seg := [.int .i64 0, .int .i64 0, .int .i64 0, .int .i64 0, .int .i64 0, .bool false]) (c' := #[.int .i64 0, .int .i64 0, .int .i64 0, .int .i64 0, .int .i64 0, .bool false]) rfl rfl rfl (by simp [Value.cells]) (by kernel_rfl) (by simp [Value.oneCell']) foc0 (by simp [Value.cells]) (by kernel_rfl)
        refine' TL.y rfl rfl rfl ?hy46 ?_
        case hy46 => exact Yl.assign rfl rfl
        refine TL.nil ?_
        refine TE.next ?_
        refine TC.ret ?_
        have hb := fnd_bad (n := n) (show rightB l = false by simpa using hs14)
        refine TE.retCAT [.int .i64 0, .int .i64 0, .int .i64 0, .int .i64 0, .int .i64 0, .bool false] rfl rfl rfl (by kernel_rfl) (by kernel_rfl) (Hp.cells mem0 (fun j v hj => by simpa [Value.cells] using hj)) ?_
        exact fun w h => ⟨by rw [hb]; rfl, (h.sub (List.nil_sublist _)).below⟩
    · skip
      (try simp only [nrm] at hs11)
      refine TL.skip rfl rfl rfl ?_
      refine TL.skip rfl rfl rfl ?_
      refine' TL.y rfl rfl rfl ?hy47 ?_
      case hy47 => exact Yl.pickF rfl rfl rfl
      refine TL.nil ?_
      refine TE.next ?_
      refine TC.no rfl rfl ?_
      refine TC.exit ?_
      refine TE.thenExit ?_
      refine TE.thenExit ?_
      refine TE.inHere ?_
      refine TE.next ?_
      refine TC.seq ?_
      refine TC.region ?_
      refine' TL.y rfl rfl rfl ?hy48 ?_
      case hy48 => exact Yl.build (z := .agg #[.int .i64 0, .int .i64 0, .int .i64 0, .int .i64 0, .int .i64 0, .bool false]) [(0, 1), (1, 1), (2, 1), (3, 1), (4, 1), (5, 1)] rfl (by kernel_rfl) Try.underlying28 (by kernel_rfl) rfl rfl
      refine' TL.s rfl rfl ?hy49 ?_
      case hy49 => exact Ys.store (seg := [.int .i64 0, .int .i64 0, .int .i64 0, .int .i64 0, .int .i64 0, .bool false]) (c' := #[.int .i64 0, .int .i64 0, .int .i64 0, .int .i64 0, .int .i64 0, .bool false]) rfl rfl rfl (by simp [Value.cells]) (by kernel_rfl) (by simp [Value.oneCell']) foc0 (by simp [Value.cells]) (by kernel_rfl)
      refine' TL.y rfl rfl rfl ?hy50 ?_
      case hy50 => exact Yl.assign rfl rfl
      refine TL.nil ?_
      refine TE.next ?_
      refine TC.ret ?_
      obtain rfl : i = l.length := by omega
      have hb := fnd_end hF
      refine TE.retCAT [.int .i64 0, .int .i64 0, .int .i64 0, .int .i64 0, .int .i64 0, .bool false] rfl rfl rfl (by kernel_rfl) (by kernel_rfl) (Hp.cells mem0 (fun j v hj => by simpa [Value.cells] using hj)) ?_
      exact fun w h => ⟨by rw [hb]; rfl, (h.sub (List.nil_sublist _)).below⟩
set_option maxRecDepth 100000 in
set_option maxHeartbeats 2000000 in
theorem k_rsame (W : World) {l : List S25} {A : Option Addr} {cp : Nat} (hS : Sl W A (Rw l)) (hm : l.length ≤ 100000) {l2 : List S25} {B : Option Addr} {cq : Nat} (hS2 : Sl W B (Rw l2)) : Calls Try.prog 31 #[.slice A l.length cp, .slice B l2.length cq] W fun e w' => e = .returned (.bool (decide (l = l2))) ∧ Below W.heap.size W w' := by
  have hM : Hp W (fun _ => False) [] W := Hp.start
  refine TC.enter (n := 26) Try.func31 rfl rfl rfl hM ?_
  refine TC.seq ?_
  refine TC.region ?_
  refine' TL.y rfl rfl rfl ?hy1 ?_
  case hy1 => exact Yl.assign rfl rfl
  refine TL.nil ?_
  refine TE.next ?_
  refine TC.seq ?_
  refine TC.seq ?_
  refine TC.region ?_
  refine' TL.y rfl rfl rfl ?hy2 ?_
  case hy2 => exact Yl.move rfl rfl
  refine' TL.y rfl rfl rfl ?hy3 ?_
  case hy3 => exact Yl.len rfl rfl Try.underlying44
  refine' TL.y rfl rfl rfl ?hy4 ?_
  case hy4 => exact Yl.move rfl rfl
  refine' TL.y rfl rfl rfl ?hy5 ?_
  case hy5 => exact Yl.len rfl rfl Try.underlying44
  refine' TL.y rfl rfl rfl ?hy6 ?_
  case hy6 => exact Yl.bin rfl rfl rfl (Bin.neq _ _ _ _)
  refine TL.nil ?_
  refine TE.next ?_
  refine TC.cond rfl (fun hs10 => ?_) (fun hs10 => ?_)
  · skip
    (try simp only [nrm] at hs10)
    refine TC.seq ?_
    refine TC.region ?_
    refine' TL.y rfl rfl rfl ?hy7 ?_
    case hy7 => exact Yl.assign rfl rfl
    refine TL.nil ?_
    refine TE.next ?_
    refine TC.ret ?_
    refine TE.thenRet ?_
    refine TE.ret1 rfl rfl ?_
    exact fun w h => ⟨by rw [decide_eq_false (fun e => by rw [e] at hs10; omega)], h.below⟩
  · skip
    (try simp only [nrm] at hs10)
    refine TC.skip ?_
    refine TE.next ?_
    refine TC.seq ?_
    refine TC.seq ?_
    refine TC.region ?_
    refine' TL.y rfl rfl rfl ?hy8 ?_
    case hy8 => exact Yl.assign rfl rfl
    refine TL.nil ?_
    refine TE.next ?_
    refine TC.block ?_
    refine TC.loop (σ := Nat) (fun i => [(0, .slice A l.length cp), (1, .slice B l2.length cq), (5, .int .i64 (i : Int))]) (fun i => Hp W (fun _ => False) []) (fun i => i ≤ l.length ∧ l.take i = l2.take i) (fun i => l.length - i) 0 ?hF9 ?hs9 ?hm9 ?round9
    case hF9 => exact ⟨Nat.zero_le _, rfl⟩
    case hs9 => exact ⟨rfl, rfl, rfl, trivial⟩
    case hm9 => exact fun _ h => h
    case round9 =>
      rintro i ⟨hi, hF⟩
      refine TC.seq ?_
      refine TC.seq ?_
      refine TC.region ?_
      refine' TL.y rfl rfl rfl ?hy10 ?_
      case hy10 => exact Yl.move rfl rfl
      refine' TL.y rfl rfl rfl ?hy11 ?_
      case hy11 => exact Yl.move rfl rfl
      refine' TL.y rfl rfl rfl ?hy12 ?_
      case hy12 => exact Yl.len rfl rfl Try.underlying44
      refine' TL.y rfl rfl rfl ?hy13 ?_
      case hy13 => exact Yl.bin rfl rfl rfl (Bin.lss _ _ _ _)
      refine TL.nil ?_
      refine TE.next ?_
      refine TC.cond rfl (fun hs14 => ?_) (fun hs14 => ?_)
      · skip
        (try simp only [nrm] at hs14)
        obtain ⟨b, o, rfl⟩ := Sl.some2 hS (by rw [Rw_length]; omega)
        obtain ⟨b2, o2, rfl⟩ := Sl.some2 hS2 (by rw [Rw_length]; omega)
        refine TC.skip ?_
        refine TE.next ?_
        refine TC.seq ?_
        refine TC.block ?_
        refine TC.seq ?_
        refine TC.draw (k := 9) (Hp W (fun _ => False) []) [] #[false, false, false, false, false, false, false, false, false] (by kernel_rfl) rfl rfl (fun _ h => h.drew) (fun _ h => by exact Hp.sub h (by repeat (first | exact sR _ | exact sN _ | apply sK | apply sC))) ?_
        refine' TA.y (i := 0) #[true, false, false, false, false, false, false, false, false] rfl rfl rfl (by kernel_rfl) (fun _ _ _ h => h) (fun _ h => by exact Hp.sub h (by repeat (first | exact sR _ | exact sN _ | apply sK | apply sC))) rfl ?hy14 ?_
        case hy14 => exact Yl.move rfl rfl
        refine' TA.y (i := 1) #[true, true, false, false, false, false, false, false, false] rfl rfl rfl (by kernel_rfl) (fun _ _ _ h => h) (fun _ h => by exact Hp.sub h (by repeat (first | exact sR _ | exact sN _ | apply sK | apply sC))) rfl ?hy15 ?_
        case hy15 => exact Yl.move rfl rfl
        refine' TA.y (i := 2) #[true, true, true, false, false, false, false, false, false] rfl rfl rfl (by kernel_rfl) (fun _ _ _ h => h) (fun _ h => by exact Hp.sub h (by repeat (first | exact sR _ | exact sN _ | apply sK | apply sC))) rfl ?hy16 ?_
        case hy16 => first | exact Yl.ixkn (k := 6) rfl rfl rfl Try.underlying44 (by kernel_rfl) (by omega) | exact Yl.ixkz (k := 6) rfl rfl rfl Try.underlying44 (by kernel_rfl) (by omega) (by omega)
        refine' TA.y (i := 3) #[true, true, true, true, false, false, false, false, false] rfl rfl rfl (by kernel_rfl) (fun _ _ _ h => h) (fun _ h => by exact Hp.sub h (by repeat (first | exact sR _ | exact sN _ | apply sK | apply sC))) rfl ?hy17 ?_
        case hy17 => exact Yl.loads (cs := [.int .i64 (atG l i).f0, .int .i64 (atG l i).f1, .int .i64 (atG l i).f2, .int .i64 (atG l i).f3, .int .i64 (atG l i).f4, .bool (atG l i).f5]) rfl rfl (by kernel_rfl) (by kernel_rfl) (Sl.rgs hS (i := i) (by omega))
        refine' TA.y (i := 4) #[true, true, true, true, true, false, false, false, false] rfl rfl rfl (by kernel_rfl) (fun _ _ _ h => h) (fun _ h => by exact Hp.sub h (by repeat (first | exact sR _ | exact sN _ | apply sK | apply sC))) rfl ?hy18 ?_
        case hy18 => exact Yl.move rfl rfl
        refine' TA.y (i := 5) #[true, true, true, true, true, true, false, false, false] rfl rfl rfl (by kernel_rfl) (fun _ _ _ h => h) (fun _ h => by exact Hp.sub h (by repeat (first | exact sR _ | exact sN _ | apply sK | apply sC))) rfl ?hy19 ?_
        case hy19 => exact Yl.move rfl rfl
        refine' TA.y (i := 6) #[true, true, true, true, true, true, true, false, false] rfl rfl rfl (by kernel_rfl) (fun _ _ _ h => h) (fun _ h => by exact Hp.sub h (by repeat (first | exact sR _ | exact sN _ | apply sK | apply sC))) rfl ?hy20 ?_
        case hy20 => first | exact Yl.ixkn (k := 6) rfl rfl rfl Try.underlying44 (by kernel_rfl) (by omega) | exact Yl.ixkz (k := 6) rfl rfl rfl Try.underlying44 (by kernel_rfl) (by omega) (by omega)
        refine' TA.y (i := 7) #[true, true, true, true, true, true, true, true, false] rfl rfl rfl (by kernel_rfl) (fun _ _ _ h => h) (fun _ h => by exact Hp.sub h (by repeat (first | exact sR _ | exact sN _ | apply sK | apply sC))) rfl ?hy21 ?_
        case hy21 => exact Yl.loads (cs := [.int .i64 (atG l2 i).f0, .int .i64 (atG l2 i).f1, .int .i64 (atG l2 i).f2, .int .i64 (atG l2 i).f3, .int .i64 (atG l2 i).f4, .bool (atG l2 i).f5]) rfl rfl (by kernel_rfl) (by kernel_rfl) (Sl.rgs hS2 (i := i) (by omega))
        refine' TA.y (i := 8) #[true, true, true, true, true, true, true, true, true] rfl rfl rfl (by kernel_rfl) (fun _ _ _ h => h) (fun _ h => by exact Hp.sub h (by repeat (first | exact sR _ | exact sN _ | apply sK | apply sC))) rfl ?hy22 ?_
        case hy22 => exact Yl.bin rfl rfl rfl (Bin.neqG _ _ _ _ _ _ _ _ _ _ _ _)
        refine TA.done (by kernel_rfl) ?_
        refine TE.next ?_
        refine TC.cond rfl (fun hs25 => ?_) (fun hs25 => ?_)
        · skip
          (try simp only [nrm] at hs25)
          refine TC.seq ?_
          refine TC.region ?_
          refine' TL.y rfl rfl rfl ?hy23 ?_
          case hy23 => exact Yl.assign rfl rfl
          refine TL.nil ?_
          refine TE.next ?_
          refine TC.ret ?_
          refine TE.inRet ?_
          refine TE.thenRet ?_
          refine TE.thenRet ?_
          refine TE.inRet ?_
          refine TE.thenRet ?_
          refine TE.ret1 rfl rfl ?_
          have hne : ¬ l = l2 := fun e => by
            rw [← e] at hs25
            simp at hs25
          exact fun w h => ⟨by rw [decide_eq_false hne], h.below⟩
        · skip
          (try simp only [nrm] at hs25)
          refine TC.skip ?_
          refine TE.inNormal ?_
          refine TE.next ?_
          refine TC.region ?_
          refine' TL.y rfl rfl rfl ?hy24 ?_
          case hy24 => exact Yl.move rfl rfl
          refine' TL.y rfl rfl rfl ?hy25 ?_
          case hy25 => first | (refine Yl.val (Yl.bin rfl rfl rfl (Bin.add _ _ _ _)) (congrArg (Value.int .i64) (i64in ?_ ?_)) <;> omega) | exact Yl.bin rfl rfl rfl (Bin.add _ _ _ _)
          refine' TL.y rfl rfl rfl ?hy26 ?_
          case hy26 => exact Yl.assign rfl rfl
          refine TL.nil ?_
          refine TE.round (i + 1) ?hF27 ?hlt27 ?hs27 ?hm27
          case hF27 => exact ⟨by omega, by rw [atG_take (by omega), atG_take (l := l2) (by omega), hF, (eqG_iff (atG l i) (atG l2 i)).1 (by simpa using hs25)]⟩
          case hlt27 => omega
          case hs27 => exact ⟨rfl, rfl, rfl, trivial⟩
          case hm27 => exact fun _ h => h
      · skip
        (try simp only [nrm] at hs14)
        refine TC.exit ?_
        refine TE.thenExit ?_
        refine TE.thenExit ?_
        refine TE.inHere ?_
        refine TE.next ?_
        refine TC.seq ?_
        refine TC.region ?_
        refine' TL.y rfl rfl rfl ?hy28 ?_
        case hy28 => exact Yl.assign rfl rfl
        refine TL.nil ?_
        refine TE.next ?_
        refine TC.ret ?_
        refine TE.ret1 rfl rfl ?_
        have he : l = l2 := by
          rw [List.take_of_length_le (by omega), List.take_of_length_le (by omega)] at hF; exact hF
        exact fun w h => ⟨by rw [decide_eq_true he], h.below⟩
end Go.Proofs.Ytabjdjkkpbkpfaa.Pk
