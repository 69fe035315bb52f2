/- The document's regions: one more, without pages. -/
import Derived.Test.YtabjdjkkpbkpfaaSrC
import Derived.Test.YtabjdjkkpbkpfaaProg
import Derived.RowKit3
namespace Go.Proofs.Ytabjdjkkpbkpfaa.Pk
open Go Go.RowKit Go.Proofs.Ytabjdjkkpbkpfaa.HL Go.Proofs.Ytabjdjkkpbkpfaa.Ev Go.Proofs.YtabjdjkkpbkpfaaW.PrintWords Go.Proofs.RgP
set_option linter.unusedVariables false
set_option linter.unusedSimpArgs false
theorem all_at {P : S25 → Bool} {l : List S25} (h : ∀ j, j < l.length → P (atG l j) = false) : ∀ y ∈ l, P y = false := fun y hy => by
  obtain ⟨j, hj⟩ := List.getElem?_of_mem hy
  have hl := (List.getElem?_eq_some_iff.1 hj).1
  have h2 := atG_get hl
  rw [hj] at h2
  rw [Option.some.inj h2]; exact h j hl
theorem rowG_snoc2 (v : Value) (a : List S25) (x y : S25) : ownR 28 6 v (a.length + 1 + 1) (Rw a ++ [.int .i64 (x).f0, .int .i64 (x).f1, .int .i64 (x).f2, .int .i64 (x).f3, .int .i64 (x).f4, .bool (x).f5] ++ [.int .i64 (y).f0, .int .i64 (y).f1, .int .i64 (y).f2, .int .i64 (y).f3, .int .i64 (y).f4, .bool (y).f5]) = rowG v (a ++ [x] ++ [y]) := by
  have := rowG_snoc v (a ++ [x]) y
  rw [Rw_app, Rw_one, List.length_append, List.length_singleton] at this
  exact this
attribute [local irreducible] Rw atG
theorem k_rpart' (W : World) {x y : S25} (hg : GoodG x) {a c : Int} (hy : partS x a c = y) (ha : x.f0 ≤ a) (hb : a ≤ 65536) : Calls Try.prog 81 #[.agg #[.int .i64 (x).f0, .int .i64 (x).f1, .int .i64 (x).f2, .int .i64 (x).f3, .int .i64 (x).f4, .bool (x).f5], .int .i64 a, .int .i64 c] W fun e w' => e = .returned (.agg #[.int .i64 (y).f0, .int .i64 (y).f1, .int .i64 (y).f2, .int .i64 (y).f3, .int .i64 (y).f4, .bool (y).f5]) ∧ Below W.heap.size W w' := by subst hy; exact k_rpartG W hg ha hb
set_option maxRecDepth 100000 in
set_option maxHeartbeats 2000000 in
theorem k_radd (W : World) {l : List S25} {A : Option Addr} {cp : Nat} (hS : Sl W A (Rw l)) (hm : l.length ≤ 100000) (x : S25) : Calls Try.prog 50 #[.slice A l.length cp, .agg #[.int .i64 (x).f0, .int .i64 (x).f1, .int .i64 (x).f2, .int .i64 (x).f3, .int .i64 (x).f4, .bool (x).f5]] W fun e w' => ∃ v : Value, e = .returned (.tuple #[v, .int .i64 (addL l x).2]) ∧ (rowG v (addL l x).1).holds w' ∧ Below W.heap.size W w' ∧ ∀ k, (rowG v (addL l x).1).foot k → W.heap.size ≤ k := by
  have hM : Hp W (fun _ => False) [] W := Hp.start
  refine TC.enter (n := 76) Try.func50 rfl rfl rfl hM ?_
  refine TC.seq ?_
  refine TC.region ?_
  refine' TL.mx rfl rfl rfl ?hy1 ?_
  case hy1 => exact Ym.box rfl rfl
  intro b3
  refine' TL.y rfl rfl rfl ?hy2 ?_
  case hy2 => exact Yl.assign rfl rfl
  refine' TL.y rfl rfl rfl ?hy3 ?_
  case hy3 => exact Yl.assign rfl rfl
  refine TL.nil ?_
  refine TE.next ?_
  refine TC.seq ?_
  refine TC.seq ?_
  refine TC.region ?_
  refine' TL.y rfl rfl rfl ?hy4 ?_
  case hy4 => exact Yl.move rfl rfl
  refine' TL.c rfl rfl rfl ?hy5 ?_
  case hy5 => exact Yc.call rfl Try.func61 (by kernel_rfl) rfl rfl (Hp.calls (fun w h => k_rrightG w (hS.below h.below) hm))
  intro _
  refine' TL.y rfl rfl rfl ?hy6 ?_
  case hy6 => exact Yl.not rfl rfl
  refine' TL.y rfl rfl rfl ?hy7 ?_
  case hy7 => exact Yl.move rfl rfl
  refine TL.split (i := 12) rfl (fun hs12 => ?_) (fun hs12 => ?_)
  · skip
    (try simp only [nrm] at hs12)
    refine TL.skip rfl rfl rfl ?_
    refine TL.skip rfl rfl rfl ?_
    refine TL.skip rfl rfl rfl ?_
    refine' TL.y rfl rfl rfl ?hy8 ?_
    case hy8 => exact Yl.pickT rfl rfl rfl
    refine' TL.y rfl rfl rfl ?hy9 ?_
    case hy9 => exact Yl.move rfl rfl
    refine TL.skip rfl rfl rfl ?_
    refine TL.skip rfl rfl rfl ?_
    refine TL.skip rfl rfl rfl ?_
    refine' TL.y rfl rfl rfl ?hy10 ?_
    case hy10 => exact Yl.pickT rfl rfl rfl
    refine TL.nil ?_
    refine TE.next ?_
    refine TC.yes rfl rfl ?_
    refine TC.seq ?_
    refine TC.region ?_
    refine' TL.y rfl rfl rfl ?hy11 ?_
    case hy11 => exact Yl.assign rfl rfl
    refine' TL.y rfl rfl rfl ?hy12 ?_
    case hy12 => exact Yl.assign rfl rfl
    refine TL.nil ?_
    refine TE.next ?_
    refine TC.ret ?_
    refine TE.thenRet ?_
    refine TE.ret2 rfl rfl rfl ?_
    have hb : addL l x = ([], 1) := if_neg (by rintro ⟨h1, h2, h3⟩; rw [h1] at hs12; simp at hs12)
    exact fun w h => ⟨.slice none 0 0, by rw [hb], by rw [hb]; exact (rowG_nil (h.sub (List.nil_sublist _))).leaveNew⟩
  · skip
    (try simp only [nrm] at hs12)
    refine' TL.y rfl rfl rfl ?hy13 ?_
    case hy13 => exact Yl.loads (cs := [.int .i64 (x).f0, .int .i64 (x).f1, .int .i64 (x).f2, .int .i64 (x).f3, .int .i64 (x).f4, .bool (x).f5]) rfl rfl (by kernel_rfl) (by kernel_rfl) (Hp.cells mem0 (fun j v hj => by simpa [Value.cells] using hj))
    refine' TL.c rfl rfl rfl ?hy14 ?_
    case hy14 => exact Yc.call rfl Try.func80 (by kernel_rfl) rfl rfl (Hp.calls (fun w h => k_rvalid w x))
    intro _
    refine' TL.y rfl rfl rfl ?hy15 ?_
    case hy15 => exact Yl.not rfl rfl
    refine' TL.y rfl rfl rfl ?hy16 ?_
    case hy16 => exact Yl.pickF rfl rfl rfl
    refine' TL.y rfl rfl rfl ?hy17 ?_
    case hy17 => exact Yl.move rfl rfl
    refine TL.split (i := 17) rfl (fun hs17 => ?_) (fun hs17 => ?_)
    · skip
      (try simp only [nrm] at hs17)
      refine TL.skip rfl rfl rfl ?_
      refine TL.skip rfl rfl rfl ?_
      refine TL.skip rfl rfl rfl ?_
      refine' TL.y rfl rfl rfl ?hy18 ?_
      case hy18 => exact Yl.pickT rfl rfl rfl
      refine TL.nil ?_
      refine TE.next ?_
      refine TC.yes rfl rfl ?_
      refine TC.seq ?_
      refine TC.region ?_
      refine' TL.y rfl rfl rfl ?hy19 ?_
      case hy19 => exact Yl.assign rfl rfl
      refine' TL.y rfl rfl rfl ?hy20 ?_
      case hy20 => exact Yl.assign rfl rfl
      refine TL.nil ?_
      refine TE.next ?_
      refine TC.ret ?_
      refine TE.thenRet ?_
      refine TE.ret2 rfl rfl rfl ?_
      have hb : addL l x = ([], 1) := if_neg (by rintro ⟨h1, h2, h3⟩; rw [h2] at hs17; simp at hs17)
      exact fun w h => ⟨.slice none 0 0, by rw [hb], by rw [hb]; exact (rowG_nil (h.sub (List.nil_sublist _))).leaveNew⟩
    · skip
      (try simp only [nrm] at hs17)
      refine' TL.y rfl rfl rfl ?hy21 ?_
      case hy21 => exact Yl.move rfl rfl
      refine' TL.y rfl rfl rfl ?hy22 ?_
      case hy22 => exact Yl.len rfl rfl Try.underlying44
      refine' TL.y rfl rfl rfl ?hy23 ?_
      case hy23 => exact Yl.bin rfl rfl rfl (Bin.geq _ _ _ _)
      refine' TL.y rfl rfl rfl ?hy24 ?_
      case hy24 => exact Yl.pickF rfl rfl rfl
      refine TL.nil ?_
      refine TE.next ?_
      refine TC.cond rfl (fun hs21 => ?_) (fun hs21 => ?_)
      · skip
        (try simp only [nrm] at hs21)
        refine TC.seq ?_
        refine TC.region ?_
        refine' TL.y rfl rfl rfl ?hy25 ?_
        case hy25 => exact Yl.assign rfl rfl
        refine' TL.y rfl rfl rfl ?hy26 ?_
        case hy26 => exact Yl.assign rfl rfl
        refine TL.nil ?_
        refine TE.next ?_
        refine TC.ret ?_
        refine TE.thenRet ?_
        refine TE.ret2 rfl rfl rfl ?_
        have hb : addL l x = ([], 1) := if_neg (by rintro ⟨h1, h2, h3⟩; omega)
        exact fun w h => ⟨.slice none 0 0, by rw [hb], by rw [hb]; exact (rowG_nil (h.sub (List.nil_sublist _))).leaveNew⟩
      · skip
        (try simp only [nrm] at hs21)
        have hrt : rightB l = true := by simpa using hs12
        have hva : validB x = true := by simpa using hs17
        have hl64 : l.length < 64 := by omega
        have hok : rightB l = true ∧ validB x = true ∧ l.length < 64 := ⟨hrt, hva, hl64⟩
        refine TC.skip ?_
        refine TE.next ?_
        refine TC.seq ?_
        refine TC.region ?_
        refine' TL.y rfl rfl rfl ?hy27 ?_
        case hy27 => exact Yl.assign rfl rfl
        refine TL.nil ?_
        refine TE.next ?_
        refine TC.seq ?_
        refine TC.region ?_
        refine' TL.y rfl rfl rfl ?hy28 ?_
        case hy28 => exact Yl.assign rfl rfl
        refine TL.nil ?_
        refine TE.next ?_
        refine TC.seq ?_
        refine TC.seq ?_
        refine TC.region ?_
        refine' TL.y rfl rfl rfl ?hy29 ?_
        case hy29 => exact Yl.assign rfl rfl
        refine TL.nil ?_
        refine TE.next ?_
        refine TC.block ?_
        refine TC.loop (σ := Nat × Value) (fun s => [(0, .slice A l.length cp), (3, .pointer (some ⟨b3, 0, none⟩)), (6, s.2), (7, .bool (plB x (l.take s.1))), (8, .int .i64 (s.1 : Int))]) (fun s => Hp W (fun _ => False) [rowG s.2 (radL x (l.take s.1)), blk b3 (.cells #[.int .i64 (x).f0, .int .i64 (x).f1, .int .i64 (x).f2, .int .i64 (x).f3, .int .i64 (x).f4, .bool (x).f5] 28 (0, 0))]) (fun s => s.1 ≤ l.length ∧ ∀ j, j < s.1 → ovB x (atG l j) = false) (fun s => l.length - s.1) (0, .slice none 0 0) ?hF30 ?hs30 ?hm30 ?round30
        case hF30 => exact ⟨Nat.zero_le _, fun j hj => by dsimp only at hj; omega⟩
        case hs30 => exact ⟨rfl, rfl, rfl, congrArg (fun b => some (Value.bool b)) (by rw [List.take_zero]; rfl), rfl, trivial⟩
        case hm30 => exact fun w h => by dsimp only; rw [List.take_zero, show radL x [] = [] from rfl]; exact rowG_nil h
        case round30 =>
          rintro ⟨i, v⟩ ⟨hi, hF⟩
          dsimp only at hi hF ⊢
          have hrl := rad_len x (l.take i)
          rw [List.length_take] at hrl
          refine TC.seq ?_
          refine TC.seq ?_
          refine TC.region ?_
          refine' TL.y rfl rfl rfl ?hy31 ?_
          case hy31 => exact Yl.move rfl rfl
          refine' TL.y rfl rfl rfl ?hy32 ?_
          case hy32 => exact Yl.move rfl rfl
          refine' TL.y rfl rfl rfl ?hy33 ?_
          case hy33 => exact Yl.len rfl rfl Try.underlying44
          refine' TL.y rfl rfl rfl ?hy34 ?_
          case hy34 => exact Yl.bin rfl rfl rfl (Bin.lss _ _ _ _)
          refine TL.nil ?_
          refine TE.next ?_
          refine TC.cond rfl (fun hs25 => ?_) (fun hs25 => ?_)
          · skip
            (try simp only [nrm] at hs25)
            obtain ⟨b, o, rfl⟩ := Sl.some2 hS (by rw [Rw_length]; omega)
            refine TC.skip ?_
            refine TE.next ?_
            refine TC.seq ?_
            refine TC.block ?_
            refine TC.seq ?_
            refine TC.seq ?_
            refine TC.draw (k := 18) (Hp W (fun _ => False) [blk b3 (.cells #[.int .i64 (x).f0, .int .i64 (x).f1, .int .i64 (x).f2, .int .i64 (x).f3, .int .i64 (x).f4, .bool (x).f5] 28 (0, 0))]) [] #[false, false, false, false, false, false, false, false, false, false, false, false, false, false, false, false, false, false] (by kernel_rfl) rfl rfl (fun _ h => h.drew) (fun _ h => by exact Hp.sub h (by repeat (first | exact sR _ | exact sN _ | apply sK | apply sC))) ?_
            refine' TA.y (i := 0) #[true, false, false, false, false, false, false, false, false, false, false, false, false, false, false, false, false, false] rfl rfl rfl (by kernel_rfl) (fun _ _ _ h => h) (fun _ h => by exact Hp.sub h (by repeat (first | exact sR _ | exact sN _ | apply sK | apply sC))) rfl ?hy35 ?_
            case hy35 => exact Yl.move rfl rfl
            refine' TA.y (i := 1) #[true, true, false, false, false, false, false, false, false, false, false, false, false, false, false, false, false, false] rfl rfl rfl (by kernel_rfl) (fun _ _ _ h => h) (fun _ h => by exact Hp.sub h (by repeat (first | exact sR _ | exact sN _ | apply sK | apply sC))) rfl ?hy36 ?_
            case hy36 => exact Yl.move rfl rfl
            refine' TA.y (i := 2) #[true, true, true, false, false, false, false, false, false, false, false, false, false, false, false, false, false, false] rfl rfl rfl (by kernel_rfl) (fun _ _ _ h => h) (fun _ h => by exact Hp.sub h (by repeat (first | exact sR _ | exact sN _ | apply sK | apply sC))) rfl ?hy37 ?_
            case hy37 => first | exact Yl.ixkn (k := 6) rfl rfl rfl Try.underlying44 (by kernel_rfl) (by omega) | exact Yl.ixkz (k := 6) rfl rfl rfl Try.underlying44 (by kernel_rfl) (by omega) (by omega)
            refine' TA.y (i := 3) #[true, true, true, true, false, false, false, false, false, false, false, false, false, false, false, false, false, false] rfl rfl rfl (by kernel_rfl) (fun _ _ _ h => h) (fun _ h => by exact Hp.sub h (by repeat (first | exact sR _ | exact sN _ | apply sK | apply sC))) rfl ?hy38 ?_
            case hy38 => first | exact Yl.field0 (k := 0) 0 rfl rfl Try.underlying28 rfl (by kernel_rfl) rfl | exact Yl.field (k := 0) 0 rfl rfl Try.underlying28 rfl (by kernel_rfl) rfl
            refine' TA.y (i := 4) #[true, true, true, true, true, false, false, false, false, false, false, false, false, false, false, false, false, false] rfl rfl rfl (by kernel_rfl) (fun _ _ _ h => h) (fun _ h => by exact Hp.sub h (by repeat (first | exact sR _ | exact sN _ | apply sK | apply sC))) rfl ?hy39 ?_
            case hy39 => exact Yl.load (v := .int .i64 (atG l (i)).f0) rfl rfl (by kernel_rfl) (Sl.rg (i := i) (j := 0) hS rfl (by omega) (by decide))
            refine' TA.y (i := 5) #[true, true, true, true, true, true, false, false, false, false, false, false, false, false, false, false, false, false] rfl rfl rfl (by kernel_rfl) (fun _ _ _ h => h) (fun _ h => by exact Hp.sub h (by repeat (first | exact sR _ | exact sN _ | apply sK | apply sC))) rfl ?hy40 ?_
            case hy40 => first | exact Yl.field0 (k := 0) 1 rfl rfl Try.underlying28 rfl (by kernel_rfl) rfl | exact Yl.field (k := 0) 1 rfl rfl Try.underlying28 rfl (by kernel_rfl) rfl
            refine' TA.y (i := 6) #[true, true, true, true, true, true, true, false, false, false, false, false, false, false, false, false, false, false] rfl rfl rfl (by kernel_rfl) (fun _ _ _ h => h) (fun _ h => by exact Hp.sub h (by repeat (first | exact sR _ | exact sN _ | apply sK | apply sC))) rfl ?hy41 ?_
            case hy41 => exact Yl.load rfl rfl (by kernel_rfl) (by first | exact Hp.cell mem0 rfl | exact Hp.cell mem1 rfl | exact Hp.cell mem2 rfl | exact Hp.cell mem3 rfl | exact Hp.cell mem4 rfl | exact Hp.rowAt mem0 (by omega) rfl | exact Hp.rowAt mem1 (by omega) rfl | exact Hp.rowAt mem2 (by omega) rfl | exact Hp.rowAt mem3 (by omega) rfl | exact Hp.rowAt mem4 (by omega) rfl)
            refine' TA.y (i := 7) #[true, true, true, true, true, true, true, true, false, false, false, false, false, false, false, false, false, false] rfl rfl rfl (by kernel_rfl) (fun _ _ _ h => h) (fun _ h => by exact Hp.sub h (by repeat (first | exact sR _ | exact sN _ | apply sK | apply sC))) rfl ?hy42 ?_
            case hy42 => exact Yl.bin rfl rfl rfl (Bin.lss _ _ _ _)
            refine' TA.y (i := 8) #[true, true, true, true, true, true, true, true, true, false, false, false, false, false, false, false, false, false] rfl rfl rfl (by kernel_rfl) (fun _ _ _ h => h) (fun _ h => by exact Hp.sub h (by repeat (first | exact sR _ | exact sN _ | apply sK | apply sC))) rfl ?hy43 ?_
            case hy43 => exact Yl.move rfl rfl
            refine TA.split (i := 36) rfl (fun hs36 => ?_) (fun hs36 => ?_)
            · skip
              (try simp only [nrm] at hs36)
              refine' TA.y (i := 9) #[true, true, true, true, true, true, true, true, true, true, false, false, false, false, false, false, false, false] rfl rfl rfl (by kernel_rfl) (fun _ _ _ h => h) (fun _ h => by exact Hp.sub h (by repeat (first | exact sR _ | exact sN _ | apply sK | apply sC))) rfl ?hy44 ?_
              case hy44 => first | exact Yl.field0 (k := 0) 0 rfl rfl Try.underlying28 rfl (by kernel_rfl) rfl | exact Yl.field (k := 0) 0 rfl rfl Try.underlying28 rfl (by kernel_rfl) rfl
              refine' TA.y (i := 10) #[true, true, true, true, true, true, true, true, true, true, true, false, false, false, false, false, false, false] rfl rfl rfl (by kernel_rfl) (fun _ _ _ h => h) (fun _ h => by exact Hp.sub h (by repeat (first | exact sR _ | exact sN _ | apply sK | apply sC))) rfl ?hy45 ?_
              case hy45 => exact Yl.load rfl rfl (by kernel_rfl) (by first | exact Hp.cell mem0 rfl | exact Hp.cell mem1 rfl | exact Hp.cell mem2 rfl | exact Hp.cell mem3 rfl | exact Hp.cell mem4 rfl | exact Hp.rowAt mem0 (by omega) rfl | exact Hp.rowAt mem1 (by omega) rfl | exact Hp.rowAt mem2 (by omega) rfl | exact Hp.rowAt mem3 (by omega) rfl | exact Hp.rowAt mem4 (by omega) rfl)
              refine' TA.y (i := 11) #[true, true, true, true, true, true, true, true, true, true, true, true, false, false, false, false, false, false] rfl rfl rfl (by kernel_rfl) (fun _ _ _ h => h) (fun _ h => by exact Hp.sub h (by repeat (first | exact sR _ | exact sN _ | apply sK | apply sC))) rfl ?hy46 ?_
              case hy46 => exact Yl.move rfl rfl
              refine' TA.y (i := 12) #[true, true, true, true, true, true, true, true, true, true, true, true, true, false, false, false, false, false] rfl rfl rfl (by kernel_rfl) (fun _ _ _ h => h) (fun _ h => by exact Hp.sub h (by repeat (first | exact sR _ | exact sN _ | apply sK | apply sC))) rfl ?hy47 ?_
              case hy47 => exact Yl.move rfl rfl
              refine' TA.y (i := 13) #[true, true, true, true, true, true, true, true, true, true, true, true, true, true, false, false, false, false] rfl rfl rfl (by kernel_rfl) (fun _ _ _ h => h) (fun _ h => by exact Hp.sub h (by repeat (first | exact sR _ | exact sN _ | apply sK | apply sC))) rfl ?hy48 ?_
              case hy48 => first | exact Yl.ixkn (k := 6) rfl rfl rfl Try.underlying44 (by kernel_rfl) (by omega) | exact Yl.ixkz (k := 6) rfl rfl rfl Try.underlying44 (by kernel_rfl) (by omega) (by omega)
              refine' TA.y (i := 14) #[true, true, true, true, true, true, true, true, true, true, true, true, true, true, true, false, false, false] rfl rfl rfl (by kernel_rfl) (fun _ _ _ h => h) (fun _ h => by exact Hp.sub h (by repeat (first | exact sR _ | exact sN _ | apply sK | apply sC))) rfl ?hy49 ?_
              case hy49 => first | exact Yl.field0 (k := 0) 1 rfl rfl Try.underlying28 rfl (by kernel_rfl) rfl | exact Yl.field (k := 0) 1 rfl rfl Try.underlying28 rfl (by kernel_rfl) rfl
              refine' TA.y (i := 15) #[true, true, true, true, true, true, true, true, true, true, true, true, true, true, true, true, false, false] rfl rfl rfl (by kernel_rfl) (fun _ _ _ h => h) (fun _ h => by exact Hp.sub h (by repeat (first | exact sR _ | exact sN _ | apply sK | apply sC))) rfl ?hy50 ?_
              case hy50 => exact Yl.load (v := .int .i64 (atG l (i)).f1) rfl rfl (by kernel_rfl) (Sl.rg (i := i) (j := 1) hS rfl (by omega) (by decide))
              refine' TA.y (i := 16) #[true, true, true, true, true, true, true, true, true, true, true, true, true, true, true, true, true, false] rfl rfl rfl (by kernel_rfl) (fun _ _ _ h => h) (fun _ h => by exact Hp.sub h (by repeat (first | exact sR _ | exact sN _ | apply sK | apply sC))) rfl ?hy51 ?_
              case hy51 => exact Yl.bin rfl rfl rfl (Bin.lss _ _ _ _)
              refine' TA.y (i := 17) #[true, true, true, true, true, true, true, true, true, true, true, true, true, true, true, true, true, true] rfl rfl rfl (by kernel_rfl) (fun _ _ _ h => h) (fun _ h => by exact Hp.sub h (by repeat (first | exact sR _ | exact sN _ | apply sK | apply sC))) rfl ?hy52 ?_
              case hy52 => exact Yl.pickT rfl rfl rfl
              refine TA.done (by kernel_rfl) ?_
              refine TE.next ?_
              refine TC.cond rfl (fun hs45 => ?_) (fun hs45 => ?_)
              · skip
                (try simp only [nrm] at hs45)
                refine TC.seq ?_
                refine TC.region ?_
                refine' TL.y rfl rfl rfl ?hy53 ?_
                case hy53 => exact Yl.assign rfl rfl
                refine' TL.y rfl rfl rfl ?hy54 ?_
                case hy54 => exact Yl.assign rfl rfl
                refine TL.nil ?_
                refine TE.next ?_
                refine TC.ret ?_
                refine TE.thenRet ?_
                refine TE.inRet ?_
                refine TE.thenRet ?_
                refine TE.thenRet ?_
                refine TE.inRet ?_
                refine TE.thenRet ?_
                refine TE.ret2 rfl rfl rfl ?_
                have hb : addL l x = ([], 4) := by
                  unfold addL
                  rw [if_pos hok, if_pos]
                  rw [busy_ov hrt]
                  exact List.any_eq_true.2 ⟨atG l i, atG_mem (by omega), by simp [ovB]; omega⟩
                exact fun w h => ⟨.slice none 0 0, by rw [hb], by rw [hb]; exact (rowG_nil (h.sub (List.nil_sublist _))).leaveNew⟩
              · skip
                (try simp only [nrm] at hs45)
                refine TC.skip ?_
                refine TE.next ?_
                refine TC.seq ?_
                refine TC.seq ?_
                refine TC.draw (k := 12) (Hp W (fun _ => False) [blk b3 (.cells #[.int .i64 (x).f0, .int .i64 (x).f1, .int .i64 (x).f2, .int .i64 (x).f3, .int .i64 (x).f4, .bool (x).f5] 28 (0, 0))]) [] #[false, false, false, false, false, false, false, false, false, false, false, false] (by kernel_rfl) rfl rfl (fun _ h => h.drew) (fun _ h => by exact Hp.sub h (by repeat (first | exact sR _ | exact sN _ | apply sK | apply sC))) ?_
                refine' TA.y (i := 0) #[true, false, false, false, false, false, false, false, false, false, false, false] rfl rfl rfl (by kernel_rfl) (fun _ _ _ h => h) (fun _ h => by exact Hp.sub h (by repeat (first | exact sR _ | exact sN _ | apply sK | apply sC))) rfl ?hy55 ?_
                case hy55 => exact Yl.move rfl rfl
                refine' TA.y (i := 1) #[true, true, false, false, false, false, false, false, false, false, false, false] rfl rfl rfl (by kernel_rfl) (fun _ _ _ h => h) (fun _ h => by exact Hp.sub h (by repeat (first | exact sR _ | exact sN _ | apply sK | apply sC))) rfl ?hy56 ?_
                case hy56 => exact Yl.not rfl rfl
                refine' TA.y (i := 2) #[true, true, true, false, false, false, false, false, false, false, false, false] rfl rfl rfl (by kernel_rfl) (fun _ _ _ h => h) (fun _ h => by exact Hp.sub h (by repeat (first | exact sR _ | exact sN _ | apply sK | apply sC))) rfl ?hy57 ?_
                case hy57 => exact Yl.move rfl rfl
                refine TA.split (i := 48) rfl (fun hs48 => ?_) (fun hs48 => ?_)
                · skip
                  (try simp only [nrm] at hs48)
                  refine' TA.y (i := 3) #[true, true, true, true, false, false, false, false, false, false, false, false] rfl rfl rfl (by kernel_rfl) (fun _ _ _ h => h) (fun _ h => by exact Hp.sub h (by repeat (first | exact sR _ | exact sN _ | apply sK | apply sC))) rfl ?hy58 ?_
                  case hy58 => exact Yl.move rfl rfl
                  refine' TA.y (i := 4) #[true, true, true, true, true, false, false, false, false, false, false, false] rfl rfl rfl (by kernel_rfl) (fun _ _ _ h => h) (fun _ h => by exact Hp.sub h (by repeat (first | exact sR _ | exact sN _ | apply sK | apply sC))) rfl ?hy59 ?_
                  case hy59 => exact Yl.move rfl rfl
                  refine' TA.y (i := 5) #[true, true, true, true, true, true, false, false, false, false, false, false] rfl rfl rfl (by kernel_rfl) (fun _ _ _ h => h) (fun _ h => by exact Hp.sub h (by repeat (first | exact sR _ | exact sN _ | apply sK | apply sC))) rfl ?hy60 ?_
                  case hy60 => first | exact Yl.ixkn (k := 6) rfl rfl rfl Try.underlying44 (by kernel_rfl) (by omega) | exact Yl.ixkz (k := 6) rfl rfl rfl Try.underlying44 (by kernel_rfl) (by omega) (by omega)
                  refine' TA.y (i := 6) #[true, true, true, true, true, true, true, false, false, false, false, false] rfl rfl rfl (by kernel_rfl) (fun _ _ _ h => h) (fun _ h => by exact Hp.sub h (by repeat (first | exact sR _ | exact sN _ | apply sK | apply sC))) rfl ?hy61 ?_
                  case hy61 => first | exact Yl.field0 (k := 0) 0 rfl rfl Try.underlying28 rfl (by kernel_rfl) rfl | exact Yl.field (k := 0) 0 rfl rfl Try.underlying28 rfl (by kernel_rfl) rfl
                  refine' TA.y (i := 7) #[true, true, true, true, true, true, true, true, false, false, false, false] rfl rfl rfl (by kernel_rfl) (fun _ _ _ h => h) (fun _ h => by exact Hp.sub h (by repeat (first | exact sR _ | exact sN _ | apply sK | apply sC))) rfl ?hy62 ?_
                  case hy62 => exact Yl.load (v := .int .i64 (atG l (i)).f0) rfl rfl (by kernel_rfl) (Sl.rg (i := i) (j := 0) hS rfl (by omega) (by decide))
                  refine' TA.y (i := 8) #[true, true, true, true, true, true, true, true, true, false, false, false] rfl rfl rfl (by kernel_rfl) (fun _ _ _ h => h) (fun _ h => by exact Hp.sub h (by repeat (first | exact sR _ | exact sN _ | apply sK | apply sC))) rfl ?hy63 ?_
                  case hy63 => first | exact Yl.field0 (k := 0) 0 rfl rfl Try.underlying28 rfl (by kernel_rfl) rfl | exact Yl.field (k := 0) 0 rfl rfl Try.underlying28 rfl (by kernel_rfl) rfl
                  refine' TA.y (i := 9) #[true, true, true, true, true, true, true, true, true, true, false, false] rfl rfl rfl (by kernel_rfl) (fun _ _ _ h => h) (fun _ h => by exact Hp.sub h (by repeat (first | exact sR _ | exact sN _ | apply sK | apply sC))) rfl ?hy64 ?_
                  case hy64 => exact Yl.load rfl rfl (by kernel_rfl) (by first | exact Hp.cell mem0 rfl | exact Hp.cell mem1 rfl | exact Hp.cell mem2 rfl | exact Hp.cell mem3 rfl | exact Hp.cell mem4 rfl | exact Hp.rowAt mem0 (by omega) rfl | exact Hp.rowAt mem1 (by omega) rfl | exact Hp.rowAt mem2 (by omega) rfl | exact Hp.rowAt mem3 (by omega) rfl | exact Hp.rowAt mem4 (by omega) rfl)
                  refine' TA.y (i := 10) #[true, true, true, true, true, true, true, true, true, true, true, false] rfl rfl rfl (by kernel_rfl) (fun _ _ _ h => h) (fun _ h => by exact Hp.sub h (by repeat (first | exact sR _ | exact sN _ | apply sK | apply sC))) rfl ?hy65 ?_
                  case hy65 => exact Yl.bin rfl rfl rfl (Bin.gtr _ _ _ _)
                  refine' TA.y (i := 11) #[true, true, true, true, true, true, true, true, true, true, true, true] rfl rfl rfl (by kernel_rfl) (fun _ _ _ h => h) (fun _ h => by exact Hp.sub h (by repeat (first | exact sR _ | exact sN _ | apply sK | apply sC))) rfl ?hy66 ?_
                  case hy66 => exact Yl.pickT rfl rfl rfl
                  refine TA.done (by kernel_rfl) ?_
                  refine TE.next ?_
                  refine TC.cond rfl (fun hs57 => ?_) (fun hs57 => ?_)
                  · skip
                    (try simp only [nrm] at hs57)
                    refine TC.seq ?_
                    refine TC.region ?_
                    refine' TL.y rfl rfl rfl ?hy67 ?_
                    case hy67 => exact Yl.move rfl rfl
                    refine' TL.y rfl rfl rfl ?hy68 ?_
                    case hy68 => exact Yl.loads (cs := [.int .i64 (x).f0, .int .i64 (x).f1, .int .i64 (x).f2, .int .i64 (x).f3, .int .i64 (x).f4, .bool (x).f5]) rfl rfl (by kernel_rfl) (by kernel_rfl) (Hp.cells mem1 (fun j v hj => by simpa [Value.cells] using hj))
                    refine' TL.mx rfl rfl rfl ?hy69 ?_
                    case hy69 => exact Ym.buildSlice (cells := #[.int .i64 (x).f0, .int .i64 (x).f1, .int .i64 (x).f2, .int .i64 (x).f3, .int .i64 (x).f4, .bool (x).f5]) (z := .agg #[.int .i64 0, .int .i64 0, .int .i64 0, .int .i64 0, .int .i64 0, .bool false]) (size := 6) #[.int .i64 0, .int .i64 0, .int .i64 0, .int .i64 0, .int .i64 0, .bool false] rfl Try.underlying44 (by kernel_rfl) (by decide) (by decide) (by kernel_rfl) rfl (by kernel_rfl)
                    intro b60
                    refine' TL.mx rfl rfl rfl ?hy70 ?_
                    case hy70 => exact Ym.append (e := 28) (news := [.int .i64 (x).f0, .int .i64 (x).f1, .int .i64 (x).f2, .int .i64 (x).f3, .int .i64 (x).f4, .bool (x).f5]) (m := (radL x (l.take i)).length) (xs := Rw (radL x (l.take i))) rfl Try.underlying44 (by kernel_rfl) (z := .agg #[.int .i64 0, .int .i64 0, .int .i64 0, .int .i64 0, .int .i64 0, .bool false]) (size := 6) (bytes := 48) rfl (by decide) (by decide) rfl rfl rfl (Hp.cells mem0 (fun j v hj => by simpa [Value.cells] using hj)) (by simp [Value.oneCell']) (by omega) (fun v' => foc1)
                    intro v61
                    refine' TL.y rfl rfl rfl ?hy71 ?_
                    case hy71 => exact Yl.assign rfl rfl
                    refine TL.nil ?_
                    refine TE.next ?_
                    refine TC.region ?_
                    refine' TL.y rfl rfl rfl ?hy72 ?_
                    case hy72 => exact Yl.assign rfl rfl
                    refine TL.nil ?_
                    refine TE.next ?_
                    refine TC.region ?_
                    refine' TL.y rfl rfl rfl ?hy73 ?_
                    case hy73 => exact Yl.move rfl rfl
                    refine' TL.y rfl rfl rfl ?hy74 ?_
                    case hy74 => exact Yl.move rfl rfl
                    refine' TL.y rfl rfl rfl ?hy75 ?_
                    case hy75 => exact Yl.move rfl rfl
                    refine' TL.y rfl rfl rfl ?hy76 ?_
                    case hy76 => first | exact Yl.ixkn (k := 6) rfl rfl rfl Try.underlying44 (by kernel_rfl) (by omega) | exact Yl.ixkz (k := 6) rfl rfl rfl Try.underlying44 (by kernel_rfl) (by omega) (by omega)
                    refine' TL.y rfl rfl rfl ?hy77 ?_
                    case hy77 => exact Yl.loads (cs := [.int .i64 (atG l i).f0, .int .i64 (atG l i).f1, .int .i64 (atG l i).f2, .int .i64 (atG l i).f3, .int .i64 (atG l i).f4, .bool (atG l i).f5]) rfl rfl (by kernel_rfl) (by kernel_rfl) (Sl.rgs hS (i := i) (by omega))
                    refine' TL.mx rfl rfl rfl ?hy78 ?_
                    case hy78 => exact Ym.buildSlice (cells := #[.int .i64 ((atG l i)).f0, .int .i64 ((atG l i)).f1, .int .i64 ((atG l i)).f2, .int .i64 ((atG l i)).f3, .int .i64 ((atG l i)).f4, .bool ((atG l i)).f5]) (z := .agg #[.int .i64 0, .int .i64 0, .int .i64 0, .int .i64 0, .int .i64 0, .bool false]) (size := 6) #[.int .i64 0, .int .i64 0, .int .i64 0, .int .i64 0, .int .i64 0, .bool false] rfl Try.underlying44 (by kernel_rfl) (by decide) (by decide) (by kernel_rfl) rfl (by kernel_rfl)
                    intro b67
                    refine' TL.mx rfl rfl rfl ?hy79 ?_
                    case hy79 => exact Ym.append (e := 28) (news := [.int .i64 ((atG l i)).f0, .int .i64 ((atG l i)).f1, .int .i64 ((atG l i)).f2, .int .i64 ((atG l i)).f3, .int .i64 ((atG l i)).f4, .bool ((atG l i)).f5]) (m := (radL x (l.take i)).length + 1) (xs := Rw (radL x (l.take i)) ++ [.int .i64 (x).f0, .int .i64 (x).f1, .int .i64 (x).f2, .int .i64 (x).f3, .int .i64 (x).f4, .bool (x).f5]) rfl Try.underlying44 (by kernel_rfl) (z := .agg #[.int .i64 0, .int .i64 0, .int .i64 0, .int .i64 0, .int .i64 0, .bool false]) (size := 6) (bytes := 48) rfl (by decide) (by decide) rfl rfl rfl (Hp.cells mem0 (fun j v hj => by simpa [Value.cells] using hj)) (by simp [Value.oneCell']) (by omega) (fun v' => foc2)
                    intro v68
                    refine' TL.y rfl rfl rfl ?hy80 ?_
                    case hy80 => exact Yl.assign rfl rfl
                    refine TL.nil ?_
                    refine TE.inNormal ?_
                    refine TE.next ?_
                    refine TC.region ?_
                    refine' TL.y rfl rfl rfl ?hy81 ?_
                    case hy81 => exact Yl.move rfl rfl
                    refine' TL.y rfl rfl rfl ?hy82 ?_
                    case hy82 => first | (refine Yl.val (Yl.bin rfl rfl rfl (Bin.add _ _ _ _)) (congrArg (Value.int .i64) (i64in ?_ ?_)) <;> omega) | exact Yl.bin rfl rfl rfl (Bin.add _ _ _ _)
                    refine' TL.y rfl rfl rfl ?hy83 ?_
                    case hy83 => exact Yl.assign rfl rfl
                    refine TL.nil ?_
                    refine TE.round (i + 1, v68) ?hF84 ?hlt84 ?hs84 ?hm84
                    case hF84 => exact ⟨by dsimp only; omega, fun j hj => by
                      dsimp only at hj
                      by_cases e : j = i
                      · rw [e, ovB_false]; omega
                      · exact hF j (by omega)⟩
                    case hlt84 => dsimp only; omega
                    case hs84 => exact ⟨rfl, rfl, rfl, congrArg (fun b => some (Value.bool b)) (show plB x (l.take (i + 1)) = true from by rw [atG_take (by omega), plB_snoc, decide_eq_true (by omega : x.f0 < (atG l i).f0), Bool.or_true]).symm, rfl, trivial⟩
                    case hm84 => exact (fun w h => by
                      dsimp only
                      rw [atG_take (by omega), rad_ins (by simpa using hs48) (by omega), ← rowG_snoc2]
                      exact h.sub (by repeat (first | exact sR _ | exact sN _ | apply sK | apply sC)))
                  · skip
                    (try simp only [nrm] at hs57)
                    refine TC.skip ?_
                    refine TE.next ?_
                    refine TC.region ?_
                    refine' TL.y rfl rfl rfl ?hy85 ?_
                    case hy85 => exact Yl.move rfl rfl
                    refine' TL.y rfl rfl rfl ?hy86 ?_
                    case hy86 => exact Yl.move rfl rfl
                    refine' TL.y rfl rfl rfl ?hy87 ?_
                    case hy87 => exact Yl.move rfl rfl
                    refine' TL.y rfl rfl rfl ?hy88 ?_
                    case hy88 => first | exact Yl.ixkn (k := 6) rfl rfl rfl Try.underlying44 (by kernel_rfl) (by omega) | exact Yl.ixkz (k := 6) rfl rfl rfl Try.underlying44 (by kernel_rfl) (by omega) (by omega)
                    refine' TL.y rfl rfl rfl ?hy89 ?_
                    case hy89 => exact Yl.loads (cs := [.int .i64 (atG l i).f0, .int .i64 (atG l i).f1, .int .i64 (atG l i).f2, .int .i64 (atG l i).f3, .int .i64 (atG l i).f4, .bool (atG l i).f5]) rfl rfl (by kernel_rfl) (by kernel_rfl) (Sl.rgs hS (i := i) (by omega))
                    refine' TL.mx rfl rfl rfl ?hy90 ?_
                    case hy90 => exact Ym.buildSlice (cells := #[.int .i64 ((atG l i)).f0, .int .i64 ((atG l i)).f1, .int .i64 ((atG l i)).f2, .int .i64 ((atG l i)).f3, .int .i64 ((atG l i)).f4, .bool ((atG l i)).f5]) (z := .agg #[.int .i64 0, .int .i64 0, .int .i64 0, .int .i64 0, .int .i64 0, .bool false]) (size := 6) #[.int .i64 0, .int .i64 0, .int .i64 0, .int .i64 0, .int .i64 0, .bool false] rfl Try.underlying44 (by kernel_rfl) (by decide) (by decide) (by kernel_rfl) rfl (by kernel_rfl)
                    intro b67
                    refine' TL.mx rfl rfl rfl ?hy91 ?_
                    case hy91 => exact Ym.append (e := 28) (news := [.int .i64 ((atG l i)).f0, .int .i64 ((atG l i)).f1, .int .i64 ((atG l i)).f2, .int .i64 ((atG l i)).f3, .int .i64 ((atG l i)).f4, .bool ((atG l i)).f5]) (m := (radL x (l.take i)).length) (xs := Rw (radL x (l.take i))) rfl Try.underlying44 (by kernel_rfl) (z := .agg #[.int .i64 0, .int .i64 0, .int .i64 0, .int .i64 0, .int .i64 0, .bool false]) (size := 6) (bytes := 48) rfl (by decide) (by decide) rfl rfl rfl (Hp.cells mem0 (fun j v hj => by simpa [Value.cells] using hj)) (by simp [Value.oneCell']) (by omega) (fun v' => foc1)
                    intro v68
                    refine' TL.y rfl rfl rfl ?hy92 ?_
                    case hy92 => exact Yl.assign rfl rfl
                    refine TL.nil ?_
                    refine TE.inNormal ?_
                    refine TE.next ?_
                    refine TC.region ?_
                    refine' TL.y rfl rfl rfl ?hy93 ?_
                    case hy93 => exact Yl.move rfl rfl
                    refine' TL.y rfl rfl rfl ?hy94 ?_
                    case hy94 => first | (refine Yl.val (Yl.bin rfl rfl rfl (Bin.add _ _ _ _)) (congrArg (Value.int .i64) (i64in ?_ ?_)) <;> omega) | exact Yl.bin rfl rfl rfl (Bin.add _ _ _ _)
                    refine' TL.y rfl rfl rfl ?hy95 ?_
                    case hy95 => exact Yl.assign rfl rfl
                    refine TL.nil ?_
                    refine TE.round (i + 1, v68) ?hF96 ?hlt96 ?hs96 ?hm96
                    case hF96 => exact ⟨by dsimp only; omega, fun j hj => by
                      dsimp only at hj
                      by_cases e : j = i
                      · rw [e, ovB_false]; omega
                      · exact hF j (by omega)⟩
                    case hlt96 => dsimp only; omega
                    case hs96 => exact ⟨rfl, rfl, rfl, congrArg (fun b => some (Value.bool b)) (show plB x (l.take (i + 1)) = plB x (l.take i) from by rw [atG_take (by omega), plB_snoc, decide_eq_false (by omega : ¬ x.f0 < (atG l i).f0), Bool.or_false]).symm, rfl, trivial⟩
                    case hm96 => exact (fun w h => by
                      dsimp only
                      rw [atG_take (by omega), rad_on (.inr (by omega)), ← rowG_snoc]
                      exact h.sub (by repeat (first | exact sR _ | exact sN _ | apply sK | apply sC)))
                · skip
                  (try simp only [nrm] at hs48)
                  refine TA.skip (i := 3) #[true, true, true, true, false, false, false, false, false, false, false, false] rfl rfl rfl (by kernel_rfl) (fun _ _ _ h => h) rfl ?_
                  refine TA.skip (i := 4) #[true, true, true, true, true, false, false, false, false, false, false, false] rfl rfl rfl (by kernel_rfl) (fun _ _ _ h => h) rfl ?_
                  refine TA.skip (i := 5) #[true, true, true, true, true, true, false, false, false, false, false, false] rfl rfl rfl (by kernel_rfl) (fun _ _ _ h => h) rfl ?_
                  refine TA.skip (i := 6) #[true, true, true, true, true, true, true, false, false, false, false, false] rfl rfl rfl (by kernel_rfl) (fun _ _ _ h => h) rfl ?_
                  refine TA.skip (i := 7) #[true, true, true, true, true, true, true, true, false, false, false, false] rfl rfl rfl (by kernel_rfl) (fun _ _ _ h => h) rfl ?_
                  refine TA.skip (i := 8) #[true, true, true, true, true, true, true, true, true, false, false, false] rfl rfl rfl (by kernel_rfl) (fun _ _ _ h => h) rfl ?_
                  refine TA.skip (i := 9) #[true, true, true, true, true, true, true, true, true, true, false, false] rfl rfl rfl (by kernel_rfl) (fun _ _ _ h => h) rfl ?_
                  refine TA.skip (i := 10) #[true, true, true, true, true, true, true, true, true, true, true, false] rfl rfl rfl (by kernel_rfl) (fun _ _ _ h => h) rfl ?_
                  refine' TA.y (i := 11) #[true, true, true, true, true, true, true, true, true, true, true, true] rfl rfl rfl (by kernel_rfl) (fun _ _ _ h => h) (fun _ h => by exact Hp.sub h (by repeat (first | exact sR _ | exact sN _ | apply sK | apply sC))) rfl ?hy97 ?_
                  case hy97 => exact Yl.pickF rfl rfl rfl
                  refine TA.done (by kernel_rfl) ?_
                  refine TE.next ?_
                  refine TC.no rfl rfl ?_
                  refine TC.skip ?_
                  refine TE.next ?_
                  refine TC.region ?_
                  refine' TL.y rfl rfl rfl ?hy98 ?_
                  case hy98 => exact Yl.move rfl rfl
                  refine' TL.y rfl rfl rfl ?hy99 ?_
                  case hy99 => exact Yl.move rfl rfl
                  refine' TL.y rfl rfl rfl ?hy100 ?_
                  case hy100 => exact Yl.move rfl rfl
                  refine' TL.y rfl rfl rfl ?hy101 ?_
                  case hy101 => first | exact Yl.ixkn (k := 6) rfl rfl rfl Try.underlying44 (by kernel_rfl) (by omega) | exact Yl.ixkz (k := 6) rfl rfl rfl Try.underlying44 (by kernel_rfl) (by omega) (by omega)
                  refine' TL.y rfl rfl rfl ?hy102 ?_
                  case hy102 => exact Yl.loads (cs := [.int .i64 (atG l i).f0, .int .i64 (atG l i).f1, .int .i64 (atG l i).f2, .int .i64 (atG l i).f3, .int .i64 (atG l i).f4, .bool (atG l i).f5]) rfl rfl (by kernel_rfl) (by kernel_rfl) (Sl.rgs hS (i := i) (by omega))
                  refine' TL.mx rfl rfl rfl ?hy103 ?_
                  case hy103 => exact Ym.buildSlice (cells := #[.int .i64 ((atG l i)).f0, .int .i64 ((atG l i)).f1, .int .i64 ((atG l i)).f2, .int .i64 ((atG l i)).f3, .int .i64 ((atG l i)).f4, .bool ((atG l i)).f5]) (z := .agg #[.int .i64 0, .int .i64 0, .int .i64 0, .int .i64 0, .int .i64 0, .bool false]) (size := 6) #[.int .i64 0, .int .i64 0, .int .i64 0, .int .i64 0, .int .i64 0, .bool false] rfl Try.underlying44 (by kernel_rfl) (by decide) (by decide) (by kernel_rfl) rfl (by kernel_rfl)
                  intro b67
                  refine' TL.mx rfl rfl rfl ?hy104 ?_
                  case hy104 => exact Ym.append (e := 28) (news := [.int .i64 ((atG l i)).f0, .int .i64 ((atG l i)).f1, .int .i64 ((atG l i)).f2, .int .i64 ((atG l i)).f3, .int .i64 ((atG l i)).f4, .bool ((atG l i)).f5]) (m := (radL x (l.take i)).length) (xs := Rw (radL x (l.take i))) rfl Try.underlying44 (by kernel_rfl) (z := .agg #[.int .i64 0, .int .i64 0, .int .i64 0, .int .i64 0, .int .i64 0, .bool false]) (size := 6) (bytes := 48) rfl (by decide) (by decide) rfl rfl rfl (Hp.cells mem0 (fun j v hj => by simpa [Value.cells] using hj)) (by simp [Value.oneCell']) (by omega) (fun v' => foc1)
                  intro v68
                  refine' TL.y rfl rfl rfl ?hy105 ?_
                  case hy105 => exact Yl.assign rfl rfl
                  refine TL.nil ?_
                  refine TE.inNormal ?_
                  refine TE.next ?_
                  refine TC.region ?_
                  refine' TL.y rfl rfl rfl ?hy106 ?_
                  case hy106 => exact Yl.move rfl rfl
                  refine' TL.y rfl rfl rfl ?hy107 ?_
                  case hy107 => first | (refine Yl.val (Yl.bin rfl rfl rfl (Bin.add _ _ _ _)) (congrArg (Value.int .i64) (i64in ?_ ?_)) <;> omega) | exact Yl.bin rfl rfl rfl (Bin.add _ _ _ _)
                  refine' TL.y rfl rfl rfl ?hy108 ?_
                  case hy108 => exact Yl.assign rfl rfl
                  refine TL.nil ?_
                  refine TE.round (i + 1, v68) ?hF109 ?hlt109 ?hs109 ?hm109
                  case hF109 => exact ⟨by dsimp only; omega, fun j hj => by
                    dsimp only at hj
                    by_cases e : j = i
                    · rw [e, ovB_false]; omega
                    · exact hF j (by omega)⟩
                  case hlt109 => dsimp only; omega
                  case hs109 => exact ⟨rfl, rfl, rfl, congrArg (fun b => some (Value.bool b)) (show plB x (l.take (i + 1)) = plB x (l.take i) from by rw [atG_take (by omega), plB_snoc, show plB x (l.take i) = true from by simpa using hs48, Bool.true_or]).symm, rfl, trivial⟩
                  case hm109 => exact (fun w h => by
                    dsimp only
                    rw [atG_take (by omega), rad_on (.inl (by simpa using hs48)), ← rowG_snoc]
                    exact h.sub (by repeat (first | exact sR _ | exact sN _ | apply sK | apply sC)))
            · skip
              (try simp only [nrm] at hs36)
              refine TA.skip (i := 9) #[true, true, true, true, true, true, true, true, true, true, false, false, false, false, false, false, false, false] rfl rfl rfl (by kernel_rfl) (fun _ _ _ h => h) rfl ?_
              refine TA.skip (i := 10) #[true, true, true, true, true, true, true, true, true, true, true, false, false, false, false, false, false, false] rfl rfl rfl (by kernel_rfl) (fun _ _ _ h => h) rfl ?_
              refine TA.skip (i := 11) #[true, true, true, true, true, true, true, true, true, true, true, true, false, false, false, false, false, false] rfl rfl rfl (by kernel_rfl) (fun _ _ _ h => h) rfl ?_
              refine TA.skip (i := 12) #[true, true, true, true, true, true, true, true, true, true, true, true, true, false, false, false, false, false] rfl rfl rfl (by kernel_rfl) (fun _ _ _ h => h) rfl ?_
              refine TA.skip (i := 13) #[true, true, true, true, true, true, true, true, true, true, true, true, true, true, false, false, false, false] rfl rfl rfl (by kernel_rfl) (fun _ _ _ h => h) rfl ?_
              refine TA.skip (i := 14) #[true, true, true, true, true, true, true, true, true, true, true, true, true, true, true, false, false, false] rfl rfl rfl (by kernel_rfl) (fun _ _ _ h => h) rfl ?_
              refine TA.skip (i := 15) #[true, true, true, true, true, true, true, true, true, true, true, true, true, true, true, true, false, false] rfl rfl rfl (by kernel_rfl) (fun _ _ _ h => h) rfl ?_
              refine TA.skip (i := 16) #[true, true, true, true, true, true, true, true, true, true, true, true, true, true, true, true, true, false] rfl rfl rfl (by kernel_rfl) (fun _ _ _ h => h) rfl ?_
              refine' TA.y (i := 17) #[true, true, true, true, true, true, true, true, true, true, true, true, true, true, true, true, true, true] rfl rfl rfl (by kernel_rfl) (fun _ _ _ h => h) (fun _ h => by exact Hp.sub h (by repeat (first | exact sR _ | exact sN _ | apply sK | apply sC))) rfl ?hy110 ?_
              case hy110 => exact Yl.pickF rfl rfl rfl
              refine TA.done (by kernel_rfl) ?_
              refine TE.next ?_
              refine TC.no rfl rfl ?_
              refine TC.skip ?_
              refine TE.next ?_
              refine TC.seq ?_
              refine TC.seq ?_
              refine TC.draw (k := 12) (Hp W (fun _ => False) [blk b3 (.cells #[.int .i64 (x).f0, .int .i64 (x).f1, .int .i64 (x).f2, .int .i64 (x).f3, .int .i64 (x).f4, .bool (x).f5] 28 (0, 0))]) [] #[false, false, false, false, false, false, false, false, false, false, false, false] (by kernel_rfl) rfl rfl (fun _ h => h.drew) (fun _ h => by exact Hp.sub h (by repeat (first | exact sR _ | exact sN _ | apply sK | apply sC))) ?_
              refine' TA.y (i := 0) #[true, false, false, false, false, false, false, false, false, false, false, false] rfl rfl rfl (by kernel_rfl) (fun _ _ _ h => h) (fun _ h => by exact Hp.sub h (by repeat (first | exact sR _ | exact sN _ | apply sK | apply sC))) rfl ?hy111 ?_
              case hy111 => exact Yl.move rfl rfl
              refine' TA.y (i := 1) #[true, true, false, false, false, false, false, false, false, false, false, false] rfl rfl rfl (by kernel_rfl) (fun _ _ _ h => h) (fun _ h => by exact Hp.sub h (by repeat (first | exact sR _ | exact sN _ | apply sK | apply sC))) rfl ?hy112 ?_
              case hy112 => exact Yl.not rfl rfl
              refine' TA.y (i := 2) #[true, true, true, false, false, false, false, false, false, false, false, false] rfl rfl rfl (by kernel_rfl) (fun _ _ _ h => h) (fun _ h => by exact Hp.sub h (by repeat (first | exact sR _ | exact sN _ | apply sK | apply sC))) rfl ?hy113 ?_
              case hy113 => exact Yl.move rfl rfl
              refine TA.split (i := 48) rfl (fun hs48 => ?_) (fun hs48 => ?_)
              · skip
                (try simp only [nrm] at hs48)
                refine' TA.y (i := 3) #[true, true, true, true, false, false, false, false, false, false, false, false] rfl rfl rfl (by kernel_rfl) (fun _ _ _ h => h) (fun _ h => by exact Hp.sub h (by repeat (first | exact sR _ | exact sN _ | apply sK | apply sC))) rfl ?hy114 ?_
                case hy114 => exact Yl.move rfl rfl
                refine' TA.y (i := 4) #[true, true, true, true, true, false, false, false, false, false, false, false] rfl rfl rfl (by kernel_rfl) (fun _ _ _ h => h) (fun _ h => by exact Hp.sub h (by repeat (first | exact sR _ | exact sN _ | apply sK | apply sC))) rfl ?hy115 ?_
                case hy115 => exact Yl.move rfl rfl
                refine' TA.y (i := 5) #[true, true, true, true, true, true, false, false, false, false, false, false] rfl rfl rfl (by kernel_rfl) (fun _ _ _ h => h) (fun _ h => by exact Hp.sub h (by repeat (first | exact sR _ | exact sN _ | apply sK | apply sC))) rfl ?hy116 ?_
                case hy116 => first | exact Yl.ixkn (k := 6) rfl rfl rfl Try.underlying44 (by kernel_rfl) (by omega) | exact Yl.ixkz (k := 6) rfl rfl rfl Try.underlying44 (by kernel_rfl) (by omega) (by omega)
                refine' TA.y (i := 6) #[true, true, true, true, true, true, true, false, false, false, false, false] rfl rfl rfl (by kernel_rfl) (fun _ _ _ h => h) (fun _ h => by exact Hp.sub h (by repeat (first | exact sR _ | exact sN _ | apply sK | apply sC))) rfl ?hy117 ?_
                case hy117 => first | exact Yl.field0 (k := 0) 0 rfl rfl Try.underlying28 rfl (by kernel_rfl) rfl | exact Yl.field (k := 0) 0 rfl rfl Try.underlying28 rfl (by kernel_rfl) rfl
                refine' TA.y (i := 7) #[true, true, true, true, true, true, true, true, false, false, false, false] rfl rfl rfl (by kernel_rfl) (fun _ _ _ h => h) (fun _ h => by exact Hp.sub h (by repeat (first | exact sR _ | exact sN _ | apply sK | apply sC))) rfl ?hy118 ?_
                case hy118 => exact Yl.load (v := .int .i64 (atG l (i)).f0) rfl rfl (by kernel_rfl) (Sl.rg (i := i) (j := 0) hS rfl (by omega) (by decide))
                refine' TA.y (i := 8) #[true, true, true, true, true, true, true, true, true, false, false, false] rfl rfl rfl (by kernel_rfl) (fun _ _ _ h => h) (fun _ h => by exact Hp.sub h (by repeat (first | exact sR _ | exact sN _ | apply sK | apply sC))) rfl ?hy119 ?_
                case hy119 => first | exact Yl.field0 (k := 0) 0 rfl rfl Try.underlying28 rfl (by kernel_rfl) rfl | exact Yl.field (k := 0) 0 rfl rfl Try.underlying28 rfl (by kernel_rfl) rfl
                refine' TA.y (i := 9) #[true, true, true, true, true, true, true, true, true, true, false, false] rfl rfl rfl (by kernel_rfl) (fun _ _ _ h => h) (fun _ h => by exact Hp.sub h (by repeat (first | exact sR _ | exact sN _ | apply sK | apply sC))) rfl ?hy120 ?_
                case hy120 => exact Yl.load rfl rfl (by kernel_rfl) (by first | exact Hp.cell mem0 rfl | exact Hp.cell mem1 rfl | exact Hp.cell mem2 rfl | exact Hp.cell mem3 rfl | exact Hp.cell mem4 rfl | exact Hp.rowAt mem0 (by omega) rfl | exact Hp.rowAt mem1 (by omega) rfl | exact Hp.rowAt mem2 (by omega) rfl | exact Hp.rowAt mem3 (by omega) rfl | exact Hp.rowAt mem4 (by omega) rfl)
                refine' TA.y (i := 10) #[true, true, true, true, true, true, true, true, true, true, true, false] rfl rfl rfl (by kernel_rfl) (fun _ _ _ h => h) (fun _ h => by exact Hp.sub h (by repeat (first | exact sR _ | exact sN _ | apply sK | apply sC))) rfl ?hy121 ?_
                case hy121 => exact Yl.bin rfl rfl rfl (Bin.gtr _ _ _ _)
                refine' TA.y (i := 11) #[true, true, true, true, true, true, true, true, true, true, true, true] rfl rfl rfl (by kernel_rfl) (fun _ _ _ h => h) (fun _ h => by exact Hp.sub h (by repeat (first | exact sR _ | exact sN _ | apply sK | apply sC))) rfl ?hy122 ?_
                case hy122 => exact Yl.pickT rfl rfl rfl
                refine TA.done (by kernel_rfl) ?_
                refine TE.next ?_
                refine TC.cond rfl (fun hs57 => ?_) (fun hs57 => ?_)
                · skip
                  (try simp only [nrm] at hs57)
                  refine TC.seq ?_
                  refine TC.region ?_
                  refine' TL.y rfl rfl rfl ?hy123 ?_
                  case hy123 => exact Yl.move rfl rfl
                  refine' TL.y rfl rfl rfl ?hy124 ?_
                  case hy124 => exact Yl.loads (cs := [.int .i64 (x).f0, .int .i64 (x).f1, .int .i64 (x).f2, .int .i64 (x).f3, .int .i64 (x).f4, .bool (x).f5]) rfl rfl (by kernel_rfl) (by kernel_rfl) (Hp.cells mem1 (fun j v hj => by simpa [Value.cells] using hj))
                  refine' TL.mx rfl rfl rfl ?hy125 ?_
                  case hy125 => exact Ym.buildSlice (cells := #[.int .i64 (x).f0, .int .i64 (x).f1, .int .i64 (x).f2, .int .i64 (x).f3, .int .i64 (x).f4, .bool (x).f5]) (z := .agg #[.int .i64 0, .int .i64 0, .int .i64 0, .int .i64 0, .int .i64 0, .bool false]) (size := 6) #[.int .i64 0, .int .i64 0, .int .i64 0, .int .i64 0, .int .i64 0, .bool false] rfl Try.underlying44 (by kernel_rfl) (by decide) (by decide) (by kernel_rfl) rfl (by kernel_rfl)
                  intro b60
                  refine' TL.mx rfl rfl rfl ?hy126 ?_
                  case hy126 => exact Ym.append (e := 28) (news := [.int .i64 (x).f0, .int .i64 (x).f1, .int .i64 (x).f2, .int .i64 (x).f3, .int .i64 (x).f4, .bool (x).f5]) (m := (radL x (l.take i)).length) (xs := Rw (radL x (l.take i))) rfl Try.underlying44 (by kernel_rfl) (z := .agg #[.int .i64 0, .int .i64 0, .int .i64 0, .int .i64 0, .int .i64 0, .bool false]) (size := 6) (bytes := 48) rfl (by decide) (by decide) rfl rfl rfl (Hp.cells mem0 (fun j v hj => by simpa [Value.cells] using hj)) (by simp [Value.oneCell']) (by omega) (fun v' => foc1)
                  intro v61
                  refine' TL.y rfl rfl rfl ?hy127 ?_
                  case hy127 => exact Yl.assign rfl rfl
                  refine TL.nil ?_
                  refine TE.next ?_
                  refine TC.region ?_
                  refine' TL.y rfl rfl rfl ?hy128 ?_
                  case hy128 => exact Yl.assign rfl rfl
                  refine TL.nil ?_
                  refine TE.next ?_
                  refine TC.region ?_
                  refine' TL.y rfl rfl rfl ?hy129 ?_
                  case hy129 => exact Yl.move rfl rfl
                  refine' TL.y rfl rfl rfl ?hy130 ?_
                  case hy130 => exact Yl.move rfl rfl
                  refine' TL.y rfl rfl rfl ?hy131 ?_
                  case hy131 => exact Yl.move rfl rfl
                  refine' TL.y rfl rfl rfl ?hy132 ?_
                  case hy132 => first | exact Yl.ixkn (k := 6) rfl rfl rfl Try.underlying44 (by kernel_rfl) (by omega) | exact Yl.ixkz (k := 6) rfl rfl rfl Try.underlying44 (by kernel_rfl) (by omega) (by omega)
                  refine' TL.y rfl rfl rfl ?hy133 ?_
                  case hy133 => exact Yl.loads (cs := [.int .i64 (atG l i).f0, .int .i64 (atG l i).f1, .int .i64 (atG l i).f2, .int .i64 (atG l i).f3, .int .i64 (atG l i).f4, .bool (atG l i).f5]) rfl rfl (by kernel_rfl) (by kernel_rfl) (Sl.rgs hS (i := i) (by omega))
                  refine' TL.mx rfl rfl rfl ?hy134 ?_
                  case hy134 => exact Ym.buildSlice (cells := #[.int .i64 ((atG l i)).f0, .int .i64 ((atG l i)).f1, .int .i64 ((atG l i)).f2, .int .i64 ((atG l i)).f3, .int .i64 ((atG l i)).f4, .bool ((atG l i)).f5]) (z := .agg #[.int .i64 0, .int .i64 0, .int .i64 0, .int .i64 0, .int .i64 0, .bool false]) (size := 6) #[.int .i64 0, .int .i64 0, .int .i64 0, .int .i64 0, .int .i64 0, .bool false] rfl Try.underlying44 (by kernel_rfl) (by decide) (by decide) (by kernel_rfl) rfl (by kernel_rfl)
                  intro b67
                  refine' TL.mx rfl rfl rfl ?hy135 ?_
                  case hy135 => exact Ym.append (e := 28) (news := [.int .i64 ((atG l i)).f0, .int .i64 ((atG l i)).f1, .int .i64 ((atG l i)).f2, .int .i64 ((atG l i)).f3, .int .i64 ((atG l i)).f4, .bool ((atG l i)).f5]) (m := (radL x (l.take i)).length + 1) (xs := Rw (radL x (l.take i)) ++ [.int .i64 (x).f0, .int .i64 (x).f1, .int .i64 (x).f2, .int .i64 (x).f3, .int .i64 (x).f4, .bool (x).f5]) rfl Try.underlying44 (by kernel_rfl) (z := .agg #[.int .i64 0, .int .i64 0, .int .i64 0, .int .i64 0, .int .i64 0, .bool false]) (size := 6) (bytes := 48) rfl (by decide) (by decide) rfl rfl rfl (Hp.cells mem0 (fun j v hj => by simpa [Value.cells] using hj)) (by simp [Value.oneCell']) (by omega) (fun v' => foc2)
                  intro v68
                  refine' TL.y rfl rfl rfl ?hy136 ?_
                  case hy136 => exact Yl.assign rfl rfl
                  refine TL.nil ?_
                  refine TE.inNormal ?_
                  refine TE.next ?_
                  refine TC.region ?_
                  refine' TL.y rfl rfl rfl ?hy137 ?_
                  case hy137 => exact Yl.move rfl rfl
                  refine' TL.y rfl rfl rfl ?hy138 ?_
                  case hy138 => first | (refine Yl.val (Yl.bin rfl rfl rfl (Bin.add _ _ _ _)) (congrArg (Value.int .i64) (i64in ?_ ?_)) <;> omega) | exact Yl.bin rfl rfl rfl (Bin.add _ _ _ _)
                  refine' TL.y rfl rfl rfl ?hy139 ?_
                  case hy139 => exact Yl.assign rfl rfl
                  refine TL.nil ?_
                  refine TE.round (i + 1, v68) ?hF140 ?hlt140 ?hs140 ?hm140
                  case hF140 => exact ⟨by dsimp only; omega, fun j hj => by
                    dsimp only at hj
                    by_cases e : j = i
                    · rw [e, ovB_false]; omega
                    · exact hF j (by omega)⟩
                  case hlt140 => dsimp only; omega
                  case hs140 => exact ⟨rfl, rfl, rfl, congrArg (fun b => some (Value.bool b)) (show plB x (l.take (i + 1)) = true from by rw [atG_take (by omega), plB_snoc, decide_eq_true (by omega : x.f0 < (atG l i).f0), Bool.or_true]).symm, rfl, trivial⟩
                  case hm140 => exact (fun w h => by
                    dsimp only
                    rw [atG_take (by omega), rad_ins (by simpa using hs48) (by omega), ← rowG_snoc2]
                    exact h.sub (by repeat (first | exact sR _ | exact sN _ | apply sK | apply sC)))
                · skip
                  (try simp only [nrm] at hs57)
                  refine TC.skip ?_
                  refine TE.next ?_
                  refine TC.region ?_
                  refine' TL.y rfl rfl rfl ?hy141 ?_
                  case hy141 => exact Yl.move rfl rfl
                  refine' TL.y rfl rfl rfl ?hy142 ?_
                  case hy142 => exact Yl.move rfl rfl
                  refine' TL.y rfl rfl rfl ?hy143 ?_
                  case hy143 => exact Yl.move rfl rfl
                  refine' TL.y rfl rfl rfl ?hy144 ?_
                  case hy144 => first | exact Yl.ixkn (k := 6) rfl rfl rfl Try.underlying44 (by kernel_rfl) (by omega) | exact Yl.ixkz (k := 6) rfl rfl rfl Try.underlying44 (by kernel_rfl) (by omega) (by omega)
                  refine' TL.y rfl rfl rfl ?hy145 ?_
                  case hy145 => exact Yl.loads (cs := [.int .i64 (atG l i).f0, .int .i64 (atG l i).f1, .int .i64 (atG l i).f2, .int .i64 (atG l i).f3, .int .i64 (atG l i).f4, .bool (atG l i).f5]) rfl rfl (by kernel_rfl) (by kernel_rfl) (Sl.rgs hS (i := i) (by omega))
                  refine' TL.mx rfl rfl rfl ?hy146 ?_
                  case hy146 => exact Ym.buildSlice (cells := #[.int .i64 ((atG l i)).f0, .int .i64 ((atG l i)).f1, .int .i64 ((atG l i)).f2, .int .i64 ((atG l i)).f3, .int .i64 ((atG l i)).f4, .bool ((atG l i)).f5]) (z := .agg #[.int .i64 0, .int .i64 0, .int .i64 0, .int .i64 0, .int .i64 0, .bool false]) (size := 6) #[.int .i64 0, .int .i64 0, .int .i64 0, .int .i64 0, .int .i64 0, .bool false] rfl Try.underlying44 (by kernel_rfl) (by decide) (by decide) (by kernel_rfl) rfl (by kernel_rfl)
                  intro b67
                  refine' TL.mx rfl rfl rfl ?hy147 ?_
                  case hy147 => exact Ym.append (e := 28) (news := [.int .i64 ((atG l i)).f0, .int .i64 ((atG l i)).f1, .int .i64 ((atG l i)).f2, .int .i64 ((atG l i)).f3, .int .i64 ((atG l i)).f4, .bool ((atG l i)).f5]) (m := (radL x (l.take i)).length) (xs := Rw (radL x (l.take i))) rfl Try.underlying44 (by kernel_rfl) (z := .agg #[.int .i64 0, .int .i64 0, .int .i64 0, .int .i64 0, .int .i64 0, .bool false]) (size := 6) (bytes := 48) rfl (by decide) (by decide) rfl rfl rfl (Hp.cells mem0 (fun j v hj => by simpa [Value.cells] using hj)) (by simp [Value.oneCell']) (by omega) (fun v' => foc1)
                  intro v68
                  refine' TL.y rfl rfl rfl ?hy148 ?_
                  case hy148 => exact Yl.assign rfl rfl
                  refine TL.nil ?_
                  refine TE.inNormal ?_
                  refine TE.next ?_
                  refine TC.region ?_
                  refine' TL.y rfl rfl rfl ?hy149 ?_
                  case hy149 => exact Yl.move rfl rfl
                  refine' TL.y rfl rfl rfl ?hy150 ?_
                  case hy150 => first | (refine Yl.val (Yl.bin rfl rfl rfl (Bin.add _ _ _ _)) (congrArg (Value.int .i64) (i64in ?_ ?_)) <;> omega) | exact Yl.bin rfl rfl rfl (Bin.add _ _ _ _)
                  refine' TL.y rfl rfl rfl ?hy151 ?_
                  case hy151 => exact Yl.assign rfl rfl
                  refine TL.nil ?_
                  refine TE.round (i + 1, v68) ?hF152 ?hlt152 ?hs152 ?hm152
                  case hF152 => exact ⟨by dsimp only; omega, fun j hj => by
                    dsimp only at hj
                    by_cases e : j = i
                    · rw [e, ovB_false]; omega
                    · exact hF j (by omega)⟩
                  case hlt152 => dsimp only; omega
                  case hs152 => exact ⟨rfl, rfl, rfl, congrArg (fun b => some (Value.bool b)) (show plB x (l.take (i + 1)) = plB x (l.take i) from by rw [atG_take (by omega), plB_snoc, decide_eq_false (by omega : ¬ x.f0 < (atG l i).f0), Bool.or_false]).symm, rfl, trivial⟩
                  case hm152 => exact (fun w h => by
                    dsimp only
                    rw [atG_take (by omega), rad_on (.inr (by omega)), ← rowG_snoc]
                    exact h.sub (by repeat (first | exact sR _ | exact sN _ | apply sK | apply sC)))
              · skip
                (try simp only [nrm] at hs48)
                refine TA.skip (i := 3) #[true, true, true, true, false, false, false, false, false, false, false, false] rfl rfl rfl (by kernel_rfl) (fun _ _ _ h => h) rfl ?_
                refine TA.skip (i := 4) #[true, true, true, true, true, false, false, false, false, false, false, false] rfl rfl rfl (by kernel_rfl) (fun _ _ _ h => h) rfl ?_
                refine TA.skip (i := 5) #[true, true, true, true, true, true, false, false, false, false, false, false] rfl rfl rfl (by kernel_rfl) (fun _ _ _ h => h) rfl ?_
                refine TA.skip (i := 6) #[true, true, true, true, true, true, true, false, false, false, false, false] rfl rfl rfl (by kernel_rfl) (fun _ _ _ h => h) rfl ?_
                refine TA.skip (i := 7) #[true, true, true, true, true, true, true, true, false, false, false, false] rfl rfl rfl (by kernel_rfl) (fun _ _ _ h => h) rfl ?_
                refine TA.skip (i := 8) #[true, true, true, true, true, true, true, true, true, false, false, false] rfl rfl rfl (by kernel_rfl) (fun _ _ _ h => h) rfl ?_
                refine TA.skip (i := 9) #[true, true, true, true, true, true, true, true, true, true, false, false] rfl rfl rfl (by kernel_rfl) (fun _ _ _ h => h) rfl ?_
                refine TA.skip (i := 10) #[true, true, true, true, true, true, true, true, true, true, true, false] rfl rfl rfl (by kernel_rfl) (fun _ _ _ h => h) rfl ?_
                refine' TA.y (i := 11) #[true, true, true, true, true, true, true, true, true, true, true, true] rfl rfl rfl (by kernel_rfl) (fun _ _ _ h => h) (fun _ h => by exact Hp.sub h (by repeat (first | exact sR _ | exact sN _ | apply sK | apply sC))) rfl ?hy153 ?_
                case hy153 => exact Yl.pickF rfl rfl rfl
                refine TA.done (by kernel_rfl) ?_
                refine TE.next ?_
                refine TC.no rfl rfl ?_
                refine TC.skip ?_
                refine TE.next ?_
                refine TC.region ?_
                refine' TL.y rfl rfl rfl ?hy154 ?_
                case hy154 => exact Yl.move rfl rfl
                refine' TL.y rfl rfl rfl ?hy155 ?_
                case hy155 => exact Yl.move rfl rfl
                refine' TL.y rfl rfl rfl ?hy156 ?_
                case hy156 => exact Yl.move rfl rfl
                refine' TL.y rfl rfl rfl ?hy157 ?_
                case hy157 => first | exact Yl.ixkn (k := 6) rfl rfl rfl Try.underlying44 (by kernel_rfl) (by omega) | exact Yl.ixkz (k := 6) rfl rfl rfl Try.underlying44 (by kernel_rfl) (by omega) (by omega)
                refine' TL.y rfl rfl rfl ?hy158 ?_
                case hy158 => exact Yl.loads (cs := [.int .i64 (atG l i).f0, .int .i64 (atG l i).f1, .int .i64 (atG l i).f2, .int .i64 (atG l i).f3, .int .i64 (atG l i).f4, .bool (atG l i).f5]) rfl rfl (by kernel_rfl) (by kernel_rfl) (Sl.rgs hS (i := i) (by omega))
                refine' TL.mx rfl rfl rfl ?hy159 ?_
                case hy159 => exact Ym.buildSlice (cells := #[.int .i64 ((atG l i)).f0, .int .i64 ((atG l i)).f1, .int .i64 ((atG l i)).f2, .int .i64 ((atG l i)).f3, .int .i64 ((atG l i)).f4, .bool ((atG l i)).f5]) (z := .agg #[.int .i64 0, .int .i64 0, .int .i64 0, .int .i64 0, .int .i64 0, .bool false]) (size := 6) #[.int .i64 0, .int .i64 0, .int .i64 0, .int .i64 0, .int .i64 0, .bool false] rfl Try.underlying44 (by kernel_rfl) (by decide) (by decide) (by kernel_rfl) rfl (by kernel_rfl)
                intro b67
                refine' TL.mx rfl rfl rfl ?hy160 ?_
                case hy160 => exact Ym.append (e := 28) (news := [.int .i64 ((atG l i)).f0, .int .i64 ((atG l i)).f1, .int .i64 ((atG l i)).f2, .int .i64 ((atG l i)).f3, .int .i64 ((atG l i)).f4, .bool ((atG l i)).f5]) (m := (radL x (l.take i)).length) (xs := Rw (radL x (l.take i))) rfl Try.underlying44 (by kernel_rfl) (z := .agg #[.int .i64 0, .int .i64 0, .int .i64 0, .int .i64 0, .int .i64 0, .bool false]) (size := 6) (bytes := 48) rfl (by decide) (by decide) rfl rfl rfl (Hp.cells mem0 (fun j v hj => by simpa [Value.cells] using hj)) (by simp [Value.oneCell']) (by omega) (fun v' => foc1)
                intro v68
                refine' TL.y rfl rfl rfl ?hy161 ?_
                case hy161 => exact Yl.assign rfl rfl
                refine TL.nil ?_
                refine TE.inNormal ?_
                refine TE.next ?_
                refine TC.region ?_
                refine' TL.y rfl rfl rfl ?hy162 ?_
                case hy162 => exact Yl.move rfl rfl
                refine' TL.y rfl rfl rfl ?hy163 ?_
                case hy163 => first | (refine Yl.val (Yl.bin rfl rfl rfl (Bin.add _ _ _ _)) (congrArg (Value.int .i64) (i64in ?_ ?_)) <;> omega) | exact Yl.bin rfl rfl rfl (Bin.add _ _ _ _)
                refine' TL.y rfl rfl rfl ?hy164 ?_
                case hy164 => exact Yl.assign rfl rfl
                refine TL.nil ?_
                refine TE.round (i + 1, v68) ?hF165 ?hlt165 ?hs165 ?hm165
                case hF165 => exact ⟨by dsimp only; omega, fun j hj => by
                  dsimp only at hj
                  by_cases e : j = i
                  · rw [e, ovB_false]; omega
                  · exact hF j (by omega)⟩
                case hlt165 => dsimp only; omega
                case hs165 => exact ⟨rfl, rfl, rfl, congrArg (fun b => some (Value.bool b)) (show plB x (l.take (i + 1)) = plB x (l.take i) from by rw [atG_take (by omega), plB_snoc, show plB x (l.take i) = true from by simpa using hs48, Bool.true_or]).symm, rfl, trivial⟩
                case hm165 => exact (fun w h => by
                  dsimp only
                  rw [atG_take (by omega), rad_on (.inl (by simpa using hs48)), ← rowG_snoc]
                  exact h.sub (by repeat (first | exact sR _ | exact sN _ | apply sK | apply sC)))
          · skip
            (try simp only [nrm] at hs25)
            refine TC.exit ?_
            refine TE.thenExit ?_
            refine TE.thenExit ?_
            refine TE.inHere ?_
            refine TE.next ?_
            refine TC.seq ?_
            refine TC.seq ?_
            refine TC.region ?_
            refine' TL.y rfl rfl rfl ?hy166 ?_
            case hy166 => exact Yl.move rfl rfl
            refine' TL.y rfl rfl rfl ?hy167 ?_
            case hy167 => exact Yl.not rfl rfl
            refine TL.nil ?_
            refine TE.next ?_
            refine TC.cond rfl (fun hs70 => ?_) (fun hs70 => ?_)
            · skip
              (try simp only [nrm] at hs70)
              refine TC.region ?_
              refine' TL.y rfl rfl rfl ?hy168 ?_
              case hy168 => exact Yl.move rfl rfl
              refine' TL.y rfl rfl rfl ?hy169 ?_
              case hy169 => exact Yl.loads (cs := [.int .i64 (x).f0, .int .i64 (x).f1, .int .i64 (x).f2, .int .i64 (x).f3, .int .i64 (x).f4, .bool (x).f5]) rfl rfl (by kernel_rfl) (by kernel_rfl) (Hp.cells mem1 (fun j v hj => by simpa [Value.cells] using hj))
              refine' TL.mx rfl rfl rfl ?hy170 ?_
              case hy170 => exact Ym.buildSlice (cells := #[.int .i64 (x).f0, .int .i64 (x).f1, .int .i64 (x).f2, .int .i64 (x).f3, .int .i64 (x).f4, .bool (x).f5]) (z := .agg #[.int .i64 0, .int .i64 0, .int .i64 0, .int .i64 0, .int .i64 0, .bool false]) (size := 6) #[.int .i64 0, .int .i64 0, .int .i64 0, .int .i64 0, .int .i64 0, .bool false] rfl Try.underlying44 (by kernel_rfl) (by decide) (by decide) (by kernel_rfl) rfl (by kernel_rfl)
              intro b73
              refine' TL.mx rfl rfl rfl ?hy171 ?_
              case hy171 => exact Ym.append (e := 28) (news := [.int .i64 (x).f0, .int .i64 (x).f1, .int .i64 (x).f2, .int .i64 (x).f3, .int .i64 (x).f4, .bool (x).f5]) (m := (radL x (l.take i)).length) (xs := Rw (radL x (l.take i))) rfl Try.underlying44 (by kernel_rfl) (z := .agg #[.int .i64 0, .int .i64 0, .int .i64 0, .int .i64 0, .int .i64 0, .bool false]) (size := 6) (bytes := 48) rfl (by decide) (by decide) rfl rfl rfl (Hp.cells mem0 (fun j v hj => by simpa [Value.cells] using hj)) (by simp [Value.oneCell']) (by omega) (fun v' => foc1)
              intro v74
              refine' TL.y rfl rfl rfl ?hy172 ?_
              case hy172 => exact Yl.assign rfl rfl
              refine TL.nil ?_
              refine TE.next ?_
              refine TC.seq ?_
              refine TC.region ?_
              refine' TL.y rfl rfl rfl ?hy173 ?_
              case hy173 => exact Yl.move rfl rfl
              refine' TL.y rfl rfl rfl ?hy174 ?_
              case hy174 => exact Yl.assign rfl rfl
              refine' TL.y rfl rfl rfl ?hy175 ?_
              case hy175 => exact Yl.assign rfl rfl
              refine TL.nil ?_
              refine TE.next ?_
              refine TC.ret ?_
              refine TE.ret2 rfl rfl rfl ?_
              obtain rfl : i = l.length := by omega
              rw [List.take_length] at *
              have hno := all_at hF
              have hb : addL l x = (ins x l, 0) := by
                unfold addL
                rw [if_pos hok, if_neg]
                rw [busy_ov hrt]
                have : ov x l = false := by unfold ov; rw [List.any_eq_false]; intro y hy; rw [hno y hy]; simp
                rw [this]; simp
              have hfin := rad_fin ((good_iff x).1 hva) hrt hno
              have hpl : plB x l = false := by simpa using hs70
              have hrd : radL x l = l := if_neg (by rw [hpl]; simp)
              rw [hrd]
              exact fun w h => ⟨v74, by rw [hb], by
                rw [hb]
                dsimp only
                rw [← hfin, ins2_end hpl, ← rowG_snoc]
                exact (h.sub (.cons _ (.cons_cons _ (List.nil_sublist _)))).leaveNew⟩
            · skip
              (try simp only [nrm] at hs70)
              refine TC.skip ?_
              refine TE.next ?_
              refine TC.seq ?_
              refine TC.region ?_
              refine' TL.y rfl rfl rfl ?hy176 ?_
              case hy176 => exact Yl.move rfl rfl
              refine' TL.y rfl rfl rfl ?hy177 ?_
              case hy177 => exact Yl.assign rfl rfl
              refine' TL.y rfl rfl rfl ?hy178 ?_
              case hy178 => exact Yl.assign rfl rfl
              refine TL.nil ?_
              refine TE.next ?_
              refine TC.ret ?_
              refine TE.ret2 rfl rfl rfl ?_
              obtain rfl : i = l.length := by omega
              rw [List.take_length] at *
              have hno := all_at hF
              have hb : addL l x = (ins x l, 0) := by
                unfold addL
                rw [if_pos hok, if_neg]
                rw [busy_ov hrt]
                have : ov x l = false := by unfold ov; rw [List.any_eq_false]; intro y hy; rw [hno y hy]; simp
                rw [this]; simp
              have hfin := rad_fin ((good_iff x).1 hva) hrt hno
              have hpl : plB x l = true := by simpa using hs70
              have hrd : radL x l = ins2 x l := if_pos hpl
              rw [hrd]
              exact fun w h => ⟨v, by rw [hb], by
                rw [hb]
                dsimp only
                rw [← hfin]
                exact (h.sub (.cons_cons _ (List.nil_sublist _))).leaveNew⟩
set_option maxRecDepth 100000 in
set_option maxHeartbeats 2000000 in
theorem k_rcutG (W : World) {l : List S25} {A : Option Addr} {cp : Nat} (hS : Sl W A (Rw l)) (hm : l.length ≤ 100000) (p q : Int) : Calls Try.prog 53 #[.slice A l.length cp, .int .i64 p, .int .i64 q] W fun e w' => ∃ v : Value, e = .returned v ∧ (rowG v (cutL l p q)).holds w' ∧ Below W.heap.size W w' ∧ ∀ k, (rowG v (cutL l p q)).foot k → W.heap.size ≤ k := by
  have hM : Hp W (fun _ => False) [] W := Hp.start
  refine TC.enter (n := 67) Try.func53 rfl rfl rfl hM ?_
  refine TC.seq ?_
  refine TC.region ?_
  refine' TL.y rfl rfl rfl ?hy1 ?_
  case hy1 => exact Yl.assign rfl rfl
  refine TL.nil ?_
  refine TE.next ?_
  refine TC.seq ?_
  refine TC.seq ?_
  refine TC.region ?_
  refine' TL.y rfl rfl rfl ?hy2 ?_
  case hy2 => exact Yl.move rfl rfl
  refine' TL.c rfl rfl rfl ?hy3 ?_
  case hy3 => exact Yc.call rfl Try.func61 (by kernel_rfl) rfl rfl (Hp.calls (fun w h => k_rrightG w (hS.below h.below) hm))
  intro _
  refine' TL.y rfl rfl rfl ?hy4 ?_
  case hy4 => exact Yl.not rfl rfl
  refine TL.nil ?_
  refine TE.next ?_
  refine TC.cond rfl (fun hs12 => ?_) (fun hs12 => ?_)
  · skip
    (try simp only [nrm] at hs12)
    refine TC.seq ?_
    refine TC.region ?_
    refine' TL.y rfl rfl rfl ?hy5 ?_
    case hy5 => exact Yl.assign rfl rfl
    refine TL.nil ?_
    refine TE.next ?_
    refine TC.ret ?_
    refine TE.thenRet ?_
    refine TE.ret1 rfl rfl ?_
    exact fun w h => ⟨.slice none 0 0, rfl, by rw [show cutL l p q = [] from if_neg (by simpa using hs12)]; exact (rowG_nil (h.sub (List.nil_sublist _))).leaveNew⟩
  · skip
    (try simp only [nrm] at hs12)
    refine TC.skip ?_
    refine TE.next ?_
    refine TC.seq ?_
    refine TC.region ?_
    refine' TL.y rfl rfl rfl ?hy6 ?_
    case hy6 => exact Yl.assign rfl rfl
    refine TL.nil ?_
    refine TE.next ?_
    refine TC.seq ?_
    refine TC.seq ?_
    refine TC.region ?_
    refine' TL.y rfl rfl rfl ?hy7 ?_
    case hy7 => exact Yl.assign rfl rfl
    refine TL.nil ?_
    refine TE.next ?_
    refine TC.block ?_
    refine TC.loop (σ := Nat × Value) (fun s => [(0, .slice A l.length cp), (1, .int .i64 p), (2, .int .i64 q), (7, s.2), (8, .int .i64 (s.1 : Int))]) (fun s => Hp W (fun _ => False) [rowG s.2 (cutS (l.take s.1) p q)]) (fun s => s.1 ≤ l.length) (fun s => l.length - s.1) (0, .slice none 0 0) ?hF8 ?hs8 ?hm8 ?round8
    case hF8 => exact Nat.zero_le _
    case hs8 => exact ⟨rfl, rfl, rfl, rfl, rfl, trivial⟩
    case hm8 => exact fun w h => by dsimp only; rw [List.take_zero]; exact rowG_nil h
    case round8 =>
      rintro ⟨i, v⟩ hi
      dsimp only at hi ⊢
      refine TC.seq ?_
      refine TC.seq ?_
      refine TC.region ?_
      refine' TL.y rfl rfl rfl ?hy9 ?_
      case hy9 => exact Yl.move rfl rfl
      refine' TL.y rfl rfl rfl ?hy10 ?_
      case hy10 => exact Yl.move rfl rfl
      refine' TL.y rfl rfl rfl ?hy11 ?_
      case hy11 => exact Yl.len rfl rfl Try.underlying44
      refine' TL.y rfl rfl rfl ?hy12 ?_
      case hy12 => exact Yl.bin rfl rfl rfl (Bin.lss _ _ _ _)
      refine TL.nil ?_
      refine TE.next ?_
      refine TC.cond rfl (fun hs16 => ?_) (fun hs16 => ?_)
      · skip
        (try simp only [nrm] at hs16)
        obtain ⟨b, o, rfl⟩ := Sl.some2 hS (by rw [Rw_length]; omega)
        have hrt : rightB l = true := by simpa using hs12
        have hgd := (right_mem hrt (atG l i) (atG_mem (by omega))).1
        have h0 := hgd.a; have h1 := hgd.b; have h2 := hgd.c
        have hcl := cutS_len p q (l.take i)
        rw [List.length_take] at hcl
        refine TC.skip ?_
        refine TE.next ?_
        refine TC.seq ?_
        refine TC.block ?_
        refine TC.seq ?_
        refine TC.region ?_
        refine' TL.y rfl rfl rfl ?hy13 ?_
        case hy13 => exact Yl.move rfl rfl
        refine' TL.y rfl rfl rfl ?hy14 ?_
        case hy14 => exact Yl.move rfl rfl
        refine' TL.y rfl rfl rfl ?hy15 ?_
        case hy15 => first | exact Yl.ixkn (k := 6) rfl rfl rfl Try.underlying44 (by kernel_rfl) (by omega) | exact Yl.ixkz (k := 6) rfl rfl rfl Try.underlying44 (by kernel_rfl) (by omega) (by omega)
        refine' TL.y rfl rfl rfl ?hy16 ?_
        case hy16 => exact Yl.loads (cs := [.int .i64 (atG l i).f0, .int .i64 (atG l i).f1, .int .i64 (atG l i).f2, .int .i64 (atG l i).f3, .int .i64 (atG l i).f4, .bool (atG l i).f5]) rfl rfl (by kernel_rfl) (by kernel_rfl) (Sl.rgs hS (i := i) (by omega))
        refine' TL.mx rfl rfl rfl ?hy17 ?_
        case hy17 => exact Ym.alloc (z := .agg #[.int .i64 0, .int .i64 0, .int .i64 0, .int .i64 0, .int .i64 0, .bool false]) rfl (by kernel_rfl)
        intro b9
        refine' TL.s rfl rfl ?hy18 ?_
        case hy18 => exact Ys.store (seg := [.int .i64 ((atG l i)).f0, .int .i64 ((atG l i)).f1, .int .i64 ((atG l i)).f2, .int .i64 ((atG l i)).f3, .int .i64 ((atG l i)).f4, .bool ((atG l i)).f5]) (c' := #[.int .i64 ((atG l i)).f0, .int .i64 ((atG l i)).f1, .int .i64 ((atG l i)).f2, .int .i64 ((atG l i)).f3, .int .i64 ((atG l i)).f4, .bool ((atG l i)).f5]) rfl rfl rfl (by simp [Value.cells]) (by kernel_rfl) (by simp [Value.oneCell']) foc0 (by simp [Value.cells]) (by kernel_rfl)
        refine TL.nil ?_
        refine TE.next ?_
        refine TC.seq ?_
        refine TC.seq ?_
        refine TC.region ?_
        refine' TL.y rfl rfl rfl ?hy19 ?_
        case hy19 => exact Yl.move rfl rfl
        refine' TL.y rfl rfl rfl ?hy20 ?_
        case hy20 => exact Yl.move rfl rfl
        refine' TL.y rfl rfl rfl ?hy21 ?_
        case hy21 => exact Yl.bin rfl rfl rfl (Bin.leq _ _ _ _)
        refine' TL.y rfl rfl rfl ?hy22 ?_
        case hy22 => exact Yl.move rfl rfl
        refine TL.split (i := 26) rfl (fun hs26 => ?_) (fun hs26 => ?_)
        · skip
          (try simp only [nrm] at hs26)
          refine TL.skip rfl rfl rfl ?_
          refine TL.skip rfl rfl rfl ?_
          refine TL.skip rfl rfl rfl ?_
          refine TL.skip rfl rfl rfl ?_
          refine' TL.y rfl rfl rfl ?hy23 ?_
          case hy23 => exact Yl.pickT rfl rfl rfl
          refine' TL.y rfl rfl rfl ?hy24 ?_
          case hy24 => exact Yl.move rfl rfl
          refine TL.skip rfl rfl rfl ?_
          refine TL.skip rfl rfl rfl ?_
          refine TL.skip rfl rfl rfl ?_
          refine TL.skip rfl rfl rfl ?_
          refine' TL.y rfl rfl rfl ?hy25 ?_
          case hy25 => exact Yl.pickT rfl rfl rfl
          refine TL.nil ?_
          refine TE.next ?_
          refine TC.yes rfl rfl ?_
          refine TC.seq ?_
          refine TC.region ?_
          refine' TL.y rfl rfl rfl ?hy26 ?_
          case hy26 => exact Yl.move rfl rfl
          refine' TL.y rfl rfl rfl ?hy27 ?_
          case hy27 => exact Yl.loads (cs := [.int .i64 ((atG l i)).f0, .int .i64 ((atG l i)).f1, .int .i64 ((atG l i)).f2, .int .i64 ((atG l i)).f3, .int .i64 ((atG l i)).f4, .bool ((atG l i)).f5]) rfl rfl (by kernel_rfl) (by kernel_rfl) (Hp.cells mem0 (fun j v hj => by simpa [Value.cells] using hj))
          refine' TL.mx rfl rfl rfl ?hy28 ?_
          case hy28 => exact Ym.buildSlice (cells := #[.int .i64 ((atG l i)).f0, .int .i64 ((atG l i)).f1, .int .i64 ((atG l i)).f2, .int .i64 ((atG l i)).f3, .int .i64 ((atG l i)).f4, .bool ((atG l i)).f5]) (z := .agg #[.int .i64 0, .int .i64 0, .int .i64 0, .int .i64 0, .int .i64 0, .bool false]) (size := 6) #[.int .i64 0, .int .i64 0, .int .i64 0, .int .i64 0, .int .i64 0, .bool false] rfl Try.underlying44 (by kernel_rfl) (by decide) (by decide) (by kernel_rfl) rfl (by kernel_rfl)
          intro b40
          refine' TL.mx rfl rfl rfl ?hy29 ?_
          case hy29 => exact Ym.append (e := 28) (news := [.int .i64 ((atG l i)).f0, .int .i64 ((atG l i)).f1, .int .i64 ((atG l i)).f2, .int .i64 ((atG l i)).f3, .int .i64 ((atG l i)).f4, .bool ((atG l i)).f5]) (m := (cutS (l.take i) p q).length) (xs := Rw (cutS (l.take i) p q)) rfl Try.underlying44 (by kernel_rfl) (z := .agg #[.int .i64 0, .int .i64 0, .int .i64 0, .int .i64 0, .int .i64 0, .bool false]) (size := 6) (bytes := 48) rfl (by decide) (by decide) rfl rfl rfl (Hp.cells mem0 (fun j v hj => by simpa [Value.cells] using hj)) (by simp [Value.oneCell']) (by omega) (fun v' => foc2)
          intro v41
          refine' TL.y rfl rfl rfl ?hy30 ?_
          case hy30 => exact Yl.assign rfl rfl
          refine TL.nil ?_
          refine TE.next ?_
          refine TC.exit ?_
          refine TE.thenExit ?_
          refine TE.inHere ?_
          refine TE.next ?_
          refine TC.region ?_
          refine' TL.y rfl rfl rfl ?hy31 ?_
          case hy31 => exact Yl.move rfl rfl
          refine' TL.y rfl rfl rfl ?hy32 ?_
          case hy32 => first | (refine Yl.val (Yl.bin rfl rfl rfl (Bin.add _ _ _ _)) (congrArg (Value.int .i64) (i64in ?_ ?_)) <;> omega) | exact Yl.bin rfl rfl rfl (Bin.add _ _ _ _)
          refine' TL.y rfl rfl rfl ?hy33 ?_
          case hy33 => exact Yl.assign rfl rfl
          refine TL.nil ?_
          refine TE.round (i + 1, v41) ?hF34 ?hlt34 ?hs34 ?hm34
          case hF34 => dsimp only; omega
          case hlt34 => dsimp only; omega
          case hs34 => exact ⟨rfl, rfl, rfl, rfl, rfl, trivial⟩
          case hm34 => exact (fun w h => by
            dsimp only
            rw [atG_take (by omega), cutS_snoc, step_id hgd (by omega), ← rowG_snoc]
            exact h.sub (by repeat (first | exact sR _ | exact sN _ | apply sK | apply sC)))
        · skip
          (try simp only [nrm] at hs26)
          refine' TL.y rfl rfl rfl ?hy35 ?_
          case hy35 => first | exact Yl.field0 (k := 0) 1 rfl rfl Try.underlying28 rfl (by kernel_rfl) rfl | exact Yl.field (k := 0) 1 rfl rfl Try.underlying28 rfl (by kernel_rfl) rfl
          refine' TL.y rfl rfl rfl ?hy36 ?_
          case hy36 => exact Yl.load rfl rfl (by kernel_rfl) (by first | exact Hp.cell mem0 rfl | exact Hp.cell mem1 rfl | exact Hp.cell mem2 rfl | exact Hp.cell mem3 rfl | exact Hp.cell mem4 rfl | exact Hp.rowAt mem0 (by omega) rfl | exact Hp.rowAt mem1 (by omega) rfl | exact Hp.rowAt mem2 (by omega) rfl | exact Hp.rowAt mem3 (by omega) rfl | exact Hp.rowAt mem4 (by omega) rfl)
          refine' TL.y rfl rfl rfl ?hy37 ?_
          case hy37 => exact Yl.move rfl rfl
          refine' TL.y rfl rfl rfl ?hy38 ?_
          case hy38 => exact Yl.bin rfl rfl rfl (Bin.leq _ _ _ _)
          refine' TL.y rfl rfl rfl ?hy39 ?_
          case hy39 => exact Yl.pickF rfl rfl rfl
          refine' TL.y rfl rfl rfl ?hy40 ?_
          case hy40 => exact Yl.move rfl rfl
          refine TL.split (i := 32) rfl (fun hs32 => ?_) (fun hs32 => ?_)
          · skip
            (try simp only [nrm] at hs32)
            refine TL.skip rfl rfl rfl ?_
            refine TL.skip rfl rfl rfl ?_
            refine TL.skip rfl rfl rfl ?_
            refine TL.skip rfl rfl rfl ?_
            refine' TL.y rfl rfl rfl ?hy41 ?_
            case hy41 => exact Yl.pickT rfl rfl rfl
            refine TL.nil ?_
            refine TE.next ?_
            refine TC.yes rfl rfl ?_
            refine TC.seq ?_
            refine TC.region ?_
            refine' TL.y rfl rfl rfl ?hy42 ?_
            case hy42 => exact Yl.move rfl rfl
            refine' TL.y rfl rfl rfl ?hy43 ?_
            case hy43 => exact Yl.loads (cs := [.int .i64 ((atG l i)).f0, .int .i64 ((atG l i)).f1, .int .i64 ((atG l i)).f2, .int .i64 ((atG l i)).f3, .int .i64 ((atG l i)).f4, .bool ((atG l i)).f5]) rfl rfl (by kernel_rfl) (by kernel_rfl) (Hp.cells mem0 (fun j v hj => by simpa [Value.cells] using hj))
            refine' TL.mx rfl rfl rfl ?hy44 ?_
            case hy44 => exact Ym.buildSlice (cells := #[.int .i64 ((atG l i)).f0, .int .i64 ((atG l i)).f1, .int .i64 ((atG l i)).f2, .int .i64 ((atG l i)).f3, .int .i64 ((atG l i)).f4, .bool ((atG l i)).f5]) (z := .agg #[.int .i64 0, .int .i64 0, .int .i64 0, .int .i64 0, .int .i64 0, .bool false]) (size := 6) #[.int .i64 0, .int .i64 0, .int .i64 0, .int .i64 0, .int .i64 0, .bool false] rfl Try.underlying44 (by kernel_rfl) (by decide) (by decide) (by kernel_rfl) rfl (by kernel_rfl)
            intro b40
            refine' TL.mx rfl rfl rfl ?hy45 ?_
            case hy45 => exact Ym.append (e := 28) (news := [.int .i64 ((atG l i)).f0, .int .i64 ((atG l i)).f1, .int .i64 ((atG l i)).f2, .int .i64 ((atG l i)).f3, .int .i64 ((atG l i)).f4, .bool ((atG l i)).f5]) (m := (cutS (l.take i) p q).length) (xs := Rw (cutS (l.take i) p q)) rfl Try.underlying44 (by kernel_rfl) (z := .agg #[.int .i64 0, .int .i64 0, .int .i64 0, .int .i64 0, .int .i64 0, .bool false]) (size := 6) (bytes := 48) rfl (by decide) (by decide) rfl rfl rfl (Hp.cells mem0 (fun j v hj => by simpa [Value.cells] using hj)) (by simp [Value.oneCell']) (by omega) (fun v' => foc2)
            intro v41
            refine' TL.y rfl rfl rfl ?hy46 ?_
            case hy46 => exact Yl.assign rfl rfl
            refine TL.nil ?_
            refine TE.next ?_
            refine TC.exit ?_
            refine TE.thenExit ?_
            refine TE.inHere ?_
            refine TE.next ?_
            refine TC.region ?_
            refine' TL.y rfl rfl rfl ?hy47 ?_
            case hy47 => exact Yl.move rfl rfl
            refine' TL.y rfl rfl rfl ?hy48 ?_
            case hy48 => first | (refine Yl.val (Yl.bin rfl rfl rfl (Bin.add _ _ _ _)) (congrArg (Value.int .i64) (i64in ?_ ?_)) <;> omega) | exact Yl.bin rfl rfl rfl (Bin.add _ _ _ _)
            refine' TL.y rfl rfl rfl ?hy49 ?_
            case hy49 => exact Yl.assign rfl rfl
            refine TL.nil ?_
            refine TE.round (i + 1, v41) ?hF50 ?hlt50 ?hs50 ?hm50
            case hF50 => dsimp only; omega
            case hlt50 => dsimp only; omega
            case hs50 => exact ⟨rfl, rfl, rfl, rfl, rfl, trivial⟩
            case hm50 => exact (fun w h => by
              dsimp only
              rw [atG_take (by omega), cutS_snoc, step_id hgd (by omega), ← rowG_snoc]
              exact h.sub (by repeat (first | exact sR _ | exact sN _ | apply sK | apply sC)))
          · skip
            (try simp only [nrm] at hs32)
            refine' TL.y rfl rfl rfl ?hy51 ?_
            case hy51 => first | exact Yl.field0 (k := 0) 0 rfl rfl Try.underlying28 rfl (by kernel_rfl) rfl | exact Yl.field (k := 0) 0 rfl rfl Try.underlying28 rfl (by kernel_rfl) rfl
            refine' TL.y rfl rfl rfl ?hy52 ?_
            case hy52 => exact Yl.load rfl rfl (by kernel_rfl) (by first | exact Hp.cell mem0 rfl | exact Hp.cell mem1 rfl | exact Hp.cell mem2 rfl | exact Hp.cell mem3 rfl | exact Hp.cell mem4 rfl | exact Hp.rowAt mem0 (by omega) rfl | exact Hp.rowAt mem1 (by omega) rfl | exact Hp.rowAt mem2 (by omega) rfl | exact Hp.rowAt mem3 (by omega) rfl | exact Hp.rowAt mem4 (by omega) rfl)
            refine' TL.y rfl rfl rfl ?hy53 ?_
            case hy53 => exact Yl.move rfl rfl
            refine' TL.y rfl rfl rfl ?hy54 ?_
            case hy54 => exact Yl.bin rfl rfl rfl (Bin.geq _ _ _ _)
            refine' TL.y rfl rfl rfl ?hy55 ?_
            case hy55 => exact Yl.pickF rfl rfl rfl
            refine TL.nil ?_
            refine TE.next ?_
            refine TC.cond rfl (fun hs37 => ?_) (fun hs37 => ?_)
            · skip
              (try simp only [nrm] at hs37)
              refine TC.seq ?_
              refine TC.region ?_
              refine' TL.y rfl rfl rfl ?hy56 ?_
              case hy56 => exact Yl.move rfl rfl
              refine' TL.y rfl rfl rfl ?hy57 ?_
              case hy57 => exact Yl.loads (cs := [.int .i64 ((atG l i)).f0, .int .i64 ((atG l i)).f1, .int .i64 ((atG l i)).f2, .int .i64 ((atG l i)).f3, .int .i64 ((atG l i)).f4, .bool ((atG l i)).f5]) rfl rfl (by kernel_rfl) (by kernel_rfl) (Hp.cells mem0 (fun j v hj => by simpa [Value.cells] using hj))
              refine' TL.mx rfl rfl rfl ?hy58 ?_
              case hy58 => exact Ym.buildSlice (cells := #[.int .i64 ((atG l i)).f0, .int .i64 ((atG l i)).f1, .int .i64 ((atG l i)).f2, .int .i64 ((atG l i)).f3, .int .i64 ((atG l i)).f4, .bool ((atG l i)).f5]) (z := .agg #[.int .i64 0, .int .i64 0, .int .i64 0, .int .i64 0, .int .i64 0, .bool false]) (size := 6) #[.int .i64 0, .int .i64 0, .int .i64 0, .int .i64 0, .int .i64 0, .bool false] rfl Try.underlying44 (by kernel_rfl) (by decide) (by decide) (by kernel_rfl) rfl (by kernel_rfl)
              intro b40
              refine' TL.mx rfl rfl rfl ?hy59 ?_
              case hy59 => exact Ym.append (e := 28) (news := [.int .i64 ((atG l i)).f0, .int .i64 ((atG l i)).f1, .int .i64 ((atG l i)).f2, .int .i64 ((atG l i)).f3, .int .i64 ((atG l i)).f4, .bool ((atG l i)).f5]) (m := (cutS (l.take i) p q).length) (xs := Rw (cutS (l.take i) p q)) rfl Try.underlying44 (by kernel_rfl) (z := .agg #[.int .i64 0, .int .i64 0, .int .i64 0, .int .i64 0, .int .i64 0, .bool false]) (size := 6) (bytes := 48) rfl (by decide) (by decide) rfl rfl rfl (Hp.cells mem0 (fun j v hj => by simpa [Value.cells] using hj)) (by simp [Value.oneCell']) (by omega) (fun v' => foc2)
              intro v41
              refine' TL.y rfl rfl rfl ?hy60 ?_
              case hy60 => exact Yl.assign rfl rfl
              refine TL.nil ?_
              refine TE.next ?_
              refine TC.exit ?_
              refine TE.thenExit ?_
              refine TE.inHere ?_
              refine TE.next ?_
              refine TC.region ?_
              refine' TL.y rfl rfl rfl ?hy61 ?_
              case hy61 => exact Yl.move rfl rfl
              refine' TL.y rfl rfl rfl ?hy62 ?_
              case hy62 => first | (refine Yl.val (Yl.bin rfl rfl rfl (Bin.add _ _ _ _)) (congrArg (Value.int .i64) (i64in ?_ ?_)) <;> omega) | exact Yl.bin rfl rfl rfl (Bin.add _ _ _ _)
              refine' TL.y rfl rfl rfl ?hy63 ?_
              case hy63 => exact Yl.assign rfl rfl
              refine TL.nil ?_
              refine TE.round (i + 1, v41) ?hF64 ?hlt64 ?hs64 ?hm64
              case hF64 => dsimp only; omega
              case hlt64 => dsimp only; omega
              case hs64 => exact ⟨rfl, rfl, rfl, rfl, rfl, trivial⟩
              case hm64 => exact (fun w h => by
                dsimp only
                rw [atG_take (by omega), cutS_snoc, step_id hgd (by omega), ← rowG_snoc]
                exact h.sub (by repeat (first | exact sR _ | exact sN _ | apply sK | apply sC)))
            · skip
              (try simp only [nrm] at hs37)
              refine TC.skip ?_
              refine TE.next ?_
              refine TC.seq ?_
              refine TC.seq ?_
              refine TC.region ?_
              refine' TL.y rfl rfl rfl ?hy65 ?_
              case hy65 => first | exact Yl.field0 (k := 0) 0 rfl rfl Try.underlying28 rfl (by kernel_rfl) rfl | exact Yl.field (k := 0) 0 rfl rfl Try.underlying28 rfl (by kernel_rfl) rfl
              refine' TL.y rfl rfl rfl ?hy66 ?_
              case hy66 => exact Yl.load rfl rfl (by kernel_rfl) (by first | exact Hp.cell mem0 rfl | exact Hp.cell mem1 rfl | exact Hp.cell mem2 rfl | exact Hp.cell mem3 rfl | exact Hp.cell mem4 rfl | exact Hp.rowAt mem0 (by omega) rfl | exact Hp.rowAt mem1 (by omega) rfl | exact Hp.rowAt mem2 (by omega) rfl | exact Hp.rowAt mem3 (by omega) rfl | exact Hp.rowAt mem4 (by omega) rfl)
              refine' TL.y rfl rfl rfl ?hy67 ?_
              case hy67 => exact Yl.move rfl rfl
              refine' TL.y rfl rfl rfl ?hy68 ?_
              case hy68 => exact Yl.bin rfl rfl rfl (Bin.lss _ _ _ _)
              refine TL.nil ?_
              refine TE.next ?_
              refine TC.cond rfl (fun hs45 => ?_) (fun hs45 => ?_)
              · skip
                (try simp only [nrm] at hs45)
                obtain ⟨P1, hP1⟩ : ∃ y, partS (atG l i) (atG l i).f0 p = y := ⟨_, rfl⟩
                refine TC.region ?_
                refine' TL.y rfl rfl rfl ?hy69 ?_
                case hy69 => exact Yl.move rfl rfl
                refine' TL.y rfl rfl rfl ?hy70 ?_
                case hy70 => exact Yl.loads (cs := [.int .i64 ((atG l i)).f0, .int .i64 ((atG l i)).f1, .int .i64 ((atG l i)).f2, .int .i64 ((atG l i)).f3, .int .i64 ((atG l i)).f4, .bool ((atG l i)).f5]) rfl rfl (by kernel_rfl) (by kernel_rfl) (Hp.cells mem0 (fun j v hj => by simpa [Value.cells] using hj))
                refine' TL.y rfl rfl rfl ?hy71 ?_
                case hy71 => first | exact Yl.field0 (k := 0) 0 rfl rfl Try.underlying28 rfl (by kernel_rfl) rfl | exact Yl.field (k := 0) 0 rfl rfl Try.underlying28 rfl (by kernel_rfl) rfl
                refine' TL.y rfl rfl rfl ?hy72 ?_
                case hy72 => exact Yl.load rfl rfl (by kernel_rfl) (by first | exact Hp.cell mem0 rfl | exact Hp.cell mem1 rfl | exact Hp.cell mem2 rfl | exact Hp.cell mem3 rfl | exact Hp.cell mem4 rfl | exact Hp.rowAt mem0 (by omega) rfl | exact Hp.rowAt mem1 (by omega) rfl | exact Hp.rowAt mem2 (by omega) rfl | exact Hp.rowAt mem3 (by omega) rfl | exact Hp.rowAt mem4 (by omega) rfl)
                refine' TL.y rfl rfl rfl ?hy73 ?_
                case hy73 => exact Yl.move rfl rfl
                refine' TL.c rfl rfl rfl ?hy74 ?_
                case hy74 => exact Yc.call rfl Try.func81 (by kernel_rfl) rfl rfl (Hp.calls (fun w h => k_rpart' w hgd hP1 (by omega) (by omega)))
                intro _
                refine' TL.mx rfl rfl rfl ?hy75 ?_
                case hy75 => exact Ym.buildSlice (cells := #[.int .i64 (P1).f0, .int .i64 (P1).f1, .int .i64 (P1).f2, .int .i64 (P1).f3, .int .i64 (P1).f4, .bool (P1).f5]) (z := .agg #[.int .i64 0, .int .i64 0, .int .i64 0, .int .i64 0, .int .i64 0, .bool false]) (size := 6) #[.int .i64 0, .int .i64 0, .int .i64 0, .int .i64 0, .int .i64 0, .bool false] rfl Try.underlying44 (by kernel_rfl) (by decide) (by decide) (by kernel_rfl) rfl (by kernel_rfl)
                intro b52
                refine' TL.mx rfl rfl rfl ?hy76 ?_
                case hy76 => exact Ym.append (e := 28) (news := [.int .i64 (P1).f0, .int .i64 (P1).f1, .int .i64 (P1).f2, .int .i64 (P1).f3, .int .i64 (P1).f4, .bool (P1).f5]) (m := (cutS (l.take i) p q).length) (xs := Rw (cutS (l.take i) p q)) rfl Try.underlying44 (by kernel_rfl) (z := .agg #[.int .i64 0, .int .i64 0, .int .i64 0, .int .i64 0, .int .i64 0, .bool false]) (size := 6) (bytes := 48) rfl (by decide) (by decide) rfl rfl rfl (Hp.cells mem0 (fun j v hj => by simpa [Value.cells] using hj)) (by simp [Value.oneCell']) (by omega) (fun v' => foc2)
                intro v53
                refine' TL.y rfl rfl rfl ?hy77 ?_
                case hy77 => exact Yl.assign rfl rfl
                refine TL.nil ?_
                refine TE.next ?_
                refine TC.seq ?_
                refine TC.region ?_
                refine' TL.y rfl rfl rfl ?hy78 ?_
                case hy78 => first | exact Yl.field0 (k := 0) 1 rfl rfl Try.underlying28 rfl (by kernel_rfl) rfl | exact Yl.field (k := 0) 1 rfl rfl Try.underlying28 rfl (by kernel_rfl) rfl
                refine' TL.y rfl rfl rfl ?hy79 ?_
                case hy79 => exact Yl.load rfl rfl (by kernel_rfl) (by first | exact Hp.cell mem0 rfl | exact Hp.cell mem1 rfl | exact Hp.cell mem2 rfl | exact Hp.cell mem3 rfl | exact Hp.cell mem4 rfl | exact Hp.rowAt mem0 (by omega) rfl | exact Hp.rowAt mem1 (by omega) rfl | exact Hp.rowAt mem2 (by omega) rfl | exact Hp.rowAt mem3 (by omega) rfl | exact Hp.rowAt mem4 (by omega) rfl)
                refine' TL.y rfl rfl rfl ?hy80 ?_
                case hy80 => exact Yl.move rfl rfl
                refine' TL.y rfl rfl rfl ?hy81 ?_
                case hy81 => exact Yl.bin rfl rfl rfl (Bin.gtr _ _ _ _)
                refine TL.nil ?_
                refine TE.next ?_
                refine TC.cond rfl (fun hs57 => ?_) (fun hs57 => ?_)
                · skip
                  (try simp only [nrm] at hs57)
                  obtain ⟨P2, hP2⟩ : ∃ y, partS (atG l i) q (atG l i).f1 = y := ⟨_, rfl⟩
                  refine TC.region ?_
                  refine' TL.y rfl rfl rfl ?hy82 ?_
                  case hy82 => exact Yl.move rfl rfl
                  refine' TL.y rfl rfl rfl ?hy83 ?_
                  case hy83 => exact Yl.loads (cs := [.int .i64 ((atG l i)).f0, .int .i64 ((atG l i)).f1, .int .i64 ((atG l i)).f2, .int .i64 ((atG l i)).f3, .int .i64 ((atG l i)).f4, .bool ((atG l i)).f5]) rfl rfl (by kernel_rfl) (by kernel_rfl) (Hp.cells mem1 (fun j v hj => by simpa [Value.cells] using hj))
                  refine' TL.y rfl rfl rfl ?hy84 ?_
                  case hy84 => exact Yl.move rfl rfl
                  refine' TL.y rfl rfl rfl ?hy85 ?_
                  case hy85 => first | exact Yl.field0 (k := 0) 1 rfl rfl Try.underlying28 rfl (by kernel_rfl) rfl | exact Yl.field (k := 0) 1 rfl rfl Try.underlying28 rfl (by kernel_rfl) rfl
                  refine' TL.y rfl rfl rfl ?hy86 ?_
                  case hy86 => exact Yl.load rfl rfl (by kernel_rfl) (by first | exact Hp.cell mem0 rfl | exact Hp.cell mem1 rfl | exact Hp.cell mem2 rfl | exact Hp.cell mem3 rfl | exact Hp.cell mem4 rfl | exact Hp.rowAt mem0 (by omega) rfl | exact Hp.rowAt mem1 (by omega) rfl | exact Hp.rowAt mem2 (by omega) rfl | exact Hp.rowAt mem3 (by omega) rfl | exact Hp.rowAt mem4 (by omega) rfl)
                  refine' TL.c rfl rfl rfl ?hy87 ?_
                  case hy87 => exact Yc.call rfl Try.func81 (by kernel_rfl) rfl rfl (Hp.calls (fun w h => k_rpart' w hgd hP2 (by omega) (by omega)))
                  intro _
                  refine' TL.mx rfl rfl rfl ?hy88 ?_
                  case hy88 => exact Ym.buildSlice (cells := #[.int .i64 (P2).f0, .int .i64 (P2).f1, .int .i64 (P2).f2, .int .i64 (P2).f3, .int .i64 (P2).f4, .bool (P2).f5]) (z := .agg #[.int .i64 0, .int .i64 0, .int .i64 0, .int .i64 0, .int .i64 0, .bool false]) (size := 6) #[.int .i64 0, .int .i64 0, .int .i64 0, .int .i64 0, .int .i64 0, .bool false] rfl Try.underlying44 (by kernel_rfl) (by decide) (by decide) (by kernel_rfl) rfl (by kernel_rfl)
                  intro b64
                  refine' TL.mx rfl rfl rfl ?hy89 ?_
                  case hy89 => exact Ym.append (e := 28) (news := [.int .i64 (P2).f0, .int .i64 (P2).f1, .int .i64 (P2).f2, .int .i64 (P2).f3, .int .i64 (P2).f4, .bool (P2).f5]) (m := (cutS (l.take i) p q).length + 1) (xs := Rw (cutS (l.take i) p q) ++ [.int .i64 (P1).f0, .int .i64 (P1).f1, .int .i64 (P1).f2, .int .i64 (P1).f3, .int .i64 (P1).f4, .bool (P1).f5]) rfl Try.underlying44 (by kernel_rfl) (z := .agg #[.int .i64 0, .int .i64 0, .int .i64 0, .int .i64 0, .int .i64 0, .bool false]) (size := 6) (bytes := 48) rfl (by decide) (by decide) rfl rfl rfl (Hp.cells mem0 (fun j v hj => by simpa [Value.cells] using hj)) (by simp [Value.oneCell']) (by omega) (fun v' => foc3)
                  intro v65
                  refine' TL.y rfl rfl rfl ?hy90 ?_
                  case hy90 => exact Yl.assign rfl rfl
                  refine TL.nil ?_
                  refine TE.inNormal ?_
                  refine TE.next ?_
                  refine TC.region ?_
                  refine' TL.y rfl rfl rfl ?hy91 ?_
                  case hy91 => exact Yl.move rfl rfl
                  refine' TL.y rfl rfl rfl ?hy92 ?_
                  case hy92 => first | (refine Yl.val (Yl.bin rfl rfl rfl (Bin.add _ _ _ _)) (congrArg (Value.int .i64) (i64in ?_ ?_)) <;> omega) | exact Yl.bin rfl rfl rfl (Bin.add _ _ _ _)
                  refine' TL.y rfl rfl rfl ?hy93 ?_
                  case hy93 => exact Yl.assign rfl rfl
                  refine TL.nil ?_
                  refine TE.round (i + 1, v65) ?hF94 ?hlt94 ?hs94 ?hm94
                  case hF94 => dsimp only; omega
                  case hlt94 => dsimp only; omega
                  case hs94 => exact ⟨rfl, rfl, rfl, rfl, rfl, trivial⟩
                  case hm94 => exact (fun w h => by
                    dsimp only
                    rw [atG_take (by omega), cutS_snoc, step_two' (show p < q by omega) (show p < (atG l i).f1 by omega) (show (atG l i).f0 < q by omega), if_pos (show (atG l i).f0 < p by omega), if_pos (show q < (atG l i).f1 by omega), hP1, hP2, ← List.append_assoc, ← rowG_snoc2]
                    exact h.sub (by repeat (first | exact sR _ | exact sN _ | apply sK | apply sC)))
                · skip
                  (try simp only [nrm] at hs57)
                  refine TC.skip ?_
                  refine TE.inNormal ?_
                  refine TE.next ?_
                  refine TC.region ?_
                  refine' TL.y rfl rfl rfl ?hy95 ?_
                  case hy95 => exact Yl.move rfl rfl
                  refine' TL.y rfl rfl rfl ?hy96 ?_
                  case hy96 => first | (refine Yl.val (Yl.bin rfl rfl rfl (Bin.add _ _ _ _)) (congrArg (Value.int .i64) (i64in ?_ ?_)) <;> omega) | exact Yl.bin rfl rfl rfl (Bin.add _ _ _ _)
                  refine' TL.y rfl rfl rfl ?hy97 ?_
                  case hy97 => exact Yl.assign rfl rfl
                  refine TL.nil ?_
                  refine TE.round (i + 1, v53) ?hF98 ?hlt98 ?hs98 ?hm98
                  case hF98 => dsimp only; omega
                  case hlt98 => dsimp only; omega
                  case hs98 => exact ⟨rfl, rfl, rfl, rfl, rfl, trivial⟩
                  case hm98 => exact (fun w h => by
                    dsimp only
                    rw [atG_take (by omega), cutS_snoc, step_two' (show p < q by omega) (show p < (atG l i).f1 by omega) (show (atG l i).f0 < q by omega), if_pos (show (atG l i).f0 < p by omega), if_neg (show ¬ q < (atG l i).f1 by omega), hP1, List.append_nil, ← rowG_snoc]
                    exact h.sub (by repeat (first | exact sR _ | exact sN _ | apply sK | apply sC)))
              · skip
                (try simp only [nrm] at hs45)
                refine TC.skip ?_
                refine TE.next ?_
                refine TC.seq ?_
                refine TC.region ?_
                refine' TL.y rfl rfl rfl ?hy99 ?_
                case hy99 => first | exact Yl.field0 (k := 0) 1 rfl rfl Try.underlying28 rfl (by kernel_rfl) rfl | exact Yl.field (k := 0) 1 rfl rfl Try.underlying28 rfl (by kernel_rfl) rfl
                refine' TL.y rfl rfl rfl ?hy100 ?_
                case hy100 => exact Yl.load rfl rfl (by kernel_rfl) (by first | exact Hp.cell mem0 rfl | exact Hp.cell mem1 rfl | exact Hp.cell mem2 rfl | exact Hp.cell mem3 rfl | exact Hp.cell mem4 rfl | exact Hp.rowAt mem0 (by omega) rfl | exact Hp.rowAt mem1 (by omega) rfl | exact Hp.rowAt mem2 (by omega) rfl | exact Hp.rowAt mem3 (by omega) rfl | exact Hp.rowAt mem4 (by omega) rfl)
                refine' TL.y rfl rfl rfl ?hy101 ?_
                case hy101 => exact Yl.move rfl rfl
                refine' TL.y rfl rfl rfl ?hy102 ?_
                case hy102 => exact Yl.bin rfl rfl rfl (Bin.gtr _ _ _ _)
                refine TL.nil ?_
                refine TE.next ?_
                refine TC.cond rfl (fun hs57 => ?_) (fun hs57 => ?_)
                · skip
                  (try simp only [nrm] at hs57)
                  obtain ⟨P2, hP2⟩ : ∃ y, partS (atG l i) q (atG l i).f1 = y := ⟨_, rfl⟩
                  refine TC.region ?_
                  refine' TL.y rfl rfl rfl ?hy103 ?_
                  case hy103 => exact Yl.move rfl rfl
                  refine' TL.y rfl rfl rfl ?hy104 ?_
                  case hy104 => exact Yl.loads (cs := [.int .i64 ((atG l i)).f0, .int .i64 ((atG l i)).f1, .int .i64 ((atG l i)).f2, .int .i64 ((atG l i)).f3, .int .i64 ((atG l i)).f4, .bool ((atG l i)).f5]) rfl rfl (by kernel_rfl) (by kernel_rfl) (Hp.cells mem0 (fun j v hj => by simpa [Value.cells] using hj))
                  refine' TL.y rfl rfl rfl ?hy105 ?_
                  case hy105 => exact Yl.move rfl rfl
                  refine' TL.y rfl rfl rfl ?hy106 ?_
                  case hy106 => first | exact Yl.field0 (k := 0) 1 rfl rfl Try.underlying28 rfl (by kernel_rfl) rfl | exact Yl.field (k := 0) 1 rfl rfl Try.underlying28 rfl (by kernel_rfl) rfl
                  refine' TL.y rfl rfl rfl ?hy107 ?_
                  case hy107 => exact Yl.load rfl rfl (by kernel_rfl) (by first | exact Hp.cell mem0 rfl | exact Hp.cell mem1 rfl | exact Hp.cell mem2 rfl | exact Hp.cell mem3 rfl | exact Hp.cell mem4 rfl | exact Hp.rowAt mem0 (by omega) rfl | exact Hp.rowAt mem1 (by omega) rfl | exact Hp.rowAt mem2 (by omega) rfl | exact Hp.rowAt mem3 (by omega) rfl | exact Hp.rowAt mem4 (by omega) rfl)
                  refine' TL.c rfl rfl rfl ?hy108 ?_
                  case hy108 => exact Yc.call rfl Try.func81 (by kernel_rfl) rfl rfl (Hp.calls (fun w h => k_rpart' w hgd hP2 (by omega) (by omega)))
                  intro _
                  refine' TL.mx rfl rfl rfl ?hy109 ?_
                  case hy109 => exact Ym.buildSlice (cells := #[.int .i64 (P2).f0, .int .i64 (P2).f1, .int .i64 (P2).f2, .int .i64 (P2).f3, .int .i64 (P2).f4, .bool (P2).f5]) (z := .agg #[.int .i64 0, .int .i64 0, .int .i64 0, .int .i64 0, .int .i64 0, .bool false]) (size := 6) #[.int .i64 0, .int .i64 0, .int .i64 0, .int .i64 0, .int .i64 0, .bool false] rfl Try.underlying44 (by kernel_rfl) (by decide) (by decide) (by kernel_rfl) rfl (by kernel_rfl)
                  intro b64
                  refine' TL.mx rfl rfl rfl ?hy110 ?_
                  case hy110 => exact Ym.append (e := 28) (news := [.int .i64 (P2).f0, .int .i64 (P2).f1, .int .i64 (P2).f2, .int .i64 (P2).f3, .int .i64 (P2).f4, .bool (P2).f5]) (m := (cutS (l.take i) p q).length) (xs := Rw (cutS (l.take i) p q)) rfl Try.underlying44 (by kernel_rfl) (z := .agg #[.int .i64 0, .int .i64 0, .int .i64 0, .int .i64 0, .int .i64 0, .bool false]) (size := 6) (bytes := 48) rfl (by decide) (by decide) rfl rfl rfl (Hp.cells mem0 (fun j v hj => by simpa [Value.cells] using hj)) (by simp [Value.oneCell']) (by omega) (fun v' => foc2)
                  intro v65
                  refine' TL.y rfl rfl rfl ?hy111 ?_
                  case hy111 => exact Yl.assign rfl rfl
                  refine TL.nil ?_
                  refine TE.inNormal ?_
                  refine TE.next ?_
                  refine TC.region ?_
                  refine' TL.y rfl rfl rfl ?hy112 ?_
                  case hy112 => exact Yl.move rfl rfl
                  refine' TL.y rfl rfl rfl ?hy113 ?_
                  case hy113 => first | (refine Yl.val (Yl.bin rfl rfl rfl (Bin.add _ _ _ _)) (congrArg (Value.int .i64) (i64in ?_ ?_)) <;> omega) | exact Yl.bin rfl rfl rfl (Bin.add _ _ _ _)
                  refine' TL.y rfl rfl rfl ?hy114 ?_
                  case hy114 => exact Yl.assign rfl rfl
                  refine TL.nil ?_
                  refine TE.round (i + 1, v65) ?hF115 ?hlt115 ?hs115 ?hm115
                  case hF115 => dsimp only; omega
                  case hlt115 => dsimp only; omega
                  case hs115 => exact ⟨rfl, rfl, rfl, rfl, rfl, trivial⟩
                  case hm115 => exact (fun w h => by
                    dsimp only
                    rw [atG_take (by omega), cutS_snoc, step_two' (show p < q by omega) (show p < (atG l i).f1 by omega) (show (atG l i).f0 < q by omega), if_neg (show ¬ (atG l i).f0 < p by omega), if_pos (show q < (atG l i).f1 by omega), hP2, List.nil_append, ← rowG_snoc]
                    exact h.sub (by repeat (first | exact sR _ | exact sN _ | apply sK | apply sC)))
                · skip
                  (try simp only [nrm] at hs57)
                  refine TC.skip ?_
                  refine TE.inNormal ?_
                  refine TE.next ?_
                  refine TC.region ?_
                  refine' TL.y rfl rfl rfl ?hy116 ?_
                  case hy116 => exact Yl.move rfl rfl
                  refine' TL.y rfl rfl rfl ?hy117 ?_
                  case hy117 => first | (refine Yl.val (Yl.bin rfl rfl rfl (Bin.add _ _ _ _)) (congrArg (Value.int .i64) (i64in ?_ ?_)) <;> omega) | exact Yl.bin rfl rfl rfl (Bin.add _ _ _ _)
                  refine' TL.y rfl rfl rfl ?hy118 ?_
                  case hy118 => exact Yl.assign rfl rfl
                  refine TL.nil ?_
                  refine TE.round (i + 1, v) ?hF119 ?hlt119 ?hs119 ?hm119
                  case hF119 => dsimp only; omega
                  case hlt119 => dsimp only; omega
                  case hs119 => exact ⟨rfl, rfl, rfl, rfl, rfl, trivial⟩
                  case hm119 => exact (fun w h => by
                    dsimp only
                    rw [atG_take (by omega), cutS_snoc, step_two' (show p < q by omega) (show p < (atG l i).f1 by omega) (show (atG l i).f0 < q by omega), if_neg (show ¬ (atG l i).f0 < p by omega), if_neg (show ¬ q < (atG l i).f1 by omega), List.nil_append, List.append_nil]
                    exact h.sub (by repeat (first | exact sR _ | exact sN _ | apply sK | apply sC)))
      · skip
        (try simp only [nrm] at hs16)
        refine TC.exit ?_
        refine TE.thenExit ?_
        refine TE.thenExit ?_
        refine TE.inHere ?_
        refine TE.next ?_
        refine TC.seq ?_
        refine TC.region ?_
        refine' TL.y rfl rfl rfl ?hy120 ?_
        case hy120 => exact Yl.move rfl rfl
        refine' TL.y rfl rfl rfl ?hy121 ?_
        case hy121 => exact Yl.assign rfl rfl
        refine TL.nil ?_
        refine TE.next ?_
        refine TC.ret ?_
        refine TE.ret1 rfl rfl ?_
        obtain rfl : i = l.length := by omega
        have hrt : rightB l = true := by simpa using hs12
        exact fun w h => ⟨v, rfl, by rw [show cutL l p q = cutS l p q from if_pos hrt]; rw [List.take_length] at h; exact (h.sub (.cons_cons _ (List.nil_sublist _))).leaveNew⟩
end Go.Proofs.Ytabjdjkkpbkpfaa.Pk
