/- The row of words: dropped, set. -/
import Derived.Test.YtabjdjkkpbkpfaaRxG
import Derived.Test.YtabjdjkkpbkpfaaProg
import Derived.RowKit3
namespace Go.Proofs.Ytabjdjkkpbkpfaa.Pk
open Go Go.RowKit Go.Proofs.Ytabjdjkkpbkpfaa.HL Go.Proofs.Ytabjdjkkpbkpfaa.Ev Go.Proofs.YtabjdjkkpbkpfaaW.PrintWords Go.Proofs.RxP
set_option linter.unusedVariables false
set_option linter.unusedSimpArgs false
def fl (L : List (Int × Int)) (n : Int) (i : Nat) : List (Int × Int) := (L.take i).filter (fun e => decide (e.1 ≠ n))
theorem fl_yes {L : List (Int × Int)} {n : Int} {i : Nat} (hi : i < L.length) (h : (at_ L i).1 ≠ n) : fl L n (i + 1) = fl L n i ++ [at_ L i] := by
  unfold fl; rw [at_take hi, List.filter_append]; simp [h]
theorem fl_no {L : List (Int × Int)} {n : Int} {i : Nat} (hi : i < L.length) (h : (at_ L i).1 = n) : fl L n (i + 1) = fl L n i := by
  unfold fl; rw [at_take hi, List.filter_append]; simp [h]
theorem fl_len (L : List (Int × Int)) (n : Int) (i : Nat) : (fl L n i).length ≤ i := by
  unfold fl; exact Nat.le_trans (List.length_filter_le _ _) (by rw [List.length_take]; omega)
theorem fl_all (L : List (Int × Int)) (n : Int) : fl L n L.length = L.filter (fun e => decide (e.1 ≠ n)) := by unfold fl; rw [List.take_length]
theorem insL_0 (L : List (Int × Int)) (a : Nat) (e : Int × Int) : insL L a e 0 = [] := by unfold insL; rw [if_pos (Nat.zero_le _), List.take_zero]
theorem insL_len (L : List (Int × Int)) (a : Nat) (e : Int × Int) (i : Nat) : (insL L a e i).length ≤ L.length + 1 := by
  unfold insL
  split
  · rw [List.length_take]; omega
  · rw [List.length_append, List.length_append, List.length_drop, List.length_take, List.length_take]; simp; omega
attribute [local irreducible] btw rowA nth ents Pw at_ fl insL
set_option maxRecDepth 100000 in
set_option maxHeartbeats 2000000 in
theorem k_rdropL {L : List (Int × Int)} (hL : L.length ≤ 65536) {b : Nat} {v : Value} (n : Int) : Turns Try.prog 52 #[.pointer (some ⟨b, 0, none⟩), .int .i64 n] (star (blk b (.cells #[v] 59 (0, 0))) (rowP v L)) (σ := Value) (fun _ => .bool (decide ((L.filter (fun e => decide (e.1 ≠ n))).length < L.length))) (fun v' => star (blk b (.cells #[v'] 59 (0, 0))) (rowP v' (L.filter (fun e => decide (e.1 ≠ n))))) := by
  intro W hR
  have hM0 := Hp.unstar (Hp.enter hR)
  obtain ⟨A, c, rfl⟩ := Hp.ownSl (e := 83) (size := 2) (m := (L).length) (xs := Pw (L)) mem1 W hM0
  have hM := hM0
  refine TC.enter (n := 50) Try.func52 rfl rfl rfl hM ?_
  refine TC.seq ?_
  refine TC.region ?_
  refine' TL.y rfl rfl rfl ?hy1 ?_
  case hy1 => exact Yl.assign rfl rfl
  refine TL.nil ?_
  refine TE.next ?_
  refine TC.seq ?_
  refine TC.region ?_
  refine' TL.y rfl rfl rfl ?hy2 ?_
  case hy2 => exact Yl.assign rfl rfl
  refine TL.nil ?_
  refine TE.next ?_
  refine TC.seq ?_
  refine TC.seq ?_
  refine TC.region ?_
  refine' TL.y rfl rfl rfl ?hy3 ?_
  case hy3 => exact Yl.assign rfl rfl
  refine TL.nil ?_
  refine TE.next ?_
  refine TC.block ?_
  refine TC.loop (σ := Nat × Value) (fun s => [(0, .pointer (some ⟨b, 0, none⟩)), (1, .int .i64 n), (5, s.2), (6, .int .i64 (s.1 : Int))]) (fun s => Hp W (star (blk b (.cells #[.slice A L.length c] 59 (0, 0))) (rowP (.slice A L.length c) L)).foot [rowP s.2 (fl L n s.1), blk b (.cells #[.slice A L.length c] 59 (0, 0)), rowP (.slice A L.length c) L]) (fun s => s.1 ≤ L.length) (fun s => L.length - s.1) (0, .slice none 0 0) ?hF4 ?hs4 ?hm4 ?round4
  case hF4 => exact Nat.zero_le _
  case hs4 => exact ⟨rfl, rfl, rfl, rfl, trivial⟩
  case hm4 => exact fun w h => by dsimp only; rw [show fl L n 0 = [] from by unfold fl; rw [List.take_zero]; rfl]; exact rowP_nil h
  case round4 =>
    rintro ⟨i, u⟩ hi
    dsimp only at hi ⊢
    have hfl := fl_len L n i
    refine TC.seq ?_
    refine TC.seq ?_
    refine TC.region ?_
    refine' TL.y rfl rfl rfl ?hy5 ?_
    case hy5 => exact Yl.move rfl rfl
    refine' TL.y rfl rfl rfl ?hy6 ?_
    case hy6 => exact Yl.move rfl rfl
    refine' TL.y rfl rfl rfl ?hy7 ?_
    case hy7 => exact Yl.nilCheck rfl rfl
    refine' TL.y rfl rfl rfl ?hy8 ?_
    case hy8 => first | exact Yl.field0 (k := 0) 0 rfl rfl Try.underlying59 rfl (by kernel_rfl) rfl | exact Yl.field (k := 0) 0 rfl rfl Try.underlying59 rfl (by kernel_rfl) rfl
    refine' TL.y rfl rfl rfl ?hy9 ?_
    case hy9 => exact Yl.load rfl rfl (by kernel_rfl) (by first | exact Hp.cell mem1 rfl | exact Hp.cell mem0 rfl | exact Hp.cell mem1 rfl | exact Hp.cell mem2 rfl | exact Hp.cell mem3 rfl | exact Hp.cell mem4 rfl | exact Hp.rowAt mem0 (by omega) rfl | exact Hp.rowAt mem1 (by omega) rfl | exact Hp.rowAt mem2 (by omega) rfl | exact Hp.rowAt mem3 (by omega) rfl | exact Hp.rowAt mem4 (by omega) rfl)
    refine' TL.y rfl rfl rfl ?hy10 ?_
    case hy10 => exact Yl.len rfl rfl Try.underlying57
    refine' TL.y rfl rfl rfl ?hy11 ?_
    case hy11 => exact Yl.bin rfl rfl rfl (Bin.lss _ _ _ _)
    refine TL.nil ?_
    refine TE.next ?_
    refine TC.cond rfl (fun hs14 => ?_) (fun hs14 => ?_)
    · skip
      (try simp only [nrm] at hs14)
      refine TC.fact (fun w h => h.ownSome' (e := 83) (size := 2) (m := (L).length) (xs := Pw (L)) mem2 (by omega)) ?_
      rintro ⟨g, rfl⟩
      refine TC.skip ?_
      refine TE.next ?_
      refine TC.seq ?_
      refine TC.block ?_
      refine TC.seq ?_
      refine TC.region ?_
      refine' TL.y rfl rfl rfl ?hy12 ?_
      case hy12 => exact Yl.move rfl rfl
      refine' TL.y rfl rfl rfl ?hy13 ?_
      case hy13 => exact Yl.nilCheck rfl rfl
      refine' TL.y rfl rfl rfl ?hy14 ?_
      case hy14 => first | exact Yl.field0 (k := 0) 0 rfl rfl Try.underlying59 rfl (by kernel_rfl) rfl | exact Yl.field (k := 0) 0 rfl rfl Try.underlying59 rfl (by kernel_rfl) rfl
      refine' TL.y rfl rfl rfl ?hy15 ?_
      case hy15 => exact Yl.load rfl rfl (by kernel_rfl) (by first | exact Hp.cell mem1 rfl | exact Hp.cell mem0 rfl | exact Hp.cell mem1 rfl | exact Hp.cell mem2 rfl | exact Hp.cell mem3 rfl | exact Hp.cell mem4 rfl | exact Hp.rowAt mem0 (by omega) rfl | exact Hp.rowAt mem1 (by omega) rfl | exact Hp.rowAt mem2 (by omega) rfl | exact Hp.rowAt mem3 (by omega) rfl | exact Hp.rowAt mem4 (by omega) rfl)
      refine' TL.y rfl rfl rfl ?hy16 ?_
      case hy16 => exact Yl.move rfl rfl
      refine' TL.y rfl rfl rfl ?hy17 ?_
      case hy17 => first | exact Yl.ixkn (k := 2) rfl rfl rfl Try.underlying57 (by kernel_rfl) (by omega) | exact Yl.ixkz (k := 2) rfl rfl rfl Try.underlying57 (by kernel_rfl) (by omega) (by omega)
      refine' TL.y rfl rfl rfl ?hy18 ?_
      case hy18 => first | exact Yl.field0 (k := 0) 0 rfl rfl Try.underlying83 rfl (by kernel_rfl) rfl | exact Yl.field (k := 0) 0 rfl rfl Try.underlying83 rfl (by kernel_rfl) rfl
      refine' TL.y rfl rfl rfl ?hy19 ?_
      case hy19 => exact Yl.load rfl rfl (by kernel_rfl) (Hp.pw (e := 83) (m := L.length) (l := L) mem2 (i := i) (j := 0) (by omega) (by omega) (by decide))
      refine TL.re (i := 24) (v' := .int .i64 (at_ L i).1) rfl rfl ?_
      refine' TL.y rfl rfl rfl ?hy20 ?_
      case hy20 => exact Yl.move rfl rfl
      refine' TL.y rfl rfl rfl ?hy21 ?_
      case hy21 => exact Yl.bin rfl rfl rfl (Bin.neq _ _ _ _)
      refine TL.nil ?_
      refine TE.next ?_
      refine TC.cond rfl (fun hs26 => ?_) (fun hs26 => ?_)
      · skip
        (try simp only [nrm] at hs26)
        refine TC.region ?_
        refine' TL.y rfl rfl rfl ?hy22 ?_
        case hy22 => exact Yl.move rfl rfl
        refine' TL.y rfl rfl rfl ?hy23 ?_
        case hy23 => exact Yl.move rfl rfl
        refine' TL.y rfl rfl rfl ?hy24 ?_
        case hy24 => exact Yl.nilCheck rfl rfl
        refine' TL.y rfl rfl rfl ?hy25 ?_
        case hy25 => first | exact Yl.field0 (k := 0) 0 rfl rfl Try.underlying59 rfl (by kernel_rfl) rfl | exact Yl.field (k := 0) 0 rfl rfl Try.underlying59 rfl (by kernel_rfl) rfl
        refine' TL.y rfl rfl rfl ?hy26 ?_
        case hy26 => exact Yl.load rfl rfl (by kernel_rfl) (by first | exact Hp.cell mem1 rfl | exact Hp.cell mem0 rfl | exact Hp.cell mem1 rfl | exact Hp.cell mem2 rfl | exact Hp.cell mem3 rfl | exact Hp.cell mem4 rfl | exact Hp.rowAt mem0 (by omega) rfl | exact Hp.rowAt mem1 (by omega) rfl | exact Hp.rowAt mem2 (by omega) rfl | exact Hp.rowAt mem3 (by omega) rfl | exact Hp.rowAt mem4 (by omega) rfl)
        refine' TL.y rfl rfl rfl ?hy27 ?_
        case hy27 => exact Yl.move rfl rfl
        refine' TL.y rfl rfl rfl ?hy28 ?_
        case hy28 => first | exact Yl.ixkn (k := 2) rfl rfl rfl Try.underlying57 (by kernel_rfl) (by omega) | exact Yl.ixkz (k := 2) rfl rfl rfl Try.underlying57 (by kernel_rfl) (by omega) (by omega)
        refine' TL.y rfl rfl rfl ?hy29 ?_
        case hy29 => exact Yl.loads rfl rfl (by kernel_rfl) (by kernel_rfl) (Hp.pws (e := 83) (m := L.length) (l := L) mem2 (i := i) (by omega) (by omega))
        refine TL.re (i := 34) (v' := .agg #[.int .i64 (at_ L i).1, .int .u64 (at_ L i).2]) rfl rfl ?_
        refine' TL.mx rfl rfl rfl ?hy30 ?_
        case hy30 => exact Ym.buildSlice (cells := #[.int .i64 (at_ L i).1, .int .u64 (at_ L i).2]) (z := .agg #[.int .i64 0, .int .u64 0]) (size := 2) #[.int .i64 0, .int .u64 0] rfl Try.underlying57 (by kernel_rfl) (by decide) (by decide) (by kernel_rfl) rfl rfl
        intro b35
        refine' TL.mx rfl rfl rfl ?hy31 ?_
        case hy31 => exact Ym.append (e := 83) (news := [.int .i64 (at_ L i).1, .int .u64 (at_ L i).2]) (m := (fl L n i).length) (xs := Pw (fl L n i)) rfl Try.underlying57 (by kernel_rfl) (z := .agg #[.int .i64 0, .int .u64 0]) (size := 2) (bytes := 16) rfl (by decide) (by decide) rfl rfl rfl (Hp.cells mem0 (fun j v hj => by simpa using hj)) (by simp [Value.oneCell']) (by (try rw [List.length_append, List.length_singleton]); omega) (fun v' => foc1)
        intro v36
        refine' TL.y rfl rfl rfl ?hy32 ?_
        case hy32 => exact Yl.assign rfl rfl
        refine TL.nil ?_
        refine TE.inNormal ?_
        refine TE.next ?_
        refine TC.region ?_
        refine' TL.y rfl rfl rfl ?hy33 ?_
        case hy33 => exact Yl.move rfl rfl
        refine' TL.y rfl rfl rfl ?hy34 ?_
        case hy34 => first | (refine Yl.val (Yl.bin rfl rfl rfl (Bin.add _ _ _ _)) (congrArg (Value.int .i64) (i64in ?_ ?_)) <;> omega) | exact Yl.bin rfl rfl rfl (Bin.add _ _ _ _)
        refine' TL.y rfl rfl rfl ?hy35 ?_
        case hy35 => exact Yl.assign rfl rfl
        refine TL.nil ?_
        refine TE.round (i + 1, v36) ?hF36 ?hlt36 ?hs36 ?hm36
        case hF36 => dsimp only; omega
        case hlt36 => dsimp only; omega
        case hs36 => exact ⟨rfl, rfl, rfl, rfl, trivial⟩
        case hm36 => exact (fun w h => by
          dsimp only
          rw [fl_yes (by omega) (by first | exact hs26 | omega), ← rowP_snoc]
          exact h.sub (List.sublist_cons_self _ _))
      · skip
        (try simp only [nrm] at hs26)
        refine TC.skip ?_
        refine TE.inNormal ?_
        refine TE.next ?_
        refine TC.region ?_
        refine' TL.y rfl rfl rfl ?hy37 ?_
        case hy37 => exact Yl.move rfl rfl
        refine' TL.y rfl rfl rfl ?hy38 ?_
        case hy38 => first | (refine Yl.val (Yl.bin rfl rfl rfl (Bin.add _ _ _ _)) (congrArg (Value.int .i64) (i64in ?_ ?_)) <;> omega) | exact Yl.bin rfl rfl rfl (Bin.add _ _ _ _)
        refine' TL.y rfl rfl rfl ?hy39 ?_
        case hy39 => exact Yl.assign rfl rfl
        refine TL.nil ?_
        refine TE.round (i + 1, u) ?hF40 ?hlt40 ?hs40 ?hm40
        case hF40 => dsimp only; omega
        case hlt40 => dsimp only; omega
        case hs40 => exact ⟨rfl, rfl, rfl, rfl, trivial⟩
        case hm40 => exact fun w h => by dsimp only; rw [fl_no (by omega) (by first | exact hs26 | omega)]; exact h
    · skip
      (try simp only [nrm] at hs14)
      refine TC.exit ?_
      refine TE.thenExit ?_
      refine TE.thenExit ?_
      refine TE.inHere ?_
      refine TE.next ?_
      refine TC.seq ?_
      obtain rfl : i = L.length := by omega
      refine TC.fact (fun w h => h.ownSl (e := 83) (size := 2) (m := (fl L n L.length).length) (xs := Pw (fl L n L.length)) mem0) ?_
      rintro ⟨A2, c2, rfl⟩
      refine TC.region ?_
      refine' TL.y rfl rfl rfl ?hy41 ?_
      case hy41 => exact Yl.move rfl rfl
      refine' TL.y rfl rfl rfl ?hy42 ?_
      case hy42 => exact Yl.nilCheck rfl rfl
      refine' TL.y rfl rfl rfl ?hy43 ?_
      case hy43 => first | exact Yl.field0 (k := 0) 0 rfl rfl Try.underlying59 rfl (by kernel_rfl) rfl | exact Yl.field (k := 0) 0 rfl rfl Try.underlying59 rfl (by kernel_rfl) rfl
      refine' TL.y rfl rfl rfl ?hy44 ?_
      case hy44 => exact Yl.load rfl rfl (by kernel_rfl) (by first | exact Hp.cell mem1 rfl | exact Hp.cell mem0 rfl | exact Hp.cell mem1 rfl | exact Hp.cell mem2 rfl | exact Hp.cell mem3 rfl | exact Hp.cell mem4 rfl | exact Hp.rowAt mem0 (by omega) rfl | exact Hp.rowAt mem1 (by omega) rfl | exact Hp.rowAt mem2 (by omega) rfl | exact Hp.rowAt mem3 (by omega) rfl | exact Hp.rowAt mem4 (by omega) rfl)
      refine' TL.y rfl rfl rfl ?hy45 ?_
      case hy45 => exact Yl.len rfl rfl Try.underlying57
      refine' TL.y rfl rfl rfl ?hy46 ?_
      case hy46 => exact Yl.move rfl rfl
      refine' TL.y rfl rfl rfl ?hy47 ?_
      case hy47 => exact Yl.len rfl rfl Try.underlying57
      refine' TL.y rfl rfl rfl ?hy48 ?_
      case hy48 => exact Yl.bin rfl rfl rfl (Bin.gtr _ _ _ _)
      refine' TL.y rfl rfl rfl ?hy49 ?_
      case hy49 => exact Yl.assign rfl rfl
      refine TL.nil ?_
      refine TE.next ?_
      refine TC.seq ?_
      refine TC.region ?_
      refine' TL.y rfl rfl rfl ?hy50 ?_
      case hy50 => exact Yl.move rfl rfl
      refine' TL.y rfl rfl rfl ?hy51 ?_
      case hy51 => exact Yl.move rfl rfl
      refine' TL.y rfl rfl rfl ?hy52 ?_
      case hy52 => exact Yl.nilCheck rfl rfl
      refine' TL.y rfl rfl rfl ?hy53 ?_
      case hy53 => first | exact Yl.field0 (k := 0) 0 rfl rfl Try.underlying59 rfl (by kernel_rfl) rfl | exact Yl.field (k := 0) 0 rfl rfl Try.underlying59 rfl (by kernel_rfl) rfl
      refine' TL.s rfl rfl ?hy54 ?_
      case hy54 => exact Ys.store (seg := [.slice A2 (fl L n L.length).length c2]) (c' := #[.slice A2 (fl L n L.length).length c2]) rfl rfl rfl (by simp [Value.cells]) (by kernel_rfl) (by simp [Value.oneCell']) foc1 (by simp [Value.cells]) rfl
      refine TL.nil ?_
      refine TE.next ?_
      refine TC.seq ?_
      refine TC.region ?_
      refine' TL.y rfl rfl rfl ?hy55 ?_
      case hy55 => exact Yl.move rfl rfl
      refine' TL.y rfl rfl rfl ?hy56 ?_
      case hy56 => exact Yl.assign rfl rfl
      refine TL.nil ?_
      refine TE.next ?_
      refine TC.ret ?_
      refine TE.ret1 rfl rfl ?_
      exact fun w h => ⟨.slice A2 (fl L n L.length).length c2, by rw [← fl_all]; congr 2; apply decide_eq_decide.2; omega, by rw [← fl_all]; exact (Hp.tostar (Hp.swap (h.sub (.cons_cons _ (.cons_cons _ (List.nil_sublist _)))))).leave⟩
theorem k_rdrop {S : Sf} {b : Nat} {v : Value} (n : Int) : Turns Try.prog 52 #[.pointer (some ⟨b, 0, none⟩), .int .i64 n] (Rf b v S) (σ := Value) (fun _ => .bool (gt S n).isSome) (fun v' => Rf b v' (offS S n)) := by
  have h := k_rdropL (L := ents S 65536) (rk_le S 65536) (b := b) (v := v) n
  rw [off_list] at h
  have e : decide ((ents (offS S n) 65536).length < (ents S 65536).length) = (gt S n).isSome := off_rk S n
  rw [e] at h
  exact h
set_option maxRecDepth 100000 in
set_option maxHeartbeats 2000000 in
theorem k_rset {S : Sf} {b : Nat} {v : Value} (n x : Int) : Turns Try.prog 55 #[.pointer (some ⟨b, 0, none⟩), .int .i64 n, .int .u64 x] (Rf b v S) (σ := Value) (fun _ => .int .i64 (if 0 ≤ n ∧ n < 65536 then 0 else 1)) (fun v' => Rf b v' (setS S n x)) := by
  intro W hR
  have hM : Hp W (Rf b v S).foot [Rf b v S] W := Hp.enter hR
  refine TC.enter (n := 85) Try.func55 rfl rfl rfl hM ?_
  refine TC.seq ?_
  refine TC.region ?_
  refine' TL.y rfl rfl rfl ?hy1 ?_
  case hy1 => exact Yl.assign rfl rfl
  refine TL.nil ?_
  refine TE.next ?_
  refine TC.seq ?_
  refine TC.seq ?_
  refine TC.region ?_
  refine' TL.y rfl rfl rfl ?hy2 ?_
  case hy2 => exact Yl.move rfl rfl
  refine' TL.c rfl rfl rfl ?hy3 ?_
  case hy3 => exact Yc.call rfl Try.func84 (by kernel_rfl) rfl rfl (Hp.calls (fun w h => k_page w n))
  intro _
  refine' TL.y rfl rfl rfl ?hy4 ?_
  case hy4 => exact Yl.not rfl rfl
  refine TL.nil ?_
  refine TE.next ?_
  refine TC.cond rfl (fun hs11 => ?_) (fun hs11 => ?_)
  · skip
    (try simp only [nrm] at hs11)
    refine TC.seq ?_
    refine TC.region ?_
    refine' TL.y rfl rfl rfl ?hy5 ?_
    case hy5 => exact Yl.assign rfl rfl
    refine TL.nil ?_
    refine TE.next ?_
    refine TC.ret ?_
    refine TE.thenRet ?_
    refine TE.ret1 rfl rfl ?_
    exact fun w h => ⟨v, by rw [if_neg (by omega)], by rw [setS_no (by omega)]; exact h.leave⟩
  · skip
    (try simp only [nrm] at hs11)
    refine TC.skip ?_
    refine TE.next ?_
    refine TC.seq ?_
    refine TC.region ?_
    refine' TL.y rfl rfl rfl ?hy6 ?_
    case hy6 => exact Yl.move rfl rfl
    refine' TL.y rfl rfl rfl ?hy7 ?_
    case hy7 => exact Yl.move rfl rfl
    refine' TL.c rfl rfl rfl ?hy8 ?_
    case hy8 => exact Yc.call rfl Try.func52 (by kernel_rfl) rfl rfl (Hp.turnx mem0 (fun s => foc0) (k_rdrop n))
    intro v2
    refine TL.wk (fun w h => Hp.unstar (r := blk b (.cells #[v2] 59 (0, 0))) (s := rowP v2 (ents (offS S n) 65536)) h) ?_
    refine TL.fact (fun w h => h.ownSl (e := 83) (size := 2) (m := (ents (offS S n) 65536).length) (xs := Pw (ents (offS S n) 65536)) mem1) ?_
    rintro ⟨A, c, rfl⟩
    obtain ⟨p, rfl⟩ := Int.eq_ofNat_of_zero_le (show 0 ≤ n by omega)
    have hp : p < 65536 := by omega
    have hno : offS S (p : Int) p = none := by rw [offS_nat hp, updS_at]
    obtain ⟨a, ha⟩ : ∃ a, rk (offS S (p : Int)) p = a := ⟨_, rfl⟩
    have hside := fun i (hi : i < rk (offS S (p : Int)) 65536) => at_side (S := offS S (p : Int)) (q := p) hno hi
    have hal : rk (offS S (p : Int)) p ≤ rk (offS S (p : Int)) 65536 := by have := rk_mono (offS S (p : Int)) p (65536 - p); rwa [show p + (65536 - p) = 65536 by omega] at this
    have hput : ents (setS S (p : Int) x) 65536 = (ents (offS S (p : Int)) 65536).take (rk (offS S (p : Int)) p) ++ [((p : Int), x)] ++ (ents (offS S (p : Int)) 65536).drop (rk (offS S (p : Int)) p) := by
      rw [← put_list hp hno x, setS_nat hp, offS_nat hp, updS_twice]
    have hrl := rk_le (offS S (p : Int)) 65536
    rw [← Rf.len] at hrl hal
    rw [ha] at hside hal hput
    rw [← Rf.len] at hside
    obtain ⟨L, hL⟩ : ∃ L, ents (offS S (p : Int)) 65536 = L := ⟨_, rfl⟩
    rw [hL] at hside hal hput hrl ⊢
    refine TL.nil ?_
    refine TE.next ?_
    refine TC.seq ?_
    refine TC.region ?_
    refine' TL.y rfl rfl rfl ?hy9 ?_
    case hy9 => exact Yl.assign rfl rfl
    refine TL.nil ?_
    refine TE.next ?_
    refine TC.seq ?_
    refine TC.seq ?_
    refine TC.region ?_
    refine' TL.y rfl rfl rfl ?hy10 ?_
    case hy10 => exact Yl.assign rfl rfl
    refine TL.nil ?_
    refine TE.next ?_
    refine TC.block ?_
    refine TC.loop (σ := Nat × Value) (fun s => [(0, .pointer (some ⟨b, 0, none⟩)), (1, .int .i64 (p : Int)), (2, .int .u64 x), (7, s.2), (8, .int .i64 (s.1 : Int))]) (fun s => Hp W (Rf b v S).foot [rowP s.2 (insL L a ((p : Int), x) s.1), blk b (.cells #[.slice A L.length c] 59 (0, 0)), rowP (.slice A L.length c) L]) (fun s => s.1 ≤ L.length) (fun s => L.length - s.1) (0, .slice none 0 0) ?hF11 ?hs11 ?hm11 ?round11
    case hF11 => exact Nat.zero_le _
    case hs11 => exact ⟨rfl, rfl, rfl, rfl, rfl, trivial⟩
    case hm11 => exact fun w h => by dsimp only; rw [insL_0]; exact rowP_nil h
    case round11 =>
      rintro ⟨i, u⟩ hi
      dsimp only at hi ⊢
      have hil2 := insL_len L a ((p : Int), x) i
      refine TC.seq ?_
      refine TC.seq ?_
      refine TC.region ?_
      refine' TL.y rfl rfl rfl ?hy12 ?_
      case hy12 => exact Yl.move rfl rfl
      refine' TL.y rfl rfl rfl ?hy13 ?_
      case hy13 => exact Yl.move rfl rfl
      refine' TL.y rfl rfl rfl ?hy14 ?_
      case hy14 => exact Yl.nilCheck rfl rfl
      refine' TL.y rfl rfl rfl ?hy15 ?_
      case hy15 => first | exact Yl.field0 (k := 0) 0 rfl rfl Try.underlying59 rfl (by kernel_rfl) rfl | exact Yl.field (k := 0) 0 rfl rfl Try.underlying59 rfl (by kernel_rfl) rfl
      refine' TL.y rfl rfl rfl ?hy16 ?_
      case hy16 => exact Yl.load rfl rfl (by kernel_rfl) (by first | exact Hp.cell mem1 rfl | exact Hp.cell mem0 rfl | exact Hp.cell mem1 rfl | exact Hp.cell mem2 rfl | exact Hp.cell mem3 rfl | exact Hp.cell mem4 rfl | exact Hp.rowAt mem0 (by omega) rfl | exact Hp.rowAt mem1 (by omega) rfl | exact Hp.rowAt mem2 (by omega) rfl | exact Hp.rowAt mem3 (by omega) rfl | exact Hp.rowAt mem4 (by omega) rfl)
      refine' TL.y rfl rfl rfl ?hy17 ?_
      case hy17 => exact Yl.len rfl rfl Try.underlying57
      refine' TL.y rfl rfl rfl ?hy18 ?_
      case hy18 => exact Yl.bin rfl rfl rfl (Bin.lss _ _ _ _)
      refine TL.nil ?_
      refine TE.next ?_
      refine TC.cond rfl (fun hs21 => ?_) (fun hs21 => ?_)
      · skip
        (try simp only [nrm] at hs21)
        refine TC.fact (fun w h => h.ownSome' (e := 83) (size := 2) (m := (L).length) (xs := Pw (L)) mem2 (by omega)) ?_
        rintro ⟨g, rfl⟩
        have hsd := hside i (by omega)
        refine TC.skip ?_
        refine TE.next ?_
        refine TC.seq ?_
        refine TC.block ?_
        refine TC.seq ?_
        refine TC.seq ?_
        refine TC.region ?_
        refine' TL.y rfl rfl rfl ?hy19 ?_
        case hy19 => exact Yl.move rfl rfl
        refine' TL.y rfl rfl rfl ?hy20 ?_
        case hy20 => exact Yl.nilCheck rfl rfl
        refine' TL.y rfl rfl rfl ?hy21 ?_
        case hy21 => first | exact Yl.field0 (k := 0) 0 rfl rfl Try.underlying59 rfl (by kernel_rfl) rfl | exact Yl.field (k := 0) 0 rfl rfl Try.underlying59 rfl (by kernel_rfl) rfl
        refine' TL.y rfl rfl rfl ?hy22 ?_
        case hy22 => exact Yl.load rfl rfl (by kernel_rfl) (by first | exact Hp.cell mem1 rfl | exact Hp.cell mem0 rfl | exact Hp.cell mem1 rfl | exact Hp.cell mem2 rfl | exact Hp.cell mem3 rfl | exact Hp.cell mem4 rfl | exact Hp.rowAt mem0 (by omega) rfl | exact Hp.rowAt mem1 (by omega) rfl | exact Hp.rowAt mem2 (by omega) rfl | exact Hp.rowAt mem3 (by omega) rfl | exact Hp.rowAt mem4 (by omega) rfl)
        refine' TL.y rfl rfl rfl ?hy23 ?_
        case hy23 => exact Yl.move rfl rfl
        refine' TL.y rfl rfl rfl ?hy24 ?_
        case hy24 => first | exact Yl.ixkn (k := 2) rfl rfl rfl Try.underlying57 (by kernel_rfl) (by omega) | exact Yl.ixkz (k := 2) rfl rfl rfl Try.underlying57 (by kernel_rfl) (by omega) (by omega)
        refine' TL.y rfl rfl rfl ?hy25 ?_
        case hy25 => first | exact Yl.field0 (k := 0) 0 rfl rfl Try.underlying83 rfl (by kernel_rfl) rfl | exact Yl.field (k := 0) 0 rfl rfl Try.underlying83 rfl (by kernel_rfl) rfl
        refine' TL.y rfl rfl rfl ?hy26 ?_
        case hy26 => exact Yl.load rfl rfl (by kernel_rfl) (Hp.pw (e := 83) (m := L.length) (l := L) mem2 (i := i) (j := 0) (by omega) (by omega) (by decide))
        refine TL.re (i := 31) (v' := .int .i64 (at_ L i).1) rfl rfl ?_
        refine' TL.y rfl rfl rfl ?hy27 ?_
        case hy27 => exact Yl.move rfl rfl
        refine' TL.y rfl rfl rfl ?hy28 ?_
        case hy28 => exact Yl.bin rfl rfl rfl (Bin.gtr _ _ _ _)
        refine' TL.y rfl rfl rfl ?hy29 ?_
        case hy29 => exact Yl.move rfl rfl
        refine TL.split (i := 34) rfl (fun hs34 => ?_) (fun hs34 => ?_)
        · skip
          (try simp only [nrm] at hs34)
          refine' TL.y rfl rfl rfl ?hy30 ?_
          case hy30 => exact Yl.move rfl rfl
          refine' TL.y rfl rfl rfl ?hy31 ?_
          case hy31 => exact Yl.bin rfl rfl rfl (Bin.eql _ _ _ _)
          refine' TL.y rfl rfl rfl ?hy32 ?_
          case hy32 => exact Yl.move rfl rfl
          refine TL.split (i := 37) rfl (fun hs37 => ?_) (fun hs37 => ?_)
          · skip
            (try simp only [nrm] at hs37)
            have hia : i = a := by omega
            refine TL.skip rfl rfl rfl ?_
            refine TL.skip rfl rfl rfl ?_
            refine TL.skip rfl rfl rfl ?_
            refine TL.skip rfl rfl rfl ?_
            refine TL.skip rfl rfl rfl ?_
            refine TL.skip rfl rfl rfl ?_
            refine TL.skip rfl rfl rfl ?_
            refine TL.skip rfl rfl rfl ?_
            refine TL.skip rfl rfl rfl ?_
            refine TL.skip rfl rfl rfl ?_
            refine TL.skip rfl rfl rfl ?_
            refine' TL.y rfl rfl rfl ?hy33 ?_
            case hy33 => exact Yl.pickT rfl rfl rfl
            refine' TL.y rfl rfl rfl ?hy34 ?_
            case hy34 => exact Yl.pickT rfl rfl rfl
            refine TL.nil ?_
            refine TE.next ?_
            refine TC.yes rfl rfl ?_
            refine TC.region ?_
            refine' TL.y rfl rfl rfl ?hy35 ?_
            case hy35 => exact Yl.move rfl rfl
            refine' TL.y rfl rfl rfl ?hy36 ?_
            case hy36 => exact Yl.move rfl rfl
            refine' TL.y rfl rfl rfl ?hy37 ?_
            case hy37 => exact Yl.move rfl rfl
            refine' TL.y rfl rfl rfl ?hy38 ?_
            case hy38 => exact Yl.build (z := .agg #[.int .i64 0, .int .u64 0]) [(0, 1), (1, 1)] rfl (by kernel_rfl) Try.underlying83 (by kernel_rfl) rfl rfl
            refine TL.re (i := 54) (v' := .agg #[.int .i64 (p : Int), .int .u64 x]) rfl rfl ?_
            refine' TL.mx rfl rfl rfl ?hy39 ?_
            case hy39 => exact Ym.buildSlice (cells := #[.int .i64 (p : Int), .int .u64 x]) (z := .agg #[.int .i64 0, .int .u64 0]) (size := 2) #[.int .i64 0, .int .u64 0] rfl Try.underlying57 (by kernel_rfl) (by decide) (by decide) (by kernel_rfl) rfl rfl
            intro b55
            refine' TL.mx rfl rfl rfl ?hy40 ?_
            case hy40 => exact Ym.append (e := 83) (news := [.int .i64 (p : Int), .int .u64 x]) (m := (insL L a ((p : Int), x) i).length) (xs := Pw (insL L a ((p : Int), x) i)) rfl Try.underlying57 (by kernel_rfl) (z := .agg #[.int .i64 0, .int .u64 0]) (size := 2) (bytes := 16) rfl (by decide) (by decide) rfl rfl rfl (Hp.cells mem0 (fun j v hj => by simpa using hj)) (by simp [Value.oneCell']) (by (try rw [List.length_append, List.length_singleton]); omega) (fun v' => foc1)
            intro v56
            refine TL.wk (M' := Hp W (Rf b v S).foot [rowP v56 (insL L a ((p : Int), x) i ++ [((p : Int), x)]), blk b (.cells #[.slice (some ⟨g, 0, none⟩) L.length c] 59 (0, 0)), rowP (.slice (some ⟨g, 0, none⟩) L.length c) L]) (fun w h => by rw [← rowP_snoc]; exact h.sub (List.sublist_cons_self _ _)) ?_
            refine' TL.y rfl rfl rfl ?hy41 ?_
            case hy41 => exact Yl.assign rfl rfl
            refine TL.nil ?_
            refine TE.next ?_
            refine TC.region ?_
            refine' TL.y rfl rfl rfl ?hy42 ?_
            case hy42 => exact Yl.move rfl rfl
            refine' TL.y rfl rfl rfl ?hy43 ?_
            case hy43 => exact Yl.move rfl rfl
            refine' TL.y rfl rfl rfl ?hy44 ?_
            case hy44 => exact Yl.nilCheck rfl rfl
            refine' TL.y rfl rfl rfl ?hy45 ?_
            case hy45 => first | exact Yl.field0 (k := 0) 0 rfl rfl Try.underlying59 rfl (by kernel_rfl) rfl | exact Yl.field (k := 0) 0 rfl rfl Try.underlying59 rfl (by kernel_rfl) rfl
            refine' TL.y rfl rfl rfl ?hy46 ?_
            case hy46 => exact Yl.load rfl rfl (by kernel_rfl) (by first | exact Hp.cell mem1 rfl | exact Hp.cell mem0 rfl | exact Hp.cell mem1 rfl | exact Hp.cell mem2 rfl | exact Hp.cell mem3 rfl | exact Hp.cell mem4 rfl | exact Hp.rowAt mem0 (by omega) rfl | exact Hp.rowAt mem1 (by omega) rfl | exact Hp.rowAt mem2 (by omega) rfl | exact Hp.rowAt mem3 (by omega) rfl | exact Hp.rowAt mem4 (by omega) rfl)
            refine' TL.y rfl rfl rfl ?hy47 ?_
            case hy47 => exact Yl.move rfl rfl
            refine' TL.y rfl rfl rfl ?hy48 ?_
            case hy48 => first | exact Yl.ixkn (k := 2) rfl rfl rfl Try.underlying57 (by kernel_rfl) (by omega) | exact Yl.ixkz (k := 2) rfl rfl rfl Try.underlying57 (by kernel_rfl) (by omega) (by omega)
            refine' TL.y rfl rfl rfl ?hy49 ?_
            case hy49 => exact Yl.loads rfl rfl (by kernel_rfl) (by kernel_rfl) (Hp.pws (e := 83) (m := L.length) (l := L) mem2 (i := i) (by omega) (by omega))
            refine TL.re (i := 64) (v' := .agg #[.int .i64 (at_ L i).1, .int .u64 (at_ L i).2]) rfl rfl ?_
            refine' TL.mx rfl rfl rfl ?hy50 ?_
            case hy50 => exact Ym.buildSlice (cells := #[.int .i64 (at_ L i).1, .int .u64 (at_ L i).2]) (z := .agg #[.int .i64 0, .int .u64 0]) (size := 2) #[.int .i64 0, .int .u64 0] rfl Try.underlying57 (by kernel_rfl) (by decide) (by decide) (by kernel_rfl) rfl rfl
            intro b65
            refine' TL.mx rfl rfl rfl ?hy51 ?_
            case hy51 => first | exact Ym.append (e := 83) (news := [.int .i64 (at_ L i).1, .int .u64 (at_ L i).2]) (m := (insL L a ((p : Int), x) i).length) (xs := Pw (insL L a ((p : Int), x) i)) rfl Try.underlying57 (by kernel_rfl) (z := .agg #[.int .i64 0, .int .u64 0]) (size := 2) (bytes := 16) rfl (by decide) (by decide) rfl rfl rfl (Hp.cells mem0 (fun j v hj => by simpa using hj)) (by simp [Value.oneCell']) (by (try rw [List.length_append, List.length_singleton]); omega) (fun v' => foc1) | exact Ym.append (e := 83) (news := [.int .i64 (at_ L i).1, .int .u64 (at_ L i).2]) (m := (insL L a ((p : Int), x) i ++ [((p : Int), x)]).length) (xs := Pw (insL L a ((p : Int), x) i ++ [((p : Int), x)])) rfl Try.underlying57 (by kernel_rfl) (z := .agg #[.int .i64 0, .int .u64 0]) (size := 2) (bytes := 16) rfl (by decide) (by decide) rfl rfl rfl (Hp.cells mem0 (fun j v hj => by simpa using hj)) (by simp [Value.oneCell']) (by (try rw [List.length_append, List.length_singleton]); omega) (fun v' => foc1)
            intro v66
            refine' TL.y rfl rfl rfl ?hy52 ?_
            case hy52 => exact Yl.assign rfl rfl
            refine TL.nil ?_
            refine TE.inNormal ?_
            refine TE.next ?_
            refine TC.region ?_
            refine' TL.y rfl rfl rfl ?hy53 ?_
            case hy53 => exact Yl.move rfl rfl
            refine' TL.y rfl rfl rfl ?hy54 ?_
            case hy54 => first | (refine Yl.val (Yl.bin rfl rfl rfl (Bin.add _ _ _ _)) (congrArg (Value.int .i64) (i64in ?_ ?_)) <;> omega) | exact Yl.bin rfl rfl rfl (Bin.add _ _ _ _)
            refine' TL.y rfl rfl rfl ?hy55 ?_
            case hy55 => exact Yl.assign rfl rfl
            refine TL.nil ?_
            refine TE.round (i + 1, v66) ?hF56 ?hlt56 ?hs56 ?hm56
            case hF56 => dsimp only; omega
            case hlt56 => dsimp only; omega
            case hs56 => exact ⟨rfl, rfl, rfl, rfl, rfl, trivial⟩
            case hm56 => exact (fun w h => by
              dsimp only
              rw [show insL L a ((p : Int), x) (i + 1) = insL L a ((p : Int), x) i ++ [((p : Int), x)] ++ [at_ L i] from by rw [hia]; exact insL_at (by omega), ← rowP_snoc]
              exact h.sub (List.sublist_cons_self _ _))
          · skip
            (try simp only [nrm] at hs37)
            have hi0 : i ≠ 0 := by omega
            have hsd2 := hside (i - 1) (by omega)
            refine' TL.y rfl rfl rfl ?hy57 ?_
            case hy57 => exact Yl.move rfl rfl
            refine' TL.y rfl rfl rfl ?hy58 ?_
            case hy58 => exact Yl.nilCheck rfl rfl
            refine' TL.y rfl rfl rfl ?hy59 ?_
            case hy59 => first | exact Yl.field0 (k := 0) 0 rfl rfl Try.underlying59 rfl (by kernel_rfl) rfl | exact Yl.field (k := 0) 0 rfl rfl Try.underlying59 rfl (by kernel_rfl) rfl
            refine' TL.y rfl rfl rfl ?hy60 ?_
            case hy60 => exact Yl.load rfl rfl (by kernel_rfl) (by first | exact Hp.cell mem1 rfl | exact Hp.cell mem0 rfl | exact Hp.cell mem1 rfl | exact Hp.cell mem2 rfl | exact Hp.cell mem3 rfl | exact Hp.cell mem4 rfl | exact Hp.rowAt mem0 (by omega) rfl | exact Hp.rowAt mem1 (by omega) rfl | exact Hp.rowAt mem2 (by omega) rfl | exact Hp.rowAt mem3 (by omega) rfl | exact Hp.rowAt mem4 (by omega) rfl)
            refine' TL.y rfl rfl rfl ?hy61 ?_
            case hy61 => exact Yl.move rfl rfl
            refine' TL.y rfl rfl rfl ?hy62 ?_
            case hy62 => first | (refine Yl.val (Yl.bin rfl rfl rfl (Bin.sub _ _ _ _)) (congrArg (Value.int .i64) (i64in ?_ ?_)) <;> omega) | exact Yl.bin rfl rfl rfl (Bin.sub _ _ _ _)
            refine TL.re (i := 43) (v' := .int .i64 ((i - 1 : Nat) : Int)) rfl (congrArg (Value.int .i64) (by omega)) ?_
            refine' TL.y rfl rfl rfl ?hy63 ?_
            case hy63 => first | exact Yl.ixkn (k := 2) rfl rfl rfl Try.underlying57 (by kernel_rfl) (by omega) | exact Yl.ixkz (k := 2) rfl rfl rfl Try.underlying57 (by kernel_rfl) (by omega) (by omega)
            refine' TL.y rfl rfl rfl ?hy64 ?_
            case hy64 => first | exact Yl.field0 (k := 0) 0 rfl rfl Try.underlying83 rfl (by kernel_rfl) rfl | exact Yl.field (k := 0) 0 rfl rfl Try.underlying83 rfl (by kernel_rfl) rfl
            refine' TL.y rfl rfl rfl ?hy65 ?_
            case hy65 => exact Yl.load rfl rfl (by kernel_rfl) (Hp.pw (e := 83) (m := L.length) (l := L) mem2 (i := i - 1) (j := 0) (by omega) (by omega) (by decide))
            refine TL.re (i := 46) (v' := .int .i64 (at_ L (i - 1)).1) rfl rfl ?_
            refine' TL.y rfl rfl rfl ?hy66 ?_
            case hy66 => exact Yl.move rfl rfl
            refine' TL.y rfl rfl rfl ?hy67 ?_
            case hy67 => exact Yl.bin rfl rfl rfl (Bin.lss _ _ _ _)
            refine' TL.y rfl rfl rfl ?hy68 ?_
            case hy68 => exact Yl.pickF rfl rfl rfl
            refine' TL.y rfl rfl rfl ?hy69 ?_
            case hy69 => exact Yl.pickT rfl rfl rfl
            refine TL.nil ?_
            refine TE.next ?_
            refine TC.cond rfl (fun hs50 => ?_) (fun hs50 => ?_)
            · skip
              (try simp only [nrm] at hs50)
              have hia : i = a := by omega
              refine TC.region ?_
              refine' TL.y rfl rfl rfl ?hy70 ?_
              case hy70 => exact Yl.move rfl rfl
              refine' TL.y rfl rfl rfl ?hy71 ?_
              case hy71 => exact Yl.move rfl rfl
              refine' TL.y rfl rfl rfl ?hy72 ?_
              case hy72 => exact Yl.move rfl rfl
              refine' TL.y rfl rfl rfl ?hy73 ?_
              case hy73 => exact Yl.build (z := .agg #[.int .i64 0, .int .u64 0]) [(0, 1), (1, 1)] rfl (by kernel_rfl) Try.underlying83 (by kernel_rfl) rfl rfl
              refine TL.re (i := 54) (v' := .agg #[.int .i64 (p : Int), .int .u64 x]) rfl rfl ?_
              refine' TL.mx rfl rfl rfl ?hy74 ?_
              case hy74 => exact Ym.buildSlice (cells := #[.int .i64 (p : Int), .int .u64 x]) (z := .agg #[.int .i64 0, .int .u64 0]) (size := 2) #[.int .i64 0, .int .u64 0] rfl Try.underlying57 (by kernel_rfl) (by decide) (by decide) (by kernel_rfl) rfl rfl
              intro b55
              refine' TL.mx rfl rfl rfl ?hy75 ?_
              case hy75 => exact Ym.append (e := 83) (news := [.int .i64 (p : Int), .int .u64 x]) (m := (insL L a ((p : Int), x) i).length) (xs := Pw (insL L a ((p : Int), x) i)) rfl Try.underlying57 (by kernel_rfl) (z := .agg #[.int .i64 0, .int .u64 0]) (size := 2) (bytes := 16) rfl (by decide) (by decide) rfl rfl rfl (Hp.cells mem0 (fun j v hj => by simpa using hj)) (by simp [Value.oneCell']) (by (try rw [List.length_append, List.length_singleton]); omega) (fun v' => foc1)
              intro v56
              refine TL.wk (M' := Hp W (Rf b v S).foot [rowP v56 (insL L a ((p : Int), x) i ++ [((p : Int), x)]), blk b (.cells #[.slice (some ⟨g, 0, none⟩) L.length c] 59 (0, 0)), rowP (.slice (some ⟨g, 0, none⟩) L.length c) L]) (fun w h => by rw [← rowP_snoc]; exact h.sub (List.sublist_cons_self _ _)) ?_
              refine' TL.y rfl rfl rfl ?hy76 ?_
              case hy76 => exact Yl.assign rfl rfl
              refine TL.nil ?_
              refine TE.next ?_
              refine TC.region ?_
              refine' TL.y rfl rfl rfl ?hy77 ?_
              case hy77 => exact Yl.move rfl rfl
              refine' TL.y rfl rfl rfl ?hy78 ?_
              case hy78 => exact Yl.move rfl rfl
              refine' TL.y rfl rfl rfl ?hy79 ?_
              case hy79 => exact Yl.nilCheck rfl rfl
              refine' TL.y rfl rfl rfl ?hy80 ?_
              case hy80 => first | exact Yl.field0 (k := 0) 0 rfl rfl Try.underlying59 rfl (by kernel_rfl) rfl | exact Yl.field (k := 0) 0 rfl rfl Try.underlying59 rfl (by kernel_rfl) rfl
              refine' TL.y rfl rfl rfl ?hy81 ?_
              case hy81 => exact Yl.load rfl rfl (by kernel_rfl) (by first | exact Hp.cell mem1 rfl | exact Hp.cell mem0 rfl | exact Hp.cell mem1 rfl | exact Hp.cell mem2 rfl | exact Hp.cell mem3 rfl | exact Hp.cell mem4 rfl | exact Hp.rowAt mem0 (by omega) rfl | exact Hp.rowAt mem1 (by omega) rfl | exact Hp.rowAt mem2 (by omega) rfl | exact Hp.rowAt mem3 (by omega) rfl | exact Hp.rowAt mem4 (by omega) rfl)
              refine' TL.y rfl rfl rfl ?hy82 ?_
              case hy82 => exact Yl.move rfl rfl
              refine' TL.y rfl rfl rfl ?hy83 ?_
              case hy83 => first | exact Yl.ixkn (k := 2) rfl rfl rfl Try.underlying57 (by kernel_rfl) (by omega) | exact Yl.ixkz (k := 2) rfl rfl rfl Try.underlying57 (by kernel_rfl) (by omega) (by omega)
              refine' TL.y rfl rfl rfl ?hy84 ?_
              case hy84 => exact Yl.loads rfl rfl (by kernel_rfl) (by kernel_rfl) (Hp.pws (e := 83) (m := L.length) (l := L) mem2 (i := i) (by omega) (by omega))
              refine TL.re (i := 64) (v' := .agg #[.int .i64 (at_ L i).1, .int .u64 (at_ L i).2]) rfl rfl ?_
              refine' TL.mx rfl rfl rfl ?hy85 ?_
              case hy85 => exact Ym.buildSlice (cells := #[.int .i64 (at_ L i).1, .int .u64 (at_ L i).2]) (z := .agg #[.int .i64 0, .int .u64 0]) (size := 2) #[.int .i64 0, .int .u64 0] rfl Try.underlying57 (by kernel_rfl) (by decide) (by decide) (by kernel_rfl) rfl rfl
              intro b65
              refine' TL.mx rfl rfl rfl ?hy86 ?_
              case hy86 => first | exact Ym.append (e := 83) (news := [.int .i64 (at_ L i).1, .int .u64 (at_ L i).2]) (m := (insL L a ((p : Int), x) i).length) (xs := Pw (insL L a ((p : Int), x) i)) rfl Try.underlying57 (by kernel_rfl) (z := .agg #[.int .i64 0, .int .u64 0]) (size := 2) (bytes := 16) rfl (by decide) (by decide) rfl rfl rfl (Hp.cells mem0 (fun j v hj => by simpa using hj)) (by simp [Value.oneCell']) (by (try rw [List.length_append, List.length_singleton]); omega) (fun v' => foc1) | exact Ym.append (e := 83) (news := [.int .i64 (at_ L i).1, .int .u64 (at_ L i).2]) (m := (insL L a ((p : Int), x) i ++ [((p : Int), x)]).length) (xs := Pw (insL L a ((p : Int), x) i ++ [((p : Int), x)])) rfl Try.underlying57 (by kernel_rfl) (z := .agg #[.int .i64 0, .int .u64 0]) (size := 2) (bytes := 16) rfl (by decide) (by decide) rfl rfl rfl (Hp.cells mem0 (fun j v hj => by simpa using hj)) (by simp [Value.oneCell']) (by (try rw [List.length_append, List.length_singleton]); omega) (fun v' => foc1)
              intro v66
              refine' TL.y rfl rfl rfl ?hy87 ?_
              case hy87 => exact Yl.assign rfl rfl
              refine TL.nil ?_
              refine TE.inNormal ?_
              refine TE.next ?_
              refine TC.region ?_
              refine' TL.y rfl rfl rfl ?hy88 ?_
              case hy88 => exact Yl.move rfl rfl
              refine' TL.y rfl rfl rfl ?hy89 ?_
              case hy89 => first | (refine Yl.val (Yl.bin rfl rfl rfl (Bin.add _ _ _ _)) (congrArg (Value.int .i64) (i64in ?_ ?_)) <;> omega) | exact Yl.bin rfl rfl rfl (Bin.add _ _ _ _)
              refine' TL.y rfl rfl rfl ?hy90 ?_
              case hy90 => exact Yl.assign rfl rfl
              refine TL.nil ?_
              refine TE.round (i + 1, v66) ?hF91 ?hlt91 ?hs91 ?hm91
              case hF91 => dsimp only; omega
              case hlt91 => dsimp only; omega
              case hs91 => exact ⟨rfl, rfl, rfl, rfl, rfl, trivial⟩
              case hm91 => exact (fun w h => by
                dsimp only
                rw [show insL L a ((p : Int), x) (i + 1) = insL L a ((p : Int), x) i ++ [((p : Int), x)] ++ [at_ L i] from by rw [hia]; exact insL_at (by omega), ← rowP_snoc]
                exact h.sub (List.sublist_cons_self _ _))
            · skip
              (try simp only [nrm] at hs50)
              refine TC.skip ?_
              refine TE.next ?_
              refine TC.region ?_
              refine' TL.y rfl rfl rfl ?hy92 ?_
              case hy92 => exact Yl.move rfl rfl
              refine' TL.y rfl rfl rfl ?hy93 ?_
              case hy93 => exact Yl.move rfl rfl
              refine' TL.y rfl rfl rfl ?hy94 ?_
              case hy94 => exact Yl.nilCheck rfl rfl
              refine' TL.y rfl rfl rfl ?hy95 ?_
              case hy95 => first | exact Yl.field0 (k := 0) 0 rfl rfl Try.underlying59 rfl (by kernel_rfl) rfl | exact Yl.field (k := 0) 0 rfl rfl Try.underlying59 rfl (by kernel_rfl) rfl
              refine' TL.y rfl rfl rfl ?hy96 ?_
              case hy96 => exact Yl.load rfl rfl (by kernel_rfl) (by first | exact Hp.cell mem1 rfl | exact Hp.cell mem0 rfl | exact Hp.cell mem1 rfl | exact Hp.cell mem2 rfl | exact Hp.cell mem3 rfl | exact Hp.cell mem4 rfl | exact Hp.rowAt mem0 (by omega) rfl | exact Hp.rowAt mem1 (by omega) rfl | exact Hp.rowAt mem2 (by omega) rfl | exact Hp.rowAt mem3 (by omega) rfl | exact Hp.rowAt mem4 (by omega) rfl)
              refine' TL.y rfl rfl rfl ?hy97 ?_
              case hy97 => exact Yl.move rfl rfl
              refine' TL.y rfl rfl rfl ?hy98 ?_
              case hy98 => first | exact Yl.ixkn (k := 2) rfl rfl rfl Try.underlying57 (by kernel_rfl) (by omega) | exact Yl.ixkz (k := 2) rfl rfl rfl Try.underlying57 (by kernel_rfl) (by omega) (by omega)
              refine' TL.y rfl rfl rfl ?hy99 ?_
              case hy99 => exact Yl.loads rfl rfl (by kernel_rfl) (by kernel_rfl) (Hp.pws (e := 83) (m := L.length) (l := L) mem2 (i := i) (by omega) (by omega))
              refine TL.re (i := 64) (v' := .agg #[.int .i64 (at_ L i).1, .int .u64 (at_ L i).2]) rfl rfl ?_
              refine' TL.mx rfl rfl rfl ?hy100 ?_
              case hy100 => exact Ym.buildSlice (cells := #[.int .i64 (at_ L i).1, .int .u64 (at_ L i).2]) (z := .agg #[.int .i64 0, .int .u64 0]) (size := 2) #[.int .i64 0, .int .u64 0] rfl Try.underlying57 (by kernel_rfl) (by decide) (by decide) (by kernel_rfl) rfl rfl
              intro b65
              refine' TL.mx rfl rfl rfl ?hy101 ?_
              case hy101 => first | exact Ym.append (e := 83) (news := [.int .i64 (at_ L i).1, .int .u64 (at_ L i).2]) (m := (insL L a ((p : Int), x) i).length) (xs := Pw (insL L a ((p : Int), x) i)) rfl Try.underlying57 (by kernel_rfl) (z := .agg #[.int .i64 0, .int .u64 0]) (size := 2) (bytes := 16) rfl (by decide) (by decide) rfl rfl rfl (Hp.cells mem0 (fun j v hj => by simpa using hj)) (by simp [Value.oneCell']) (by (try rw [List.length_append, List.length_singleton]); omega) (fun v' => foc1) | exact Ym.append (e := 83) (news := [.int .i64 (at_ L i).1, .int .u64 (at_ L i).2]) (m := (insL L a ((p : Int), x) i ++ [((p : Int), x)]).length) (xs := Pw (insL L a ((p : Int), x) i ++ [((p : Int), x)])) rfl Try.underlying57 (by kernel_rfl) (z := .agg #[.int .i64 0, .int .u64 0]) (size := 2) (bytes := 16) rfl (by decide) (by decide) rfl rfl rfl (Hp.cells mem0 (fun j v hj => by simpa using hj)) (by simp [Value.oneCell']) (by (try rw [List.length_append, List.length_singleton]); omega) (fun v' => foc1)
              intro v66
              refine' TL.y rfl rfl rfl ?hy102 ?_
              case hy102 => exact Yl.assign rfl rfl
              refine TL.nil ?_
              refine TE.inNormal ?_
              refine TE.next ?_
              refine TC.region ?_
              refine' TL.y rfl rfl rfl ?hy103 ?_
              case hy103 => exact Yl.move rfl rfl
              refine' TL.y rfl rfl rfl ?hy104 ?_
              case hy104 => first | (refine Yl.val (Yl.bin rfl rfl rfl (Bin.add _ _ _ _)) (congrArg (Value.int .i64) (i64in ?_ ?_)) <;> omega) | exact Yl.bin rfl rfl rfl (Bin.add _ _ _ _)
              refine' TL.y rfl rfl rfl ?hy105 ?_
              case hy105 => exact Yl.assign rfl rfl
              refine TL.nil ?_
              refine TE.round (i + 1, v66) ?hF106 ?hlt106 ?hs106 ?hm106
              case hF106 => dsimp only; omega
              case hlt106 => dsimp only; omega
              case hs106 => exact ⟨rfl, rfl, rfl, rfl, rfl, trivial⟩
              case hm106 => exact (fun w h => by
                dsimp only
                rw [insL_hi (by omega) (by omega), ← rowP_snoc]
                exact h.sub (List.sublist_cons_self _ _))
        · skip
          (try simp only [nrm] at hs34)
          refine TL.skip rfl rfl rfl ?_
          refine TL.skip rfl rfl rfl ?_
          refine TL.skip rfl rfl rfl ?_
          refine TL.skip rfl rfl rfl ?_
          refine TL.skip rfl rfl rfl ?_
          refine TL.skip rfl rfl rfl ?_
          refine TL.skip rfl rfl rfl ?_
          refine TL.skip rfl rfl rfl ?_
          refine TL.skip rfl rfl rfl ?_
          refine TL.skip rfl rfl rfl ?_
          refine TL.skip rfl rfl rfl ?_
          refine TL.skip rfl rfl rfl ?_
          refine TL.skip rfl rfl rfl ?_
          refine TL.skip rfl rfl rfl ?_
          refine TL.skip rfl rfl rfl ?_
          refine' TL.y rfl rfl rfl ?hy107 ?_
          case hy107 => exact Yl.pickF rfl rfl rfl
          refine TL.nil ?_
          refine TE.next ?_
          refine TC.no rfl rfl ?_
          refine TC.skip ?_
          refine TE.next ?_
          refine TC.region ?_
          refine' TL.y rfl rfl rfl ?hy108 ?_
          case hy108 => exact Yl.move rfl rfl
          refine' TL.y rfl rfl rfl ?hy109 ?_
          case hy109 => exact Yl.move rfl rfl
          refine' TL.y rfl rfl rfl ?hy110 ?_
          case hy110 => exact Yl.nilCheck rfl rfl
          refine' TL.y rfl rfl rfl ?hy111 ?_
          case hy111 => first | exact Yl.field0 (k := 0) 0 rfl rfl Try.underlying59 rfl (by kernel_rfl) rfl | exact Yl.field (k := 0) 0 rfl rfl Try.underlying59 rfl (by kernel_rfl) rfl
          refine' TL.y rfl rfl rfl ?hy112 ?_
          case hy112 => exact Yl.load rfl rfl (by kernel_rfl) (by first | exact Hp.cell mem1 rfl | exact Hp.cell mem0 rfl | exact Hp.cell mem1 rfl | exact Hp.cell mem2 rfl | exact Hp.cell mem3 rfl | exact Hp.cell mem4 rfl | exact Hp.rowAt mem0 (by omega) rfl | exact Hp.rowAt mem1 (by omega) rfl | exact Hp.rowAt mem2 (by omega) rfl | exact Hp.rowAt mem3 (by omega) rfl | exact Hp.rowAt mem4 (by omega) rfl)
          refine' TL.y rfl rfl rfl ?hy113 ?_
          case hy113 => exact Yl.move rfl rfl
          refine' TL.y rfl rfl rfl ?hy114 ?_
          case hy114 => first | exact Yl.ixkn (k := 2) rfl rfl rfl Try.underlying57 (by kernel_rfl) (by omega) | exact Yl.ixkz (k := 2) rfl rfl rfl Try.underlying57 (by kernel_rfl) (by omega) (by omega)
          refine' TL.y rfl rfl rfl ?hy115 ?_
          case hy115 => exact Yl.loads rfl rfl (by kernel_rfl) (by kernel_rfl) (Hp.pws (e := 83) (m := L.length) (l := L) mem2 (i := i) (by omega) (by omega))
          refine TL.re (i := 64) (v' := .agg #[.int .i64 (at_ L i).1, .int .u64 (at_ L i).2]) rfl rfl ?_
          refine' TL.mx rfl rfl rfl ?hy116 ?_
          case hy116 => exact Ym.buildSlice (cells := #[.int .i64 (at_ L i).1, .int .u64 (at_ L i).2]) (z := .agg #[.int .i64 0, .int .u64 0]) (size := 2) #[.int .i64 0, .int .u64 0] rfl Try.underlying57 (by kernel_rfl) (by decide) (by decide) (by kernel_rfl) rfl rfl
          intro b65
          refine' TL.mx rfl rfl rfl ?hy117 ?_
          case hy117 => first | exact Ym.append (e := 83) (news := [.int .i64 (at_ L i).1, .int .u64 (at_ L i).2]) (m := (insL L a ((p : Int), x) i).length) (xs := Pw (insL L a ((p : Int), x) i)) rfl Try.underlying57 (by kernel_rfl) (z := .agg #[.int .i64 0, .int .u64 0]) (size := 2) (bytes := 16) rfl (by decide) (by decide) rfl rfl rfl (Hp.cells mem0 (fun j v hj => by simpa using hj)) (by simp [Value.oneCell']) (by (try rw [List.length_append, List.length_singleton]); omega) (fun v' => foc1) | exact Ym.append (e := 83) (news := [.int .i64 (at_ L i).1, .int .u64 (at_ L i).2]) (m := (insL L a ((p : Int), x) i ++ [((p : Int), x)]).length) (xs := Pw (insL L a ((p : Int), x) i ++ [((p : Int), x)])) rfl Try.underlying57 (by kernel_rfl) (z := .agg #[.int .i64 0, .int .u64 0]) (size := 2) (bytes := 16) rfl (by decide) (by decide) rfl rfl rfl (Hp.cells mem0 (fun j v hj => by simpa using hj)) (by simp [Value.oneCell']) (by (try rw [List.length_append, List.length_singleton]); omega) (fun v' => foc1)
          intro v66
          refine' TL.y rfl rfl rfl ?hy118 ?_
          case hy118 => exact Yl.assign rfl rfl
          refine TL.nil ?_
          refine TE.inNormal ?_
          refine TE.next ?_
          refine TC.region ?_
          refine' TL.y rfl rfl rfl ?hy119 ?_
          case hy119 => exact Yl.move rfl rfl
          refine' TL.y rfl rfl rfl ?hy120 ?_
          case hy120 => first | (refine Yl.val (Yl.bin rfl rfl rfl (Bin.add _ _ _ _)) (congrArg (Value.int .i64) (i64in ?_ ?_)) <;> omega) | exact Yl.bin rfl rfl rfl (Bin.add _ _ _ _)
          refine' TL.y rfl rfl rfl ?hy121 ?_
          case hy121 => exact Yl.assign rfl rfl
          refine TL.nil ?_
          refine TE.round (i + 1, v66) ?hF122 ?hlt122 ?hs122 ?hm122
          case hF122 => dsimp only; omega
          case hlt122 => dsimp only; omega
          case hs122 => exact ⟨rfl, rfl, rfl, rfl, rfl, trivial⟩
          case hm122 => exact (fun w h => by
            dsimp only
            rw [insL_lo (by omega) (by omega), ← rowP_snoc]
            exact h.sub (List.sublist_cons_self _ _))
      · skip
        (try simp only [nrm] at hs21)
        refine TC.exit ?_
        refine TE.thenExit ?_
        refine TE.thenExit ?_
        refine TE.inHere ?_
        refine TE.next ?_
        refine TC.seq ?_
        refine TC.seq ?_
        obtain rfl : i = L.length := by omega
        refine TC.fact (fun w h => h.ownSl (e := 83) (size := 2) (m := (insL L a ((p : Int), x) L.length).length) (xs := Pw (insL L a ((p : Int), x) L.length)) mem0) ?_
        rintro ⟨A3, c3, rfl⟩
        refine TC.region ?_
        refine' TL.y rfl rfl rfl ?hy123 ?_
        case hy123 => exact Yl.move rfl rfl
        refine' TL.y rfl rfl rfl ?hy124 ?_
        case hy124 => exact Yl.len rfl rfl Try.underlying57
        refine' TL.y rfl rfl rfl ?hy125 ?_
        case hy125 => exact Yl.move rfl rfl
        refine' TL.y rfl rfl rfl ?hy126 ?_
        case hy126 => exact Yl.nilCheck rfl rfl
        refine' TL.y rfl rfl rfl ?hy127 ?_
        case hy127 => first | exact Yl.field0 (k := 0) 0 rfl rfl Try.underlying59 rfl (by kernel_rfl) rfl | exact Yl.field (k := 0) 0 rfl rfl Try.underlying59 rfl (by kernel_rfl) rfl
        refine' TL.y rfl rfl rfl ?hy128 ?_
        case hy128 => exact Yl.load rfl rfl (by kernel_rfl) (by first | exact Hp.cell mem1 rfl | exact Hp.cell mem0 rfl | exact Hp.cell mem1 rfl | exact Hp.cell mem2 rfl | exact Hp.cell mem3 rfl | exact Hp.cell mem4 rfl | exact Hp.rowAt mem0 (by omega) rfl | exact Hp.rowAt mem1 (by omega) rfl | exact Hp.rowAt mem2 (by omega) rfl | exact Hp.rowAt mem3 (by omega) rfl | exact Hp.rowAt mem4 (by omega) rfl)
        refine' TL.y rfl rfl rfl ?hy129 ?_
        case hy129 => exact Yl.len rfl rfl Try.underlying57
        refine' TL.y rfl rfl rfl ?hy130 ?_
        case hy130 => exact Yl.bin rfl rfl rfl (Bin.eql _ _ _ _)
        refine TL.nil ?_
        refine TE.next ?_
        refine TC.cond rfl (fun hs74 => ?_) (fun hs74 => ?_)
        · skip
          (try simp only [nrm] at hs74)
          have hae : a = L.length := by
            have h := insL_end (e := ((p : Int), x)) hal
            by_cases e : a = L.length
            · exact e
            · rw [if_neg e] at h; rw [h] at hs74; simp at hs74; omega
          refine TC.region ?_
          refine' TL.y rfl rfl rfl ?hy131 ?_
          case hy131 => exact Yl.move rfl rfl
          refine' TL.y rfl rfl rfl ?hy132 ?_
          case hy132 => exact Yl.move rfl rfl
          refine' TL.y rfl rfl rfl ?hy133 ?_
          case hy133 => exact Yl.move rfl rfl
          refine' TL.y rfl rfl rfl ?hy134 ?_
          case hy134 => exact Yl.build (z := .agg #[.int .i64 0, .int .u64 0]) [(0, 1), (1, 1)] rfl (by kernel_rfl) Try.underlying83 (by kernel_rfl) rfl rfl
          refine TL.re (i := 78) (v' := .agg #[.int .i64 (p : Int), .int .u64 x]) rfl rfl ?_
          refine' TL.mx rfl rfl rfl ?hy135 ?_
          case hy135 => exact Ym.buildSlice (cells := #[.int .i64 (p : Int), .int .u64 x]) (z := .agg #[.int .i64 0, .int .u64 0]) (size := 2) #[.int .i64 0, .int .u64 0] rfl Try.underlying57 (by kernel_rfl) (by decide) (by decide) (by kernel_rfl) rfl rfl
          intro b79
          refine' TL.mx rfl rfl rfl ?hy136 ?_
          case hy136 => exact Ym.append (e := 83) (news := [.int .i64 (p : Int), .int .u64 x]) (m := (insL L a ((p : Int), x) L.length).length) (xs := Pw (insL L a ((p : Int), x) L.length)) rfl Try.underlying57 (by kernel_rfl) (z := .agg #[.int .i64 0, .int .u64 0]) (size := 2) (bytes := 16) rfl (by decide) (by decide) rfl rfl rfl (Hp.cells mem0 (fun j v hj => by simpa using hj)) (by simp [Value.oneCell']) (by (try rw [List.length_append, List.length_singleton]); omega) (fun v' => foc1)
          intro v80
          refine TL.wk (M' := Hp W (Rf b v S).foot [rowP v80 (insL L a ((p : Int), x) L.length ++ [((p : Int), x)]), blk b (.cells #[.slice A L.length c] 59 (0, 0)), rowP (.slice A L.length c) L]) (fun w h => by rw [← rowP_snoc]; exact h.sub (List.sublist_cons_self _ _)) ?_
          refine TL.fact (fun w h => h.ownSl (e := 83) (size := 2) (m := (insL L a ((p : Int), x) L.length ++ [((p : Int), x)]).length) (xs := Pw (insL L a ((p : Int), x) L.length ++ [((p : Int), x)])) mem0) ?_
          rintro ⟨A2, c2, rfl⟩
          refine' TL.y rfl rfl rfl ?hy137 ?_
          case hy137 => exact Yl.assign rfl rfl
          refine TL.nil ?_
          refine TE.next ?_
          refine TC.seq ?_
          refine TC.region ?_
          refine' TL.y rfl rfl rfl ?hy138 ?_
          case hy138 => exact Yl.move rfl rfl
          refine' TL.y rfl rfl rfl ?hy139 ?_
          case hy139 => exact Yl.move rfl rfl
          refine' TL.y rfl rfl rfl ?hy140 ?_
          case hy140 => exact Yl.nilCheck rfl rfl
          refine' TL.y rfl rfl rfl ?hy141 ?_
          case hy141 => first | exact Yl.field0 (k := 0) 0 rfl rfl Try.underlying59 rfl (by kernel_rfl) rfl | exact Yl.field (k := 0) 0 rfl rfl Try.underlying59 rfl (by kernel_rfl) rfl
          refine' TL.s rfl rfl ?hy142 ?_
          case hy142 => first | exact Ys.store (seg := [.slice A2 (insL L a ((p : Int), x) L.length ++ [((p : Int), x)]).length c2]) (c' := #[.slice A2 (insL L a ((p : Int), x) L.length ++ [((p : Int), x)]).length c2]) rfl rfl rfl (by simp [Value.cells]) (by kernel_rfl) (by simp [Value.oneCell']) foc1 (by simp [Value.cells]) rfl | exact Ys.store (seg := [.slice A3 (insL L a ((p : Int), x) L.length).length c3]) (c' := #[.slice A3 (insL L a ((p : Int), x) L.length).length c3]) rfl rfl rfl (by simp [Value.cells]) (by kernel_rfl) (by simp [Value.oneCell']) foc1 (by simp [Value.cells]) rfl
          refine TL.nil ?_
          refine TE.next ?_
          refine TC.seq ?_
          refine TC.region ?_
          refine' TL.y rfl rfl rfl ?hy143 ?_
          case hy143 => exact Yl.assign rfl rfl
          refine TL.nil ?_
          refine TE.next ?_
          refine TC.ret ?_
          refine TE.ret1 rfl rfl ?_
          have hfin : insL L a ((p : Int), x) L.length ++ [((p : Int), x)] = ents (setS S (p : Int) x) 65536 := by rw [hput, insL_end hal, if_pos hae, hae, List.take_length, List.drop_length, List.append_nil]
          exact fun w h => ⟨.slice A2 (insL L a ((p : Int), x) L.length ++ [((p : Int), x)]).length c2, by rw [if_pos (by omega)], by unfold Rf; rw [← hfin]; exact (Hp.tostar (Hp.swap (h.sub (.cons_cons _ (.cons_cons _ (List.nil_sublist _)))))).leave⟩
        · skip
          (try simp only [nrm] at hs74)
          have hae : a ≠ L.length := fun e => by
            have h := insL_end (e := ((p : Int), x)) hal
            rw [if_pos e] at h; rw [h] at hs74; exact hs74 rfl
          refine TC.skip ?_
          refine TE.next ?_
          refine TC.seq ?_
          refine TC.region ?_
          refine' TL.y rfl rfl rfl ?hy144 ?_
          case hy144 => exact Yl.move rfl rfl
          refine' TL.y rfl rfl rfl ?hy145 ?_
          case hy145 => exact Yl.move rfl rfl
          refine' TL.y rfl rfl rfl ?hy146 ?_
          case hy146 => exact Yl.nilCheck rfl rfl
          refine' TL.y rfl rfl rfl ?hy147 ?_
          case hy147 => first | exact Yl.field0 (k := 0) 0 rfl rfl Try.underlying59 rfl (by kernel_rfl) rfl | exact Yl.field (k := 0) 0 rfl rfl Try.underlying59 rfl (by kernel_rfl) rfl
          refine' TL.s rfl rfl ?hy148 ?_
          case hy148 => first | exact Ys.store (seg := [.slice A2 (insL L a ((p : Int), x) L.length ++ [((p : Int), x)]).length c2]) (c' := #[.slice A2 (insL L a ((p : Int), x) L.length ++ [((p : Int), x)]).length c2]) rfl rfl rfl (by simp [Value.cells]) (by kernel_rfl) (by simp [Value.oneCell']) foc1 (by simp [Value.cells]) rfl | exact Ys.store (seg := [.slice A3 (insL L a ((p : Int), x) L.length).length c3]) (c' := #[.slice A3 (insL L a ((p : Int), x) L.length).length c3]) rfl rfl rfl (by simp [Value.cells]) (by kernel_rfl) (by simp [Value.oneCell']) foc1 (by simp [Value.cells]) rfl
          refine TL.nil ?_
          refine TE.next ?_
          refine TC.seq ?_
          refine TC.region ?_
          refine' TL.y rfl rfl rfl ?hy149 ?_
          case hy149 => exact Yl.assign rfl rfl
          refine TL.nil ?_
          refine TE.next ?_
          refine TC.ret ?_
          refine TE.ret1 rfl rfl ?_
          have hfin : insL L a ((p : Int), x) L.length = ents (setS S (p : Int) x) 65536 := by rw [hput, insL_end hal, if_neg hae]
          exact fun w h => ⟨.slice A3 (insL L a ((p : Int), x) L.length).length c3, by rw [if_pos (by omega)], by unfold Rf; rw [← hfin]; exact (Hp.tostar (Hp.swap (h.sub (.cons_cons _ (.cons_cons _ (List.nil_sublist _)))))).leave⟩
end Go.Proofs.Ytabjdjkkpbkpfaa.Pk
