/- Pages, digits, paths; a new table; a page's word. -/
import Derived.Test.YtabjdjkkpbkpfaaRxR
import Derived.Test.YtabjdjkkpbkpfaaProg
import Derived.RowKit3
namespace Go.Proofs.Ytabjdjkkpbkpfaa.Pk
open Go Go.RowKit Go.Proofs.Ytabjdjkkpbkpfaa.HL Go.Proofs.Ytabjdjkkpbkpfaa.Ev Go.Proofs.YtabjdjkkpbkpfaaW.PrintWords Go.Proofs.RxP
set_option linter.unusedVariables false
set_option linter.unusedSimpArgs false
attribute [local irreducible] btw
section
variable {P : Program} {n : Nat} {L : FL} {M : World → Prop} {o : Oper} {W0 w : World} {T : Nat → Prop} {H H' : List Res}
theorem Yl.arr0 {t e : TypeId} {x i : Operand} {b d len : Nat} {q : IntKind} (ho : o.op = .indexAddr t x i) (hx : evO L x = some (.pointer (some ⟨b, 0, none⟩))) (hi : evO L i = some (.int q (d : Int))) (ht : P.underlying t = some (.array len e)) (hz : (P.info? e).map (·.size) = some 1) (h : d < len) : Yl P o n L M (.pointer (some ⟨b, d, none⟩)) :=
  Yl.idxA (k := 1) ho hx hi ht hz (by omega) (by omega) (by rw [Int.toNat_natCast, Nat.mul_one, Addr.at_0])
theorem Yl.arrO {t e : TypeId} {x i : Operand} {b off d len : Nat} {q : IntKind} (ho : o.op = .indexAddr t x i) (hx : evO L x = some (.pointer (some ⟨b, off, none⟩))) (hi : evO L i = some (.int q (d : Int))) (ht : P.underlying t = some (.array len e)) (hz : (P.info? e).map (·.size) = some 1) (h : d < len) : Yl P o n L M (.pointer (some ⟨b, off + d, none⟩)) :=
  Yl.idxA (k := 1) ho hx hi ht hz (by omega) (by omega) (by rw [Int.toNat_natCast, Nat.mul_one, Addr.at_])
def Iw (l : List Int) : List Value := l.map (Value.int .i64)
/-- A row of numbers of one's own. -/
def rowI (v : Value) (l : List Int) : Res := ownR 3 1 v l.length (Iw l)
theorem rowI_snoc (v : Value) (l : List Int) (x : Int) : ownR 3 1 v (l.length + 1) (Iw l ++ [.int .i64 x]) = rowI v (l ++ [x]) := by unfold rowI Iw; simp
theorem rowI_nil (v : Value) : ownR 3 1 v 0 [] = rowI v [] := rfl
end
theorem cv16 {d : Nat} (hd : d < 16) : IntKind.u64.wrap (d : Int) = d := by rw [u64mod]; omega
theorem zc : (#[.pointer none, .pointer none, .pointer none, .pointer none, .pointer none, .pointer none, .pointer none, .pointer none, .pointer none, .pointer none, .pointer none, .pointer none, .pointer none, .pointer none, .pointer none, .pointer none, .int .u64 0, .int .u64 0, .int .u64 0, .int .u64 0, .int .u64 0, .int .u64 0, .int .u64 0, .int .u64 0, .int .u64 0, .int .u64 0, .int .u64 0, .int .u64 0, .int .u64 0, .int .u64 0, .int .u64 0, .int .u64 0, .int .u16 0] : Array Value) = rowA 33 z0 := by
  apply Array.ext'
  rw [rowA_list]; rfl
set_option maxRecDepth 100000 in
set_option maxHeartbeats 2000000 in
theorem k_right (W : World) (x : Int) : Calls Try.prog 70 #[.int .i64 x] W fun e w' => e = .returned (.bool (decide (0 ≤ x ∧ x < 65536))) ∧ Below W.heap.size W w' := by
  have hM : Hp W (fun _ => False) [] W := Hp.start
  refine TC.enter (n := 9) Try.func70 rfl rfl rfl hM ?_
  refine TC.seq ?_
  refine TC.region ?_
  refine' TL.y rfl rfl rfl ?hy1 ?_
  case hy1 => exact Yl.assign rfl rfl
  refine TL.nil ?_
  refine TE.next ?_
  refine TC.seq ?_
  refine TC.region ?_
  refine' TL.y rfl rfl rfl ?hy2 ?_
  case hy2 => exact Yl.move rfl rfl
  refine' TL.y rfl rfl rfl ?hy3 ?_
  case hy3 => exact Yl.bin rfl rfl rfl (Bin.leq _ _ _ _)
  refine' TL.y rfl rfl rfl ?hy4 ?_
  case hy4 => exact Yl.move rfl rfl
  refine TL.split (i := 5) rfl (fun hs5 => ?_) (fun hs5 => ?_)
  · skip
    (try simp only [nrm] at hs5)
    refine' TL.y rfl rfl rfl ?hy5 ?_
    case hy5 => exact Yl.move rfl rfl
    refine' TL.y rfl rfl rfl ?hy6 ?_
    case hy6 => exact Yl.bin rfl rfl rfl (Bin.lss _ _ _ _)
    refine' TL.y rfl rfl rfl ?hy7 ?_
    case hy7 => exact Yl.pickT rfl rfl rfl
    refine' TL.y rfl rfl rfl ?hy8 ?_
    case hy8 => exact Yl.assign rfl rfl
    refine TL.nil ?_
    refine TE.next ?_
    refine TC.ret ?_
    refine TE.ret1 rfl rfl ?_
    exact fun w h => ⟨by congr 2; apply decide_eq_decide.2; omega, h.below⟩
  · skip
    (try simp only [nrm] at hs5)
    refine TL.skip rfl rfl rfl ?_
    refine TL.skip rfl rfl rfl ?_
    refine' TL.y rfl rfl rfl ?hy9 ?_
    case hy9 => exact Yl.pickF rfl rfl rfl
    refine' TL.y rfl rfl rfl ?hy10 ?_
    case hy10 => exact Yl.assign rfl rfl
    refine TL.nil ?_
    refine TE.next ?_
    refine TC.ret ?_
    refine TE.ret1 rfl rfl ?_
    exact fun w h => ⟨by rw [decide_eq_false (fun h => by omega)], h.below⟩
set_option maxRecDepth 100000 in
set_option maxHeartbeats 2000000 in
theorem k_page (W : World) (x : Int) : Calls Try.prog 84 #[.int .i64 x] W fun e w' => e = .returned (.bool (decide (0 ≤ x ∧ x < 65536))) ∧ Below W.heap.size W w' := by
  have hM : Hp W (fun _ => False) [] W := Hp.start
  refine TC.enter (n := 9) Try.func84 rfl rfl rfl hM ?_
  refine TC.seq ?_
  refine TC.region ?_
  refine' TL.y rfl rfl rfl ?hy1 ?_
  case hy1 => exact Yl.assign rfl rfl
  refine TL.nil ?_
  refine TE.next ?_
  refine TC.seq ?_
  refine TC.region ?_
  refine' TL.y rfl rfl rfl ?hy2 ?_
  case hy2 => exact Yl.move rfl rfl
  refine' TL.y rfl rfl rfl ?hy3 ?_
  case hy3 => exact Yl.bin rfl rfl rfl (Bin.geq _ _ _ _)
  refine' TL.y rfl rfl rfl ?hy4 ?_
  case hy4 => exact Yl.move rfl rfl
  refine TL.split (i := 5) rfl (fun hs5 => ?_) (fun hs5 => ?_)
  · skip
    (try simp only [nrm] at hs5)
    refine' TL.y rfl rfl rfl ?hy5 ?_
    case hy5 => exact Yl.move rfl rfl
    refine' TL.y rfl rfl rfl ?hy6 ?_
    case hy6 => exact Yl.bin rfl rfl rfl (Bin.lss _ _ _ _)
    refine' TL.y rfl rfl rfl ?hy7 ?_
    case hy7 => exact Yl.pickT rfl rfl rfl
    refine' TL.y rfl rfl rfl ?hy8 ?_
    case hy8 => exact Yl.assign rfl rfl
    refine TL.nil ?_
    refine TE.next ?_
    refine TC.ret ?_
    refine TE.ret1 rfl rfl ?_
    exact fun w h => ⟨by congr 2; apply decide_eq_decide.2; omega, h.below⟩
  · skip
    (try simp only [nrm] at hs5)
    refine TL.skip rfl rfl rfl ?_
    refine TL.skip rfl rfl rfl ?_
    refine' TL.y rfl rfl rfl ?hy9 ?_
    case hy9 => exact Yl.pickF rfl rfl rfl
    refine' TL.y rfl rfl rfl ?hy10 ?_
    case hy10 => exact Yl.assign rfl rfl
    refine TL.nil ?_
    refine TE.next ?_
    refine TC.ret ?_
    refine TE.ret1 rfl rfl ?_
    exact fun w h => ⟨by rw [decide_eq_false (fun h => by omega)], h.below⟩
set_option maxRecDepth 100000 in
set_option maxHeartbeats 2000000 in
theorem k_digit (W : World) {p lv : Nat} (hp : p < 65536) (hl : lv ≤ 3) : Calls Try.prog 71 #[.int .i64 (p : Int), .int .i64 (lv : Int)] W fun e w' => e = .returned (.int .i64 (dg p lv : Int)) ∧ Below W.heap.size W w' := by
  have hM : Hp W (fun _ => False) [] W := Hp.start
  refine TC.enter (n := 12) Try.func71 rfl rfl rfl hM ?_
  refine TC.seq ?_
  refine TC.region ?_
  refine' TL.y rfl rfl rfl ?hy1 ?_
  case hy1 => exact Yl.assign rfl rfl
  refine TL.nil ?_
  refine TE.next ?_
  refine TC.seq ?_
  refine TC.region ?_
  refine' TL.y rfl rfl rfl ?hy2 ?_
  case hy2 => exact Yl.move rfl rfl
  refine' TL.y rfl rfl rfl ?hy3 ?_
  case hy3 => exact Yl.move rfl rfl
  refine' TL.y rfl rfl rfl ?hy4 ?_
  case hy4 => first | (refine Yl.val (Yl.bin rfl rfl rfl (Bin.sub _ _ _ _)) (congrArg (Value.int .i64) (i64in ?_ ?_)) <;> omega) | exact Yl.bin rfl rfl rfl (Bin.sub _ _ _ _)
  refine' TL.y rfl rfl rfl ?hy5 ?_
  case hy5 => first | (refine Yl.val (Yl.bin rfl rfl rfl (Bin.mul _ _ _ _)) (congrArg (Value.int .i64) (i64in ?_ ?_)) <;> omega) | exact Yl.bin rfl rfl rfl (Bin.mul _ _ _ _)
  refine' TL.y rfl rfl rfl ?hy6 ?_
  case hy6 => first | (refine Yl.val (Yl.conv rfl rfl (by kernel_rfl) Try.underlying100) (congrArg (Value.int .u64) (u64in ?_ ?_)) <;> omega) | exact Yl.conv rfl rfl (by kernel_rfl) Try.underlying100
  refine' TL.y rfl rfl rfl ?hy7 ?_
  case hy7 => exact Yl.bin rfl rfl rfl (Bin.shr _ _ _ _ _ (by omega))
  refine' TL.y rfl rfl rfl ?hy8 ?_
  case hy8 => exact Yl.val (Yl.bin rfl rfl rfl (Bin.and _ _ _ _)) (congrArg (Value.int .i64) (dig_is hp hl))
  refine' TL.y rfl rfl rfl ?hy9 ?_
  case hy9 => exact Yl.assign rfl rfl
  refine TL.nil ?_
  refine TE.next ?_
  refine TC.ret ?_
  refine TE.ret1 rfl rfl ?_
  exact fun w h => ⟨rfl, h.below⟩
set_option maxRecDepth 100000 in
set_option maxHeartbeats 2000000 in
theorem k_new (W : World) : Calls Try.prog 34 #[] W fun e w' => ∃ b : Nat, e = .returned (.pointer (some ⟨b, 0, none⟩)) ∧ (tabR (st0 b)).holds w' ∧ Below W.heap.size W w' ∧ ∀ k, (tabR (st0 b)).foot k → W.heap.size ≤ k := by
  have hM : Hp W (fun _ => False) [] W := Hp.start
  refine TC.enter (n := 3) Try.func34 rfl rfl rfl hM ?_
  refine TC.seq ?_
  refine TC.region ?_
  refine' TL.y rfl rfl rfl ?hy1 ?_
  case hy1 => exact Yl.assign rfl rfl
  refine TL.nil ?_
  refine TE.next ?_
  refine TC.seq ?_
  refine TC.region ?_
  refine' TL.y rfl rfl rfl ?hy2 ?_
  case hy2 => exact Yl.build (z := .agg #[.pointer none, .pointer none, .pointer none, .pointer none, .pointer none, .pointer none, .pointer none, .pointer none, .pointer none, .pointer none, .pointer none, .pointer none, .pointer none, .pointer none, .pointer none, .pointer none, .int .u64 0, .int .u64 0, .int .u64 0, .int .u64 0, .int .u64 0, .int .u64 0, .int .u64 0, .int .u64 0, .int .u64 0, .int .u64 0, .int .u64 0, .int .u64 0, .int .u64 0, .int .u64 0, .int .u64 0, .int .u64 0, .int .u16 0]) [(0, 33)] rfl (by kernel_rfl) Try.underlying93 (by kernel_rfl) rfl rfl
  refine' TL.mx rfl rfl rfl ?hy3 ?_
  case hy3 => exact Ym.box rfl rfl
  intro b2
  refine TL.wk (M' := Hp W (fun _ => False) [blk b2 (.cells (rowA 33 z0) 93 (0, 0))]) (fun w h => by rw [← zc]; exact h) ?_
  refine' TL.y rfl rfl rfl ?hy4 ?_
  case hy4 => exact Yl.assign rfl rfl
  refine TL.nil ?_
  refine TE.next ?_
  refine TC.ret ?_
  refine TE.ret1 rfl rfl ?_
  exact fun w h => ⟨b2, rfl, tab_new (h.all _ mem0), h.below, fun k hk => by rw [foot_new hk]; exact (h.own _ mem0 b2 rfl).resolve_left id⟩
set_option maxRecDepth 100000 in
set_option maxHeartbeats 2000000 in
theorem k_get (W : World) {st : St} {S : Sf} (hR : Rep W st) (hT : Tree st S) (n : Int) : Calls Try.prog 42 #[.pointer (some ⟨st.ad 0 0, 0, none⟩), .int .i64 n] W fun e w' => e = .returned (.tuple #[.int .u64 ((gt S n).getD 0), .bool (gt S n).isSome]) ∧ Below W.heap.size W w' := by
  have hM : Hp W (fun _ => False) [] W := Hp.start
  refine TC.enter (n := 46) Try.func42 rfl rfl rfl hM ?_
  refine TC.seq ?_
  refine TC.region ?_
  refine' TL.y rfl rfl rfl ?hy1 ?_
  case hy1 => exact Yl.assign rfl rfl
  refine' TL.y rfl rfl rfl ?hy2 ?_
  case hy2 => exact Yl.assign rfl rfl
  refine TL.nil ?_
  refine TE.next ?_
  refine TC.seq ?_
  refine TC.seq ?_
  refine TC.region ?_
  refine' TL.y rfl rfl rfl ?hy3 ?_
  case hy3 => exact Yl.move rfl rfl
  refine' TL.c rfl rfl rfl ?hy4 ?_
  case hy4 => exact Yc.call rfl Try.func70 (by kernel_rfl) rfl rfl (Hp.calls (fun w h => k_right w n))
  intro _
  refine' TL.y rfl rfl rfl ?hy5 ?_
  case hy5 => exact Yl.not rfl rfl
  refine TL.nil ?_
  refine TE.next ?_
  refine TC.cond rfl (fun hs11 => ?_) (fun hs11 => ?_)
  · skip
    (try simp only [nrm] at hs11)
    refine TC.seq ?_
    refine TC.region ?_
    refine' TL.y rfl rfl rfl ?hy6 ?_
    case hy6 => exact Yl.assign rfl rfl
    refine' TL.y rfl rfl rfl ?hy7 ?_
    case hy7 => exact Yl.assign rfl rfl
    refine TL.nil ?_
    refine TE.next ?_
    refine TC.ret ?_
    refine TE.thenRet ?_
    refine TE.ret2 rfl rfl rfl ?_
    exact fun w h => ⟨by rw [gt_no (show ¬ (0 ≤ n ∧ n < 65536) by omega)]; rfl, h.below⟩
  · skip
    (try simp only [nrm] at hs11)
    obtain ⟨p, rfl⟩ := Int.eq_ofNat_of_zero_le (show 0 ≤ n by omega)
    have hp : p < 65536 := by omega
    have hex0 : st.ex 0 (pfx p 0) = true := by rw [pfx_0 hp]; exact hT.root
    refine TC.skip ?_
    refine TE.next ?_
    refine TC.seq ?_
    refine TC.region ?_
    refine' TL.y rfl rfl rfl ?hy8 ?_
    case hy8 => exact Yl.move rfl rfl
    refine' TL.y rfl rfl rfl ?hy9 ?_
    case hy9 => exact Yl.nilCheck rfl rfl
    refine' TL.y rfl rfl rfl ?hy10 ?_
    case hy10 => first | exact Yl.field0 (k := 32) 0 rfl rfl Try.underlying93 rfl (by kernel_rfl) rfl | exact Yl.field (k := 32) 0 rfl rfl Try.underlying93 rfl (by kernel_rfl) rfl
    refine' TL.y rfl rfl rfl ?hy11 ?_
    case hy11 => exact Yl.assign rfl rfl
    refine TL.nil ?_
    refine TE.next ?_
    refine TC.seq ?_
    refine TC.seq ?_
    refine TC.region ?_
    refine' TL.y rfl rfl rfl ?hy12 ?_
    case hy12 => exact Yl.move rfl rfl
    refine TL.nil ?_
    refine TE.next ?_
    refine TC.block ?_
    refine TC.loop (σ := Nat) (fun k => [(1, .int .i64 (p : Int)), (6, .pointer (some ⟨st.ad k (pfx p k), 0, none⟩)), (15, .int .i64 (k : Int))]) (fun k => Hp W (fun _ => False) []) (fun k => k ≤ 3 ∧ st.ex k (pfx p k) = true) (fun k => 4 - k) 0 ?hF13 ?hs13 ?hm13 ?round13
    case hF13 => exact ⟨by omega, hex0⟩
    case hs13 => exact ⟨rfl, congrArg (fun x => some (Value.pointer (some ⟨st.ad 0 x, 0, none⟩))) (pfx_0 hp).symm, rfl, trivial⟩
    case hm13 => exact fun _ h => h
    case round13 =>
      rintro k ⟨hk, hex⟩
      refine TC.seq ?_
      refine TC.region ?_
      refine' TL.y rfl rfl rfl ?hy14 ?_
      case hy14 => exact Yl.bin rfl rfl rfl (Bin.lss _ _ _ _)
      refine TL.nil ?_
      refine TE.next ?_
      refine TC.seq ?_
      refine TC.cond rfl (fun hs16 => ?_) (fun hs16 => ?_)
      · skip
        (try simp only [nrm] at hs16)
        have hk3 : k < 3 := by omega
        refine TC.skip ?_
        refine TE.next ?_
        refine TC.seq ?_
        refine TC.block ?_
        refine TC.seq ?_
        refine TC.region ?_
        refine' TL.y rfl rfl rfl ?hy15 ?_
        case hy15 => exact Yl.move rfl rfl
        refine' TL.y rfl rfl rfl ?hy16 ?_
        case hy16 => exact Yl.assign rfl rfl
        refine TL.nil ?_
        refine TE.next ?_
        refine TC.seq ?_
        refine TC.draw (k := 9) _ [] #[false, false, false, false, false, false, false, false, false] (by kernel_rfl) rfl rfl (fun _ h => h.drew) (fun _ h => h) ?_
        refine' TA.y (i := 0) #[true, false, false, false, false, false, false, false, false] rfl rfl rfl (by kernel_rfl) (fun _ _ _ h => h) (fun _ h => by exact Hp.sub h (by repeat (first | exact sR _ | apply sC))) rfl ?hy17 ?_
        case hy17 => exact Yl.move rfl rfl
        refine' TA.y (i := 1) #[true, true, false, false, false, false, false, false, false] rfl rfl rfl (by kernel_rfl) (fun _ _ _ h => h) (fun _ h => by exact Hp.sub h (by repeat (first | exact sR _ | apply sC))) rfl ?hy18 ?_
        case hy18 => exact Yl.move rfl rfl
        refine' TA.y (i := 2) #[true, true, true, false, false, false, false, false, false] rfl rfl rfl (by kernel_rfl) (fun _ _ _ h => h) (fun _ h => by exact Hp.sub h (by repeat (first | exact sR _ | apply sC))) rfl ?hy19 ?_
        case hy19 => exact Yl.move rfl rfl
        refine' TA.y (i := 4) #[true, true, true, false, true, false, false, false, false] rfl rfl rfl (by kernel_rfl) (fun _ _ _ h => h) (fun _ h => by exact Hp.sub h (by repeat (first | exact sR _ | apply sC))) rfl ?hy20 ?_
        case hy20 => exact Yl.nilCheck rfl rfl
        refine' TA.y (i := 5) #[true, true, true, false, true, true, false, false, false] rfl rfl rfl (by kernel_rfl) (fun _ _ _ h => h) (fun _ h => by exact Hp.sub h (by repeat (first | exact sR _ | apply sC))) rfl ?hy21 ?_
        case hy21 => first | exact Yl.field0 (k := 15) 0 rfl rfl Try.underlying91 rfl (by kernel_rfl) rfl | exact Yl.field (k := 15) 0 rfl rfl Try.underlying91 rfl (by kernel_rfl) rfl
        refine' TA.c (i := 3) #[true, true, true, true, true, true, false, false, false] rfl rfl rfl (by kernel_rfl) (by decide) rfl ?hy22 ?hz22 ?_
        case hy22 => exact Yc.call rfl Try.func71 (by kernel_rfl) rfl rfl (Hp.calls (fun w h => k_digit w (p := p) (lv := k) (by omega) (by omega)))
        case hz22 => exact (fun _ _ h => by exact Hp.sub h (by repeat (first | exact sR _ | apply sC)))
        intro _
        refine' TA.y (i := 6) #[true, true, true, true, true, true, true, false, false] rfl rfl rfl (by kernel_rfl) (fun _ _ _ h => h) (fun _ h => by exact Hp.sub h (by repeat (first | exact sR _ | apply sC))) rfl ?hy23 ?_
        case hy23 => exact Yl.arr0 rfl rfl rfl Try.underlying87 (by kernel_rfl) (dg_lt _ _)
        refine' TA.y (i := 7) #[true, true, true, true, true, true, true, true, false] rfl rfl rfl (by kernel_rfl) (fun _ _ _ h => h) (fun _ h => by exact Hp.sub h (by repeat (first | exact sR _ | apply sC))) rfl ?hy24 ?_
        case hy24 => exact Yl.load rfl rfl (by kernel_rfl) (by first | exact Rep.cell hR hex (by have := dg_lt p k; omega) (gN_kid st k _ (dg_lt p k)) (fun _ h => h) | exact Hp.cell mem0 rfl | exact Hp.cell mem1 rfl | exact Hp.cell mem2 rfl | exact Hp.cell mem3 rfl | exact Hp.cell mem4 rfl | exact Hp.rowAt mem0 (by omega) rfl | exact Hp.rowAt mem1 (by omega) rfl | exact Hp.rowAt mem2 (by omega) rfl | exact Hp.rowAt mem3 (by omega) rfl | exact Hp.rowAt mem4 (by omega) rfl)
        refine' TA.y (i := 8) #[true, true, true, true, true, true, true, true, true] rfl rfl rfl (by kernel_rfl) (fun _ _ _ h => h) (fun _ h => by exact Hp.sub h (by repeat (first | exact sR _ | apply sC))) rfl ?hy25 ?_
        case hy25 => exact Yl.assign rfl rfl
        refine TA.done (by kernel_rfl) ?_
        refine TE.next ?_
        refine TC.seq ?_
        refine TC.region ?_
        refine' TL.y rfl rfl rfl ?hy26 ?_
        case hy26 => exact Yl.move rfl rfl
        refine' TL.y rfl rfl rfl ?hy27 ?_
        case hy27 => exact Yl.bin rfl rfl rfl (Bin.eqlP _ _ _ Try.underlying86)
        refine TL.nil ?_
        refine TE.next ?_
        refine TC.cond rfl (fun hs27 => ?_) (fun hs27 => ?_)
        · skip
          (try simp only [nrm] at hs27)
          have hnx := kidV_nx hk3 hs27
          rw [← pfx_next hp (by omega)] at hnx
          refine TC.seq ?_
          refine TC.region ?_
          refine' TL.y rfl rfl rfl ?hy28 ?_
          case hy28 => exact Yl.assign rfl rfl
          refine' TL.y rfl rfl rfl ?hy29 ?_
          case hy29 => exact Yl.assign rfl rfl
          refine TL.nil ?_
          refine TE.next ?_
          refine TC.ret ?_
          refine TE.inRet ?_
          refine TE.thenRet ?_
          refine TE.thenRet ?_
          refine TE.inRet ?_
          refine TE.thenRet ?_
          refine TE.ret2 rfl rfl rfl ?_
          exact fun w h => ⟨by rw [show gt S (p : Int) = none by rw [gt_nat hp]; cases e : S p with | none => rfl | some x => exact absurd (hT.path (q := p) (by rw [e]; rfl) (show k + 1 ≤ 3 by omega)) (by rw [hnx]; simp)]; rfl, h.below⟩
        · skip
          (try simp only [nrm] at hs27)
          have hex2 := kidV_ex hk3 hs27
          refine TC.re (i := 6) (v' := .pointer (some ⟨st.ad (k + 1) (pfx p (k + 1)), 0, none⟩)) rfl (congrArg Value.pointer (by rw [kidV_yes hk3 hex2, ← pfx_next hp (by omega)])) ?_
          rw [← pfx_next hp (by omega)] at hex2
          refine TC.skip ?_
          refine TE.inNormal ?_
          refine TE.next ?_
          refine TC.region ?_
          refine' TL.y rfl rfl rfl ?hy30 ?_
          case hy30 => first | (refine Yl.val (Yl.bin rfl rfl rfl (Bin.add _ _ _ _)) (congrArg (Value.int .i64) (i64in ?_ ?_)) <;> omega) | exact Yl.bin rfl rfl rfl (Bin.add _ _ _ _)
          refine' TL.y rfl rfl rfl ?hy31 ?_
          case hy31 => exact Yl.move rfl rfl
          refine TL.nil ?_
          refine TE.round (k + 1) ?hF32 ?hlt32 ?hs32 ?hm32
          case hF32 => exact ⟨by omega, hex2⟩
          case hlt32 => omega
          case hs32 => exact ⟨rfl, rfl, rfl, trivial⟩
          case hm32 => exact fun _ h => h
      · skip
        (try simp only [nrm] at hs16)
        obtain rfl : k = 3 := by omega
        refine TC.exit ?_
        refine TE.thenExit ?_
        refine TE.thenExit ?_
        refine TE.inHere ?_
        refine TE.next ?_
        refine TC.seq ?_
        refine TC.region ?_
        refine' TL.y rfl rfl rfl ?hy33 ?_
        case hy33 => exact Yl.move rfl rfl
        refine' TL.c rfl rfl rfl ?hy34 ?_
        case hy34 => exact Yc.call rfl Try.func71 (by kernel_rfl) rfl rfl (Hp.calls (fun w h => k_digit w (p := p) (lv := 3) (by omega) (by omega)))
        intro _
        refine' TL.y rfl rfl rfl ?hy35 ?_
        case hy35 => exact Yl.assign rfl rfl
        refine TL.nil ?_
        refine TE.next ?_
        refine TC.seq ?_
        refine TC.draw (k := 17) _ [] #[false, false, false, false, false, false, false, false, false, false, false, false, false, false, false, false, false] (by kernel_rfl) rfl rfl (fun _ h => h.drew) (fun _ h => h) ?_
        refine' TA.y (i := 0) #[true, false, false, false, false, false, false, false, false, false, false, false, false, false, false, false, false] rfl rfl rfl (by kernel_rfl) (fun _ _ _ h => h) (fun _ h => by exact Hp.sub h (by repeat (first | exact sR _ | apply sC))) rfl ?hy36 ?_
        case hy36 => exact Yl.move rfl rfl
        refine' TA.y (i := 1) #[true, true, false, false, false, false, false, false, false, false, false, false, false, false, false, false, false] rfl rfl rfl (by kernel_rfl) (fun _ _ _ h => h) (fun _ h => by exact Hp.sub h (by repeat (first | exact sR _ | apply sC))) rfl ?hy37 ?_
        case hy37 => exact Yl.move rfl rfl
        refine' TA.y (i := 2) #[true, true, true, false, false, false, false, false, false, false, false, false, false, false, false, false, false] rfl rfl rfl (by kernel_rfl) (fun _ _ _ h => h) (fun _ h => by exact Hp.sub h (by repeat (first | exact sR _ | apply sC))) rfl ?hy38 ?_
        case hy38 => exact Yl.nilCheck rfl rfl
        refine' TA.y (i := 3) #[true, true, true, true, false, false, false, false, false, false, false, false, false, false, false, false, false] rfl rfl rfl (by kernel_rfl) (fun _ _ _ h => h) (fun _ h => by exact Hp.sub h (by repeat (first | exact sR _ | apply sC))) rfl ?hy39 ?_
        case hy39 => first | exact Yl.field0 (k := 15) 16 rfl rfl Try.underlying91 rfl (by kernel_rfl) rfl | exact Yl.field (k := 15) 16 rfl rfl Try.underlying91 rfl (by kernel_rfl) rfl
        refine' TA.y (i := 4) #[true, true, true, true, true, false, false, false, false, false, false, false, false, false, false, false, false] rfl rfl rfl (by kernel_rfl) (fun _ _ _ h => h) (fun _ h => by exact Hp.sub h (by repeat (first | exact sR _ | apply sC))) rfl ?hy40 ?_
        case hy40 => exact Yl.arrO rfl rfl rfl Try.underlying88 (by kernel_rfl) (dg_lt _ _)
        refine' TA.y (i := 5) #[true, true, true, true, true, true, false, false, false, false, false, false, false, false, false, false, false] rfl rfl rfl (by kernel_rfl) (fun _ _ _ h => h) (fun _ h => by exact Hp.sub h (by repeat (first | exact sR _ | apply sC))) rfl ?hy41 ?_
        case hy41 => exact Yl.load rfl rfl (by kernel_rfl) (Rep.cell hR hex (by have := dg_lt p 3; omega) (gN_wrd st 3 _ (dg_lt p 3)) (fun _ h => h))
        refine TA.re (i := 36) (v' := .int .u64 ((S p).getD 0)) rfl (congrArg (Value.int .u64) (by show wrd st 3 (pfx p 3) (dg p 3) = _; unfold wrd; rw [if_pos rfl, hT.wds _ hex _ (dg_lt p 3), ← pfx_next hp (by omega)]; rfl)) ?_
        refine' TA.y (i := 6) #[true, true, true, true, true, true, true, false, false, false, false, false, false, false, false, false, false] rfl rfl rfl (by kernel_rfl) (fun _ _ _ h => h) (fun _ h => by exact Hp.sub h (by repeat (first | exact sR _ | apply sC))) rfl ?hy42 ?_
        case hy42 => exact Yl.move rfl rfl
        refine' TA.y (i := 7) #[true, true, true, true, true, true, true, true, false, false, false, false, false, false, false, false, false] rfl rfl rfl (by kernel_rfl) (fun _ _ _ h => h) (fun _ h => by exact Hp.sub h (by repeat (first | exact sR _ | apply sC))) rfl ?hy43 ?_
        case hy43 => exact Yl.nilCheck rfl rfl
        refine' TA.y (i := 8) #[true, true, true, true, true, true, true, true, true, false, false, false, false, false, false, false, false] rfl rfl rfl (by kernel_rfl) (fun _ _ _ h => h) (fun _ h => by exact Hp.sub h (by repeat (first | exact sR _ | apply sC))) rfl ?hy44 ?_
        case hy44 => first | exact Yl.field0 (k := 0) 32 rfl rfl Try.underlying91 rfl (by kernel_rfl) rfl | exact Yl.field (k := 0) 32 rfl rfl Try.underlying91 rfl (by kernel_rfl) rfl
        refine' TA.y (i := 9) #[true, true, true, true, true, true, true, true, true, true, false, false, false, false, false, false, false] rfl rfl rfl (by kernel_rfl) (fun _ _ _ h => h) (fun _ h => by exact Hp.sub h (by repeat (first | exact sR _ | apply sC))) rfl ?hy45 ?_
        case hy45 => exact Yl.load rfl rfl (by kernel_rfl) (Rep.cell hR hex (by omega) (gN_has st 3 _) (fun _ h => h))
        refine TA.re (i := 40) (v' := .int .u16 (btw (fun d => (S (16 * pfx p 3 + d)).isSome))) rfl (congrArg (Value.int .u16) (hT.hs3 _ hex)) ?_
        refine' TA.y (i := 10) #[true, true, true, true, true, true, true, true, true, true, true, false, false, false, false, false, false] rfl rfl rfl (by kernel_rfl) (fun _ _ _ h => h) (fun _ h => by exact Hp.sub h (by repeat (first | exact sR _ | apply sC))) rfl ?hy46 ?_
        case hy46 => exact Yl.move rfl rfl
        refine' TA.y (i := 11) #[true, true, true, true, true, true, true, true, true, true, true, true, false, false, false, false, false] rfl rfl rfl (by kernel_rfl) (fun _ _ _ h => h) (fun _ h => by exact Hp.sub h (by repeat (first | exact sR _ | apply sC))) rfl ?hy47 ?_
        case hy47 => exact Yl.val (Yl.conv rfl rfl (by kernel_rfl) Try.underlying100) (congrArg (Value.int .u64) (cv16 (dg_lt p 3)))
        refine' TA.y (i := 12) #[true, true, true, true, true, true, true, true, true, true, true, true, true, false, false, false, false] rfl rfl rfl (by kernel_rfl) (fun _ _ _ h => h) (fun _ h => by exact Hp.sub h (by repeat (first | exact sR _ | apply sC))) rfl ?hy48 ?_
        case hy48 => exact Yl.bin rfl rfl rfl (Bin.shr _ _ _ _ _ (by omega))
        refine' TA.y (i := 13) #[true, true, true, true, true, true, true, true, true, true, true, true, true, true, false, false, false] rfl rfl rfl (by kernel_rfl) (fun _ _ _ h => h) (fun _ h => by exact Hp.sub h (by repeat (first | exact sR _ | apply sC))) rfl ?hy49 ?_
        case hy49 => exact Yl.val (Yl.bin rfl rfl rfl (Bin.and _ _ _ _)) (congrArg (Value.int .u16) (and16 _ (dg_lt p 3)))
        refine' TA.y (i := 14) #[true, true, true, true, true, true, true, true, true, true, true, true, true, true, true, false, false] rfl rfl rfl (by kernel_rfl) (fun _ _ _ h => h) (fun _ h => by exact Hp.sub h (by repeat (first | exact sR _ | apply sC))) rfl ?hy50 ?_
        case hy50 => exact Yl.bin rfl rfl rfl (Bin.neq _ _ _ _)
        refine' TA.y (i := 15) #[true, true, true, true, true, true, true, true, true, true, true, true, true, true, true, true, false] rfl rfl rfl (by kernel_rfl) (fun _ _ _ h => h) (fun _ h => by exact Hp.sub h (by repeat (first | exact sR _ | apply sC))) rfl ?hy51 ?_
        case hy51 => exact Yl.assign rfl rfl
        refine' TA.y (i := 16) #[true, true, true, true, true, true, true, true, true, true, true, true, true, true, true, true, true] rfl rfl rfl (by kernel_rfl) (fun _ _ _ h => h) (fun _ h => by exact Hp.sub h (by repeat (first | exact sR _ | apply sC))) rfl ?hy52 ?_
        case hy52 => exact Yl.assign rfl rfl
        refine TA.done (by kernel_rfl) ?_
        refine TE.next ?_
        refine TC.ret ?_
        refine TE.ret2 rfl rfl rfl ?_
        have hbit : ((if (S (16 * pfx p 3 + dg p 3)).isSome = true then (1 : Int) else 0) != 0) = (gt S (p : Int)).isSome := by rw [gt_nat hp, ← pfx_next hp (by omega), show pfx p (3 + 1) = p from rfl]; cases (S p).isSome <;> rfl
        exact fun w h => ⟨by rw [hbit, gt_nat hp], h.below⟩
end Go.Proofs.Ytabjdjkkpbkpfaa.Pk
