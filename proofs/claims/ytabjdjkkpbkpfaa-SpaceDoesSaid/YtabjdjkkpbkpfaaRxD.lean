/- Dropping a page's word. -/
import Derived.Test.YtabjdjkkpbkpfaaRxC
import Derived.Test.YtabjdjkkpbkpfaaProg
import Derived.RowKit3
namespace Go.Proofs.Ytabjdjkkpbkpfaa.Pk
open Go Go.RowKit Go.Proofs.Ytabjdjkkpbkpfaa.HL Go.Proofs.Ytabjdjkkpbkpfaa.Ev Go.Proofs.YtabjdjkkpbkpfaaW.PrintWords Go.Proofs.RxP
set_option linter.unusedVariables false
set_option linter.unusedSimpArgs false
attribute [local irreducible] btw rowA
def DropC (S : Sf) (p k : Nat) : Prop := ∀ st : St, Tree st S → Canon st S p 0 → Turns Try.prog 73 #[.pointer (some ⟨st.ad k (pfx p k), 0, none⟩), .int .i64 (p : Int), .int .i64 (k : Int)] (tabR st) (σ := {s : St // Dropped st s S p k}) (fun _ => .tuple #[]) (fun s => tabR s.1)
set_option maxRecDepth 100000 in
set_option maxHeartbeats 2000000 in
theorem drop_step {S : Sf} {p k : Nat} (hp : p < 65536) (hS : (S p).isSome = true) (hk : k ≤ 3) (ih : k < 3 → DropC S p (k + 1)) : DropC S p k := by
  intro st hT hC W hR
  have hdl := dg_lt p k
  have hM : Hp W (tabR st).foot [tabR st] W := Hp.enter hR
  refine TC.enter (n := 52) Try.func73 rfl rfl rfl hM ?_
  refine TC.seq ?_
  refine TC.region ?_
  refine' TL.y rfl rfl rfl ?hy1 ?_
  case hy1 => exact Yl.move rfl rfl
  refine' TL.y rfl rfl rfl ?hy2 ?_
  case hy2 => exact Yl.move rfl rfl
  refine' TL.c rfl rfl rfl ?hy3 ?_
  case hy3 => exact Yc.call rfl Try.func71 (by kernel_rfl) rfl rfl (Hp.calls (fun w h => k_digit w (p := p) (lv := k) (by omega) (by omega)))
  intro _
  refine' TL.y rfl rfl rfl ?hy4 ?_
  case hy4 => exact Yl.assign rfl rfl
  refine TL.nil ?_
  refine TE.next ?_
  refine TC.seq ?_
  refine TC.seq ?_
  refine TC.region ?_
  refine' TL.y rfl rfl rfl ?hy5 ?_
  case hy5 => exact Yl.move rfl rfl
  refine' TL.y rfl rfl rfl ?hy6 ?_
  case hy6 => exact Yl.bin rfl rfl rfl (Bin.lss _ _ _ _)
  refine TL.nil ?_
  refine TE.next ?_
  refine TC.cond rfl (fun hs11 => ?_) (fun hs11 => ?_)
  · skip
    (try simp only [nrm] at hs11)
    have hk3 : k < 3 := by omega
    have hex := hT.path hS (k := k) (by omega)
    have hex1 := hT.path hS (k := k + 1) (by omega)
    refine TC.seq ?_
    refine TC.region ?_
    refine' TL.y rfl rfl rfl ?hy7 ?_
    case hy7 => exact Yl.move rfl rfl
    refine' TL.y rfl rfl rfl ?hy8 ?_
    case hy8 => exact Yl.move rfl rfl
    refine' TL.y rfl rfl rfl ?hy9 ?_
    case hy9 => exact Yl.nilCheck rfl rfl
    refine' TL.y rfl rfl rfl ?hy10 ?_
    case hy10 => first | exact Yl.field0 (k := 15) 0 rfl rfl Try.underlying91 rfl (by kernel_rfl) rfl | exact Yl.field (k := 15) 0 rfl rfl Try.underlying91 rfl (by kernel_rfl) rfl
    refine' TL.y rfl rfl rfl ?hy11 ?_
    case hy11 => exact Yl.arr0 rfl rfl rfl Try.underlying87 (by kernel_rfl) (dg_lt _ _)
    refine' TL.y rfl rfl rfl ?hy12 ?_
    case hy12 => exact Yl.load rfl rfl (by kernel_rfl) (Hp.tabAt mem0 hex (by omega) (gN_kid st k _ (dg_lt p k)))
    refine TL.re (i := 17) (v' := .pointer (some ⟨st.ad (k + 1) (pfx p (k + 1)), 0, none⟩)) rfl (congrArg Value.pointer (by rw [kidV_yes hk3 (by rw [← pfx_next hp (by omega)]; exact hex1), ← pfx_next hp (by omega)])) ?_
    refine' TL.y rfl rfl rfl ?hy13 ?_
    case hy13 => exact Yl.move rfl rfl
    refine' TL.y rfl rfl rfl ?hy14 ?_
    case hy14 => exact Yl.move rfl rfl
    refine' TL.y rfl rfl rfl ?hy15 ?_
    case hy15 => first | (refine Yl.val (Yl.bin rfl rfl rfl (Bin.add _ _ _ _)) (congrArg (Value.int .i64) (i64in ?_ ?_)) <;> omega) | exact Yl.bin rfl rfl rfl (Bin.add _ _ _ _)
    refine TL.re (i := 20) (v' := .int .i64 ((k + 1 : Nat) : Int)) rfl (congrArg (Value.int .i64) (by omega)) ?_
    refine' TL.c rfl rfl rfl ?hy16 ?_
    case hy16 => exact Yc.call rfl Try.func73 (by kernel_rfl) rfl rfl (Hp.turnx mem0 (fun s => foc0) (ih hk3 st hT hC))
    intro ⟨st1, hD⟩
    dsimp only
    rw [← hD.ad k (pfx p k)]
    have hx : st1.ex k (pfx p k) = true := by rw [hD.up _ _ (by omega)]; exact hex
    have hx1 : st1.ex (k + 1) (pfx p (k + 1)) = true := by rw [hD.up _ _ (by omega)]; exact hex1
    refine TL.nil ?_
    refine TE.next ?_
    refine TC.seq ?_
    refine TC.seq ?_
    refine TC.region ?_
    refine' TL.y rfl rfl rfl ?hy17 ?_
    case hy17 => exact Yl.move rfl rfl
    refine' TL.y rfl rfl rfl ?hy18 ?_
    case hy18 => exact Yl.move rfl rfl
    refine' TL.y rfl rfl rfl ?hy19 ?_
    case hy19 => exact Yl.nilCheck rfl rfl
    refine' TL.y rfl rfl rfl ?hy20 ?_
    case hy20 => first | exact Yl.field0 (k := 15) 0 rfl rfl Try.underlying91 rfl (by kernel_rfl) rfl | exact Yl.field (k := 15) 0 rfl rfl Try.underlying91 rfl (by kernel_rfl) rfl
    refine' TL.y rfl rfl rfl ?hy21 ?_
    case hy21 => exact Yl.arr0 rfl rfl rfl Try.underlying87 (by kernel_rfl) (dg_lt _ _)
    refine' TL.y rfl rfl rfl ?hy22 ?_
    case hy22 => exact Yl.load rfl rfl (by kernel_rfl) (Hp.tabAt mem0 hx (by omega) (gN_kid st1 k _ (dg_lt p k)))
    refine TL.re (i := 27) (v' := .pointer (some ⟨st1.ad (k + 1) (pfx p (k + 1)), 0, none⟩)) rfl (congrArg Value.pointer (by rw [kidV_yes hk3 (by rw [← pfx_next hp (by omega)]; exact hx1), ← pfx_next hp (by omega)])) ?_
    refine' TL.y rfl rfl rfl ?hy23 ?_
    case hy23 => exact Yl.nilCheck rfl rfl
    refine' TL.y rfl rfl rfl ?hy24 ?_
    case hy24 => first | exact Yl.field0 (k := 0) 32 rfl rfl Try.underlying91 rfl (by kernel_rfl) rfl | exact Yl.field (k := 0) 32 rfl rfl Try.underlying91 rfl (by kernel_rfl) rfl
    refine' TL.y rfl rfl rfl ?hy25 ?_
    case hy25 => exact Yl.load rfl rfl (by kernel_rfl) (Hp.tabAt mem0 hx1 (by omega) (gN_has st1 _ _))
    refine' TL.y rfl rfl rfl ?hy26 ?_
    case hy26 => exact Yl.bin rfl rfl rfl (Bin.neq _ _ _ _)
    refine TL.nil ?_
    refine TE.next ?_
    refine TC.cond rfl (fun hs31 => ?_) (fun hs31 => ?_)
    · skip
      (try simp only [nrm] at hs31)
      refine TC.ret ?_
      refine TE.thenRet ?_
      refine TE.thenRet ?_
      refine TE.ret0 rfl ?_
      exact fun w h => ⟨⟨st1, hD.stay hp hk3 hex1 hs31⟩, rfl, h.leave⟩
    · skip
      (try simp only [nrm] at hs31)
      refine TC.wk (fun w h => Hp.focus hD.tree hx h) ?_
      refine TC.skip ?_
      refine TE.next ?_
      refine TC.region ?_
      refine' TL.y rfl rfl rfl ?hy27 ?_
      case hy27 => exact Yl.move rfl rfl
      refine' TL.y rfl rfl rfl ?hy28 ?_
      case hy28 => exact Yl.move rfl rfl
      refine' TL.y rfl rfl rfl ?hy29 ?_
      case hy29 => exact Yl.nilCheck rfl rfl
      refine' TL.y rfl rfl rfl ?hy30 ?_
      case hy30 => first | exact Yl.field0 (k := 15) 0 rfl rfl Try.underlying91 rfl (by kernel_rfl) rfl | exact Yl.field (k := 15) 0 rfl rfl Try.underlying91 rfl (by kernel_rfl) rfl
      refine' TL.y rfl rfl rfl ?hy31 ?_
      case hy31 => exact Yl.arr0 rfl rfl rfl Try.underlying87 (by kernel_rfl) (dg_lt _ _)
      refine' TL.s rfl rfl ?hy32 ?_
      case hy32 => exact Ys.row rfl rfl rfl rfl (by kernel_rfl) rfl foc0 (by omega) rfl
      refine TL.nil ?_
      refine TE.next ?_
      refine TC.seq ?_
      refine TC.region ?_
      refine' TL.y rfl rfl rfl ?hy33 ?_
      case hy33 => exact Yl.move rfl rfl
      refine' TL.y rfl rfl rfl ?hy34 ?_
      case hy34 => exact Yl.move rfl rfl
      refine' TL.y rfl rfl rfl ?hy35 ?_
      case hy35 => exact Yl.nilCheck rfl rfl
      refine' TL.y rfl rfl rfl ?hy36 ?_
      case hy36 => first | exact Yl.field0 (k := 15) 16 rfl rfl Try.underlying91 rfl (by kernel_rfl) rfl | exact Yl.field (k := 15) 16 rfl rfl Try.underlying91 rfl (by kernel_rfl) rfl
      refine' TL.y rfl rfl rfl ?hy37 ?_
      case hy37 => exact Yl.arrO rfl rfl rfl Try.underlying88 (by kernel_rfl) (dg_lt _ _)
      refine' TL.s rfl rfl ?hy38 ?_
      case hy38 => exact Ys.row rfl rfl rfl rfl (by kernel_rfl) rfl foc0 (by omega) rfl
      refine TL.nil ?_
      refine TE.next ?_
      refine TC.region ?_
      refine' TL.y rfl rfl rfl ?hy39 ?_
      case hy39 => exact Yl.move rfl rfl
      refine' TL.y rfl rfl rfl ?hy40 ?_
      case hy40 => exact Yl.nilCheck rfl rfl
      refine' TL.y rfl rfl rfl ?hy41 ?_
      case hy41 => first | exact Yl.field0 (k := 0) 32 rfl rfl Try.underlying91 rfl (by kernel_rfl) rfl | exact Yl.field (k := 0) 32 rfl rfl Try.underlying91 rfl (by kernel_rfl) rfl
      refine' TL.y rfl rfl rfl ?hy42 ?_
      case hy42 => first | exact Yl.load rfl rfl (by kernel_rfl) (Hp.rowAt mem0 (by omega) ((upV_ne _ _ (by omega)).trans ((upV_ne _ _ (by omega)).trans ((gN_has st1 k _).trans (congrArg (Value.int .u16) (hD.tree.hsk k _ hx hk3)))))) | exact Yl.load rfl rfl (by kernel_rfl) (Hp.rowAt mem0 (by omega) ((upV_ne _ _ (by omega)).trans ((gN_has st 3 _).trans (congrArg (Value.int .u16) (hT.hs3 _ hex)))))
      refine' TL.y rfl rfl rfl ?hy43 ?_
      case hy43 => exact Yl.move rfl rfl
      refine' TL.y rfl rfl rfl ?hy44 ?_
      case hy44 => exact Yl.val (Yl.conv rfl rfl (by kernel_rfl) Try.underlying100) (congrArg (Value.int .u64) (cv16 (dg_lt p _)))
      refine' TL.y rfl rfl rfl ?hy45 ?_
      case hy45 => exact Yl.val (Yl.bin rfl rfl rfl (Bin.shl _ _ _ _ _ (by omega))) (congrArg (Value.int .u16) (shl16 (dg_lt p _)))
      refine' TL.y rfl rfl rfl ?hy46 ?_
      case hy46 => exact Yl.val (Yl.bin rfl rfl rfl (Bin.andNot _ _ _ _)) (congrArg (Value.int .u16) (off16 _ (dg_lt p _)))
      refine' TL.y rfl rfl rfl ?hy47 ?_
      case hy47 => exact Yl.nilCheck rfl rfl
      refine' TL.y rfl rfl rfl ?hy48 ?_
      case hy48 => first | exact Yl.field0 (k := 0) 32 rfl rfl Try.underlying91 rfl (by kernel_rfl) rfl | exact Yl.field (k := 0) 32 rfl rfl Try.underlying91 rfl (by kernel_rfl) rfl
      refine' TL.s rfl rfl ?hy49 ?_
      case hy49 => exact Ys.row rfl rfl rfl rfl (by kernel_rfl) rfl foc0 (by omega) rfl
      refine TL.nil ?_
      refine TE.end0 rfl ?_
      exact fun w h => ⟨⟨_, hD.cut hp hk3 hex hex1 hs31⟩, rfl, (Hp.unfocus (st := st1) (st' := setH (delK st1 (k + 1) (pfx p (k + 1))) k (pfx p k) (btw (setB (fun d => st1.ex (k + 1) (16 * pfx p k + d)) (dg p k) false))) rfl (fun i hi => by
          have e : 16 * pfx p k + dg p k = pfx p (k + 1) := (pfx_next hp (by omega)).symm
          rw [gN_H_self _ _ _ _ i hi]
          have h1 := gN_D_self st1 k (pfx p k) (dg p k) (dg_lt p k)
          rw [e] at h1
          have h0 := gN_wrd st1 k (pfx p k) (dg_lt p k)
          unfold upV at h1 ⊢
          by_cases h2 : i = 32
          · rw [if_pos h2, if_pos h2]
          · rw [if_neg h2, if_neg h2, h1 i hi]
            by_cases h3 : i = 16 + dg p k
            · rw [if_pos h3, if_neg (by omega), h3, h0]; unfold wrd; rw [if_neg (by omega)]
            · rw [if_neg h3]) (fun j q he hn => ⟨by
              have he2 : (if j = k + 1 ∧ q = pfx p (k + 1) then false else st1.ex j q) = true := he
              split at he2
              · cases he2
              · exact he2, rfl, fun i hi => (gN_H_old hn i).trans (gN_D_old (fun e2 => hn ⟨by omega, by rw [e2.2, pfx_up hp (by omega)]⟩) i hi)⟩) h).leave⟩
  · skip
    (try simp only [nrm] at hs11)
    obtain rfl : k = 3 := by omega
    have hex := hT.path hS (k := 3) (by omega)
    refine TC.wk (fun w h => Hp.focus hT hex h) ?_
    refine TC.skip ?_
    refine TE.next ?_
    refine TC.seq ?_
    refine TC.region ?_
    refine' TL.y rfl rfl rfl ?hy50 ?_
    case hy50 => exact Yl.move rfl rfl
    refine' TL.y rfl rfl rfl ?hy51 ?_
    case hy51 => exact Yl.move rfl rfl
    refine' TL.y rfl rfl rfl ?hy52 ?_
    case hy52 => exact Yl.nilCheck rfl rfl
    refine' TL.y rfl rfl rfl ?hy53 ?_
    case hy53 => first | exact Yl.field0 (k := 15) 16 rfl rfl Try.underlying91 rfl (by kernel_rfl) rfl | exact Yl.field (k := 15) 16 rfl rfl Try.underlying91 rfl (by kernel_rfl) rfl
    refine' TL.y rfl rfl rfl ?hy54 ?_
    case hy54 => exact Yl.arrO rfl rfl rfl Try.underlying88 (by kernel_rfl) (dg_lt _ _)
    refine' TL.s rfl rfl ?hy55 ?_
    case hy55 => exact Ys.row rfl rfl rfl rfl (by kernel_rfl) rfl foc0 (by omega) rfl
    refine TL.nil ?_
    refine TE.next ?_
    refine TC.region ?_
    refine' TL.y rfl rfl rfl ?hy56 ?_
    case hy56 => exact Yl.move rfl rfl
    refine' TL.y rfl rfl rfl ?hy57 ?_
    case hy57 => exact Yl.nilCheck rfl rfl
    refine' TL.y rfl rfl rfl ?hy58 ?_
    case hy58 => first | exact Yl.field0 (k := 0) 32 rfl rfl Try.underlying91 rfl (by kernel_rfl) rfl | exact Yl.field (k := 0) 32 rfl rfl Try.underlying91 rfl (by kernel_rfl) rfl
    refine' TL.y rfl rfl rfl ?hy59 ?_
    case hy59 => first | exact Yl.load rfl rfl (by kernel_rfl) (Hp.rowAt mem0 (by omega) ((upV_ne _ _ (by omega)).trans ((upV_ne _ _ (by omega)).trans ((gN_has st1 k _).trans (congrArg (Value.int .u16) (hD.tree.hsk k _ hx hk3)))))) | exact Yl.load rfl rfl (by kernel_rfl) (Hp.rowAt mem0 (by omega) ((upV_ne _ _ (by omega)).trans ((gN_has st 3 _).trans (congrArg (Value.int .u16) (hT.hs3 _ hex)))))
    refine' TL.y rfl rfl rfl ?hy60 ?_
    case hy60 => exact Yl.move rfl rfl
    refine' TL.y rfl rfl rfl ?hy61 ?_
    case hy61 => exact Yl.val (Yl.conv rfl rfl (by kernel_rfl) Try.underlying100) (congrArg (Value.int .u64) (cv16 (dg_lt p _)))
    refine' TL.y rfl rfl rfl ?hy62 ?_
    case hy62 => exact Yl.val (Yl.bin rfl rfl rfl (Bin.shl _ _ _ _ _ (by omega))) (congrArg (Value.int .u16) (shl16 (dg_lt p _)))
    refine' TL.y rfl rfl rfl ?hy63 ?_
    case hy63 => exact Yl.val (Yl.bin rfl rfl rfl (Bin.andNot _ _ _ _)) (congrArg (Value.int .u16) (off16 _ (dg_lt p _)))
    refine' TL.y rfl rfl rfl ?hy64 ?_
    case hy64 => exact Yl.nilCheck rfl rfl
    refine' TL.y rfl rfl rfl ?hy65 ?_
    case hy65 => first | exact Yl.field0 (k := 0) 32 rfl rfl Try.underlying91 rfl (by kernel_rfl) rfl | exact Yl.field (k := 0) 32 rfl rfl Try.underlying91 rfl (by kernel_rfl) rfl
    refine' TL.s rfl rfl ?hy66 ?_
    case hy66 => exact Ys.row rfl rfl rfl rfl (by kernel_rfl) rfl foc0 (by omega) rfl
    refine TL.nil ?_
    refine TE.end0 rfl ?_
    exact fun w h => ⟨⟨_, Dropped.last hp hT (hC.any p 3) hex⟩, rfl, (Hp.unfocus (st := st) (st' := setH (setW st p 0) 3 (pfx p 3) (btw (setB (fun d => (S (16 * pfx p 3 + d)).isSome) (dg p 3) false))) rfl (fun i hi => by
        have e : 16 * pfx p 3 + dg p 3 = p := (pfx_next hp (by omega)).symm
        rw [gN_H_self _ _ _ _ i hi]
        have h1 := gN_W_self st (pfx p 3) (dg p 3) (dg_lt p 3) 0
        rw [e] at h1
        unfold upV at h1 ⊢
        by_cases h2 : i = 32
        · rw [if_pos h2, if_pos h2]
        · rw [if_neg h2, if_neg h2, h1 i hi]) (fun j q he hn => ⟨he, rfl, fun i _ => (gN_H_old hn i).trans (gN_W_old hn i)⟩) h).leave⟩
theorem k_dropn {S : Sf} {p : Nat} (hp : p < 65536) (hS : (S p).isSome = true) {st : St} (hT : Tree st S) (hC : Canon st S 0 0) : Turns Try.prog 73 #[.pointer (some ⟨st.ad 0 0, 0, none⟩), .int .i64 (p : Int), .int .i64 0] (tabR st) (σ := {s : St // Dropped st s S p 0}) (fun _ => .tuple #[]) (fun s => tabR s.1) := by
  have h3 : DropC S p 3 := drop_step hp hS (by omega) (fun h => by omega)
  have h2 : DropC S p 2 := drop_step hp hS (by omega) (fun _ => h3)
  have h1 : DropC S p 1 := drop_step hp hS (by omega) (fun _ => h2)
  have h0 : DropC S p 0 := drop_step hp hS (by omega) (fun _ => h1)
  have h := h0 st hT (hC.any p 0)
  rw [pfx_0 hp] at h
  exact h
set_option maxRecDepth 100000 in
set_option maxHeartbeats 2000000 in
theorem k_drop {st : St} {S : Sf} {b : Nat} (hT : Tab st S b) (n : Int) : Turns Try.prog 40 #[.pointer (some ⟨b, 0, none⟩), .int .i64 n] (tabR st) (σ := {s : St // Tab s (offS S n) b}) (fun _ => .bool (gt S n).isSome) (fun s => tabR s.1) := by
  intro W hR
  obtain ⟨hTr, hC, rfl⟩ := hT
  have hM : Hp W (tabR st).foot [tabR st] W := Hp.enter hR
  refine TC.enter (n := 20) Try.func40 rfl rfl rfl hM ?_
  refine TC.seq ?_
  refine TC.region ?_
  refine' TL.y rfl rfl rfl ?hy1 ?_
  case hy1 => exact Yl.assign rfl rfl
  refine TL.nil ?_
  refine TE.next ?_
  refine TC.seq ?_
  refine TC.seq ?_
  refine TC.region ?_
  refine' TL.y rfl rfl rfl ?hy2 ?_
  case hy2 => exact Yl.move rfl rfl
  refine' TL.y rfl rfl rfl ?hy3 ?_
  case hy3 => exact Yl.move rfl rfl
  refine' TL.c rfl rfl rfl ?hy4 ?_
  case hy4 => exact Yc.call rfl Try.func42 (by kernel_rfl) rfl rfl (Hp.calls (fun w h => k_get w (h.all _ mem0) hTr n))
  intro _
  refine' TL.y rfl rfl rfl ?hy5 ?_
  case hy5 => exact Yl.move rfl rfl
  refine' TL.y rfl rfl rfl ?hy6 ?_
  case hy6 => exact Yl.extract rfl rfl rfl
  refine' TL.y rfl rfl rfl ?hy7 ?_
  case hy7 => exact Yl.extract rfl rfl rfl
  refine' TL.y rfl rfl rfl ?hy8 ?_
  case hy8 => exact Yl.assign rfl rfl
  refine' TL.y rfl rfl rfl ?hy9 ?_
  case hy9 => exact Yl.assign rfl rfl
  refine TL.nil ?_
  refine TE.next ?_
  refine TC.seq ?_
  refine TC.region ?_
  refine' TL.y rfl rfl rfl ?hy10 ?_
  case hy10 => exact Yl.move rfl rfl
  refine' TL.y rfl rfl rfl ?hy11 ?_
  case hy11 => exact Yl.not rfl rfl
  refine TL.nil ?_
  refine TE.next ?_
  refine TC.cond rfl (fun hs14 => ?_) (fun hs14 => ?_)
  · skip
    (try simp only [nrm] at hs14)
    refine TC.seq ?_
    refine TC.region ?_
    refine' TL.y rfl rfl rfl ?hy12 ?_
    case hy12 => exact Yl.assign rfl rfl
    refine TL.nil ?_
    refine TE.next ?_
    refine TC.ret ?_
    refine TE.thenRet ?_
    refine TE.ret1 rfl rfl ?_
    have hno : gt S n = none := by cases e : gt S n with | none => rfl | some x => rw [e] at hs14; simp at hs14
    exact fun w h => ⟨⟨st, by rw [offS_none hno]; exact ⟨hTr, hC, rfl⟩⟩, by rw [hno]; rfl, h.leave⟩
  · skip
    (try simp only [nrm] at hs14)
    have hr : 0 ≤ n ∧ n < 65536 := by
      by_cases e : 0 ≤ n ∧ n < 65536
      · exact e
      · rw [gt_no e] at hs14; simp at hs14
    obtain ⟨p, rfl⟩ := Int.eq_ofNat_of_zero_le (show 0 ≤ n by omega)
    have hp : p < 65536 := by omega
    have hS : (S p).isSome = true := by rw [gt_nat hp] at hs14; simpa using hs14
    refine TC.skip ?_
    refine TE.next ?_
    refine TC.seq ?_
    refine TC.region ?_
    refine' TL.y rfl rfl rfl ?hy13 ?_
    case hy13 => exact Yl.move rfl rfl
    refine' TL.y rfl rfl rfl ?hy14 ?_
    case hy14 => exact Yl.nilCheck rfl rfl
    refine' TL.y rfl rfl rfl ?hy15 ?_
    case hy15 => first | exact Yl.field0 (k := 32) 0 rfl rfl Try.underlying93 rfl (by kernel_rfl) rfl | exact Yl.field (k := 32) 0 rfl rfl Try.underlying93 rfl (by kernel_rfl) rfl
    refine' TL.y rfl rfl rfl ?hy16 ?_
    case hy16 => exact Yl.move rfl rfl
    refine' TL.c rfl rfl rfl ?hy17 ?_
    case hy17 => exact Yc.call rfl Try.func73 (by kernel_rfl) rfl rfl (Hp.turnx mem0 (fun s => foc0) (k_dropn hp hS hTr hC))
    intro ⟨st1, hD⟩
    dsimp only
    refine TL.nil ?_
    refine TE.next ?_
    refine TC.seq ?_
    refine TC.region ?_
    refine' TL.y rfl rfl rfl ?hy18 ?_
    case hy18 => exact Yl.assign rfl rfl
    refine TL.nil ?_
    refine TE.next ?_
    refine TC.ret ?_
    refine TE.ret1 rfl rfl ?_
    exact fun w h => ⟨⟨st1, by rw [offS_nat hp]; exact hD.tab rfl⟩, by rw [gt_nat hp, hS], h.leave⟩
end Go.Proofs.Ytabjdjkkpbkpfaa.Pk
