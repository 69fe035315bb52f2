/- Results in cells, closures, appends. -/
import Derived.Test.YtabjdjkkpbkpfaaHS
import Derived.ArgAppend
import Derived.RangeFuncFrom
import Derived.RangeFuncCalls
import Derived.RangeFuncLeaves
import Derived.RangeFuncRecord
import Derived.Sort.LoopGhostIn
import Derived.TacticsIn
import Derived.OrdersIn
import Derived.Laws.ResultCell
namespace Go.Proofs.Ytabjdjkkpbkpfaa.HL
open Go Go.RowKit Go.Proofs.Ytabjdjkkpbkpfaa.Ev Go.Proofs.YtabjdjkkpbkpfaaW.PrintWords Go.Proofs.YtabjdjkkpbkpfaaW.PrintLast
set_option linter.unusedVariables false
set_option linter.unusedSimpArgs false
/-! ## Results in cells; calls of closures; appends to what is not one's own -/
section
variable {P : Program} {Q : Exit → Act → World → Prop} {n : Nat} {L : FL} {M : World → Prop} {o : Oper} {W0 : World} {T : Nat → Prop} {H H' : List Res}
theorem results_ca {fn : Func} {t : Tmp} {ty : TypeId} {ad : Addr} {cs : List Value} {tmps : Array Value} {w : World} (hr : fn.results = #[.cell t ty]) (hp : tmps.getD t undef = .pointer (some ad)) (ht : aggB P ty = some true) (hz : (P.info? ty).map (·.size) = some cs.length) (hc : ∀ j v, cs[j]? = some v → w.cell? (ad.add j) = some v) : (results fn tmps).run P w = .ok (.agg cs.toArray) w := by
  unfold results
  have hp2 : tmps[t]?.getD undef = .pointer (some ad) := by rw [← hp]; simp [Array.getD_eq_getD_getElem?]
  simp [hr, hp2, asAddr, loadVar, Sem.run_bind, run_isAgg ht, run_size hz, run_loadCells_list w ad cs hc]
theorem results_cat {fn : Func} {t u : Tmp} {ty : TypeId} {ad : Addr} {cs : List Value} {x : Value} {tmps : Array Value} {w : World} (hr : fn.results = #[.cell t ty, .tmp u]) (hp : tmps.getD t undef = .pointer (some ad)) (hx : tmps.getD u undef = x) (ht : aggB P ty = some true) (hz : (P.info? ty).map (·.size) = some cs.length) (hc : ∀ j v, cs[j]? = some v → w.cell? (ad.add j) = some v) : (results fn tmps).run P w = .ok (.tuple #[.agg cs.toArray, x]) w := by
  unfold results
  have hp2 : tmps[t]?.getD undef = .pointer (some ad) := by rw [← hp]; simp [Array.getD_eq_getD_getElem?]
  have hx2 : tmps[u]?.getD undef = x := by rw [← hx]; simp [Array.getD_eq_getD_getElem?]
  simp [hr, hp2, hx2, asAddr, loadVar, Sem.run_bind, run_isAgg ht, run_size hz, run_loadCells_list w ad cs hc]
theorem TE.retCA {fn : Func} {R : Ending → World → Prop} {t : Tmp} {ty : TypeId} {ad : Addr} (cs : List Value) (hr : fn.results = #[.cell t ty]) (hv : look L t = some (.pointer (some ad))) (ht : aggB P ty = some true) (hz : (P.info? ty).map (·.size) = some cs.length) (hc : ∀ w, M w → ∀ j v, cs[j]? = some v → w.cell? (ad.add j) = some v) (h : ∀ w, M w → R (.returned (.agg cs.toArray)) w) : TE (bodyPost P fn R) .ret n L M := fun a w hf hm =>
  ⟨hf.defers, .agg cs.toArray, results_ca hr (show a.tmps.getD t undef = _ from hf.ev (o := .tmp t) hv) ht hz (hc w hm), h w hm⟩
theorem TE.retCAT {fn : Func} {R : Ending → World → Prop} {t u : Tmp} {ty : TypeId} {ad : Addr} {x : Value} (cs : List Value) (hr : fn.results = #[.cell t ty, .tmp u]) (hv : look L t = some (.pointer (some ad))) (hx : look L u = some x) (ht : aggB P ty = some true) (hz : (P.info? ty).map (·.size) = some cs.length) (hc : ∀ w, M w → ∀ j v, cs[j]? = some v → w.cell? (ad.add j) = some v) (h : ∀ w, M w → R (.returned (.tuple #[.agg cs.toArray, x])) w) : TE (bodyPost P fn R) .ret n L M := fun a w hf hm =>
  ⟨hf.defers, .tuple #[.agg cs.toArray, x], results_cat hr (show a.tmps.getD t undef = _ from hf.ev (o := .tmp t) hv) (show a.tmps.getD u undef = _ from hf.ev (o := .tmp u) hx) ht hz (hc w hm), h w hm⟩
/-- A call of a closure that lies in a slot. -/
theorem Yc.callx {f : FuncId} {fn : Func} {cf : Operand} {as : Array Operand} {ts : Array TypeId} {la lb : Array Value} {vs : List Value} {σ : Type} {v : σ → Value} {M' : σ → World → Prop} (ho : o.op = .call { callee := .value cf, args := as, argTypes := ts }) (hc : evO L cf = some (.func (.func f) la lb)) (hf : P.funcs[f]? = some fn) (hname : (fn.name == "runtime.NumGoroutine") = false) (hb : fn.body.isSome = true)
    (ha : evs L as.toList = some vs) (h : ∀ w, M w → Calls P f (la ++ vs.toArray ++ lb) w fun e w' => ∃ s, e = .returned (v s) ∧ M' s w') : Yc P o n L M v M' := fun a w hfr hm => by
  refine ⟨f, la ++ vs.toArray ++ lb, ?_, h w hm⟩
  have he := enters_ hf hname hb (la ++ vs.toArray ++ lb) w
  have hm : as.map a.eval = vs.toArray := by
    have := hfr.evl ha
    apply Array.toList_inj.1
    simpa using this
  unfold execOp
  simp only [ho, resolve, hfr.ev hc, hm]
  simp only [Deferred.ofValue, Sem.run_bind]
  simp [invoke]
  rw [Array.append_assoc] at he
  exact he
theorem Yl.sliceHM {t e : TypeId} {x y z : Operand} {A : Option Addr} {len cap : Nat} {q q' : IntKind} {h1 h2 : Int} {k : Nat} (ho : o.op = .slice t x none (some y) (some z)) (hx : evO L x = some (.slice A len cap)) (hy : evO L y = some (.int q h1)) (hzz : evO L z = some (.int q' h2)) (ht : P.underlying t = some (.slice e)) (hz : (P.info? e).map (·.size) = some k) (c0 : 0 ≤ h1) (c1 : h1 ≤ h2) (c2 : h2 ≤ cap) : Yl P o n L M (sliced A 0 h1.toNat h2.toNat k) := fun a w hf _ => by
  have he : P.elem t = e := by unfold Program.elem; rw [ht]
  have h := run_slice_hm (P := P) w t A len cap (by rw [he]; exact ht) q q' h1 h2 c0 c1 c2
  rw [he, run_size hz] at h
  rw [Result.andThen_ok] at h
  unfold execOp
  simp [ho, hf.ev hx, hf.ev hy, hf.ev hzz, run_sliceAt_slice (P := P) w t _ _ _ _ (show P.underlying t = some (.slice (P.elem t)) by rw [he]; exact ht), h]
/-- append of something to a slice that is full: a new one. -/
theorem Ym.appendGrow {s x : Operand} {t e : TypeId} {z : Value} {size bytes : Nat} {A : Option Addr} {m : Nat} {ad : Addr} {k c : Nat} {olds news : List Value} (ho : o.op = .call { callee := .builtin .append, args := #[s, x], argTypes := #[t, t] })
    (ht : P.underlying t = some (.slice e)) (hi : (P.info? e).map (fun i => (i.zero, i.size, i.bytes)) = some (some z, size, bytes)) (hz : z.cells.size = size) (hs0 : 0 < size) (hb0 : 0 < bytes) (hs : evO L s = some (.slice A m m)) (hA : A = none → m = 0) (hx : evO L x = some (.slice (some ad) k c)) (hk : 0 < k) (hl : news.length = k * size) (hol : olds.length = m * size)
    (holds : ∀ w, Hp W0 T H w → Sl w A olds) (hnews : ∀ w, Hp W0 T H w → ∀ j u, news[j]? = some u → w.cell? (ad.add j) = some u) (h1 : ∀ u ∈ news, u.oneCell' = true) (hlen : (m + k) * bytes ≤ 140737488355328) :
    Ymx P o n L (Hp W0 T H) (fun v' => v') (fun v' w => Hp W0 T (ownR e size v' (m + k) (olds ++ news) :: H) w) := fun a w hfr hm => by
  obtain ⟨i, hi, hzz⟩ := Option.map_eq_some_iff.1 hi
  simp only [Prod.mk.injEq] at hzz
  obtain ⟨hz0, hz1, hz2⟩ := hzz
  have hlen' : m + k ≤ 140737488355328 := Nat.le_trans (Nat.le_mul_of_pos_right _ hb0) hlen
  have key : ∃ v1 w1, (Builtin.append_ #[t, t] o.type #[.slice A m m, .slice (some ad) k c]).run P w = .ok v1 w1 ∧ w1.ownsRow w.heap.size e size v1 (m + k) (olds ++ news) ∧ w.grownBy w1 none := by
    cases A with
    | some b =>
      exact run_append_arg_grows (P := P) w t o.type e i z size bytes ht hi hz0 hz1 hz2 hz hs0 b m m olds hol (fun j u hj => by obtain ⟨ad', e, hc⟩ := holds w hm j u hj; cases e; exact hc) ad k c news hl (hnews w hm) (by omega) (by simp only [maxLen]; omega) hlen
    | none =>
      obtain rfl := hA rfl
      obtain rfl : olds = [] := List.eq_nil_of_length_eq_zero (by simpa using hol)
      obtain ⟨v', w', hrun, r1, r2, _⟩ := run_append_own (P := P) w w.heap.size t o.type e i z size bytes ht hi hz0 hz1 hz2 hz hs0 (.slice none 0 0) 0 [] (World.ownsRow_nil w _ e size) ad k c news hl (hnews w hm) h1 (by simp only [maxLen]; omega) hlen (Nat.le_refl _)
      exact ⟨v', w', hrun, r1, r2⟩
  obtain ⟨v1, w1, hr, h2, h3⟩ := key
  refine ⟨v1, w1, ?_, hm.new ⟨h3.os, h3.tape, h3.output, h3.size, fun j hj => h3.block j hj (fun he => by cases he)⟩ ⟨h2.1, h2.2.imp id (fun ⟨g, cap, cur, a1, a2, a3⟩ => ⟨g, cap, cur, a1, Nat.zero_le _, a3⟩)⟩ (fun j hj => ?_)⟩
  · unfold execOp
    simp [ho, resolve, invoke, builtin, hfr.ev hs, hfr.ev hx, hr]
  · rcases h2.2 with ⟨rfl, hmk⟩ | ⟨g, cap, cur, rfl, a2, _⟩
    · omega
    · have : some g = some j := hj
      injection this with this
      omega
end
end Go.Proofs.Ytabjdjkkpbkpfaa.HL
