/- A store into a block, as one step that names the world behind it by what it holds. -/
import Derived.Test.YtabjdjkkpbkpfaaWWords
import Derived.Test.YtabjdjkkpbkpfaaWLast
import Derived.Test.YtabjdjkkpbkpfaaWMore
import Derived.RowKit3
namespace Go.Proofs.Ytabjdjkkpbkpfaa.Ev
open Go.RowKit Go.Proofs.YtabjdjkkpbkpfaaW.PrintWords Go.Proofs.YtabjdjkkpbkpfaaW.PrintLast Go.Proofs.YtabjdjkkpbkpfaaW.PrintMore
set_option linter.unusedVariables false
/-- A row with some cells put at a place. -/
def putAt (cur : Array Value) : Nat → List Value → Array Value
  | _, [] => cur
  | o, v :: vs => putAt (cur.setIfInBounds o v) (o + 1) vs
/-- What a world is behind a store: one block holds another thing, all else is as it was. -/
structure Upd (W w1 : World) (g : Nat) (ob : Obj) : Prop where
  new : w1.heap[g]? = some ob
  old : ∀ k, k ≠ g → w1.heap[k]? = W.heap[k]?
  size : w1.heap.size = W.heap.size
  below : ∀ {n : Nat} {w0 : World}, n ≤ g → Below n w0 W → Below n w0 w1
theorem upd_cells (g : Nat) (e : TypeId) : ∀ (seg : List Value) (off : Nat) (cur : Array Value) (W : World), W.heap[g]? = some (.cells cur e (0, 0)) → Upd W (W.setCells g off seg) g (.cells (putAt cur off seg) e (0, 0))
  | [], _, _, _, h => ⟨h, fun _ _ => rfl, rfl, fun _ h => h⟩
  | v :: vs, off, cur, W, h => by
    have ih := upd_cells g e vs (off + 1) _ _ (blk_set h off v)
    have hs : (W.setCell ⟨g, off, none⟩ v).heap.size = W.heap.size := by simp [World.setCell]
    exact ⟨ih.new, fun k hk => (ih.old k hk).trans (Below.heap_setCell W ⟨g, off, none⟩ v k hk), ih.size.trans hs, fun hn hb => ih.below hn (hb.setCell hn _)⟩
section
variable {P : Program} {ops : Array Oper} {rest : List Oper} {o : Oper} {a : Act} {Q : Exit → Act → World → Prop}
theorem ev_store {W : World} (hN : o.dst = none) (hgd : o.guard = none) (t : TypeId) (p x : Operand) (ho : o.op = .store t p x) {g off : Nat} {e : TypeId} {cur cur' : Array Value} {u : Value} {seg : List Value}
    (haddr : a.eval p = .pointer (some ⟨g, off, none⟩)) (hx : a.eval x = u) (hu : u.cells.toList = seg) (ht : (P.info? t).map (·.size) = some seg.length) (h1 : ∀ q ∈ seg, q.oneCell' = true)
    (hb : W.heap[g]? = some (.cells cur e (0, 0))) (hfit : off + seg.length ≤ cur.size) (hcur : putAt cur off seg = cur') (h : ∀ w1, Upd W w1 g (.cells cur' e (0, 0)) → wpList P ops Q rest a w1) : wpList P ops Q (o :: rest) a W := by
  subst hcur
  have hr := run_store_run (P := P) t u seg hb hu ht hfit h1
  refine wpList_plain hgd fun K hK => ?_
  unfold Oper.wp execOp
  simp only [ho, haddr, hx, Sem.run_bind, Sem.run_pure, Result.andThen_ok, hr]
  show K (a.put o.dst undef) _
  rw [hN]
  exact hK _ _ (h _ (upd_cells g e seg off cur W hb))
end
/-- What a world is behind a call: of the blocks that were, just those of S hold another thing. -/
structure Chg (W w1 : World) (S : Nat → Prop) : Prop where
  os : w1.os = W.os
  tape : w1.tape = W.tape
  output : w1.output = W.output
  size : W.heap.size ≤ w1.heap.size
  block : ∀ k, k < W.heap.size → ¬ S k → w1.heap[k]? = W.heap[k]?
theorem Chg.of_upd {W w1 : World} {g : Nat} {ob : Obj} (h : Upd W w1 g ob) : Chg W w1 (· = g) := by
  have hb := h.below (Nat.zero_le g) (Below.refl 0 W)
  exact ⟨hb.os, hb.tape, hb.output, hb.size, fun k _ hk => h.old k hk⟩
theorem Chg.of_below {W w1 : World} {S : Nat → Prop} (h : Below W.heap.size W w1) : Chg W w1 S := ⟨h.os, h.tape, h.output, h.size, fun k hk _ => h.block k hk⟩
theorem Chg.trans {W w1 w2 : World} {S : Nat → Prop} (h : Chg W w1 S) (h2 : Chg w1 w2 S) : Chg W w2 S :=
  ⟨h2.os.trans h.os, h2.tape.trans h.tape, h2.output.trans h.output, Nat.le_trans h.size h2.size, fun k hk hs => (h2.block k (Nat.lt_of_lt_of_le hk h.size) hs).trans (h.block k hk hs)⟩
theorem Chg.mono {W w1 : World} {S T : Nat → Prop} (h : Chg W w1 S) (hst : ∀ k, S k → T k) : Chg W w1 T := ⟨h.os, h.tape, h.output, h.size, fun k hk hs => h.block k hk (fun hh => hs (hst k hh))⟩
theorem Chg.refl (W : World) (S : Nat → Prop) : Chg W W S := ⟨rfl, rfl, rfl, Nat.le_refl _, fun _ _ _ => rfl⟩
theorem Chg.drewN {W w1 : World} {S : Nat → Prop} (h : Chg W w1 S) (m : Nat) : Chg W (w1.drewN m) S := ⟨h.os, h.tape, h.output, h.size, h.block⟩
theorem Chg.undrewN {W w1 : World} {S : Nat → Prop} {m : Nat} (h : Chg (W.drewN m) w1 S) : Chg W w1 S := ⟨h.os, h.tape, h.output, h.size, h.block⟩
/-- What is fresh to a caller may change: he sees nothing of it. -/
theorem Chg.below {W w1 w0 : World} {S : Nat → Prop} (h : Chg W w1 S) (hb : Below w0.heap.size w0 W) (hs : ∀ k, S k → w0.heap.size ≤ k) : Below w0.heap.size w0 w1 :=
  ⟨h.os.trans hb.os, h.tape.trans hb.tape, h.output.trans hb.output, Nat.le_trans hb.size h.size, fun k hk => (h.block k (Nat.lt_of_lt_of_le hk hb.size) (fun hh => by have := hs k hh; omega)).trans (hb.block k hk)⟩
theorem Chg.set (W : World) (b o : Nat) (v : Value) : Chg W (W.setCell ⟨b, o, none⟩ v) (· = b) := by
  have hs : (W.setCell ⟨b, o, none⟩ v).heap.size = W.heap.size := by simp [World.setCell]
  exact ⟨rfl, rfl, rfl, by rw [hs]; exact Nat.le_refl _, fun k _ hk => Below.heap_setCell W ⟨b, o, none⟩ v k hk⟩
theorem Chg.drew {W w1 : World} {S : Nat → Prop} (h : Chg W w1 S) : Chg W w1.drew S := ⟨h.os, h.tape, h.output, h.size, h.block⟩
end Go.Proofs.Ytabjdjkkpbkpfaa.Ev
