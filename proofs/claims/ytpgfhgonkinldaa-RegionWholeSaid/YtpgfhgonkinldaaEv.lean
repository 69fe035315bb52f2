/- A store into a block, as one step that names the world behind it by what it holds. -/
import Derived.Test.YtpgfhgonkinldaaWWords
import Derived.Test.YtpgfhgonkinldaaWLast
import Derived.Test.YtpgfhgonkinldaaWMore
import Derived.RowKit3
namespace Go.Proofs.Ytpgfhgonkinldaa.Ev
open Go.RowKit Go.Proofs.YtpgfhgonkinldaaW.PrintWords Go.Proofs.YtpgfhgonkinldaaW.PrintLast Go.Proofs.YtpgfhgonkinldaaW.PrintMore
set_option linter.unusedVariables false
/-- A row with some cells put at a place. -/
def putAt (cur : Array Value) : Nat → List Value → Array Value
  | _, [] => cur
  | o, v :: vs => putAt (cur.setIfInBounds o v) (o + 1) vs
/-- What a world is behind a store: one block holds another thing, all else is as it was. -/
structure Upd (W w1 : World) (g : Nat) (ob : Obj) : Prop where
  new : w1.heap[g]? = some ob
  old : ∀ k, k ≠ g → w1.heap[k]? = W.heap[k]?
  size : w1.heap.size = W.heap.size
  below : ∀ {n : Nat} {w0 : World}, n ≤ g → Below n w0 W → Below n w0 w1
theorem upd_cells (g : Nat) (e : TypeId) : ∀ (seg : List Value) (off : Nat) (cur : Array Value) (W : World), W.heap[g]? = some (.cells cur e (0, 0)) → Upd W (W.setCells g off seg) g (.cells (putAt cur off seg) e (0, 0))
  | [], _, _, _, h => ⟨h, fun _ _ => rfl, rfl, fun _ h => h⟩
  | v :: vs, off, cur, W, h => by
    have ih := upd_cells g e vs (off + 1) _ _ (blk_set h off v)
    have hs : (W.setCell ⟨g, off, none⟩ v).heap.size = W.heap.size := by simp [World.setCell]
    exact ⟨ih.new, fun k hk => (ih.old k hk).trans (Below.heap_setCell W ⟨g, off, none⟩ v k hk), ih.size.trans hs, fun hn hb => ih.below hn (hb.setCell hn _)⟩
section
variable {P : Program} {ops : Array Oper} {rest : List Oper} {o : Oper} {a : Act} {Q : Exit → Act → World → Prop}
theorem ev_store {W : World} (hN : o.dst = none) (hgd : o.guard = none) (t : TypeId) (p x : Operand) (ho : o.op = .store t p x) {g off : Nat} {e : TypeId} {cur cur' : Array Value} {u : Value} {seg : List Value}
    (haddr : a.eval p = .pointer (some ⟨g, off, none⟩)) (hx : a.eval x = u) (hu : u.cells.toList = seg) (ht : (P.info? t).map (·.size) = some seg.length) (h1 : ∀ q ∈ seg, q.oneCell' = true)
    (hb : W.heap[g]? = some (.cells cur e (0, 0))) (hfit : off + seg.length ≤ cur.size) (hcur : putAt cur off seg = cur') (h : ∀ w1, Upd W w1 g (.cells cur' e (0, 0)) → wpList P ops Q rest a w1) : wpList P ops Q (o :: rest) a W := by
  subst hcur
  have hr := run_store_run (P := P) t u seg hb hu ht hfit h1
  refine wpList_plain hgd fun K hK => ?_
  unfold Oper.wp execOp
  simp only [ho, haddr, hx, Sem.run_bind, Sem.run_pure, Result.andThen_ok, hr]
  show K (a.put o.dst undef) _
  rw [hN]
  exact hK _ _ (h _ (upd_cells g e seg off cur W hb))
end
end Go.Proofs.Ytpgfhgonkinldaa.Ev
