/- A store into a block, as one step that names the world behind it by what it holds. -/
import Derived.Test.YtabjdjkkpbkpfaaWWords
import Derived.Test.YtabjdjkkpbkpfaaWLast
import Derived.Test.YtabjdjkkpbkpfaaWMore
import Derived.RowKit3
namespace Go.Proofs.Ytabjdjkkpbkpfaa.Ev
open Go.RowKit Go.Proofs.YtabjdjkkpbkpfaaW.PrintWords Go.Proofs.YtabjdjkkpbkpfaaW.PrintLast Go.Proofs.YtabjdjkkpbkpfaaW.PrintMore
set_option linter.unusedVariables false
/-- A row with some cells put at a place. -/
def putAt (cur : Array Value) : Nat → List Value → Array Value
  | _, [] => cur
  | o, v :: vs => putAt (cur.setIfInBounds o v) (o + 1) vs
/-- What a world is behind a store: one block holds another thing, all else is as it was. -/
structure Upd (W w1 : World) (g : Nat) (ob : Obj) : Prop where
  new : w1.heap[g]? = some ob
  old : ∀ k, k ≠ g → w1.heap[k]? = W.heap[k]?
  size : w1.heap.size = W.heap.size
  below : ∀ {n : Nat} {w0 : World}, n ≤ g → Below n w0 W → Below n w0 w1
theorem upd_cells (g : Nat) (e : TypeId) : ∀ (seg : List Value) (off : Nat) (cur : Array Value) (W : World), W.heap[g]? = some (.cells cur e (0, 0)) → Upd W (W.setCells g off seg) g (.cells (putAt cur off seg) e (0, 0))
  | [], _, _, _, h => ⟨h, fun _ _ => rfl, rfl, fun _ h => h⟩
  | v :: vs, off, cur, W, h => by
    have ih := upd_cells g e vs (off + 1) _ _ (blk_set h off v)
    have hs : (W.setCell ⟨g, off, none⟩ v).heap.size = W.heap.size := by simp [World.setCell]
    exact ⟨ih.new, fun k hk => (ih.old k hk).trans (Below.heap_setCell W ⟨g, off, none⟩ v k hk), ih.size.trans hs, fun hn hb => ih.below hn (hb.setCell hn _)⟩
/-- What a world is behind a call: of the blocks that were, just those of S hold another thing. -/
structure Chg (W w1 : World) (S : Nat → Prop) : Prop where
  os : w1.os = W.os
  tape : w1.tape = W.tape
  output : w1.output = W.output
  size : W.heap.size ≤ w1.heap.size
  block : ∀ k, k < W.heap.size → ¬ S k → w1.heap[k]? = W.heap[k]?
theorem Chg.of_upd {W w1 : World} {g : Nat} {ob : Obj} (h : Upd W w1 g ob) : Chg W w1 (· = g) := by
  have hb := h.below (Nat.zero_le g) (Below.refl 0 W)
  exact ⟨hb.os, hb.tape, hb.output, hb.size, fun k _ hk => h.old k hk⟩
theorem Chg.of_below {W w1 : World} {S : Nat → Prop} (h : Below W.heap.size W w1) : Chg W w1 S := ⟨h.os, h.tape, h.output, h.size, fun k hk _ => h.block k hk⟩
theorem Chg.trans {W w1 w2 : World} {S : Nat → Prop} (h : Chg W w1 S) (h2 : Chg w1 w2 S) : Chg W w2 S :=
  ⟨h2.os.trans h.os, h2.tape.trans h.tape, h2.output.trans h.output, Nat.le_trans h.size h2.size, fun k hk hs => (h2.block k (Nat.lt_of_lt_of_le hk h.size) hs).trans (h.block k hk hs)⟩
theorem Chg.refl (W : World) (S : Nat → Prop) : Chg W W S := ⟨rfl, rfl, rfl, Nat.le_refl _, fun _ _ _ => rfl⟩
end Go.Proofs.Ytabjdjkkpbkpfaa.Ev
