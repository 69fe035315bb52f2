/- Slices, rows of numbers and of pairs, calls of what lies in a slot. -/
import Derived.Test.YtabjdjkkpbkpfaaHL
import Derived.Lib.SliceRun
namespace Go.Proofs.Ytabjdjkkpbkpfaa.HL
open Go Go.RowKit Go.Proofs.Ytabjdjkkpbkpfaa.Ev Go.Proofs.YtabjdjkkpbkpfaaW.PrintWords Go.Proofs.YtabjdjkkpbkpfaaW.PrintLast
set_option linter.unusedVariables false
set_option linter.unusedSimpArgs false
section
variable {P : Program} {n : Nat} {L : FL} {M : World → Prop} {o : Oper} {W0 : World} {T : Nat → Prop} {H H' : List Res}
theorem Bin.eqlS (t e : TypeId) (a : Option Addr) (k c : Nat) (h : P.underlying t = some (.slice e)) : Bin P .eql t (.slice a k c) (.slice none 0 0) (.bool a.isNone) := fun x y w => ⟨by rw [eqGuard_at_slice]; rfl, Go.Lib.run_eql_slice_nil w t e a k c 0 0 h⟩
theorem Ym.buildNone {t e : TypeId} {z : Value} {size : Nat} (ho : o.op = .buildSlice t 0 #[]) (hu : P.underlying t = some (.slice e)) (hz : (P.info? e).map (fun i => (i.zero, i.size)) = some (some z, size)) :
    Ymx P o n L (Hp W0 T H) (fun b => .slice (some ⟨b, 0, none⟩) 0 0) (fun b => Hp W0 T (ownR e size (.slice (some ⟨b, 0, none⟩) 0 0) 0 [] :: H)) := fun a w hfr hm => by
  obtain ⟨i, hi, hzz⟩ := Option.map_eq_some_iff.1 hz
  simp only [Prod.mk.injEq] at hzz
  obtain ⟨hz0, hz1⟩ := hzz
  refine ⟨w.heap.size, w.alloc (.cells #[] e (0, 0)), ?_, ?_⟩
  · have h : (Instr.buildSlice t 0 (#[] : Array (Nat × Value))).run P w = .ok (.slice (some ⟨w.heap.size, 0, none⟩) 0 0) (w.alloc (.cells #[] e (0, 0))) := by
      simp [Instr.buildSlice, run_underlying hu, Go.sizeOf, typeInfo, hi, newRow, Instr.fill]
      rw [show Array.range 0 = #[] from rfl, Array.map_empty]
    unfold execOp
    simp [ho, h]
  · exact hm.new (below_alloc (Below.refl _ _) _) ⟨by simp, .inr ⟨w.heap.size, 0, #[], rfl, Nat.zero_le _, heap_alloc_new w _, Nat.le_refl _, Nat.zero_le _, by simp, by simp⟩⟩ (fun k hk => by
      have : some w.heap.size = some k := hk
      exact Nat.le_of_eq (Option.some.inj this))
theorem Yl.sliceL {t e : TypeId} {x y : Operand} {A : Option Addr} {len cap : Nat} {q : IntKind} {z : Int} {k : Nat} (ho : o.op = .slice t x (some y) none none) (hx : evO L x = some (.slice A len cap)) (hy : evO L y = some (.int q z)) (ht : P.underlying t = some (.slice e)) (hz : (P.info? e).map (·.size) = some k) (h0 : 0 ≤ z) (h1 : z ≤ len) : Yl P o n L M (sliced A z.toNat len cap k) := fun a w hf _ => by
  have he : P.elem t = e := by unfold Program.elem; rw [ht]
  have h := run_slice_l (P := P) w t A len cap (by rw [he]; exact ht) q z h0 h1
  rw [he, run_size hz] at h
  rw [Result.andThen_ok] at h
  unfold execOp
  simp [ho, hf.ev hx, hf.ev hy, run_sliceAt_slice (P := P) w t _ _ _ _ (show P.underlying t = some (.slice (P.elem t)) by rw [he]; exact ht), h]
end
/-! ## A row of numbers, as a function of the place -/
def Vw (m : Nat) (f : Nat → Int) : List Value := (List.range m).map fun j => .int .i64 (f j)
theorem Vw_length (m : Nat) (f : Nat → Int) : (Vw m f).length = m := by simp [Vw]
theorem Vw_get {m j : Nat} {f : Nat → Int} (h : j < m) : (Vw m f)[j]? = some (.int .i64 (f j)) := by simp [Vw, h]
theorem Vw_of (l : List Int) : l.map (Value.int .i64) = Vw l.length (fun j => l.getD j 0) := by
  apply List.ext_getElem
  · simp [Vw]
  · intro i h1 h2
    simp at h1
    simp [Vw, List.getD_eq_getElem?_getD, List.getElem?_eq_getElem h1]
section
variable {P : Program} {n : Nat} {L : FL} {o : Oper} {W0 : World} {T : Nat → Prop} {H H' : List Res}
theorem Sl.vw {b c j q m : Nat} {f : Nat → Int} (hs : Sl W0 (.some ⟨b, c, none⟩) (Vw m f)) (hq : c + j = q) (hj : j < m) (hT : ∀ k, ¬ T k) : ∀ w, Hp W0 T H w → w.cell? ⟨b, q, none⟩ = .some (.int .i64 (f j)) := Sl.cellAt hs (Vw_get hj) hT hq
theorem Hp.ownSome' {e : TypeId} {size : Nat} {A : Option Addr} {m c : Nat} {xs : List Value} (hr : ownR e size (.slice A m c) m xs ∈ H) (hm : 0 < m) : ∀ w, Hp W0 T H w → ∃ g, A = some ⟨g, 0, none⟩ := fun w h => by
  obtain ⟨g, cap, e⟩ := h.ownSome hr hm
  injection e with e
  exact ⟨g, e⟩
end
theorem Yl.makeFunc {P : Program} {n : Nat} {L : FL} {M : World → Prop} {o : Oper} {fn : Fn} {fs cs : Array Operand} {as bs : List Value} (ho : o.op = .makeFunc fn fs cs) (ha : evs L fs.toList = some as) (hb : evs L cs.toList = some bs) : Yl P o n L M (.func fn as.toArray bs.toArray) := fun a w hf _ => by
  have h1 : fs.map a.eval = as.toArray := by
    apply Array.toList_inj.1
    simpa using hf.evl ha
  have h2 : cs.map a.eval = bs.toArray := by
    apply Array.toList_inj.1
    simpa using hf.evl hb
  unfold execOp
  simp [ho, Instr.makeFunc, h1, h2]
end Go.Proofs.Ytabjdjkkpbkpfaa.HL
