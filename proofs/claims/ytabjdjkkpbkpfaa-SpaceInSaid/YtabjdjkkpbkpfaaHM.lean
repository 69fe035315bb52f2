/- Slices, rows of numbers and of pairs, calls of what lies in a slot. -/
import Derived.Test.YtabjdjkkpbkpfaaHL
import Derived.Lib.SliceRun
namespace Go.Proofs.Ytabjdjkkpbkpfaa.HL
open Go Go.RowKit Go.Proofs.Ytabjdjkkpbkpfaa.Ev Go.Proofs.YtabjdjkkpbkpfaaW.PrintWords Go.Proofs.YtabjdjkkpbkpfaaW.PrintLast
set_option linter.unusedVariables false
set_option linter.unusedSimpArgs false
section
variable {P : Program} {n : Nat} {L : FL} {M : World → Prop} {o : Oper} {W0 : World} {T : Nat → Prop} {H H' : List Res}
theorem Bin.eqlS (t e : TypeId) (a : Option Addr) (k c : Nat) (h : P.underlying t = some (.slice e)) : Bin P .eql t (.slice a k c) (.slice none 0 0) (.bool a.isNone) := fun x y w => ⟨by rw [eqGuard_at_slice]; rfl, Go.Lib.run_eql_slice_nil w t e a k c 0 0 h⟩
/-- A call of a function that lies in a slot. -/
theorem Yc.callv {f : FuncId} {fn : Func} {cf : Operand} {as : Array Operand} {ts : Array TypeId} {vs : List Value} {σ : Type} {v : σ → Value} {M' : σ → World → Prop} (ho : o.op = .call { callee := .value cf, args := as, argTypes := ts }) (hc : evO L cf = some (.func (.func f) #[] #[])) (hf : P.funcs[f]? = some fn) (hname : (fn.name == "runtime.NumGoroutine") = false) (hb : fn.body.isSome = true)
    (ha : evs L as.toList = some vs) (h : ∀ w, M w → Calls P f vs.toArray w fun e w' => ∃ s, e = .returned (v s) ∧ M' s w') : Yc P o n L M v M' := fun a w hfr hm => by
  refine ⟨f, vs.toArray, ?_, h w hm⟩
  have he := enters_ hf hname hb vs.toArray w
  have hm : as.map a.eval = vs.toArray := by
    have := hfr.evl ha
    apply Array.toList_inj.1
    simpa using this
  unfold execOp
  simp [ho, resolve, Deferred.ofValue, invoke, hfr.ev hc, hm, he]
theorem Ym.buildNone {t e : TypeId} {z : Value} {size : Nat} (ho : o.op = .buildSlice t 0 #[]) (hu : P.underlying t = some (.slice e)) (hz : (P.info? e).map (fun i => (i.zero, i.size)) = some (some z, size)) :
    Ymx P o n L (Hp W0 T H) (fun b => .slice (some ⟨b, 0, none⟩) 0 0) (fun b => Hp W0 T (ownR e size (.slice (some ⟨b, 0, none⟩) 0 0) 0 [] :: H)) := fun a w hfr hm => by
  obtain ⟨i, hi, hzz⟩ := Option.map_eq_some_iff.1 hz
  simp only [Prod.mk.injEq] at hzz
  obtain ⟨hz0, hz1⟩ := hzz
  refine ⟨w.heap.size, w.alloc (.cells #[] e (0, 0)), ?_, ?_⟩
  · have h : (Instr.buildSlice t 0 (#[] : Array (Nat × Value))).run P w = .ok (.slice (some ⟨w.heap.size, 0, none⟩) 0 0) (w.alloc (.cells #[] e (0, 0))) := by
      simp [Instr.buildSlice, run_underlying hu, Go.sizeOf, typeInfo, hi, newRow, Instr.fill]
      rw [show Array.range 0 = #[] from rfl, Array.map_empty]
    unfold execOp
    simp [ho, h]
  · exact hm.new (below_alloc (Below.refl _ _) _) ⟨by simp, .inr ⟨w.heap.size, 0, #[], rfl, Nat.zero_le _, heap_alloc_new w _, Nat.le_refl _, Nat.zero_le _, by simp, by simp⟩⟩ (fun k hk => by
      have : some w.heap.size = some k := hk
      exact Nat.le_of_eq (Option.some.inj this))
/-- The head of a slice, and its tail. -/
theorem Yl.sliceH {t e : TypeId} {x y : Operand} {A : Option Addr} {len cap : Nat} {q : IntKind} {z : Int} {k : Nat} (ho : o.op = .slice t x none (some y) none) (hx : evO L x = some (.slice A len cap)) (hy : evO L y = some (.int q z)) (ht : P.underlying t = some (.slice e)) (hz : (P.info? e).map (·.size) = some k) (h0 : 0 ≤ z) (h1 : z ≤ cap) (hA : ∀ ad, A = some ad → ∃ b c, ad = ⟨b, c, none⟩) : Yl P o n L M (.slice A z.toNat cap) := fun a w hf _ => by
  have he : P.elem t = e := by unfold Program.elem; rw [ht]
  have h := run_slice_h (P := P) w t A len cap (by rw [he]; exact ht) q z h0 h1
  rw [he, run_size hz] at h
  have h2 : sliced A 0 z.toNat cap k = .slice A z.toNat cap := by
    unfold sliced
    rw [Nat.zero_mul]
    cases A with
    | none => simp
    | some ad =>
      obtain ⟨b, c, rfl⟩ := hA ad rfl
      simp [Addr.at_]
  rw [Result.andThen_ok, h2] at h
  unfold execOp
  simp [ho, hf.ev hx, hf.ev hy, run_sliceAt_slice (P := P) w t _ _ _ _ (show P.underlying t = some (.slice (P.elem t)) by rw [he]; exact ht), h]
theorem Yl.sliceL {t e : TypeId} {x y : Operand} {A : Option Addr} {len cap : Nat} {q : IntKind} {z : Int} {k : Nat} (ho : o.op = .slice t x (some y) none none) (hx : evO L x = some (.slice A len cap)) (hy : evO L y = some (.int q z)) (ht : P.underlying t = some (.slice e)) (hz : (P.info? e).map (·.size) = some k) (h0 : 0 ≤ z) (h1 : z ≤ len) : Yl P o n L M (sliced A z.toNat len cap k) := fun a w hf _ => by
  have he : P.elem t = e := by unfold Program.elem; rw [ht]
  have h := run_slice_l (P := P) w t A len cap (by rw [he]; exact ht) q z h0 h1
  rw [he, run_size hz] at h
  rw [Result.andThen_ok] at h
  unfold execOp
  simp [ho, hf.ev hx, hf.ev hy, run_sliceAt_slice (P := P) w t _ _ _ _ (show P.underlying t = some (.slice (P.elem t)) by rw [he]; exact ht), h]
end
/-! ## A row of numbers, as a function of the place -/
def Vw (m : Nat) (f : Nat → Int) : List Value := (List.range m).map fun j => .int .i64 (f j)
theorem Vw_length (m : Nat) (f : Nat → Int) : (Vw m f).length = m := by simp [Vw]
theorem Vw_get {m j : Nat} {f : Nat → Int} (h : j < m) : (Vw m f)[j]? = some (.int .i64 (f j)) := by simp [Vw, h]
theorem Vw_of (l : List Int) : l.map (Value.int .i64) = Vw l.length (fun j => l.getD j 0) := by
  apply List.ext_getElem
  · simp [Vw]
  · intro i h1 h2
    simp at h1
    simp [Vw, List.getD_eq_getElem?_getD, List.getElem?_eq_getElem h1]
theorem Vw_congr {m : Nat} {f g : Nat → Int} (h : ∀ j, j < m → f j = g j) : Vw m f = Vw m g := by
  apply List.map_congr_left
  intro j hj
  rw [h j (List.mem_range.1 hj)]
theorem Vw_succ (m : Nat) (f : Nat → Int) : Vw (m + 1) f = Vw m f ++ [.int .i64 (f m)] := by simp [Vw, List.range_succ]
def upI (f : Nat → Int) (i : Nat) (x : Int) : Nat → Int := fun q => if q = i then x else f q
theorem Vw_set (m : Nat) (f : Nat → Int) (i : Nat) (x : Int) : (Vw m f).set i (.int .i64 x) = Vw m (upI f i x) := by
  apply List.ext_getElem?
  intro j
  rw [List.getElem?_set]
  by_cases e : i = j
  · subst e
    by_cases h : i < m
    · simp [Vw, upI, h]
    · simp [Vw, h]
  · rw [if_neg e]
    by_cases h : j < m
    · rw [Vw_get h, Vw_get h]; unfold upI; rw [if_neg (Ne.symm e)]
    · rw [List.getElem?_eq_none (by rw [Vw_length]; omega), List.getElem?_eq_none (by rw [Vw_length]; omega)]
theorem Vw_put (m : Nat) (f : Nat → Int) (i : Nat) (x : Int) : putL (Vw m f) i [.int .i64 x] = Vw m (upI f i x) := Vw_set m f i x
section
variable {P : Program} {n : Nat} {L : FL} {o : Oper} {W0 : World} {T : Nat → Prop} {H H' : List Res}
theorem Sl.vw {b c j q m : Nat} {f : Nat → Int} (hs : Sl W0 (.some ⟨b, c, none⟩) (Vw m f)) (hq : c + j = q) (hj : j < m) (hT : ∀ k, ¬ T k) : ∀ w, Hp W0 T H w → w.cell? ⟨b, q, none⟩ = .some (.int .i64 (f j)) := Sl.cellAt hs (Vw_get hj) hT hq
theorem Hp.vw {e : TypeId} {g cap m j : Nat} {f : Nat → Int} (hr : ownR e 1 (.slice (some ⟨g, 0, none⟩) m cap) m (Vw m f) ∈ H) (hj : j < m) : ∀ w, Hp W0 T H w → w.cell? ⟨g, j, none⟩ = some (.int .i64 (f j)) := Hp.ownCell hr (Vw_get hj)
/-- A store into a row of one's own. -/
theorem Ys.vw {t : TypeId} {p x : Operand} {g j cap m : Nat} {z : Int} {f : Nat → Int} {e : TypeId} (ho : o.op = .store t p x) (hp : evO L p = some (.pointer (some ⟨g, j, none⟩))) (hx : evO L x = some (.int .i64 z)) (ht : (P.info? t).map (·.size) = some 1)
    (hf : Foc H (ownR e 1 (.slice (some ⟨g, 0, none⟩) m cap) m (Vw m f)) H' (ownR e 1 (.slice (some ⟨g, 0, none⟩) m cap) m (Vw m (upI f j z)))) (hj : j < m) : Ys P o n L (Hp W0 T H) (Hp W0 T H') :=
  Ys.own (seg := [.int .i64 z]) ho hp hx (by simp [Value.cells]) ht (by simp [Value.oneCell']) hf (by rw [Vw_length]; simp; omega) (Vw_put m f j z)
theorem Hp.ownVw {e : TypeId} {A : Option Addr} {m c : Nat} {f : Nat → Int} (hr : ownR e 1 (.slice A m c) m (Vw m f) ∈ H) : ∀ w, Hp W0 T H w → Sl w A (Vw m f) := fun w h => Sl.ofOwn (h.all _ hr)
theorem Hp.ownCap {e : TypeId} {size : Nat} {A : Option Addr} {m c : Nat} {xs : List Value} (hr : ownR e size (.slice A m c) m xs ∈ H) : ∀ w, Hp W0 T H w → m ≤ c := fun w h => by
  rcases (h.all _ hr).2 with ⟨h1, h2⟩ | ⟨g', cap', cur, h1, _, _, h2, _⟩
  · omega
  · injection h1 with h1 _ h3
    omega
theorem Hp.ownSome' {e : TypeId} {size : Nat} {A : Option Addr} {m c : Nat} {xs : List Value} (hr : ownR e size (.slice A m c) m xs ∈ H) (hm : 0 < m) : ∀ w, Hp W0 T H w → ∃ g, A = some ⟨g, 0, none⟩ := fun w h => by
  obtain ⟨g, cap, e⟩ := h.ownSome hr hm
  injection e with e
  exact ⟨g, e⟩
end
/-! ## A row of pairs -/
def Fw (m : Nat) (f : Nat → Int × Int) : List Value := (List.range m).flatMap fun j => [.int .i64 (f j).1, .int .u64 (f j).2]
theorem Fw_succ (m : Nat) (f : Nat → Int × Int) : Fw (m + 1) f = Fw m f ++ [.int .i64 (f m).1, .int .u64 (f m).2] := by simp [Fw, List.range_succ]
theorem Fw_length (f : Nat → Int × Int) : ∀ m, (Fw m f).length = m * 2
  | 0 => rfl
  | m + 1 => by rw [Fw_succ, List.length_append, Fw_length f m]; simp; omega
theorem Fw_get (f : Nat → Int × Int) : ∀ (m k : Nat), k < m * 2 → (Fw m f)[k]? = some (if k % 2 = 0 then .int .i64 (f (k / 2)).1 else .int .u64 (f (k / 2)).2)
  | 0, k, h => by omega
  | m + 1, k, h => by
    rw [Fw_succ]
    by_cases h1 : k < m * 2
    · rw [List.getElem?_append_left (by rw [Fw_length]; exact h1)]; exact Fw_get f m k h1
    · rw [List.getElem?_append_right (by rw [Fw_length]; omega), Fw_length]
      by_cases h2 : k = m * 2
      · subst h2; rw [show m * 2 - m * 2 = 0 by omega, if_pos (by omega), show m * 2 / 2 = m by omega]; rfl
      · obtain rfl : k = m * 2 + 1 := by omega
        rw [show m * 2 + 1 - m * 2 = 1 by omega, if_neg (by omega), show (m * 2 + 1) / 2 = m by omega]; rfl
def upF (f : Nat → Int × Int) (i : Nat) (x : Int × Int) : Nat → Int × Int := fun q => if q = i then x else f q
theorem Fw_put (m : Nat) (f : Nat → Int × Int) (i : Nat) (x : Int × Int) (h : i < m) : putL (Fw m f) (i * 2) [.int .i64 x.1, .int .u64 x.2] = Fw m (upF f i x) := by
  apply List.ext_getElem?
  intro k
  show (((Fw m f).set (i * 2) _).set (i * 2 + 1) _)[k]? = _
  rw [List.getElem?_set, List.getElem?_set]
  by_cases hk : k < m * 2
  · rw [Fw_get _ _ _ hk, Fw_get _ _ _ hk]
    unfold upF
    by_cases e1 : i * 2 + 1 = k
    · subst e1
      rw [if_pos rfl, if_pos (by rw [List.length_set, Fw_length]; omega), if_neg (by omega), if_pos (by omega)]
    · rw [if_neg e1]
      by_cases e2 : i * 2 = k
      · subst e2
        rw [if_pos rfl, if_pos (by rw [Fw_length]; omega), if_pos (by omega), if_pos (by omega)]
      · rw [if_neg e2, if_neg (show ¬ k / 2 = i by omega)]
  · rw [if_neg (by omega), if_neg (by omega), List.getElem?_eq_none (by rw [Fw_length]; omega), List.getElem?_eq_none (by rw [Fw_length]; omega)]
theorem Fw_congr {m : Nat} {f g : Nat → Int × Int} (h : ∀ j, j < m → f j = g j) : Fw m f = Fw m g := by
  apply List.ext_getElem?
  intro k
  by_cases hk : k < m * 2
  · rw [Fw_get _ _ _ hk, Fw_get _ _ _ hk, h _ (by omega)]
  · rw [List.getElem?_eq_none (by rw [Fw_length]; omega), List.getElem?_eq_none (by rw [Fw_length]; omega)]
section
variable {P : Program} {n : Nat} {L : FL} {o : Oper} {W0 : World} {T : Nat → Prop} {H H' : List Res}
theorem Hp.fw {e : TypeId} {g cap m i : Nat} {f : Nat → Int × Int} (hr : ownR e 2 (.slice (some ⟨g, 0, none⟩) m cap) m (Fw m f) ∈ H) (hi : i < m) : ∀ w, Hp W0 T H w → ∀ j v, [Value.int .i64 (f i).1, .int .u64 (f i).2][j]? = some v → w.cell? ((⟨g, i * 2, none⟩ : Addr).add j) = some v := fun w h j v hj => by
  rw [Addr.at_]
  have hj2 : j < 2 := by
    rcases Nat.lt_or_ge j 2 with h | h
    · exact h
    · rw [List.getElem?_eq_none (by simpa using h)] at hj; cases hj
  refine Hp.ownCell hr ?_ w h
  rw [Fw_get _ _ _ (by omega)]
  rcases (by omega : j = 0 ∨ j = 1) with rfl | rfl
  · rw [if_pos (by omega), show (i * 2 + 0) / 2 = i by omega]; exact hj
  · rw [if_neg (by omega), show (i * 2 + 1) / 2 = i by omega]; exact hj
theorem Ys.fw {t : TypeId} {p x : Operand} {g j cap m : Nat} {a b : Int} {f : Nat → Int × Int} {e : TypeId} (ho : o.op = .store t p x) (hp : evO L p = some (.pointer (some ⟨g, j * 2, none⟩))) (hx : evO L x = some (.agg #[.int .i64 a, .int .u64 b])) (ht : (P.info? t).map (·.size) = some 2)
    (hf : Foc H (ownR e 2 (.slice (some ⟨g, 0, none⟩) m cap) m (Fw m f)) H' (ownR e 2 (.slice (some ⟨g, 0, none⟩) m cap) m (Fw m (upF f j (a, b))))) (hj : j < m) : Ys P o n L (Hp W0 T H) (Hp W0 T H') :=
  Ys.own (seg := [.int .i64 a, .int .u64 b]) ho hp hx (by simp [Value.cells]) ht (by simp [Value.oneCell']) hf (by rw [Fw_length]; simp; omega) (Fw_put m f j (a, b) hj)
theorem Yl.ix2 {t e : TypeId} {x i : Operand} {b len cap j : Nat} {q : IntKind} (ho : o.op = .indexAddr t x i) (hx : evO L x = some (.slice (some ⟨b, 0, none⟩) len cap)) (hi : evO L i = some (.int q (j : Int))) (ht : P.underlying t = some (.slice e)) (hz : (P.info? e).map (·.size) = some 2) (h1 : j < len) {M : World → Prop} : Yl P o n L M (.pointer (some ⟨b, j * 2, none⟩)) := by
  have h := Yl.ixkn (M := M) (n := n) ho hx hi ht hz h1
  rwa [Nat.zero_add] at h
end
section
theorem Hp.vwc {W0 w : World} {T : Nat → Prop} {H : List Res} {v : Value} {m : Nat} {f g : Nat → Int} (hfg : ∀ j, j < m → f j = g j) (h : Hp W0 T (ownR 3 1 v m (Vw m f) :: H) w) : Hp W0 T (ownR 3 1 v m (Vw m g) :: H) w := by
  rw [Vw_congr hfg] at h; exact h
theorem Hp.vwc1 {W0 w : World} {T : Nat → Prop} {H : List Res} {r : Res} {v : Value} {m : Nat} {f g : Nat → Int} (hfg : ∀ j, j < m → f j = g j) (h : Hp W0 T (r :: ownR 3 1 v m (Vw m f) :: H) w) : Hp W0 T (r :: ownR 3 1 v m (Vw m g) :: H) w := by
  rw [Vw_congr hfg] at h; exact h
theorem Hp.vwc2 {W0 w : World} {T : Nat → Prop} {H : List Res} {r s : Res} {v : Value} {m : Nat} {f g : Nat → Int} (hfg : ∀ j, j < m → f j = g j) (h : Hp W0 T (r :: s :: ownR 3 1 v m (Vw m f) :: H) w) : Hp W0 T (r :: s :: ownR 3 1 v m (Vw m g) :: H) w := by
  rw [Vw_congr hfg] at h; exact h
theorem TE.fact {Q : Exit → Act → World → Prop} {e : Exit} {n : Nat} {L : FL} {M : World → Prop} {φ : Prop} (h : ∀ w, M w → φ) (k : φ → TE Q e n L M) : TE Q e n L M := fun a w hf hm => k (h w hm) a w hf hm
end
theorem Yl.makeFunc {P : Program} {n : Nat} {L : FL} {M : World → Prop} {o : Oper} {fn : Fn} {fs cs : Array Operand} {as bs : List Value} (ho : o.op = .makeFunc fn fs cs) (ha : evs L fs.toList = some as) (hb : evs L cs.toList = some bs) : Yl P o n L M (.func fn as.toArray bs.toArray) := fun a w hf _ => by
  have h1 : fs.map a.eval = as.toArray := by
    apply Array.toList_inj.1
    simpa using hf.evl ha
  have h2 : cs.map a.eval = bs.toArray := by
    apply Array.toList_inj.1
    simpa using hf.evl hb
  unfold execOp
  simp [ho, Instr.makeFunc, h1, h2]
end Go.Proofs.Ytabjdjkkpbkpfaa.HL
