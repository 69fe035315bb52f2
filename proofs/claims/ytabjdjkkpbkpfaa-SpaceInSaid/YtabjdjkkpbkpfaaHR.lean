/- Walks in a round of a range over a function, and behind one. -/
import Derived.Test.YtabjdjkkpbkpfaaHM
import Derived.RangeFuncFrom
import Derived.RangeFuncCalls
import Derived.RangeFuncLeaves
import Derived.RangeFuncRecord
import Derived.Sort.LoopGhostIn
import Derived.TacticsIn
import Derived.OrdersIn
import Derived.Laws.ResultCell
namespace Go.Proofs.Ytabjdjkkpbkpfaa.HL
open Go Go.RowKit Go.Proofs.Ytabjdjkkpbkpfaa.Ev Go.Proofs.YtabjdjkkpbkpfaaW.PrintWords Go.Proofs.YtabjdjkkpbkpfaaW.PrintLast
set_option linter.unusedVariables false
set_option linter.unusedSimpArgs false
/-! ## The same in a round, and behind a range over a function -/
section
variable {P : Program} {ops : Array Oper} {Q : Exit → Act → World → Prop} {n : Nat} {L : FL} {M : World → Prop} {r : Option Nat} {D : List Deferred}
def Gr (r : Option Nat) : Fence := { fn := fun _ => True, depth := none, alive := false, round := r }
theorem callsR {m : Nat} {f : FuncId} {args : Array Value} {w : World} {R : Ending → World → Prop} (h : Calls P f args w R) : CallsIn (Gr r) m P f args w R := by
  cases r with
  | none => exact callsIn_wide.2 h
  | some l => exact CallsIn.inRound l (callsIn_wide.2 h)
def bare (a : Act) : Act := { tmps := a.tmps, defers := [] }
theorem bare_eval (a : Act) : (bare a).eval = a.eval := rfl
structure FrR (D : List Deferred) (n : Nat) (L : FL) (a : Act) : Prop where
  defers : a.defers = D
  fr : Fr n L (bare a)
theorem FrR.nil {a : Act} (h : FrR [] n L a) : Fr n L a := ⟨h.defers, h.fr.size, h.fr.slot⟩
theorem Fr.toR {a : Act} (h : Fr n L a) : FrR [] n L a := ⟨h.defers, rfl, h.size, h.slot⟩
theorem FrR.put {a : Act} (h : FrR D n L a) {i : Nat} (hi : Nat.blt i n = true) (v : Value) : FrR D n ((i, v) :: L) (a.put (some i) v) := ⟨h.defers, h.fr.put hi v⟩
theorem FrR.re {a : Act} (h : FrR D n L a) {i : Nat} {v v' : Value} (hl : look L i = some v) (e : v = v') : FrR D n ((i, v') :: L) a := ⟨h.defers, h.fr.re hl e⟩
theorem FrR.ev {a : Act} (h : FrR D n L a) {o : Operand} {v : Value} (hv : evO L o = some v) : a.eval o = v := h.fr.ev hv
theorem FrR.sub {a : Act} (h : FrR D n L a) {L' : FL} (hs : Sub L' L) : FrR D n L' a := ⟨h.defers, h.fr.sub hs⟩
def isDef (o : Oper) : Bool := match o.op with
  | .defer _ => true
  | _ => false
/-- Wanted or not; no defer statement. -/
def wantR (ops : Array Oper) (L : FL) (o : Oper) : Option Bool := bif isDef o then none else wantL ops L o
theorem notDef {o : Oper} (h : isDef o = false) : ∀ c, o.op ≠ .defer c := fun c e => by unfold isDef at h; rw [e] at h; cases h
theorem wantR_spec {o : Oper} {b : Bool} (h : wantR ops L o = some b) : wantL ops L o = some b ∧ ∀ c, o.op ≠ .defer c := by
  unfold wantR at h
  cases e : isDef o
  · rw [e] at h; exact ⟨h, notDef e⟩
  · rw [e] at h; cases h
theorem FrR.want {a : Act} {o : Oper} {b : Bool} (h : FrR D n L a) (hw : wantR ops L o = some b) : Region.wanted o (yielded ops a.tmps) = b := h.fr.want (wantR_spec hw).1
def RL (P : Program) (r : Option Nat) (D : List Deferred) (ops : Array Oper) (Q : Exit → Act → World → Prop) (rest : List Oper) (n : Nat) (L : FL) (M : World → Prop) : Prop := ∀ a w, FrR D n L a → M w → wpListIn (Gr r) 0 P ops Q rest a w
def RC (P : Program) (r : Option Nat) (D : List Deferred) (c : Code) (Q : Exit → Act → World → Prop) (n : Nat) (L : FL) (M : World → Prop) : Prop := ∀ a w, FrR D n L a → M w → c.wpIn (Gr r) 0 P Q a w
def RE (D : List Deferred) (Q : Exit → Act → World → Prop) (e : Exit) (n : Nat) (L : FL) (M : World → Prop) : Prop := ∀ a w, FrR D n L a → M w → Q e a w
theorem RE.toTE {e : Exit} (h : RE [] Q e n L M) : TE Q e n L M := fun a w hf hm => h a w hf.toR hm
theorem RC.seq {x y : Code} (h : RC P r D x (Exit.then (y.wpIn (Gr r) 0 P Q) Q) n L M) : RC P r D (.seq x y) Q n L M := fun a w hf hm => wpIn_seq (h a w hf hm)
theorem RC.skip (h : RE D Q .normal n L M) : RC P r D .skip Q n L M := fun a w hf hm => wpIn_skip (h a w hf hm)
theorem RC.ret (h : RE D Q .ret n L M) : RC P r D .ret Q n L M := fun a w hf hm => wpIn_ret (h a w hf hm)
theorem RC.exit {id : Nat} (h : RE D Q (.exit id) n L M) : RC P r D (.exit id) Q n L M := fun a w hf hm => wpIn_exit (h a w hf hm)
theorem RC.block {id : Nat} {c : Code} (h : RC P r D c (Exit.inBlock id Q) n L M) : RC P r D (.block id c) Q n L M := fun a w hf hm => wpIn_block (h a w hf hm)
theorem RC.cond {c : Operand} {x y : Code} {t : Bool} (hc : evO L c = some (.bool t)) (hx : t = true → RC P r D x Q n L M) (hy : t = false → RC P r D y Q n L M) : RC P r D (.cond c x y) Q n L M := fun a w hf hm =>
  wpIn_cond_split (hf.ev hc) (fun h => hx h a w hf hm) (fun h => hy h a w hf hm)
theorem RC.yes {c : Operand} {x y : Code} {t : Bool} (hc : evO L c = some (.bool t)) (ht : t = true) (hx : RC P r D x Q n L M) : RC P r D (.cond c x y) Q n L M := fun a w hf hm =>
  wpIn_cond_true (by rw [hf.ev hc, ht]) (hx a w hf hm)
theorem RC.no {c : Operand} {x y : Code} {t : Bool} (hc : evO L c = some (.bool t)) (ht : t = false) (hy : RC P r D y Q n L M) : RC P r D (.cond c x y) Q n L M := fun a w hf hm =>
  wpIn_cond_false (by rw [hf.ev hc, ht]) (hy a w hf hm)
theorem RC.region {id : Nat} (h : RL P r D ops Q ops.toList n L M) : RC P r D (.region id ops false) Q n L M := fun a w hf hm => wpIn_region_list (h a w hf hm)
theorem RL.nil (h : RE D Q .normal n L M) : RL P r D ops Q [] n L M := fun a w hf hm => wpListIn_nil (h a w hf hm)
theorem RE.next {c : Code} (h : RC P r D c Q n L M) : RE D (Exit.then (c.wpIn (Gr r) 0 P Q) Q) .normal n L M := h
theorem RE.thenRet {K : Act → World → Prop} (h : RE D Q .ret n L M) : RE D (Exit.then K Q) .ret n L M := h
theorem RE.thenExit {K : Act → World → Prop} {i : Nat} (h : RE D Q (.exit i) n L M) : RE D (Exit.then K Q) (.exit i) n L M := h
theorem RE.inRet {id : Nat} (h : RE D Q .ret n L M) : RE D (Exit.inBlock id Q) .ret n L M := h
theorem RE.inNormal {id : Nat} (h : RE D Q .normal n L M) : RE D (Exit.inBlock id Q) .normal n L M := h
theorem RE.inHere {id : Nat} (h : RE D Q .normal n L M) : RE D (Exit.inBlock id Q) (.exit id) n L M := fun a w hf hm => by
  show (if id = id then _ else _)
  rw [if_pos rfl]; exact h a w hf hm
theorem RE.inOut {id i : Nat} (hi : Nat.beq i id = false) (h : RE D Q (.exit i) n L M) : RE D (Exit.inBlock id Q) (.exit i) n L M := fun a w hf hm => by
  show (if i = id then _ else _)
  rw [if_neg (by intro e; subst e; simp at hi)]; exact h a w hf hm
theorem RC.re {c : Code} {i : Nat} {v v' : Value} (hl : look L i = some v) (e : v = v') (h : RC P r D c Q n ((i, v') :: L) M) : RC P r D c Q n L M := fun a w hf hm => h a w (hf.re hl e) hm
theorem RL.re {rest : List Oper} {i : Nat} {v v' : Value} (hl : look L i = some v) (e : v = v') (h : RL P r D ops Q rest n ((i, v') :: L) M) : RL P r D ops Q rest n L M := fun a w hf hm => h a w (hf.re hl e) hm
theorem RL.split {rest : List Oper} {i : Nat} {b : Bool} (hl : look L i = some (.bool b)) (ht : b = true → RL P r D ops Q rest n ((i, .bool true) :: L) M) (hf : b = false → RL P r D ops Q rest n ((i, .bool false) :: L) M) : RL P r D ops Q rest n L M := by
  cases b
  · exact RL.re hl rfl (hf rfl)
  · exact RL.re hl rfl (ht rfl)
theorem RC.fact {c : Code} {φ : Prop} (h : ∀ w, M w → φ) (k : φ → RC P r D c Q n L M) : RC P r D c Q n L M := fun a w hf hm => k (h w hm) a w hf hm
theorem RL.fact {rest : List Oper} {φ : Prop} (h : ∀ w, M w → φ) (k : φ → RL P r D ops Q rest n L M) : RL P r D ops Q rest n L M := fun a w hf hm => k (h w hm) a w hf hm
theorem RE.fact {e : Exit} {φ : Prop} (h : ∀ w, M w → φ) (k : φ → RE D Q e n L M) : RE D Q e n L M := fun a w hf hm => k (h w hm) a w hf hm
theorem RC.wk {c : Code} {M' : World → Prop} (h : ∀ w, M w → M' w) (k : RC P r D c Q n L M') : RC P r D c Q n L M := fun a w hf hm => k a w hf (h w hm)
theorem RL.wk {rest : List Oper} {M' : World → Prop} (h : ∀ w, M w → M' w) (k : RL P r D ops Q rest n L M') : RL P r D ops Q rest n L M := fun a w hf hm => k a w hf (h w hm)
theorem RE.wk {e : Exit} {M' : World → Prop} (h : ∀ w, M w → M' w) (k : RE D Q e n L M') : RE D Q e n L M := fun a w hf hm => k a w hf (h w hm)
section
variable {rest : List Oper} {o : Oper}
theorem wpListIn_want {a : Act} {w : World} {x : Result Next} (hw : Region.wanted o (yielded ops a.tmps) = true) (hd : ∀ c, o.op ≠ .defer c) (hx : (execOp a.eval o).run P w = x) (h : o.uponIn (Gr r) 0 P a (wpListIn (Gr r) 0 P ops Q rest) Q x) : wpListIn (Gr r) 0 P ops Q (o :: rest) a w := by
  unfold wpListIn
  rw [if_pos hw]
  refine ⟨fun _ _ => trivial, ?_⟩
  rw [Oper.semAt_eq _ _ _ hd, hx]
  exact h
theorem RL.y {d : Nat} {v : Value} (hd : o.dst = some d) (hi : Nat.blt d n = true) (hw : wantR ops L o = some true) (hy : Yl P o n L M v) (k : RL P r D ops Q rest n ((d, v) :: L) M) : RL P r D ops Q (o :: rest) n L M := fun a w hf hm => by
  refine wpListIn_want (hf.want hw) (wantR_spec hw).2 (hy (bare a) w hf.fr hm) ?_
  rw [Oper.uponIn_value, hd]
  exact k _ _ (hf.put hi v) hm
theorem RL.y0 {v : Value} (hd : o.dst = none) (hw : wantR ops L o = some true) (hy : Yl P o n L M v) (k : RL P r D ops Q rest n L M) : RL P r D ops Q (o :: rest) n L M := fun a w hf hm => by
  refine wpListIn_want (hf.want hw) (wantR_spec hw).2 (hy (bare a) w hf.fr hm) ?_
  rw [Oper.uponIn_value, hd]
  exact k _ _ hf hm
theorem RL.skip {d : Nat} (hd : o.dst = some d) (hi : Nat.blt d n = true) (hw : wantR ops L o = some false) (k : RL P r D ops Q rest n ((d, undef) :: L) M) : RL P r D ops Q (o :: rest) n L M := fun a w hf hm => by
  have h := hf.want hw
  unfold wpListIn
  rw [if_neg (by rw [h]; decide), hd]
  exact ⟨fun _ _ => trivial, k _ _ (hf.put hi _) hm⟩
theorem RL.skip0 (hd : o.dst = none) (hw : wantR ops L o = some false) (k : RL P r D ops Q rest n L M) : RL P r D ops Q (o :: rest) n L M := fun a w hf hm => by
  have h := hf.want hw
  unfold wpListIn
  rw [if_neg (by rw [h]; decide), hd]
  exact ⟨fun _ _ => trivial, k _ _ hf hm⟩
theorem RL.mx {σ : Type} {d : Nat} {v : σ → Value} {M' : σ → World → Prop} (hd : o.dst = some d) (hi : Nat.blt d n = true) (hw : wantR ops L o = some true) (hy : Ymx P o n L M v M') (k : ∀ s, RL P r D ops Q rest n ((d, v s) :: L) (M' s)) : RL P r D ops Q (o :: rest) n L M := fun a w hf hm => by
  obtain ⟨s, w', h1, h2⟩ := hy (bare a) w hf.fr hm
  refine wpListIn_want (hf.want hw) (wantR_spec hw).2 h1 ?_
  rw [Oper.uponIn_value, hd]
  exact k s _ _ (hf.put hi _) h2
theorem RL.s {M' : World → Prop} (hd : o.dst = none) (hw : wantR ops L o = some true) (hy : Ys P o n L M M') (k : RL P r D ops Q rest n L M') : RL P r D ops Q (o :: rest) n L M := fun a w hf hm => by
  obtain ⟨w', h1, h2⟩ := hy (bare a) w hf.fr hm
  refine wpListIn_want (hf.want hw) (wantR_spec hw).2 h1 ?_
  rw [Oper.uponIn_skip, hd]
  exact k _ _ hf h2
theorem RL.c {σ : Type} {d : Nat} {v : σ → Value} {M' : σ → World → Prop} (hd : o.dst = some d) (hi : Nat.blt d n = true) (hw : wantR ops L o = some true) (hy : Yc P o n L M v M') (k : ∀ s, RL P r D ops Q rest n ((d, v s) :: L) (M' s)) : RL P r D ops Q (o :: rest) n L M := fun a w hf hm => by
  obtain ⟨f, args, h1, h2⟩ := hy (bare a) w hf.fr hm
  refine wpListIn_want (hf.want hw) (wantR_spec hw).2 h1 ?_
  rw [Oper.uponIn_enter]
  refine ⟨fun h => by simp [Gr] at h, (callsR h2).mono fun e w' hh => ?_⟩
  obtain ⟨s, rfl, hm'⟩ := hh
  show wpListIn (Gr r) 0 P ops Q rest (a.put o.dst (v s)) w'
  rw [hd]
  exact k s _ _ (hf.put hi _) hm'
theorem RL.c0 {σ : Type} {v : σ → Value} {M' : σ → World → Prop} (hd : o.dst = none) (hw : wantR ops L o = some true) (hy : Yc P o n L M v M') (k : ∀ s, RL P r D ops Q rest n L (M' s)) : RL P r D ops Q (o :: rest) n L M := fun a w hf hm => by
  obtain ⟨f, args, h1, h2⟩ := hy (bare a) w hf.fr hm
  refine wpListIn_want (hf.want hw) (wantR_spec hw).2 h1 ?_
  rw [Oper.uponIn_enter]
  refine ⟨fun h => by simp [Gr] at h, (callsR h2).mono fun e w' hh => ?_⟩
  obtain ⟨s, rfl, hm'⟩ := hh
  show wpListIn (Gr r) 0 P ops Q rest (a.put o.dst (v s)) w'
  rw [hd]
  exact k s _ _ hf hm'
/-- yield is called. -/
theorem RL.yield {l : Nat} {cf : Operand} {as : Array Operand} {ts : Array TypeId} {vs : List Value} {σ : Type} {d : Nat} {v : σ → Value} {M' : σ → World → Prop} (hd : o.dst = some d) (hi : Nat.blt d n = true) (hw : wantR ops L o = some true) (ho : o.op = .call { callee := .value cf, args := as, argTypes := ts }) (hc : evO L cf = some (.func (.yield l) #[] #[])) (ha : evs L as.toList = some vs)
    (h : ∀ w, M w → YieldAt (Gr r) 0 P l vs.toArray w fun e w' => ∃ s, e = .returned (v s) ∧ M' s w') (k : ∀ s, RL P r D ops Q rest n ((d, v s) :: L) (M' s)) : RL P r D ops Q (o :: rest) n L M := fun a w hf hm => by
  obtain ⟨fn, tmps, assign, body, hy, hR⟩ := h w hm
  have hm2 : as.map a.eval = vs.toArray := by
    have := hf.fr.evl ha
    apply Array.toList_inj.1
    rw [bare_eval] at this
    simpa using this
  refine wpListIn_want (hf.want hw) (wantR_spec hw).2 (x := .ok (.round l fn tmps assign body) w) ?_ ?_
  · rw [← hy]
    unfold execOp
    simp [ho, resolve, Deferred.ofValue, invoke, hf.ev hc, hm2]
  · rw [Oper.uponIn_round]
    refine ⟨fun h => by simp [Gr] at h, hR.mono fun e w' hh => ?_⟩
    obtain ⟨s, rfl, hm'⟩ := hh
    show wpListIn (Gr r) 0 P ops Q rest (a.put o.dst (v s)) w'
    rw [hd]
    exact k s _ _ (hf.put hi _) hm'
end
theorem RC.loop {c : Code} {σ : Type} (LL : σ → FL) (MM : σ → World → Prop) (F : σ → Prop) (μ : σ → Nat) (s0 : σ) (hF : F s0) (hs : Sub (LL s0) L) (hm : ∀ w, M w → MM s0 w)
    (round : ∀ s, F s → RC P r D c (Exit.then (fun a w => ∃ s', F s' ∧ μ s' < μ s ∧ FrR D n (LL s') a ∧ MM s' w) Q) n (LL s) (MM s)) : RC P r D (.loop c) Q n L M := fun a w hf h => by
  refine wpIn_loop_ghost (fun k a w => ∃ s, F s ∧ μ s = k ∧ FrR D n (LL s) a ∧ MM s w) (μ s0) ⟨s0, hF, rfl, hf.sub hs, hm w h⟩ ?_
  rintro k a w ⟨s, hF, rfl, hf, hm⟩
  refine wpIn_mono (round s hF a w hf hm) ?_
  intro e a' w' hq
  cases e with
  | normal =>
    obtain ⟨s', h0, h1, h2, h3⟩ := hq
    exact ⟨μ s', h1, s', h0, rfl, h2, h3⟩
  | exit id => exact hq
  | goto l => exact hq
  | ret => exact hq
  | panic ch => exact hq
  | outgrown => exact hq
theorem RE.round {σ : Type} {LL : σ → FL} {MM : σ → World → Prop} {F : σ → Prop} {μ : σ → Nat} {m : Nat} (s' : σ) (hF : F s') (hlt : μ s' < m) (hs : Sub (LL s') L) (hm : ∀ w, M w → MM s' w) : RE D (Exit.then (fun a w => ∃ s', F s' ∧ μ s' < m ∧ FrR D n (LL s') a ∧ MM s' w) Q) .normal n L M :=
  fun a w hf h => ⟨s', hF, hlt, hf.sub hs, hm w h⟩
theorem RC.meet {x y : Code} {σ : Type} (LL : σ → FL) (MM : σ → World → Prop) (F : σ → Prop) (hx : RC P r D x (Exit.then (fun a w => ∃ s, F s ∧ FrR D n (LL s) a ∧ MM s w) Q) n L M) (hy : ∀ s, F s → RC P r D y Q n (LL s) (MM s)) : RC P r D (.seq x y) Q n L M := fun a w hf hm =>
  wpIn_seq (wpIn_mono (hx a w hf hm) fun e a' w' hq => by
    cases e with
    | normal => obtain ⟨s, h0, h1, h2⟩ := hq; exact hy s h0 a' w' h1 h2
    | exit id => exact hq
    | goto l => exact hq
    | ret => exact hq
    | panic ch => exact hq
    | outgrown => exact hq)
theorem RE.met {σ : Type} {LL : σ → FL} {MM : σ → World → Prop} {F : σ → Prop} (s : σ) (hF : F s) (hs : Sub (LL s) L) (hm : ∀ w, M w → MM s w) : RE D (Exit.then (fun a w => ∃ s, F s ∧ FrR D n (LL s) a ∧ MM s w) Q) .normal n L M :=
  fun a w hf h => ⟨s, hF, hf.sub hs, hm w h⟩
/-! ### Draws -/
theorem rowsR {m : Nat} {nm : String} {args : Array Value} {w : World} {R : Value → World → Prop} (h : Rows P nm args w R) : RowsIn (Gr r) m P nm args w R := fun c cs _ =>
  let ⟨v, w', hr, s⟩ := h c cs; ⟨v, w', hr, stepsIn_wide.2 s⟩
theorem upR {o : Oper} {a : Act} {w : World} {K : Act → World → Prop} (hd : ∀ c, o.op ≠ .defer c) (h : o.wp P a w K Q) : o.wpIn (Gr r) 0 P a w K Q := by
  refine ⟨fun _ _ => trivial, ?_⟩
  rw [Oper.semAt_eq _ _ _ hd]
  unfold Oper.wp at h
  cases e : (execOp a.eval o).run P w with
  | ok x w' =>
    rw [e] at h
    cases x with
    | value v => exact h
    | skip => exact h
    | defer d => exact h
    | enter f args =>
      rw [Oper.upon_enter] at h
      rw [Oper.uponIn_enter]
      exact ⟨fun h => by simp [Gr] at h, callsR h⟩
    | row nm args =>
      rw [Oper.upon_row] at h
      rw [Oper.uponIn_row]
      exact ⟨fun h => by simp [Gr] at h, rowsR h⟩
    | _ => exact h.elim
  | halt x w' =>
    rw [e] at h
    cases x with
    | panic v => exact h
    | _ => exact h.elim
theorem upAny (hnd : ∀ o ∈ ops.toList, isDef o = false) (hLO : ¬ LetsOut Q) {md : Region.Mode} : ∀ (fuel : Nat) (l : Array Bool) (a : Act) (w : World), wpAny P md ops Q fuel l a w → wpAnyIn (Gr r) 0 P md ops Q fuel l a w
  | 0, _, _, _, h => h
  | fuel + 1, l, a, w, h => ⟨h.1, fun i hi => by
    have h2 := h.2 i hi
    unfold wpOp at h2
    unfold wpOpIn
    cases ho : ops[i]? with
    | none => rw [ho] at h2; exact upAny hnd hLO fuel _ a w h2
    | some o =>
      rw [ho] at h2
      simp only at h2 ⊢
      have hd := notDef (hnd o (by obtain ⟨hlt, e⟩ := Array.getElem?_eq_some_iff.1 ho; rw [← e]; simp))
      split at h2
      · rename_i hw
        rw [if_pos hw]
        rcases h2 with h2 | h2
        · exact Oper.wpIn_mono (fun a w => upAny hnd hLO fuel _ a w) (upR hd h2)
        · exact absurd h2.2 hLO
      · rename_i hw
        rw [if_neg hw]
        exact ⟨fun _ _ => trivial, upAny hnd hLO fuel _ _ w h2⟩⟩
theorem RC.draw {id k : Nat} (S : World → Prop) (ds : List Nat) (l : Array Bool) (hm : P.follows .mixedOrders = true) (hn : ops.size = k) (hl : Array.replicate k false = l) (hd : ∀ w, M w → M w.drew) (hS : ∀ w, M w → S w)
    (hnd : (ops.toList.all fun o => !isDef o) = true) (hLO : ¬ LetsOut Q) (h : TA P ops Q S ds k l n L M) : RC P r [] (.region id ops true) Q n L M := fun a w hf hw => by
  refine wpIn_region_any hm (upAny (fun o ho => by simpa using List.all_eq_true.1 hnd o ho) hLO _ _ a _ ?_)
  subst hn; subst hl
  exact wpAny_of_last _ _ _ _ (h a _ hf.nil (hd w hw))
/-! ### A function's head and end -/
theorem RC.enter {f : FuncId} {fn : Func} {c : Code} {vs : List Value} {w : World} {R : Ending → World → Prop} (hf : P.funcs[f]? = some fn) (hb : fn.body = some c) (hn : fn.ntmps = n) (hl : Nat.ble vs.length n = true) (hm : M w)
    (h : RC P none [] c (bodyPostM (Gr none) 0 P fn R) n (argL 0 vs) M) : Calls P f vs.toArray w R := by
  subst hn
  exact callsIn_wide.1 (callsIn_of_wp_marks (F := Gr none) (n := 0) hf hb trivial (h _ _ (Fr.toR (Fr.enter _ vs hl)) hm))
theorem RE.ret1 {fn : Func} {R : Ending → World → Prop} {t : Tmp} {v : Value} (hr : fn.results = #[.tmp t]) (hv : look L t = some v) (h : ∀ w, M w → R (.returned v) w) : RE [] (bodyPostM (Gr none) 0 P fn R) .ret n L M := fun a w hf hm => by
  show LeavesInM _ _ _ _ _ _ a.defers _ _
  rw [hf.defers]
  exact ⟨v, by rw [results_tmp hr]; rw [show a.tmps.getD t undef = v from hf.ev (o := .tmp t) hv], h w hm⟩
theorem RE.ret0 {fn : Func} {R : Ending → World → Prop} (hr : fn.results = #[]) (h : ∀ w, M w → R (.returned (.tuple #[])) w) : RE [] (bodyPostM (Gr none) 0 P fn R) .ret n L M := fun a w hf hm => by
  show LeavesInM _ _ _ _ _ _ a.defers _ _
  rw [hf.defers]
  exact ⟨.tuple #[], by rw [results_none hr], h w hm⟩
theorem RE.end0 {fn : Func} {R : Ending → World → Prop} (hr : fn.results = #[]) (h : ∀ w, M w → R (.returned (.tuple #[])) w) : RE [] (bodyPostM (Gr none) 0 P fn R) .normal n L M := fun a w hf hm => by
  show LeavesInM _ _ _ _ _ _ a.defers _ _
  rw [hf.defers]
  exact ⟨.tuple #[], by rw [results_none hr], h w hm⟩
theorem results_cell {fn : Func} {t : Tmp} {ty : TypeId} {ad : Addr} {v : Value} {tmps : Array Value} {w : World} (hr : fn.results = #[.cell t ty]) (hp : tmps.getD t undef = .pointer (some ad)) (ht : aggB P ty = some false) (hc : w.cell? ad = some v) : (results fn tmps).run P w = .ok v w := by
  unfold results
  have hp2 : tmps[t]?.getD undef = .pointer (some ad) := by rw [← hp]; simp [Array.getD_eq_getD_getElem?]
  simp [hr, hp2, asAddr, loadVar, Sem.run_bind, run_isAgg ht, hc]
theorem RE.retC {fn : Func} {R : Ending → World → Prop} {t : Tmp} {ty : TypeId} {ad : Addr} {v : Value} (hr : fn.results = #[.cell t ty]) (hv : look L t = some (.pointer (some ad))) (ht : aggB P ty = some false) (hc : ∀ w, M w → w.cell? ad = some v) (h : ∀ w, M w → R (.returned v) w) : RE [] (bodyPostM (Gr none) 0 P fn R) .ret n L M := fun a w hf hm => by
  show LeavesInM _ _ _ _ _ _ a.defers _ _
  rw [hf.defers]
  exact ⟨v, results_cell hr (show a.tmps.getD t undef = _ from hf.ev (o := .tmp t) hv) ht (hc w hm), h w hm⟩
end
def markD (d : Nat) : List Deferred := [{ target := .collected d, args := #[] }]
def defO : Obj := .deferred (some [])
section
variable {P : Program} {Q : Exit → Act → World → Prop} {n : Nat} {L : FL} {W0 : World} {T : Nat → Prop} {H : List Res}
theorem Hp.putD {w : World} {d : Nat} {o o' : Obj} (h : Hp W0 T (blk d o :: H) w) : Hp W0 T (blk d o' :: H) (w.putObj d o') := by
  have hb : w.heap[d]? = some o := h.all _ mem0
  have hlt := blk_lt hb
  refine h.turn foc0 (r' := blk d o') ⟨rfl, rfl, rfl, by simp, fun k hk hn => World.putObj_heap_other (fun e => hn e)⟩ (World.putObj_heap_same hlt) (fun k hk => .inl hk)
/-- The mark is come to: the block for what the rounds have deferred is shut. -/
theorem RE.mark {fn : Func} {R : Ending → World → Prop} {d : Nat} (h : RE [] (bodyPostM (Gr none) 0 P fn R) .ret n L (Hp W0 T (blk d (.deferred none) :: H))) : RE (markD d) (bodyPostM (Gr none) 0 P fn R) .ret n L (Hp W0 T (blk d defO :: H)) := fun a w hf hm => by
  show LeavesInM _ _ _ _ _ _ a.defers _ _
  rw [hf.defers]
  have hb : w.heap[d]? = some (.deferred (some [])) := hm.all _ mem0
  refine ⟨by simp, .inl ⟨d, _, rfl, run_takeDeferred hb, ?_⟩⟩
  have h2 := h { tmps := a.tmps, defers := [] } _ ⟨rfl, hf.fr⟩ hm.putD
  exact h2
end
/-! ## A range over a function -/
def recO (rc : Loop) (st : LoopState) (pe : Option Code) : Obj := .loop { rc with state := st, pending := pe }
def zipL : List Tmp → List Value → FL → FL
  | p :: ps, v :: vs, L => zipL ps vs ((p, v) :: L)
  | _, _, L => L
theorem zipFr {n : Nat} : ∀ (ps : List Tmp) (vs : List Value) (L : FL) (a : Act), Fr n L a → (ps.all fun p => Nat.blt p n) = true → Fr n (zipL ps vs L) { tmps := (ps.zip vs).foldl (fun t (q : Tmp × Value) => t.setIfInBounds q.1 q.2) a.tmps, defers := [] }
  | [], vs, L, a, h, _ => ⟨rfl, h.size, h.slot⟩
  | p :: ps, [], L, a, h, _ => ⟨rfl, h.size, h.slot⟩
  | p :: ps, v :: vs, L, a, h, hp => by
    simp only [List.all_cons, Bool.and_eq_true] at hp
    exact zipFr ps vs ((p, v) :: L) (a.put (some p) v) (h.put hp.1 v) hp.2
/-- What an iterator does: it yields the xs, each once, in order; what it keeps goes through It. -/
def IterH (P : Program) (gf : FuncId) (lb : Array Value) (N : Nat) (xs : Nat → List Value) (It : Nat → Res) (W0 : World) (T : Nat → Prop) : Prop :=
  ∀ (l : Nat) (H : Nat → List Res) (X : World → Prop),
    (∀ i, i < N → ∀ W, Hp W0 T (It i :: H i) W → YieldAt (Gr none) 0 P l (xs i).toArray W fun e w' => ∃ b : Bool, e = .returned (.bool b) ∧ (if b = true then Hp W0 T (It i :: H (i + 1)) w' else X w')) →
    ∀ W, Hp W0 T (It 0 :: H 0) W → Calls P gf (#[.func (.yield l) #[] #[]] ++ lb) W fun e w' => (∃ v, e = .returned v) ∧ (Hp W0 T (It N :: H N) w' ∨ X w')
section
variable {P : Program} {Q : Exit → Act → World → Prop} {n : Nat} {L : FL} {W0 : World} {T : Nat → Prop}
/-- How a round may be left. -/
def RQ (W0 : World) (T : Nat → Prop) (l d : Nat) (rc : Loop) (H' : List Res) {σ : Type} (Fx : σ → Prop) (HX : σ → List Res) : Exit → Act → World → Prop
  | .normal, _, w => Hp W0 T (blk l (recO rc .busy none) :: blk d defO :: H') w
  | .ret, _, w => ∃ s, Fx s ∧ Hp W0 T (blk l (recO rc .busy none) :: blk d defO :: HX s) w
  | _, _, _ => False
theorem RE.begin_ {body : Code} {l : Nat} {rc : Loop} {H : List Res} (h : RC P (some l) [] body Q n L (Hp W0 T (blk l (recO rc .busy none) :: H))) :
    RE [] (Exit.then (fun a w₁ => ∃ w₂, (Instr.beginRound l).run P w₁ = .ok () w₂ ∧ body.wpIn (Gr (some l)) 0 P Q a w₂) (fun _ _ _ => False)) .normal n L (Hp W0 T (blk l (recO rc .ready none) :: H)) := fun a w hf hm =>
  ⟨_, run_beginRound (hm.all _ mem0) rfl, h a _ hf hm.putD⟩
theorem RE.goes {l d : Nat} {rc : Loop} {H' : List Res} {σ : Type} {Fx : σ → Prop} {HX : σ → List Res} {M : World → Prop} (h : ∀ w, M w → Hp W0 T (blk l (recO rc .busy none) :: blk d defO :: H') w) : RE [] (RQ W0 T l d rc H' Fx HX) .normal n L M := fun _ w _ hm => h w hm
theorem RE.quits {l d : Nat} {rc : Loop} {H' : List Res} {σ : Type} {Fx : σ → Prop} {HX : σ → List Res} {M : World → Prop} (s : σ) (hF : Fx s) (h : ∀ w, M w → Hp W0 T (blk l (recO rc .busy none) :: blk d defO :: HX s) w) : RE [] (RQ W0 T l d rc H' Fx HX) .ret n L M := fun _ w _ hm => ⟨s, hF, h w hm⟩
theorem Hp.out1 {w : World} {a b c : Res} {H : List Res} (h : Hp W0 T (a :: b :: c :: H) w) : Hp W0 T (b :: c :: a :: H) w := (Hp.swap h).swap1
theorem Hp.in1 {w : World} {a b c : Res} {H : List Res} (h : Hp W0 T (b :: c :: a :: H) w) : Hp W0 T (a :: b :: c :: H) w := (Hp.swap1 h).swap
theorem RC.range {g : Operand} {ps : Array Tmp} {assign body : Code} {gf : FuncId} {fn : Func} {lb : Array Value} {N : Nat} {xs : Nat → List Value} {It : Nat → Res} (H : Nat → List Res) {σ : Type} (Fx : σ → Prop) (HX : σ → List Res)
    (hg : evO L g = some (.func (.func gf) #[] lb)) (hf : P.funcs[gf]? = some fn) (hname : (fn.name == "runtime.NumGoroutine") = false) (hb : fn.body.isSome = true) (hit : IterH P gf lb N xs It W0 T) (hps : ∀ i, (xs i).length = ps.size) (hpn : (ps.toList.all fun p => Nat.blt p n) = true)
    {M : World → Prop} (hM : ∀ w, M w → Hp W0 T (It 0 :: H 0) w)
    (round : ∀ i, i < N → ∀ (l d : Nat) (rc : Loop), RC P (some l) [] assign (Exit.then (fun a w₁ => ∃ w₂, (Instr.beginRound l).run P w₁ = .ok () w₂ ∧ body.wpIn (Gr (some l)) 0 P (RQ W0 T l d rc (It i :: H (i + 1)) Fx HX) a w₂) (fun _ _ _ => False)) n (zipL ps.toList (xs i) L) (Hp W0 T (blk l (recO rc .ready none) :: blk d defO :: It i :: H i)))
    (done : ∀ d, RE (markD d) Q .normal n L (Hp W0 T (blk d defO :: It N :: H N)))
    (stop : ∀ d s, Fx s → RC P none (markD d) .ret Q n L (Hp W0 T (blk d defO :: HX s))) : RC P none [] (.rangeFunc g ps assign body) Q n L M := fun a w hfr hm0 => by
  have hm := hM w hm0
  refine wpIn_rangeFunc ?_
  intro fn' _
  obtain ⟨rc, hrc⟩ : ∃ rc : Loop, rc = { state := .ready, pending := none, fn := fn', tmps := a.tmps, params := ps, assign, body, defers := w.heap.size } := ⟨_, rfl⟩
  have hrr : recO rc .ready none = .loop rc := by rw [hrc]; rfl
  obtain ⟨l, hl⟩ : ∃ l, w.heap.size + 1 = l := ⟨_, rfl⟩
  obtain ⟨d, hd⟩ : ∃ d, w.heap.size = d := ⟨_, rfl⟩
  have hw1 : Hp W0 T (It 0 :: blk l (recO rc .ready none) :: blk d defO :: H 0) ((w.alloc defO).alloc (.loop rc)) := by
    have h1 := (hm.alloc defO).alloc (.loop rc)
    rw [World.size_alloc, hl, hd] at h1
    rw [hrr]
    exact Hp.in1 h1
  have heval : a.eval g = .func (.func gf) #[] lb := hfr.ev hg
  have henter : (Instr.enterLoop fn' a.tmps ps assign body (Gr none).round).run P w = .ok (l, markD d) ((w.alloc defO).alloc (.loop rc)) := by
    have := run_enterLoop_outer (P := P) (w := w) fn' a.tmps ps assign body
    rw [hl, hd] at this
    rw [hrc]
    rw [hd]
    exact this
  obtain ⟨w1, hw1e⟩ : ∃ w1, (w.alloc defO).alloc (.loop rc) = w1 := ⟨_, rfl⟩
  rw [hw1e] at hw1 henter
  refine ⟨l, markD d, w1, { target := .fn (.func gf) lb, args := #[.func (.yield l) #[] #[]] }, w1, gf, #[.func (.yield l) #[] #[]] ++ lb, w1, henter, ?_, fun _ _ => trivial, ?_, fun h => by simp [Gr] at h, ?_⟩
  · simp only [resolve, heval]
    simp [go_sem]
  · have he := enters_ hf hname hb (#[.func (.yield l) #[] #[]] ++ lb) w1
    simp only [invoke]
    exact he
  · refine (callsR (hit l (fun i => blk l (recO rc .ready none) :: blk d defO :: H i) (fun w' => ∃ s, Fx s ∧ Hp W0 T (blk l (recO rc .done (some .ret)) :: blk d defO :: HX s) w') ?_ _ hw1)).mono ?_
    · intro i hi W hW
      have hrec : W.heap[l]? = some (.loop rc) := by rw [← hrr]; exact hW.all _ mem1
      have hy := run_yield (P := P) (args := (xs i).toArray) hrec (by rw [hrc]; simpa using hps i)
      refine ⟨_, _, _, _, hy, roundIn_of_wpIn trivial ?_⟩
      have hfr2 : FrR [] n (zipL ps.toList (xs i) L) { tmps := (rc.params.zip (xs i).toArray).foldl (fun tmps (t, a) => tmps.setIfInBounds t a) rc.tmps, defers := [] } := by
        have h3 := (zipFr ps.toList (xs i) L (bare a) hfr.fr hpn).toR
        rw [hrc]
        have e : ((ps.zip (xs i).toArray).foldl (fun tmps (x : Tmp × Value) => match x with | (t, a) => tmps.setIfInBounds t a) a.tmps) = (ps.toList.zip (xs i)).foldl (fun t (q : Tmp × Value) => t.setIfInBounds q.1 q.2) a.tmps := by
          rw [← Array.foldl_toList, Array.toList_zip]
        show FrR [] n _ { tmps := (ps.zip (xs i).toArray).foldl _ a.tmps, defers := [] }
        rw [e]
        exact h3
      have hr := round i hi l d rc _ W hfr2 hW.out1
      have e1 : rc.assign = assign := by rw [hrc]
      have e2 : rc.body = body := by rw [hrc]
      rw [e1, e2]
      refine wpIn_mono hr ?_
      intro e a1 w1 hq
      cases e with
      | normal =>
        obtain ⟨w2, hb2, hbody⟩ := hq
        refine ⟨w2, hb2, wpIn_mono hbody ?_⟩
        intro e a3 w3 hp
        cases e with
        | normal =>
          have h4 : Hp W0 T (blk l (recO rc .busy none) :: blk d defO :: It i :: H (i + 1)) w3 := hp
          refine ⟨_, _, run_endRound none (h4.all _ mem0), true, rfl, ?_⟩
          rw [if_pos rfl]
          exact Hp.in1 h4.putD
        | ret =>
          obtain ⟨s, hs, h4⟩ := hp
          refine ⟨_, _, run_endRound (some .ret) (h4.all _ mem0), false, rfl, ?_⟩
          rw [if_neg (by decide)]
          exact ⟨s, hs, h4.putD⟩
        | exit id => exact hp.elim
        | goto t => exact hp.elim
        | panic ch => exact hp.elim
        | outgrown => exact hp.elim
      | ret => exact hq
      | exit id => exact hq
      | goto t => exact hq
      | panic ch => exact hq
      | outgrown => exact hq
    · rintro e w2 ⟨⟨v, rfl⟩, h4 | ⟨s, hs, h4⟩⟩
      · have h5 := h4.out1
        have hrec : w2.heap[l]? = some (.loop rc) := by rw [← hrr]; exact h5.all _ mem0
        refine ⟨none, _, ?_, done d _ _ ⟨?_, hfr.fr⟩ ((Hp.putD (o' := .loop { rc with state := .exhausted, pending := none }) h5).sub (List.sublist_cons_self _ _))⟩
        · have := run_endLoop (P := P) hrec (by rw [hrc]; simp)
          rw [show rc.pending = none by rw [hrc]] at this
          exact this
        · show markD d ++ a.defers = markD d
          rw [hfr.defers]; rfl
      · have hrec : w2.heap[l]? = some (recO rc .done (some .ret)) := h4.all _ mem0
        refine ⟨some .ret, _, run_endLoop (P := P) hrec (by simp), stop d s hs _ _ ⟨?_, hfr.fr⟩ ((Hp.putD h4).sub (List.sublist_cons_self _ _))⟩
        show markD d ++ a.defers = markD d
        rw [hfr.defers]; rfl
end
end Go.Proofs.Ytabjdjkkpbkpfaa.HL
