/- Walks in a round of a range over a function, and behind one. -/
import Derived.Test.YtabjdjkkpbkpfaaHM
import Derived.RangeFuncFrom
import Derived.RangeFuncCalls
import Derived.RangeFuncLeaves
import Derived.RangeFuncRecord
import Derived.Sort.LoopGhostIn
import Derived.TacticsIn
import Derived.OrdersIn
import Derived.Laws.ResultCell
namespace Go.Proofs.Ytabjdjkkpbkpfaa.HL
open Go Go.RowKit Go.Proofs.Ytabjdjkkpbkpfaa.Ev Go.Proofs.YtabjdjkkpbkpfaaW.PrintWords Go.Proofs.YtabjdjkkpbkpfaaW.PrintLast
set_option linter.unusedVariables false
set_option linter.unusedSimpArgs false
/-! ## The same in a round, and behind a range over a function -/
section
variable {P : Program} {ops : Array Oper} {Q : Exit → Act → World → Prop} {n : Nat} {L : FL} {M : World → Prop} {r : Option Nat} {D : List Deferred}
def Gr (r : Option Nat) : Fence := { fn := fun _ => True, depth := none, alive := false, round := r }
theorem callsR {m : Nat} {f : FuncId} {args : Array Value} {w : World} {R : Ending → World → Prop} (h : Calls P f args w R) : CallsIn (Gr r) m P f args w R := by
  cases r with
  | none => exact callsIn_wide.2 h
  | some l => exact CallsIn.inRound l (callsIn_wide.2 h)
def bare (a : Act) : Act := { tmps := a.tmps, defers := [] }
theorem bare_eval (a : Act) : (bare a).eval = a.eval := rfl
structure FrR (D : List Deferred) (n : Nat) (L : FL) (a : Act) : Prop where
  defers : a.defers = D
  fr : Fr n L (bare a)
theorem Fr.toR {a : Act} (h : Fr n L a) : FrR [] n L a := ⟨h.defers, rfl, h.size, h.slot⟩
theorem FrR.put {a : Act} (h : FrR D n L a) {i : Nat} (hi : Nat.blt i n = true) (v : Value) : FrR D n ((i, v) :: L) (a.put (some i) v) := ⟨h.defers, h.fr.put hi v⟩
theorem FrR.re {a : Act} (h : FrR D n L a) {i : Nat} {v v' : Value} (hl : look L i = some v) (e : v = v') : FrR D n ((i, v') :: L) a := ⟨h.defers, h.fr.re hl e⟩
theorem FrR.ev {a : Act} (h : FrR D n L a) {o : Operand} {v : Value} (hv : evO L o = some v) : a.eval o = v := h.fr.ev hv
theorem FrR.sub {a : Act} (h : FrR D n L a) {L' : FL} (hs : Sub L' L) : FrR D n L' a := ⟨h.defers, h.fr.sub hs⟩
def isDef (o : Oper) : Bool := match o.op with
  | .defer _ => true
  | _ => false
/-- Wanted or not; no defer statement. -/
def wantR (ops : Array Oper) (L : FL) (o : Oper) : Option Bool := bif isDef o then none else wantL ops L o
theorem notDef {o : Oper} (h : isDef o = false) : ∀ c, o.op ≠ .defer c := fun c e => by unfold isDef at h; rw [e] at h; cases h
theorem wantR_spec {o : Oper} {b : Bool} (h : wantR ops L o = some b) : wantL ops L o = some b ∧ ∀ c, o.op ≠ .defer c := by
  unfold wantR at h
  cases e : isDef o
  · rw [e] at h; exact ⟨h, notDef e⟩
  · rw [e] at h; cases h
theorem FrR.want {a : Act} {o : Oper} {b : Bool} (h : FrR D n L a) (hw : wantR ops L o = some b) : Region.wanted o (yielded ops a.tmps) = b := h.fr.want (wantR_spec hw).1
def RL (P : Program) (r : Option Nat) (D : List Deferred) (ops : Array Oper) (Q : Exit → Act → World → Prop) (rest : List Oper) (n : Nat) (L : FL) (M : World → Prop) : Prop := ∀ a w, FrR D n L a → M w → wpListIn (Gr r) 0 P ops Q rest a w
def RC (P : Program) (r : Option Nat) (D : List Deferred) (c : Code) (Q : Exit → Act → World → Prop) (n : Nat) (L : FL) (M : World → Prop) : Prop := ∀ a w, FrR D n L a → M w → c.wpIn (Gr r) 0 P Q a w
def RE (D : List Deferred) (Q : Exit → Act → World → Prop) (e : Exit) (n : Nat) (L : FL) (M : World → Prop) : Prop := ∀ a w, FrR D n L a → M w → Q e a w
theorem RC.seq {x y : Code} (h : RC P r D x (Exit.then (y.wpIn (Gr r) 0 P Q) Q) n L M) : RC P r D (.seq x y) Q n L M := fun a w hf hm => wpIn_seq (h a w hf hm)
theorem RC.skip (h : RE D Q .normal n L M) : RC P r D .skip Q n L M := fun a w hf hm => wpIn_skip (h a w hf hm)
theorem RC.ret (h : RE D Q .ret n L M) : RC P r D .ret Q n L M := fun a w hf hm => wpIn_ret (h a w hf hm)
theorem RC.exit {id : Nat} (h : RE D Q (.exit id) n L M) : RC P r D (.exit id) Q n L M := fun a w hf hm => wpIn_exit (h a w hf hm)
theorem RC.block {id : Nat} {c : Code} (h : RC P r D c (Exit.inBlock id Q) n L M) : RC P r D (.block id c) Q n L M := fun a w hf hm => wpIn_block (h a w hf hm)
theorem RC.cond {c : Operand} {x y : Code} {t : Bool} (hc : evO L c = some (.bool t)) (hx : t = true → RC P r D x Q n L M) (hy : t = false → RC P r D y Q n L M) : RC P r D (.cond c x y) Q n L M := fun a w hf hm =>
  wpIn_cond_split (hf.ev hc) (fun h => hx h a w hf hm) (fun h => hy h a w hf hm)
theorem RC.yes {c : Operand} {x y : Code} {t : Bool} (hc : evO L c = some (.bool t)) (ht : t = true) (hx : RC P r D x Q n L M) : RC P r D (.cond c x y) Q n L M := fun a w hf hm =>
  wpIn_cond_true (by rw [hf.ev hc, ht]) (hx a w hf hm)
theorem RC.no {c : Operand} {x y : Code} {t : Bool} (hc : evO L c = some (.bool t)) (ht : t = false) (hy : RC P r D y Q n L M) : RC P r D (.cond c x y) Q n L M := fun a w hf hm =>
  wpIn_cond_false (by rw [hf.ev hc, ht]) (hy a w hf hm)
theorem RC.region {id : Nat} (h : RL P r D ops Q ops.toList n L M) : RC P r D (.region id ops false) Q n L M := fun a w hf hm => wpIn_region_list (h a w hf hm)
theorem RL.nil (h : RE D Q .normal n L M) : RL P r D ops Q [] n L M := fun a w hf hm => wpListIn_nil (h a w hf hm)
theorem RE.next {c : Code} (h : RC P r D c Q n L M) : RE D (Exit.then (c.wpIn (Gr r) 0 P Q) Q) .normal n L M := h
theorem RE.thenRet {K : Act → World → Prop} (h : RE D Q .ret n L M) : RE D (Exit.then K Q) .ret n L M := h
theorem RE.thenExit {K : Act → World → Prop} {i : Nat} (h : RE D Q (.exit i) n L M) : RE D (Exit.then K Q) (.exit i) n L M := h
theorem RE.inRet {id : Nat} (h : RE D Q .ret n L M) : RE D (Exit.inBlock id Q) .ret n L M := h
theorem RE.inNormal {id : Nat} (h : RE D Q .normal n L M) : RE D (Exit.inBlock id Q) .normal n L M := h
theorem RE.inHere {id : Nat} (h : RE D Q .normal n L M) : RE D (Exit.inBlock id Q) (.exit id) n L M := fun a w hf hm => by
  show (if id = id then _ else _)
  rw [if_pos rfl]; exact h a w hf hm
theorem RE.inOut {id i : Nat} (hi : Nat.beq i id = false) (h : RE D Q (.exit i) n L M) : RE D (Exit.inBlock id Q) (.exit i) n L M := fun a w hf hm => by
  show (if i = id then _ else _)
  rw [if_neg (by intro e; subst e; simp at hi)]; exact h a w hf hm
theorem RL.re {rest : List Oper} {i : Nat} {v v' : Value} (hl : look L i = some v) (e : v = v') (h : RL P r D ops Q rest n ((i, v') :: L) M) : RL P r D ops Q rest n L M := fun a w hf hm => h a w (hf.re hl e) hm
theorem RC.fact {c : Code} {φ : Prop} (h : ∀ w, M w → φ) (k : φ → RC P r D c Q n L M) : RC P r D c Q n L M := fun a w hf hm => k (h w hm) a w hf hm
theorem RL.fact {rest : List Oper} {φ : Prop} (h : ∀ w, M w → φ) (k : φ → RL P r D ops Q rest n L M) : RL P r D ops Q rest n L M := fun a w hf hm => k (h w hm) a w hf hm
theorem RE.fact {e : Exit} {φ : Prop} (h : ∀ w, M w → φ) (k : φ → RE D Q e n L M) : RE D Q e n L M := fun a w hf hm => k (h w hm) a w hf hm
theorem RC.wk {c : Code} {M' : World → Prop} (h : ∀ w, M w → M' w) (k : RC P r D c Q n L M') : RC P r D c Q n L M := fun a w hf hm => k a w hf (h w hm)
section
variable {rest : List Oper} {o : Oper}
theorem wpListIn_want {a : Act} {w : World} {x : Result Next} (hw : Region.wanted o (yielded ops a.tmps) = true) (hd : ∀ c, o.op ≠ .defer c) (hx : (execOp a.eval o).run P w = x) (h : o.uponIn (Gr r) 0 P a (wpListIn (Gr r) 0 P ops Q rest) Q x) : wpListIn (Gr r) 0 P ops Q (o :: rest) a w := by
  unfold wpListIn
  rw [if_pos hw]
  refine ⟨fun _ _ => trivial, ?_⟩
  rw [Oper.semAt_eq _ _ _ hd, hx]
  exact h
theorem RL.y {d : Nat} {v : Value} (hd : o.dst = some d) (hi : Nat.blt d n = true) (hw : wantR ops L o = some true) (hy : Yl P o n L M v) (k : RL P r D ops Q rest n ((d, v) :: L) M) : RL P r D ops Q (o :: rest) n L M := fun a w hf hm => by
  refine wpListIn_want (hf.want hw) (wantR_spec hw).2 (hy (bare a) w hf.fr hm) ?_
  rw [Oper.uponIn_value, hd]
  exact k _ _ (hf.put hi v) hm
theorem RL.mx {σ : Type} {d : Nat} {v : σ → Value} {M' : σ → World → Prop} (hd : o.dst = some d) (hi : Nat.blt d n = true) (hw : wantR ops L o = some true) (hy : Ymx P o n L M v M') (k : ∀ s, RL P r D ops Q rest n ((d, v s) :: L) (M' s)) : RL P r D ops Q (o :: rest) n L M := fun a w hf hm => by
  obtain ⟨s, w', h1, h2⟩ := hy (bare a) w hf.fr hm
  refine wpListIn_want (hf.want hw) (wantR_spec hw).2 h1 ?_
  rw [Oper.uponIn_value, hd]
  exact k s _ _ (hf.put hi _) h2
theorem RL.s {M' : World → Prop} (hd : o.dst = none) (hw : wantR ops L o = some true) (hy : Ys P o n L M M') (k : RL P r D ops Q rest n L M') : RL P r D ops Q (o :: rest) n L M := fun a w hf hm => by
  obtain ⟨w', h1, h2⟩ := hy (bare a) w hf.fr hm
  refine wpListIn_want (hf.want hw) (wantR_spec hw).2 h1 ?_
  rw [Oper.uponIn_skip, hd]
  exact k _ _ hf h2
theorem RL.c {σ : Type} {d : Nat} {v : σ → Value} {M' : σ → World → Prop} (hd : o.dst = some d) (hi : Nat.blt d n = true) (hw : wantR ops L o = some true) (hy : Yc P o n L M v M') (k : ∀ s, RL P r D ops Q rest n ((d, v s) :: L) (M' s)) : RL P r D ops Q (o :: rest) n L M := fun a w hf hm => by
  obtain ⟨f, args, h1, h2⟩ := hy (bare a) w hf.fr hm
  refine wpListIn_want (hf.want hw) (wantR_spec hw).2 h1 ?_
  rw [Oper.uponIn_enter]
  refine ⟨fun h => by simp [Gr] at h, (callsR h2).mono fun e w' hh => ?_⟩
  obtain ⟨s, rfl, hm'⟩ := hh
  show wpListIn (Gr r) 0 P ops Q rest (a.put o.dst (v s)) w'
  rw [hd]
  exact k s _ _ (hf.put hi _) hm'
/-- yield is called. -/
theorem RL.yield {l : Nat} {cf : Operand} {as : Array Operand} {ts : Array TypeId} {vs : List Value} {σ : Type} {d : Nat} {v : σ → Value} {M' : σ → World → Prop} (hd : o.dst = some d) (hi : Nat.blt d n = true) (hw : wantR ops L o = some true) (ho : o.op = .call { callee := .value cf, args := as, argTypes := ts }) (hc : evO L cf = some (.func (.yield l) #[] #[])) (ha : evs L as.toList = some vs)
    (h : ∀ w, M w → YieldAt (Gr r) 0 P l vs.toArray w fun e w' => ∃ s, e = .returned (v s) ∧ M' s w') (k : ∀ s, RL P r D ops Q rest n ((d, v s) :: L) (M' s)) : RL P r D ops Q (o :: rest) n L M := fun a w hf hm => by
  obtain ⟨fn, tmps, assign, body, hy, hR⟩ := h w hm
  have hm2 : as.map a.eval = vs.toArray := by
    have := hf.fr.evl ha
    apply Array.toList_inj.1
    rw [bare_eval] at this
    simpa using this
  refine wpListIn_want (hf.want hw) (wantR_spec hw).2 (x := .ok (.round l fn tmps assign body) w) ?_ ?_
  · rw [← hy]
    unfold execOp
    simp [ho, resolve, Deferred.ofValue, invoke, hf.ev hc, hm2]
  · rw [Oper.uponIn_round]
    refine ⟨fun h => by simp [Gr] at h, hR.mono fun e w' hh => ?_⟩
    obtain ⟨s, rfl, hm'⟩ := hh
    show wpListIn (Gr r) 0 P ops Q rest (a.put o.dst (v s)) w'
    rw [hd]
    exact k s _ _ (hf.put hi _) hm'
end
theorem RC.loop {c : Code} {σ : Type} (LL : σ → FL) (MM : σ → World → Prop) (F : σ → Prop) (μ : σ → Nat) (s0 : σ) (hF : F s0) (hs : Sub (LL s0) L) (hm : ∀ w, M w → MM s0 w)
    (round : ∀ s, F s → RC P r D c (Exit.then (fun a w => ∃ s', F s' ∧ μ s' < μ s ∧ FrR D n (LL s') a ∧ MM s' w) Q) n (LL s) (MM s)) : RC P r D (.loop c) Q n L M := fun a w hf h => by
  refine wpIn_loop_ghost (fun k a w => ∃ s, F s ∧ μ s = k ∧ FrR D n (LL s) a ∧ MM s w) (μ s0) ⟨s0, hF, rfl, hf.sub hs, hm w h⟩ ?_
  rintro k a w ⟨s, hF, rfl, hf, hm⟩
  refine wpIn_mono (round s hF a w hf hm) ?_
  intro e a' w' hq
  cases e with
  | normal =>
    obtain ⟨s', h0, h1, h2, h3⟩ := hq
    exact ⟨μ s', h1, s', h0, rfl, h2, h3⟩
  | exit id => exact hq
  | goto l => exact hq
  | ret => exact hq
  | panic ch => exact hq
  | outgrown => exact hq
theorem RE.round {σ : Type} {LL : σ → FL} {MM : σ → World → Prop} {F : σ → Prop} {μ : σ → Nat} {m : Nat} (s' : σ) (hF : F s') (hlt : μ s' < m) (hs : Sub (LL s') L) (hm : ∀ w, M w → MM s' w) : RE D (Exit.then (fun a w => ∃ s', F s' ∧ μ s' < m ∧ FrR D n (LL s') a ∧ MM s' w) Q) .normal n L M :=
  fun a w hf h => ⟨s', hF, hlt, hf.sub hs, hm w h⟩
/-! ### A function's head and end -/
theorem RC.enter {f : FuncId} {fn : Func} {c : Code} {vs : List Value} {w : World} {R : Ending → World → Prop} (hf : P.funcs[f]? = some fn) (hb : fn.body = some c) (hn : fn.ntmps = n) (hl : Nat.ble vs.length n = true) (hm : M w)
    (h : RC P none [] c (bodyPostM (Gr none) 0 P fn R) n (argL 0 vs) M) : Calls P f vs.toArray w R := by
  subst hn
  exact callsIn_wide.1 (callsIn_of_wp_marks (F := Gr none) (n := 0) hf hb trivial (h _ _ (Fr.toR (Fr.enter _ vs hl)) hm))
theorem RE.ret1 {fn : Func} {R : Ending → World → Prop} {t : Tmp} {v : Value} (hr : fn.results = #[.tmp t]) (hv : look L t = some v) (h : ∀ w, M w → R (.returned v) w) : RE [] (bodyPostM (Gr none) 0 P fn R) .ret n L M := fun a w hf hm => by
  show LeavesInM _ _ _ _ _ _ a.defers _ _
  rw [hf.defers]
  exact ⟨v, by rw [results_tmp hr]; rw [show a.tmps.getD t undef = v from hf.ev (o := .tmp t) hv], h w hm⟩
end
def markD (d : Nat) : List Deferred := [{ target := .collected d, args := #[] }]
def defO : Obj := .deferred (some [])
section
variable {P : Program} {Q : Exit → Act → World → Prop} {n : Nat} {L : FL} {W0 : World} {T : Nat → Prop} {H : List Res}
theorem Hp.putD {w : World} {d : Nat} {o o' : Obj} (h : Hp W0 T (blk d o :: H) w) : Hp W0 T (blk d o' :: H) (w.putObj d o') := by
  have hb : w.heap[d]? = some o := h.all _ mem0
  have hlt := blk_lt hb
  refine h.turn foc0 (r' := blk d o') ⟨rfl, rfl, rfl, by simp, fun k hk hn => World.putObj_heap_other (fun e => hn e)⟩ (World.putObj_heap_same hlt) (fun k hk => .inl hk)
/-- The mark is come to: the block for what the rounds have deferred is shut. -/
theorem RE.mark {fn : Func} {R : Ending → World → Prop} {d : Nat} (h : RE [] (bodyPostM (Gr none) 0 P fn R) .ret n L (Hp W0 T (blk d (.deferred none) :: H))) : RE (markD d) (bodyPostM (Gr none) 0 P fn R) .ret n L (Hp W0 T (blk d defO :: H)) := fun a w hf hm => by
  show LeavesInM _ _ _ _ _ _ a.defers _ _
  rw [hf.defers]
  have hb : w.heap[d]? = some (.deferred (some [])) := hm.all _ mem0
  refine ⟨by simp, .inl ⟨d, _, rfl, run_takeDeferred hb, ?_⟩⟩
  have h2 := h { tmps := a.tmps, defers := [] } _ ⟨rfl, hf.fr⟩ hm.putD
  exact h2
end
/-! ## A range over a function -/
def recO (rc : Loop) (st : LoopState) (pe : Option Code) : Obj := .loop { rc with state := st, pending := pe }
def zipL : List Tmp → List Value → FL → FL
  | p :: ps, v :: vs, L => zipL ps vs ((p, v) :: L)
  | _, _, L => L
theorem zipFr {n : Nat} : ∀ (ps : List Tmp) (vs : List Value) (L : FL) (a : Act), Fr n L a → (ps.all fun p => Nat.blt p n) = true → Fr n (zipL ps vs L) { tmps := (ps.zip vs).foldl (fun t (q : Tmp × Value) => t.setIfInBounds q.1 q.2) a.tmps, defers := [] }
  | [], vs, L, a, h, _ => ⟨rfl, h.size, h.slot⟩
  | p :: ps, [], L, a, h, _ => ⟨rfl, h.size, h.slot⟩
  | p :: ps, v :: vs, L, a, h, hp => by
    simp only [List.all_cons, Bool.and_eq_true] at hp
    exact zipFr ps vs ((p, v) :: L) (a.put (some p) v) (h.put hp.1 v) hp.2
section
variable {P : Program} {Q : Exit → Act → World → Prop} {n : Nat} {L : FL} {W0 : World} {T : Nat → Prop}
theorem RE.begin_ {body : Code} {l : Nat} {rc : Loop} {H : List Res} (h : RC P (some l) [] body Q n L (Hp W0 T (blk l (recO rc .busy none) :: H))) :
    RE [] (Exit.then (fun a w₁ => ∃ w₂, (Instr.beginRound l).run P w₁ = .ok () w₂ ∧ body.wpIn (Gr (some l)) 0 P Q a w₂) (fun _ _ _ => False)) .normal n L (Hp W0 T (blk l (recO rc .ready none) :: H)) := fun a w hf hm =>
  ⟨_, run_beginRound (hm.all _ mem0) rfl, h a _ hf hm.putD⟩
theorem Hp.out1 {w : World} {a b c : Res} {H : List Res} (h : Hp W0 T (a :: b :: c :: H) w) : Hp W0 T (b :: c :: a :: H) w := (Hp.swap h).swap1
end
end Go.Proofs.Ytabjdjkkpbkpfaa.HL
