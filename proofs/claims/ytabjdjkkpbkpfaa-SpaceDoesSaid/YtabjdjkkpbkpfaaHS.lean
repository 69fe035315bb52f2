/- A range over a function that keeps nothing. -/
import Derived.Test.YtabjdjkkpbkpfaaHR
import Derived.RangeFuncFrom
import Derived.RangeFuncCalls
import Derived.RangeFuncLeaves
import Derived.RangeFuncRecord
import Derived.Sort.LoopGhostIn
import Derived.TacticsIn
import Derived.OrdersIn
import Derived.Laws.ResultCell
namespace Go.Proofs.Ytabjdjkkpbkpfaa.HL
open Go Go.RowKit Go.Proofs.Ytabjdjkkpbkpfaa.Ev Go.Proofs.YtabjdjkkpbkpfaaW.PrintWords Go.Proofs.YtabjdjkkpbkpfaaW.PrintLast
set_option linter.unusedVariables false
set_option linter.unusedSimpArgs false
/-! ## A range over a function that keeps nothing, with a round's own state -/
def IterS (P : Program) (gf : FuncId) (la lb : Array Value) (N : Nat) (xs : Nat → List Value) (W0 : World) (T : Nat → Prop) : Prop :=
  ∀ (l : Nat) (τ : Type) (H : Nat → τ → List Res) (X : World → Prop),
    (∀ i, i < N → ∀ s W, Hp W0 T (H i s) W → YieldAt (Gr none) 0 P l (xs i).toArray W fun e w' => ∃ o : Option τ, e = .returned (.bool o.isSome) ∧ (match o with | some s' => Hp W0 T (H (i + 1) s') w' | none => X w')) →
    ∀ s W, Hp W0 T (H 0 s) W → Calls P gf (la ++ #[.func (.yield l) #[] #[]] ++ lb) W fun e w' => (∃ v, e = .returned v) ∧ ((∃ s', Hp W0 T (H N s') w') ∨ X w')
section
variable {P : Program} {Q : Exit → Act → World → Prop} {n : Nat} {L : FL} {W0 : World} {T : Nat → Prop}
def RQS (W0 : World) (T : Nat → Prop) (l d : Nat) (rc : Loop) {τ : Type} (H' : τ → List Res) {σ : Type} (Fx Fb : σ → Prop) (HX : σ → List Res) : Exit → Act → World → Prop
  | .normal, _, w => ∃ s, Hp W0 T (blk l (recO rc .busy none) :: blk d defO :: H' s) w
  | .ret, _, w => ∃ s, Fx s ∧ Hp W0 T (blk l (recO rc .busy none) :: blk d defO :: HX s) w
  | .exit id, _, w => id = 0 ∧ ∃ s, Fb s ∧ Hp W0 T (blk l (recO rc .busy none) :: blk d defO :: HX s) w
  | _, _, _ => False
theorem RE.goesS {l d : Nat} {rc : Loop} {τ : Type} {H' : τ → List Res} {σ : Type} {Fx Fb : σ → Prop} {HX : σ → List Res} {M : World → Prop} (s : τ) (h : ∀ w, M w → Hp W0 T (blk l (recO rc .busy none) :: blk d defO :: H' s) w) : RE [] (RQS W0 T l d rc H' Fx Fb HX) .normal n L M := fun _ w _ hm => ⟨s, h w hm⟩
theorem RE.breakS {l d : Nat} {rc : Loop} {τ : Type} {H' : τ → List Res} {σ : Type} {Fx Fb : σ → Prop} {HX : σ → List Res} {M : World → Prop} (s : σ) (hF : Fb s) (h : ∀ w, M w → Hp W0 T (blk l (recO rc .busy none) :: blk d defO :: HX s) w) : RE [] (RQS W0 T l d rc H' Fx Fb HX) (.exit 0) n L M := fun _ w _ hm => ⟨rfl, s, hF, h w hm⟩
/-- How it was left: by a break, or by a return. -/
theorem RC.rangeS {g : Operand} {ps : Array Tmp} {assign body : Code} {gf : FuncId} {fn : Func} {la lb : Array Value} {N : Nat} {xs : Nat → List Value} {τ : Type} (H : Nat → τ → List Res) {σ : Type} (Fx Fb : σ → Prop) (HX : σ → List Res) (s0 : τ)
    (hg : evO L g = some (.func (.func gf) la lb)) (hf : P.funcs[gf]? = some fn) (hname : (fn.name == "runtime.NumGoroutine") = false) (hb : fn.body.isSome = true) (hit : IterS P gf la lb N xs W0 T) (hps : ∀ i, (xs i).length = ps.size) (hpn : (ps.toList.all fun p => Nat.blt p n) = true)
    {M : World → Prop} (hM : ∀ w, M w → Hp W0 T (H 0 s0) w)
    (round : ∀ i, i < N → ∀ (s : τ) (l d : Nat) (rc : Loop), RC P (some l) [] assign (Exit.then (fun a w₁ => ∃ w₂, (Instr.beginRound l).run P w₁ = .ok () w₂ ∧ body.wpIn (Gr (some l)) 0 P (RQS W0 T l d rc (H (i + 1)) Fx Fb HX) a w₂) (fun _ _ _ => False)) n (zipL ps.toList (xs i) L) (Hp W0 T (blk l (recO rc .ready none) :: blk d defO :: H i s)))
    (done : ∀ d s, RE (markD d) Q .normal n L (Hp W0 T (blk d defO :: H N s)))
    (stop : ∀ d s, Fx s → RC P none (markD d) .ret Q n L (Hp W0 T (blk d defO :: HX s)))
    (brk : ∀ d s, Fb s → RC P none (markD d) (.exit 0) Q n L (Hp W0 T (blk d defO :: HX s))) : RC P none [] (.rangeFunc g ps assign body) Q n L M := fun a w hfr hm0 => by
  have hm := hM w hm0
  refine wpIn_rangeFunc ?_
  intro fn' _
  obtain ⟨rc, hrc⟩ : ∃ rc : Loop, rc = { state := .ready, pending := none, fn := fn', tmps := a.tmps, params := ps, assign, body, defers := w.heap.size } := ⟨_, rfl⟩
  have hrr : recO rc .ready none = .loop rc := by rw [hrc]; rfl
  obtain ⟨l, hl⟩ : ∃ l, w.heap.size + 1 = l := ⟨_, rfl⟩
  obtain ⟨d, hd⟩ : ∃ d, w.heap.size = d := ⟨_, rfl⟩
  have hw1 : Hp W0 T (blk l (recO rc .ready none) :: blk d defO :: H 0 s0) ((w.alloc defO).alloc (.loop rc)) := by
    have h1 := (hm.alloc defO).alloc (.loop rc)
    rw [World.size_alloc, hl, hd] at h1
    rw [hrr]
    exact h1
  have heval : a.eval g = .func (.func gf) la lb := hfr.ev hg
  have henter : (Instr.enterLoop fn' a.tmps ps assign body (Gr none).round).run P w = .ok (l, markD d) ((w.alloc defO).alloc (.loop rc)) := by
    have := run_enterLoop_outer (P := P) (w := w) fn' a.tmps ps assign body
    rw [hl, hd] at this
    rw [hrc]
    rw [hd]
    exact this
  obtain ⟨w1, hw1e⟩ : ∃ w1, (w.alloc defO).alloc (.loop rc) = w1 := ⟨_, rfl⟩
  rw [hw1e] at hw1 henter
  refine ⟨l, markD d, w1, { target := .fn (.func gf) lb, args := la ++ #[.func (.yield l) #[] #[]] }, w1, gf, la ++ #[.func (.yield l) #[] #[]] ++ lb, w1, henter, ?_, fun _ _ => trivial, ?_, fun h => by simp [Gr] at h, ?_⟩
  · simp only [resolve, heval]
    simp [go_sem]
  · have he := enters_ hf hname hb (la ++ #[.func (.yield l) #[] #[]] ++ lb) w1
    simp only [invoke]
    exact he
  · refine (callsR (hit l τ (fun i s => blk l (recO rc .ready none) :: blk d defO :: H i s) (fun w' => ∃ (pe : Option Code) (s : σ), (pe = some .ret ∧ Fx s ∨ pe = some (.exit 0) ∧ Fb s) ∧ Hp W0 T (blk l (recO rc .done pe) :: blk d defO :: HX s) w') ?_ s0 _ hw1)).mono ?_
    · intro i hi s W hW
      have hrec : W.heap[l]? = some (.loop rc) := by rw [← hrr]; exact hW.all _ mem0
      have hy := run_yield (P := P) (args := (xs i).toArray) hrec (by rw [hrc]; simpa using hps i)
      refine ⟨_, _, _, _, hy, roundIn_of_wpIn trivial ?_⟩
      have hfr2 : FrR [] n (zipL ps.toList (xs i) L) { tmps := (rc.params.zip (xs i).toArray).foldl (fun tmps (t, a) => tmps.setIfInBounds t a) rc.tmps, defers := [] } := by
        have h3 := (zipFr ps.toList (xs i) L (bare a) hfr.fr hpn).toR
        rw [hrc]
        have e : ((ps.zip (xs i).toArray).foldl (fun tmps (x : Tmp × Value) => match x with | (t, a) => tmps.setIfInBounds t a) a.tmps) = (ps.toList.zip (xs i)).foldl (fun t (q : Tmp × Value) => t.setIfInBounds q.1 q.2) a.tmps := by
          rw [← Array.foldl_toList, Array.toList_zip]
        show FrR [] n _ { tmps := (ps.zip (xs i).toArray).foldl _ a.tmps, defers := [] }
        rw [e]
        exact h3
      have hr := round i hi s l d rc _ W hfr2 hW
      have e1 : rc.assign = assign := by rw [hrc]
      have e2 : rc.body = body := by rw [hrc]
      rw [e1, e2]
      refine wpIn_mono hr ?_
      intro e a1 w1 hq
      cases e with
      | normal =>
        obtain ⟨w2, hb2, hbody⟩ := hq
        refine ⟨w2, hb2, wpIn_mono hbody ?_⟩
        intro e a3 w3 hp
        cases e with
        | normal =>
          obtain ⟨s', h4⟩ : ∃ s', Hp W0 T (blk l (recO rc .busy none) :: blk d defO :: H (i + 1) s') w3 := hp
          exact ⟨_, _, run_endRound none (h4.all _ mem0), some s', rfl, h4.putD⟩
        | ret =>
          obtain ⟨s, hs, h4⟩ := hp
          exact ⟨_, _, run_endRound (some .ret) (h4.all _ mem0), none, rfl, _, s, .inl ⟨rfl, hs⟩, h4.putD⟩
        | exit id =>
          obtain ⟨rfl, s, hs, h4⟩ := hp
          exact ⟨_, _, run_endRound (some (.exit 0)) (h4.all _ mem0), none, rfl, _, s, .inr ⟨rfl, hs⟩, h4.putD⟩
        | goto t => exact hp.elim
        | panic ch => exact hp.elim
        | outgrown => exact hp.elim
      | ret => exact hq
      | exit id => exact hq
      | goto t => exact hq
      | panic ch => exact hq
      | outgrown => exact hq
    · rintro e w2 ⟨⟨v, rfl⟩, ⟨s, h5⟩ | ⟨pe, s, hpe, h4⟩⟩
      · have hrec : w2.heap[l]? = some (.loop rc) := by rw [← hrr]; exact h5.all _ mem0
        refine ⟨none, _, ?_, done d s _ _ ⟨?_, hfr.fr⟩ ((Hp.putD (o' := .loop { rc with state := .exhausted, pending := none }) h5).sub (List.sublist_cons_self _ _))⟩
        · have := run_endLoop (P := P) hrec (by rw [hrc]; simp)
          rw [show rc.pending = none by rw [hrc]] at this
          exact this
        · show markD d ++ a.defers = markD d
          rw [hfr.defers]; rfl
      · have hrec : w2.heap[l]? = some (recO rc .done pe) := h4.all _ mem0
        rcases hpe with ⟨rfl, hs⟩ | ⟨rfl, hs⟩
        · refine ⟨some .ret, _, run_endLoop (P := P) hrec (by simp), stop d s hs _ _ ⟨?_, hfr.fr⟩ ((Hp.putD h4).sub (List.sublist_cons_self _ _))⟩
          show markD d ++ a.defers = markD d
          rw [hfr.defers]; rfl
        · refine ⟨some (.exit 0), _, run_endLoop (P := P) hrec (by simp), brk d s hs _ _ ⟨?_, hfr.fr⟩ ((Hp.putD h4).sub (List.sublist_cons_self _ _))⟩
          show markD d ++ a.defers = markD d
          rw [hfr.defers]; rfl
end
end Go.Proofs.Ytabjdjkkpbkpfaa.HL
