/- A walk through an operation after another one, by lists of what is known: of the frame, and of the memory. -/
import Derived.Test.YtabjdjkkpbkpfaaWWords
import Derived.Test.YtabjdjkkpbkpfaaWLast
import Derived.Test.YtabjdjkkpbkpfaaEv
import Derived.WalkKit
import Derived.RowKit3
import Derived.Deep.LoopGhost
import Derived.Maps.AppendAt
namespace Go.Proofs.Ytabjdjkkpbkpfaa.HL
open Go Go.RowKit Go.Proofs.Ytabjdjkkpbkpfaa.Ev Go.Proofs.YtabjdjkkpbkpfaaW.PrintWords Go.Proofs.YtabjdjkkpbkpfaaW.PrintLast
set_option linter.unusedVariables false
set_option linter.unusedSimpArgs false
/-! ## A frame, as a list of what is known of its slots -/
abbrev FL := List (Nat × Value)
def look : FL → Nat → Option Value
  | [], _ => none
  | (k, v) :: l, j => bif Nat.beq k j then some v else look l j
structure Fr (n : Nat) (L : FL) (a : Act) : Prop where
  defers : a.defers = []
  size : a.tmps.size = n
  slot : ∀ i v, look L i = some v → a.tmps[i]? = some v
/-- What an operand is. -/
def evO (L : FL) : Operand → Option Value
  | .tmp t => look L t
  | .const v => some v
  | .global g => some (.pointer (some ⟨g, 0, none⟩))
  | .func f => some (.func (.func f) #[] #[])
def evs (L : FL) : List Operand → Option (List Value)
  | [] => some []
  | o :: l => match evO L o with
    | none => none
    | some v => match evs L l with
      | none => none
      | some vs => some (v :: vs)
section
variable {n : Nat} {L : FL} {a : Act}
theorem Fr.put (h : Fr n L a) {i : Nat} (hi : Nat.blt i n = true) (v : Value) : Fr n ((i, v) :: L) (a.put (some i) v) := by
  have hi' : i < n := by simpa using hi
  refine ⟨h.defers, by simp [Act.put, h.size], fun j u hj => ?_⟩
  simp only [look] at hj
  show (a.tmps.setIfInBounds i v)[j]? = some u
  cases e : Nat.beq i j
  · rw [e] at hj
    have hne : i ≠ j := by intro he; subst he; simp at e
    rw [Array.getElem?_setIfInBounds_ne hne]
    exact h.slot j u hj
  · rw [e] at hj
    obtain rfl : i = j := Nat.eq_of_beq_eq_true e
    simp only [cond_true, Option.some.injEq] at hj
    subst hj
    rw [Array.getElem?_setIfInBounds_self_of_lt (by rw [h.size]; exact hi')]
theorem Fr.re (h : Fr n L a) {i : Nat} {v v' : Value} (hl : look L i = some v) (e : v = v') : Fr n ((i, v') :: L) a := by
  subst e
  refine ⟨h.defers, h.size, fun j u hj => ?_⟩
  simp only [look] at hj
  cases e : Nat.beq i j
  · rw [e] at hj; exact h.slot j u hj
  · rw [e] at hj
    obtain rfl : i = j := Nat.eq_of_beq_eq_true e
    exact h.slot i u (hl.trans (by simpa using hj))
theorem Fr.ev (h : Fr n L a) {o : Operand} {v : Value} (hv : evO L o = some v) : a.eval o = v := by
  cases o with
  | tmp t =>
    have := h.slot t v hv
    simp only [Act.eval, Array.getD_eq_getD_getElem?, this, Option.getD_some]
  | const u => exact Option.some.inj hv
  | global g => exact Option.some.inj hv
  | func f => exact Option.some.inj hv
theorem Fr.evl (h : Fr n L a) : ∀ {l : List Operand} {vs : List Value}, evs L l = some vs → l.map a.eval = vs
  | [], vs, hv => by simp [evs] at hv; simp [hv]
  | o :: l, vs, hv => by
    unfold evs at hv
    cases e : evO L o with
    | none => rw [e] at hv; cases hv
    | some v =>
      rw [e] at hv
      cases e2 : evs L l with
      | none => rw [e2] at hv; cases hv
      | some us =>
        rw [e2] at hv
        obtain rfl := Option.some.inj hv
        rw [List.map_cons, h.ev e, h.evl e2]
/-- Whether an operation is wanted. -/
def wantL (ops : Array Oper) (L : FL) (o : Oper) : Option Bool :=
  match o.guard with
  | none => some true
  | some (j, b) => match (ops[j]?).bind (·.dst) with
    | none => none
    | some t => match look L t with
      | some (.bool c) => some (c == b)
      | some (.tuple _) => some false
      | _ => none
theorem Fr.want (h : Fr n L a) {ops : Array Oper} {o : Oper} {b : Bool} (hw : wantL ops L o = some b) : Region.wanted o (yielded ops a.tmps) = b := by
  unfold wantL at hw
  unfold Region.wanted
  cases hg : o.guard with
  | none => rw [hg] at hw; simpa using hw
  | some p =>
    obtain ⟨j, want⟩ := p
    rw [hg] at hw
    simp only at hw ⊢
    unfold yielded
    cases hd : (ops[j]?).bind (·.dst) with
    | none => rw [hd] at hw; cases hw
    | some t =>
      rw [hd] at hw
      simp only at hw
      cases hl : look L t with
      | none => rw [hl] at hw; cases hw
      | some v =>
        rw [hl] at hw
        have := h.slot t _ hl
        cases v <;> simp only [reduceCtorEq, Option.some.injEq] at hw
        · rename_i c
          simp only [Option.bind_some, this]
          subst hw
          cases c <;> cases want <;> rfl
        · simp only [Option.bind_some, this]
          subst hw
          cases want <;> rfl
/-- A list of slots out of another one. -/
def Sub : FL → FL → Prop
  | [], _ => True
  | (k, x) :: l, L => look L k = some x ∧ Sub l L
theorem Fr.sub (h : Fr n L a) : ∀ {L' : FL}, Sub L' L → Fr n L' a
  | [], _ => ⟨h.defers, h.size, fun i v hv => by cases hv⟩
  | (k, x) :: l, hs => by
    refine ⟨h.defers, h.size, fun i v hv => ?_⟩
    simp only [look] at hv
    cases e : Nat.beq k i
    · rw [e] at hv; exact (h.sub hs.2).slot i v hv
    · rw [e] at hv
      obtain rfl : k = i := Nat.eq_of_beq_eq_true e
      simp only [cond_true, Option.some.injEq] at hv
      subst hv
      exact h.slot _ _ hs.1
/-- The frame at the head of a function. -/
def argL : Nat → List Value → FL
  | _, [] => []
  | i, v :: vs => (i, v) :: argL (i + 1) vs
theorem argL_at : ∀ (vs : List Value) (i j : Nat) (v : Value), look (argL i vs) j = some v → i ≤ j ∧ vs[j - i]? = some v
  | [], _, _, _, h => by cases h
  | u :: vs, i, j, v, h => by
    simp only [argL, look] at h
    cases e : Nat.beq i j
    · rw [e] at h
      have hne : i ≠ j := by intro he; subst he; simp at e
      obtain ⟨h1, h2⟩ := argL_at vs (i + 1) j v h
      refine ⟨by omega, ?_⟩
      have : j - i = (j - (i + 1)) + 1 := by omega
      rw [this]; exact h2
    · rw [e] at h
      obtain rfl : i = j := Nat.eq_of_beq_eq_true e
      refine ⟨Nat.le_refl _, ?_⟩
      simpa using h
theorem Fr.enter (n : Nat) (vs : List Value) (hn : Nat.ble vs.length n = true) : Fr n (argL 0 vs) { tmps := vs.toArray ++ Array.replicate (n - vs.toArray.size) undef, defers := [] } := by
  have hn' : vs.length ≤ n := by simpa using hn
  refine ⟨rfl, by simp; omega, fun i v hv => ?_⟩
  obtain ⟨_, h2⟩ := argL_at vs 0 i v hv
  rw [Nat.sub_zero] at h2
  have hlt : i < vs.length := (List.getElem?_eq_some_iff.1 h2).1
  show (vs.toArray ++ _)[i]? = some v
  rw [Array.getElem?_append_left (by simpa using hlt)]
  simpa using h2
end
/-! ## What is known of the memory: things apart from each other, each on its own blocks -/
structure Res where
  foot : Nat → Prop
  holds : World → Prop
  keep : ∀ {w w' : World}, (∀ k, foot k → w'.heap[k]? = w.heap[k]?) → holds w → holds w'
  lt : ∀ {w : World}, holds w → ∀ k, foot k → k < w.heap.size
/-- One block. -/
def blk (b : Nat) (o : Obj) : Res := ⟨(· = b), fun w => w.heap[b]? = some o, fun h hw => (h b rfl).trans hw, fun hw k hk => hk ▸ blk_lt hw⟩
def Apart (r s : Res) : Prop := ∀ k, r.foot k → ¬ s.foot k
/-- W0: the world at the head; T: what of it may change; H: what lies where. -/
structure Hp (W0 : World) (T : Nat → Prop) (H : List Res) (w : World) : Prop where
  chg : Chg W0 w T
  all : ∀ r ∈ H, r.holds w
  apart : H.Pairwise Apart
  own : ∀ r ∈ H, ∀ k, r.foot k → T k ∨ W0.heap.size ≤ k
/-- One of the list, turned. -/
inductive Foc : List Res → Res → List Res → Res → Prop
  | here (r r' : Res) (H : List Res) : Foc (r :: H) r (r' :: H) r'
  | there (x : Res) {H H' : List Res} {r r' : Res} : Foc H r H' r' → Foc (x :: H) r (x :: H') r'
theorem foc0 {r r' : Res} {H : List Res} : Foc (r :: H) r (r' :: H) r' := .here _ _ _
theorem foc1 {a r r' : Res} {H : List Res} : Foc (a :: r :: H) r (a :: r' :: H) r' := .there _ foc0
theorem foc2 {a b r r' : Res} {H : List Res} : Foc (a :: b :: r :: H) r (a :: b :: r' :: H) r' := .there _ foc1
theorem foc3 {a b c r r' : Res} {H : List Res} : Foc (a :: b :: c :: r :: H) r (a :: b :: c :: r' :: H) r' := .there _ foc2
theorem foc4 {a b c d r r' : Res} {H : List Res} : Foc (a :: b :: c :: d :: r :: H) r (a :: b :: c :: d :: r' :: H) r' := .there _ foc3
theorem mem0 {r : Res} {H : List Res} : r ∈ r :: H := List.mem_cons_self
theorem mem1 {a r : Res} {H : List Res} : r ∈ a :: r :: H := List.mem_cons_of_mem _ mem0
theorem mem2 {a b r : Res} {H : List Res} : r ∈ a :: b :: r :: H := List.mem_cons_of_mem _ mem1
theorem mem3 {a b c r : Res} {H : List Res} : r ∈ a :: b :: c :: r :: H := List.mem_cons_of_mem _ mem2
theorem mem4 {a b c d r : Res} {H : List Res} : r ∈ a :: b :: c :: d :: r :: H := List.mem_cons_of_mem _ mem3
theorem mem5 {a b c d e r : Res} {H : List Res} : r ∈ a :: b :: c :: d :: e :: r :: H := List.mem_cons_of_mem _ mem4
theorem Foc.mem {H H' : List Res} {r r' : Res} (h : Foc H r H' r') : r ∈ H := by
  induction h with
  | here => exact List.mem_cons_self
  | there x _ ih => exact List.mem_cons_of_mem _ ih
theorem Foc.mem' {H H' : List Res} {r r' : Res} (h : Foc H r H' r') : ∀ s ∈ H', s = r' ∨ s ∈ H := by
  induction h with
  | here r r' H => intro s hs; rcases List.mem_cons.1 hs with h | h; exact .inl h; exact .inr (List.mem_cons_of_mem _ h)
  | there x _ ih =>
    intro s hs
    rcases List.mem_cons.1 hs with h | h
    · exact .inr (h ▸ List.mem_cons_self)
    · rcases ih s h with h | h
      · exact .inl h
      · exact .inr (List.mem_cons_of_mem _ h)
/-- All others keep apart from what r' is on, where r' is on no more than r and on blocks that are new. -/
theorem Foc.turn {H H' : List Res} {r r' : Res} (h : Foc H r H' r') (hp : H.Pairwise Apart) (P : Res → Prop) (hall : ∀ s ∈ H, P s) (hsym : ∀ s, Apart r s → P s → Apart r' s) (hsym' : ∀ s, Apart s r → P s → Apart s r') : H'.Pairwise Apart := by
  induction h with
  | here r r' H =>
    obtain ⟨h1, h2⟩ := List.pairwise_cons.1 hp
    exact List.pairwise_cons.2 ⟨fun s hs => hsym s (h1 s hs) (hall s (List.mem_cons_of_mem _ hs)), h2⟩
  | there x hf ih =>
    obtain ⟨h1, h2⟩ := List.pairwise_cons.1 hp
    refine List.pairwise_cons.2 ⟨fun s hs => ?_, ih h2 (fun s hs => hall s (List.mem_cons_of_mem _ hs)) hsym hsym'⟩
    rcases hf.mem' s hs with rfl | hs
    · exact hsym' x (h1 _ hf.mem) (hall x List.mem_cons_self)
    · exact h1 s hs
/-- The others of the list. -/
theorem Foc.other {H H' : List Res} {r r' : Res} (h : Foc H r H' r') (hp : H.Pairwise Apart) : ∀ s ∈ H', s = r' ∨ (s ∈ H ∧ (Apart r s ∨ Apart s r)) := by
  induction h with
  | here r r' H =>
    obtain ⟨h1, _⟩ := List.pairwise_cons.1 hp
    intro s hs
    rcases List.mem_cons.1 hs with h | h
    · exact .inl h
    · exact .inr ⟨List.mem_cons_of_mem _ h, .inl (h1 s h)⟩
  | there x hf ih =>
    obtain ⟨h1, h2⟩ := List.pairwise_cons.1 hp
    intro s hs
    rcases List.mem_cons.1 hs with h | h
    · exact .inr ⟨h ▸ List.mem_cons_self, .inr (h ▸ h1 _ hf.mem)⟩
    · rcases ih h2 s h with h | ⟨h, h'⟩
      · exact .inl h
      · exact .inr ⟨List.mem_cons_of_mem _ h, h'⟩
section
variable {W0 w w' : World} {T : Nat → Prop} {H H' : List Res} {r r' : Res}
theorem Hp.start {W0 : World} : Hp W0 T [] W0 := ⟨Chg.refl _ _, by simp, List.Pairwise.nil, by simp⟩
/-- One thing has turned, and may have grown by blocks that are new. -/
theorem Hp.turn (h : Hp W0 T H w) (hf : Foc H r H' r') (hc : Chg w w' r.foot) (hr : r'.holds w') (hn : ∀ k, r'.foot k → r.foot k ∨ w.heap.size ≤ k) : Hp W0 T H' w' := by
  have hapart : H'.Pairwise Apart := by
    refine hf.turn h.apart (fun s => ∀ k, s.foot k → k < w.heap.size) (fun s hs => s.lt (h.all s hs)) ?_ ?_
    · intro s hs hl k hk hk'
      rcases hn k hk with h1 | h1
      · exact hs k h1 hk'
      · exact absurd (hl k hk') (by omega)
    · intro s hs hl k hk hk'
      rcases hn k hk' with h1 | h1
      · exact hs k hk h1
      · exact absurd (hl k hk) (by omega)
  refine ⟨⟨hc.os.trans h.chg.os, hc.tape.trans h.chg.tape, hc.output.trans h.chg.output, Nat.le_trans h.chg.size hc.size, fun k hk hT => ?_⟩, ?_, hapart, ?_⟩
  · refine (hc.block k (Nat.lt_of_lt_of_le hk h.chg.size) (fun hfk => ?_)).trans (h.chg.block k hk hT)
    rcases h.own r hf.mem k hfk with h1 | h1
    · exact hT h1
    · omega
  · intro s hs
    rcases hf.other h.apart s hs with rfl | ⟨hm, ha⟩
    · exact hr
    · have hl := s.lt (h.all s hm)
      refine s.keep (fun k hk => hc.block k (hl k hk) (fun hrk => ?_)) (h.all s hm)
      rcases ha with ha | ha
      · exact ha k hrk hk
      · exact ha k hk hrk
  · intro s hs k hk
    rcases hf.mem' s hs with rfl | hm
    · rcases hn k hk with h1 | h1
      · exact h.own r hf.mem k h1
      · exact .inr (Nat.le_trans h.chg.size h1)
    · exact h.own s hm k hk
/-- Nothing that was has turned. -/
theorem Hp.pass (h : Hp W0 T H w) (hc : Below w.heap.size w w') : Hp W0 T H w' := by
  refine ⟨Chg.trans h.chg (Chg.of_below hc), fun s hs => ?_, h.apart, h.own⟩
  have hl := s.lt (h.all s hs)
  exact s.keep (fun k hk => hc.block k (hl k hk)) (h.all s hs)
theorem Hp.drew (h : Hp W0 T H w) : Hp W0 T H w.drew := h.pass (Below.drew (Below.refl _ _))
/-- Something new, on blocks that are new. -/
theorem Hp.new (h : Hp W0 T H w) (hc : Below w.heap.size w w') (hr : r.holds w') (hn : ∀ k, r.foot k → w.heap.size ≤ k) : Hp W0 T (r :: H) w' := by
  have h2 := h.pass hc
  refine ⟨h2.chg, fun s hs => ?_, List.pairwise_cons.2 ⟨fun s hs k hk hk' => ?_, h.apart⟩, fun s hs k hk => ?_⟩
  · rcases List.mem_cons.1 hs with rfl | hs
    · exact hr
    · exact h2.all s hs
  · exact absurd (s.lt (h.all s hs) k hk') (by have := hn k hk; omega)
  · rcases List.mem_cons.1 hs with rfl | hs
    · exact .inr (Nat.le_trans h.chg.size (hn k hk))
    · exact h.own s hs k hk
/-- Some of the list. -/
theorem Hp.sub (h : Hp W0 T H w) (hs : H'.Sublist H) : Hp W0 T H' w := ⟨h.chg, fun r hr => h.all r (hs.subset hr), h.apart.sublist hs, fun r hr => h.own r (hs.subset hr)⟩
end
/-! ## Steps -/
section
variable {P : Program} {ops : Array Oper} {Q : Exit → Act → World → Prop} {n : Nat} {L : FL} {M : World → Prop}
def TL (P : Program) (ops : Array Oper) (Q : Exit → Act → World → Prop) (rest : List Oper) (n : Nat) (L : FL) (M : World → Prop) : Prop := ∀ a w, Fr n L a → M w → wpList P ops Q rest a w
def TC (P : Program) (c : Code) (Q : Exit → Act → World → Prop) (n : Nat) (L : FL) (M : World → Prop) : Prop := ∀ a w, Fr n L a → M w → c.wp P Q a w
def TE (Q : Exit → Act → World → Prop) (e : Exit) (n : Nat) (L : FL) (M : World → Prop) : Prop := ∀ a w, Fr n L a → M w → Q e a w
def TA (P : Program) (ops : Array Oper) (Q : Exit → Act → World → Prop) (S : World → Prop) (ds : List Nat) (fuel : Nat) (l : Array Bool) (n : Nat) (L : FL) (M : World → Prop) : Prop := ∀ a w, Fr n L a → M w → wpAnyLast P .any ops Q S ds fuel l a w
/-- The operation yields v. -/
def Yl (P : Program) (o : Oper) (n : Nat) (L : FL) (M : World → Prop) (v : Value) : Prop := ∀ a w, Fr n L a → M w → (execOp a.eval o).run P w = .ok (.value v) w
/-- The operation yields a value and makes or turns memory. -/
def Ym (P : Program) (o : Oper) (n : Nat) (L : FL) (M : World → Prop) (v : Value) (M' : World → Prop) : Prop := ∀ a w, Fr n L a → M w → ∃ w', (execOp a.eval o).run P w = .ok (.value v) w' ∧ M' w'
/-- The operation turns memory. -/
def Ys (P : Program) (o : Oper) (n : Nat) (L : FL) (M M' : World → Prop) : Prop := ∀ a w, Fr n L a → M w → ∃ w', (execOp a.eval o).run P w = .ok .skip w' ∧ M' w'
/-- The operation calls. -/
def Yc (P : Program) (o : Oper) (n : Nat) (L : FL) (M : World → Prop) {σ : Type} (v : σ → Value) (M' : σ → World → Prop) : Prop :=
  ∀ a w, Fr n L a → M w → ∃ f args, (execOp a.eval o).run P w = .ok (.enter f args) w ∧ Calls P f args w fun e w' => ∃ s, e = .returned (v s) ∧ M' s w'
theorem TC.seq {x y : Code} (h : TC P x (Exit.then (y.wp P Q) Q) n L M) : TC P (.seq x y) Q n L M := fun a w hf hm => wp_seq (h a w hf hm)
theorem TC.skip (h : TE Q .normal n L M) : TC P .skip Q n L M := fun a w hf hm => wp_skip (h a w hf hm)
theorem TC.ret (h : TE Q .ret n L M) : TC P .ret Q n L M := fun a w hf hm => wp_ret (h a w hf hm)
theorem TC.exit {id : Nat} (h : TE Q (.exit id) n L M) : TC P (.exit id) Q n L M := fun a w hf hm => wp_exit (h a w hf hm)
theorem TC.block {id : Nat} {c : Code} (h : TC P c (Exit.inBlock id Q) n L M) : TC P (.block id c) Q n L M := fun a w hf hm => wp_block (h a w hf hm)
theorem TC.cond {c : Operand} {x y : Code} {t : Bool} (hc : evO L c = some (.bool t)) (hx : t = true → TC P x Q n L M) (hy : t = false → TC P y Q n L M) : TC P (.cond c x y) Q n L M := fun a w hf hm =>
  wp_cond_split (hf.ev hc) (fun h => hx h a w hf hm) (fun h => hy h a w hf hm)
theorem TC.yes {c : Operand} {x y : Code} {t : Bool} (hc : evO L c = some (.bool t)) (ht : t = true) (hx : TC P x Q n L M) : TC P (.cond c x y) Q n L M := fun a w hf hm =>
  wp_cond_true (by rw [hf.ev hc, ht]) (hx a w hf hm)
theorem TC.no {c : Operand} {x y : Code} {t : Bool} (hc : evO L c = some (.bool t)) (ht : t = false) (hy : TC P y Q n L M) : TC P (.cond c x y) Q n L M := fun a w hf hm =>
  wp_cond_false (by rw [hf.ev hc, ht]) (hy a w hf hm)
theorem TC.region {id : Nat} (h : TL P ops Q ops.toList n L M) : TC P (.region id ops false) Q n L M := fun a w hf hm => wp_region_list (h a w hf hm)
theorem TL.nil (h : TE Q .normal n L M) : TL P ops Q [] n L M := fun a w hf hm => wpList_nil (h a w hf hm)
theorem TE.next {c : Code} (h : TC P c Q n L M) : TE (Exit.then (c.wp P Q) Q) .normal n L M := h
theorem TE.thenRet {K : Act → World → Prop} (h : TE Q .ret n L M) : TE (Exit.then K Q) .ret n L M := h
theorem TE.thenExit {K : Act → World → Prop} {i : Nat} (h : TE Q (.exit i) n L M) : TE (Exit.then K Q) (.exit i) n L M := h
theorem TE.inRet {id : Nat} (h : TE Q .ret n L M) : TE (Exit.inBlock id Q) .ret n L M := h
theorem TE.inNormal {id : Nat} (h : TE Q .normal n L M) : TE (Exit.inBlock id Q) .normal n L M := h
theorem TE.inHere {id : Nat} (h : TE Q .normal n L M) : TE (Exit.inBlock id Q) (.exit id) n L M := fun a w hf hm => by
  show (if id = id then _ else _)
  rw [if_pos rfl]; exact h a w hf hm
theorem TC.re {c : Code} {i : Nat} {v v' : Value} (hl : look L i = some v) (e : v = v') (h : TC P c Q n ((i, v') :: L) M) : TC P c Q n L M := fun a w hf hm => h a w (hf.re hl e) hm
theorem TL.re {rest : List Oper} {i : Nat} {v v' : Value} (hl : look L i = some v) (e : v = v') (h : TL P ops Q rest n ((i, v') :: L) M) : TL P ops Q rest n L M := fun a w hf hm => h a w (hf.re hl e) hm
theorem TA.re {S : World → Prop} {ds : List Nat} {fuel : Nat} {l : Array Bool} {i : Nat} {v v' : Value} (hl : look L i = some v) (e : v = v') (h : TA P ops Q S ds fuel l n ((i, v') :: L) M) : TA P ops Q S ds fuel l n L M := fun a w hf hm => h a w (hf.re hl e) hm
/-- A bool is one of two. -/
theorem TL.split {rest : List Oper} {i : Nat} {b : Bool} (hl : look L i = some (.bool b)) (ht : b = true → TL P ops Q rest n ((i, .bool true) :: L) M) (hf : b = false → TL P ops Q rest n ((i, .bool false) :: L) M) : TL P ops Q rest n L M := by
  cases b
  · exact TL.re hl rfl (hf rfl)
  · exact TL.re hl rfl (ht rfl)
theorem TA.split {S : World → Prop} {ds : List Nat} {fuel : Nat} {l : Array Bool} {i : Nat} {b : Bool} (hl : look L i = some (.bool b)) (ht : b = true → TA P ops Q S ds fuel l n ((i, .bool true) :: L) M) (hf : b = false → TA P ops Q S ds fuel l n ((i, .bool false) :: L) M) : TA P ops Q S ds fuel l n L M := by
  cases b
  · exact TA.re hl rfl (hf rfl)
  · exact TA.re hl rfl (ht rfl)
/-! ### One operation, in order -/
section
variable {rest : List Oper} {o : Oper}
theorem wpList_want {a : Act} {w : World} (hw : Region.wanted o (yielded ops a.tmps) = true) (h : o.wp P a w (wpList P ops Q rest) Q) : wpList P ops Q (o :: rest) a w := by
  unfold wpList; rw [if_pos hw]; exact .inl h
theorem TL.y {d : Nat} {v : Value} (hd : o.dst = some d) (hi : Nat.blt d n = true) (hw : wantL ops L o = some true) (hy : Yl P o n L M v) (k : TL P ops Q rest n ((d, v) :: L) M) : TL P ops Q (o :: rest) n L M := fun a w hf hm => by
  refine wpList_want (hf.want hw) ?_
  unfold Oper.wp
  rw [hy a w hf hm, Oper.upon_value, hd]
  exact k _ _ (hf.put hi v) hm
theorem TL.skip {d : Nat} (hd : o.dst = some d) (hi : Nat.blt d n = true) (hw : wantL ops L o = some false) (k : TL P ops Q rest n ((d, undef) :: L) M) : TL P ops Q (o :: rest) n L M := fun a w hf hm => by
  have h := hf.want hw
  unfold wpList
  rw [if_neg (by rw [h]; decide), hd]
  exact k _ _ (hf.put hi _) hm
/-- With what is not known beforehand. -/
theorem TL.mx {σ : Type} {d : Nat} {v : σ → Value} {M' : σ → World → Prop} (hd : o.dst = some d) (hi : Nat.blt d n = true) (hw : wantL ops L o = some true) (hy : ∀ a w, Fr n L a → M w → ∃ s w', (execOp a.eval o).run P w = .ok (.value (v s)) w' ∧ M' s w') (k : ∀ s, TL P ops Q rest n ((d, v s) :: L) (M' s)) : TL P ops Q (o :: rest) n L M := fun a w hf hm => by
  refine wpList_want (hf.want hw) ?_
  obtain ⟨s, w', h1, h2⟩ := hy a w hf hm
  unfold Oper.wp
  rw [h1, Oper.upon_value, hd]
  exact k s _ _ (hf.put hi _) h2
theorem TL.s {M' : World → Prop} (hd : o.dst = none) (hw : wantL ops L o = some true) (hy : Ys P o n L M M') (k : TL P ops Q rest n L M') : TL P ops Q (o :: rest) n L M := fun a w hf hm => by
  refine wpList_want (hf.want hw) ?_
  obtain ⟨w', h1, h2⟩ := hy a w hf hm
  unfold Oper.wp
  rw [h1, Oper.upon_skip, hd]
  exact k _ _ hf h2
theorem TL.c {σ : Type} {d : Nat} {v : σ → Value} {M' : σ → World → Prop} (hd : o.dst = some d) (hi : Nat.blt d n = true) (hw : wantL ops L o = some true) (hy : Yc P o n L M v M') (k : ∀ s, TL P ops Q rest n ((d, v s) :: L) (M' s)) : TL P ops Q (o :: rest) n L M := fun a w hf hm => by
  refine wpList_want (hf.want hw) ?_
  obtain ⟨f, args, h1, h2⟩ := hy a w hf hm
  unfold Oper.wp
  rw [h1, Oper.upon_enter]
  refine h2.mono fun e w' hh => ?_
  obtain ⟨s, rfl, hm'⟩ := hh
  show wpList P ops Q rest (a.put o.dst (v s)) w'
  rw [hd]
  exact k s _ _ (hf.put hi _) hm'
end
/-! ### One operation of a region that draws its order -/
section
variable {S : World → Prop} {ds : List Nat} {fuel : Nat} {l : Array Bool} {o : Oper} {i : Nat}
theorem TC.draw {id k : Nat} (S : World → Prop) (ds : List Nat) (l : Array Bool) (hm : P.follows .mixedOrders = true) (hn : ops.size = k) (hl : Array.replicate k false = l) (hd : ∀ w, M w → M w.drew) (hS : ∀ w, M w → S w)
    (h : TA P ops Q S ds k l n L M) : TC P (.region id ops true) Q n L M := fun a w hf hw => start_ (S := S) (ds := ds) l hm hn hl (hS _ (hd w hw)) (fun _ => h a _ hf (hd w hw))
/-- A reading, at its place. -/
theorem TA.y {d : Nat} {v : Value} (l' : Array Bool) (hi : ops[i]? = some o) (hd : o.dst = some d) (hlt : Nat.blt d n = true) (hc : takeB .any ops ds l l' i = true) (hQ : ∀ c a w, Q (.panic c) (a.put o.dst v) w → Q (.panic c) a w) (hS : ∀ w, M w → S w)
    (hw : wantL ops L o = some true) (hy : Yl P o n L S v) (k : TA P ops Q S ds fuel l' n ((d, v) :: L) M) : TA P ops Q S ds (fuel + 1) l n L M := fun a w hf hm =>
  take_ l' hi hd hc hQ (.inl ⟨hf.want hw, fun w' h => hy a w' hf h⟩) (hS w hm) rfl (k _ _ (hf.put hlt v) hm)
/-- A number, an address: at any place. -/
theorem TA.p {d : Nat} {v : Value} (l' : Array Bool) (hi : ops[i]? = some o) (hd : o.dst = some d) (hlt : Nat.blt d n = true) (hc : anyB .any ops l l' i = true) (hQ : ∀ c a w, Q (.panic c) (a.put o.dst v) w → Q (.panic c) a w)
    (hw : wantL ops L o = some true) (hy : Yl P o n L (fun _ => True) v) (k : TA P ops Q S ds fuel l' n ((d, v) :: L) M) : TA P ops Q S ds (fuel + 1) l n L M := fun a w hf hm =>
  pure_ l' hi hd hc hQ (.inl ⟨hf.want hw, fun w' => hy a w' hf trivial⟩) rfl (k _ _ (hf.put hlt v) hm)
/-- Not wanted. -/
theorem TA.skip {d : Nat} (l' : Array Bool) (hi : ops[i]? = some o) (hd : o.dst = some d) (hlt : Nat.blt d n = true) (hc : anyB .any ops l l' i = true) (hQ : ∀ c a w, Q (.panic c) (a.put o.dst undef) w → Q (.panic c) a w)
    (hw : wantL ops L o = some false) (k : TA P ops Q S ds fuel l' n ((d, undef) :: L) M) : TA P ops Q S ds (fuel + 1) l n L M := fun a w hf hm =>
  pure_ l' hi hd hc hQ (.inr ⟨hf.want hw, rfl⟩) rfl (k _ _ (hf.put hlt _) hm)
/-- The one that may come up now: a call, a store, something new. -/
theorem TA.c {σ : Type} {d : Nat} {v : σ → Value} {M' : σ → World → Prop} (l' : Array Bool) (hi : ops[i]? = some o) (hd : o.dst = some d) (hlt : Nat.blt d n = true) (hc : readyB .any ops l l' i = true) (hds : i ∉ ds) (hw : wantL ops L o = some true)
    (hy : Yc P o n L M v M') (hS : ∀ s w, M' s w → S w) (k : ∀ s, TA P ops Q S ds fuel l' n ((d, v s) :: L) (M' s)) : TA P ops Q S ds (fuel + 1) l n L M := fun a w hf hm =>
  one_ l' hi hd hc hds fun K hK => by
    rw [if_pos (hf.want hw)]
    obtain ⟨f, args, h1, h2⟩ := hy a w hf hm
    unfold Oper.wp
    rw [h1, Oper.upon_enter]
    refine h2.mono fun e w' hh => ?_
    obtain ⟨s, rfl, hm'⟩ := hh
    show K (a.put o.dst (v s)) w'
    rw [hd]
    exact hK.out _ _ (hS s _ hm') (fun _ => k s _ _ (hf.put hlt _) hm')
theorem TA.mx {σ : Type} {d : Nat} {v : σ → Value} {M' : σ → World → Prop} (l' : Array Bool) (hi : ops[i]? = some o) (hd : o.dst = some d) (hlt : Nat.blt d n = true) (hc : readyB .any ops l l' i = true) (hds : i ∉ ds) (hw : wantL ops L o = some true)
    (hy : ∀ a w, Fr n L a → M w → ∃ s w', (execOp a.eval o).run P w = .ok (.value (v s)) w' ∧ M' s w') (hS : ∀ s w, M' s w → S w) (k : ∀ s, TA P ops Q S ds fuel l' n ((d, v s) :: L) (M' s)) : TA P ops Q S ds (fuel + 1) l n L M := fun a w hf hm =>
  one_ l' hi hd hc hds fun K hK => by
    rw [if_pos (hf.want hw)]
    obtain ⟨s, w', h1, h2⟩ := hy a w hf hm
    unfold Oper.wp
    rw [h1, Oper.upon_value, hd]
    exact hK.out _ _ (hS s _ h2) (fun _ => k s _ _ (hf.put hlt _) h2)
theorem TA.s {M' : World → Prop} (l' : Array Bool) (hi : ops[i]? = some o) (hd : o.dst = none) (hc : readyB .any ops l l' i = true) (hds : i ∉ ds) (hw : wantL ops L o = some true)
    (hy : Ys P o n L M M') (hS : ∀ w, M' w → S w) (k : TA P ops Q S ds fuel l' n L M') : TA P ops Q S ds (fuel + 1) l n L M := fun a w hf hm =>
  one_ l' hi hd hc hds fun K hK => by
    rw [if_pos (hf.want hw)]
    obtain ⟨w', h1, h2⟩ := hy a w hf hm
    unfold Oper.wp
    rw [h1, Oper.upon_skip, hd]
    exact hK.out _ _ (hS _ h2) (fun _ => k _ _ hf h2)
/-- A store behind which nothing held is read any more. -/
theorem TA.sl {M' : World → Prop} (l' : Array Bool) (hi : ops[i]? = some o) (hd : o.dst = none) (hc : readyB .any ops l l' i = true) (hds : i ∈ ds) (hw : wantL ops L o = some true)
    (hy : Ys P o n L M M') (k : TA P ops Q S ds fuel l' n L M') : TA P ops Q S ds (fuel + 1) l n L M := fun a w hf hm =>
  last_ l' hi hd hc hds fun K hK => by
    rw [if_pos (hf.want hw)]
    obtain ⟨w', h1, h2⟩ := hy a w hf hm
    unfold Oper.wp
    rw [h1, Oper.upon_skip, hd]
    exact hK.out _ _ (k _ _ hf h2)
theorem TA.done (hr : (Region.ready .any ops l == []) = true) (h : TE Q .normal n L M) : TA P ops Q S ds fuel l n L M := fun a w hf hm => done_ hr (h a w hf hm)
end
/-! ### Loops -/
theorem TC.loop {c : Code} {σ : Type} (LL : σ → FL) (MM : σ → World → Prop) (F : σ → Prop) (μ : σ → Nat) (s0 : σ) (hF : F s0) (hs : Sub (LL s0) L) (hm : ∀ w, M w → MM s0 w)
    (round : ∀ s, F s → TC P c (Exit.then (fun a w => ∃ s', F s' ∧ μ s' < μ s ∧ Fr n (LL s') a ∧ MM s' w) Q) n (LL s) (MM s)) : TC P (.loop c) Q n L M := fun a w hf h => by
  refine wp_loop_ghost (fun k a w => ∃ s, F s ∧ μ s = k ∧ Fr n (LL s) a ∧ MM s w) (μ s0) ⟨s0, hF, rfl, hf.sub hs, hm w h⟩ ?_
  rintro k a w ⟨s, hF, rfl, hf, hm⟩
  refine wp_mono (round s hF a w hf hm) ?_
  intro e a' w' hq
  cases e with
  | normal =>
    obtain ⟨s', h0, h1, h2, h3⟩ := hq
    exact ⟨μ s', h1, s', h0, rfl, h2, h3⟩
  | exit id => exact hq
  | goto l => exact hq
  | ret => exact hq
  | panic ch => exact hq
  | outgrown => exact hq
theorem TE.round {σ : Type} {LL : σ → FL} {MM : σ → World → Prop} {F : σ → Prop} {μ : σ → Nat} {m : Nat} (s' : σ) (hF : F s') (hlt : μ s' < m) (hs : Sub (LL s') L) (hm : ∀ w, M w → MM s' w) : TE (Exit.then (fun a w => ∃ s', F s' ∧ μ s' < m ∧ Fr n (LL s') a ∧ MM s' w) Q) .normal n L M :=
  fun a w hf h => ⟨s', hF, hlt, hf.sub hs, hm w h⟩
/-- Ways that meet: what follows is shown once. -/
theorem TC.meet {x y : Code} {σ : Type} (LL : σ → FL) (MM : σ → World → Prop) (F : σ → Prop) (hx : TC P x (Exit.then (fun a w => ∃ s, F s ∧ Fr n (LL s) a ∧ MM s w) Q) n L M) (hy : ∀ s, F s → TC P y Q n (LL s) (MM s)) : TC P (.seq x y) Q n L M := fun a w hf hm =>
  wp_seq (wp_mono (hx a w hf hm) fun e a' w' hq => by
    cases e with
    | normal => obtain ⟨s, h0, h1, h2⟩ := hq; exact hy s h0 a' w' h1 h2
    | exit id => exact hq
    | goto l => exact hq
    | ret => exact hq
    | panic ch => exact hq
    | outgrown => exact hq)
theorem TE.met {σ : Type} {LL : σ → FL} {MM : σ → World → Prop} {F : σ → Prop} (s : σ) (hF : F s) (hs : Sub (LL s) L) (hm : ∀ w, M w → MM s w) : TE (Exit.then (fun a w => ∃ s, F s ∧ Fr n (LL s) a ∧ MM s w) Q) .normal n L M :=
  fun a w hf h => ⟨s, hF, hf.sub hs, hm w h⟩
/-! ### A function's head and end -/
theorem TC.enter {f : FuncId} {fn : Func} {c : Code} {vs : List Value} {w : World} {R : Ending → World → Prop} (hf : P.funcs[f]? = some fn) (hb : fn.body = some c) (hn : fn.ntmps = n) (hl : Nat.ble vs.length n = true) (hm : M w)
    (h : TC P c (bodyPost P fn R) n (argL 0 vs) M) : Calls P f vs.toArray w R := by
  subst hn
  exact calls_of_wp hf hb (h _ _ (Fr.enter _ vs hl) hm)
theorem TE.ret1 {fn : Func} {R : Ending → World → Prop} {t : Tmp} {v : Value} (hr : fn.results = #[.tmp t]) (hv : look L t = some v) (h : ∀ w, M w → R (.returned v) w) : TE (bodyPost P fn R) .ret n L M := fun a w hf hm =>
  ⟨hf.defers, v, by rw [results_tmp hr]; rw [show a.tmps.getD t undef = v from hf.ev (o := .tmp t) hv], h w hm⟩
theorem TE.ret2 {fn : Func} {R : Ending → World → Prop} {t u : Tmp} {v x : Value} (hr : fn.results = #[.tmp t, .tmp u]) (hv : look L t = some v) (hx : look L u = some x) (h : ∀ w, M w → R (.returned (.tuple #[v, x])) w) : TE (bodyPost P fn R) .ret n L M := fun a w hf hm =>
  ⟨hf.defers, .tuple #[v, x], by rw [results_tmp2 hr]; rw [show a.tmps.getD t undef = v from hf.ev (o := .tmp t) hv, show a.tmps.getD u undef = x from hf.ev (o := .tmp u) hx], h w hm⟩
theorem TE.ret0 {fn : Func} {R : Ending → World → Prop} (hr : fn.results = #[]) (h : ∀ w, M w → R (.returned (.tuple #[])) w) : TE (bodyPost P fn R) .ret n L M := fun a w hf hm =>
  ⟨hf.defers, .tuple #[], by rw [results_none hr], h w hm⟩
theorem TE.end0 {fn : Func} {R : Ending → World → Prop} (hr : fn.results = #[]) (h : ∀ w, M w → R (.returned (.tuple #[])) w) : TE (bodyPost P fn R) .normal n L M := fun a w hf hm =>
  ⟨hf.defers, .tuple #[], by rw [results_none hr], h w hm⟩
end
/-! ## What the operations yield -/
section
variable {P : Program} {n : Nat} {L : FL} {M : World → Prop} {o : Oper}
theorem Yl.move {x : Operand} {v : Value} (ho : o.op = .move x) (hx : evO L x = some v) : Yl P o n L M v := fun a w hf _ => by
  unfold execOp; simp [ho, hf.ev hx]
theorem Yl.assign {x : Operand} {v : Value} (ho : o.op = .assign x) (hx : evO L x = some v) : Yl P o n L M v := fun a w hf _ => by
  unfold execOp; simp [ho, hf.ev hx]
theorem Yl.pickT {c x y : Operand} {u : Value} (ho : o.op = .pick c x y) (hc : evO L c = some (.bool true)) (hx : evO L x = some u) : Yl P o n L M u := fun a w hf _ => by
  unfold execOp; simp [ho, hf.ev hc, hf.ev hx, asBool]
theorem Yl.pickF {c x y : Operand} {u : Value} (ho : o.op = .pick c x y) (hc : evO L c = some (.bool false)) (hy : evO L y = some u) : Yl P o n L M u := fun a w hf _ => by
  unfold execOp; simp [ho, hf.ev hc, hf.ev hy, asBool]
/-- Two numbers, or other values: the kind of run is given. -/
def Bin (P : Program) (op : BinOp) (t : TypeId) (u v r : Value) : Prop := ∀ x y w, ((eqGuard op t x y u v : Sem Unit).run P w = .ok () w) ∧ (binOp op t u v).run P w = .ok r w
theorem Yl.bin {op : BinOp} {t t' : TypeId} {x y : Operand} {u v r : Value} (ho : o.op = .binOp op t x y t') (hx : evO L x = some u) (hy : evO L y = some v) (hr : Bin P op t u v r) : Yl P o n L M r := fun a w hf _ => by
  obtain ⟨h1, h2⟩ := hr x y w
  unfold execOp; simp [ho, hf.ev hx, hf.ev hy, h1, h2]
section
variable (t : TypeId) (k k' : IntKind) (a b : Int)
theorem Bin.add : Bin P .add t (.int k a) (.int k b) (.int k (k.wrap (a + b))) := fun x y w => by constructor <;> simp [go_sem, Op.intArith, eqGuard]
theorem Bin.sub : Bin P .sub t (.int k a) (.int k b) (.int k (k.wrap (a - b))) := fun x y w => by constructor <;> simp [go_sem, Op.intArith, eqGuard]
theorem Bin.mul : Bin P .mul t (.int k a) (.int k b) (.int k (k.wrap (a * b))) := fun x y w => by constructor <;> simp [go_sem, Op.intArith, eqGuard]
theorem Bin.eql : Bin P .eql t (.int k a) (.int k b) (.bool (a == b)) := fun x y w => by constructor <;> simp [go_sem, eqGuard]
theorem Bin.neq : Bin P .neq t (.int k a) (.int k b) (.bool (a != b)) := fun x y w => by constructor <;> simp [go_sem, eqGuard]
theorem Bin.lss : Bin P .lss t (.int k a) (.int k b) (.bool (decide (a < b))) := fun x y w => by constructor <;> simp [go_sem, eqGuard]
theorem Bin.leq : Bin P .leq t (.int k a) (.int k b) (.bool (decide (a ≤ b))) := fun x y w => by constructor <;> simp [go_sem, eqGuard]
theorem Bin.gtr : Bin P .gtr t (.int k a) (.int k b) (.bool (decide (b < a))) := fun x y w => by constructor <;> simp [go_sem, eqGuard]
theorem Bin.geq : Bin P .geq t (.int k a) (.int k b) (.bool (decide (b ≤ a))) := fun x y w => by constructor <;> simp [go_sem, eqGuard]
theorem Bin.and : Bin P .and t (.int k a) (.int k b) (.int k (Go.bits .and k a b)) := fun x y w => by constructor <;> simp [go_sem, eqGuard]
theorem Bin.or : Bin P .or t (.int k a) (.int k b) (.int k (Go.bits .or k a b)) := fun x y w => by constructor <;> simp [go_sem, eqGuard]
theorem Bin.andNot : Bin P .andNot t (.int k a) (.int k b) (.int k (Go.bits .andNot k a b)) := fun x y w => by constructor <;> simp [go_sem, eqGuard]
theorem Bin.shl (h : 0 ≤ b) : Bin P .shl t (.int k a) (.int k' b) (.int k (k.wrap (a * 2 ^ min b.toNat k.bits))) := fun x y w => by constructor <;> simp [go_sem, eqGuard, h]
theorem Bin.shr (h : 0 ≤ b) : Bin P .shr t (.int k a) (.int k' b) (.int k (a / 2 ^ min b.toNat k.bits)) := fun x y w => by constructor <;> simp [go_sem, eqGuard, h]
theorem Bin.quo (h : b ≠ 0) : Bin P .quo t (.int k a) (.int k b) (.int k (k.wrap (a.tdiv b))) := fun x y w => by constructor <;> simp [go_sem, eqGuard, Op.intDiv, h]
theorem Bin.rem (h : b ≠ 0) : Bin P .rem t (.int k a) (.int k b) (.int k (a.tmod b)) := fun x y w => by constructor <;> simp [go_sem, eqGuard, Op.intDiv, h]
end
theorem Bin.neqB (t : TypeId) (a b : Bool) (h : P.underlying t = some .bool) : Bin P .neq t (.bool a) (.bool b) (.bool (a != b)) := fun x y w => ⟨by rw [eqGuard_at_bool]; rfl, by cases a <;> cases b <;> simp [binOp, run_equal_bool w t _ _ h]⟩
theorem Bin.eqlP (t e : TypeId) (p : Option Addr) (h : P.underlying t = some (.pointer e)) : Bin P .eql t (.pointer p) (.pointer none) (.bool (p.isNone)) := fun x y w => ⟨by rw [eqGuard_at_pointer]; rfl, run_eql_pointer_nil w t p (by rw [show P.pointee t = e by unfold Program.pointee; rw [h]]; exact h)⟩
theorem Bin.neqP (t e : TypeId) (p : Option Addr) (h : P.underlying t = some (.pointer e)) : Bin P .neq t (.pointer p) (.pointer none) (.bool (!p.isNone)) := fun x y w => ⟨by rw [eqGuard_at_pointer]; rfl, run_neq_pointer_nil w t p (by rw [show P.pointee t = e by unfold Program.pointee; rw [h]]; exact h)⟩
theorem Yl.val {v v' : Value} (h : Yl P o n L M v) (e : v = v') : Yl P o n L M v' := e ▸ h
theorem Yl.conv {s d : TypeId} {x : Operand} {k k' : IntKind} {z : Int} (ho : o.op = .convert s d x) (hx : evO L x = some (.int k z)) (hs : (P.underlying s).isSome = true) (hd : P.underlying d = some (.int k')) : Yl P o n L M (.int k' (k'.wrap z)) := fun a w hf _ => by
  have hk : P.intKind d = k' := by unfold Program.intKind; rw [hd]
  have h := run_convert_int (P := P) w s d k z hs (by rw [hk]; exact hd)
  rw [hk] at h
  unfold execOp; simp [ho, hf.ev hx, h]
theorem Yl.not {t : TypeId} {x : Operand} {b : Bool} (ho : o.op = .unOp .not t x) (hx : evO L x = some (.bool b)) : Yl P o n L M (.bool (!b)) := fun a w hf _ => by
  unfold execOp; simp [ho, hf.ev hx, Op.unary]
theorem Yl.nilCheck {x : Operand} {p : Addr} (ho : o.op = .nilCheck x) (hx : evO L x = some (.pointer (some p))) : Yl P o n L M (.pointer (some p)) := fun a w hf _ => by
  unfold execOp; simp [ho, hf.ev hx]
theorem Yl.extract {x : Operand} {vs : Array Value} {i : Nat} {v : Value} (ho : o.op = .extract x i) (hx : evO L x = some (.tuple vs)) (hv : vs[i]? = some v) : Yl P o n L M v := fun a w hf _ => by
  unfold execOp; simp [ho, hf.ev hx, Instr.extract, hv]
end
/-! ## Memory -/
section
variable {P : Program} {n : Nat} {L : FL} {M : World → Prop} {o : Oper}
def Ymx (P : Program) (o : Oper) (n : Nat) (L : FL) (M : World → Prop) {σ : Type} (v : σ → Value) (M' : σ → World → Prop) : Prop := ∀ a w, Fr n L a → M w → ∃ s w', (execOp a.eval o).run P w = .ok (.value (v s)) w' ∧ M' s w'
def aggB (P : Program) (t : TypeId) : Option Bool :=
  match P.underlying t with
  | some (.struct _) => some true
  | some (.array _ _) => some true
  | some _ => some false
  | none => none
theorem run_isAgg {t : TypeId} {b : Bool} (h : aggB P t = some b) (w : World) : (isAgg t).run P w = .ok b w := by
  unfold aggB at h
  cases hu : P.underlying t with
  | none => rw [hu] at h; cases h
  | some d =>
    rw [hu] at h
    unfold isAgg
    rw [Sem.run_bind, run_underlying hu w]
    cases d <;> simp_all
theorem run_size {t : TypeId} {k : Nat} (h : (P.info? t).map (·.size) = some k) (w : World) : (Go.sizeOf t).run P w = .ok k w := by
  obtain ⟨i, hi, hs⟩ := Option.map_eq_some_iff.1 h
  simp [Go.sizeOf, typeInfo, hi, hs]
/-- One cell is read. -/
theorem Yl.load {t : TypeId} {p : Operand} {ad : Addr} {v : Value} (ho : o.op = .load t p) (hp : evO L p = some (.pointer (some ad))) (ht : aggB P t = some false) (hc : ∀ w, M w → w.cell? ad = some v) : Yl P o n L M v := fun a w hf hm => by
  unfold execOp
  simp [ho, hf.ev hp, Instr.loadAt, Instr.sureAddr, loadVar, Sem.run_bind, run_isAgg ht, hc w hm]
/-- Several cells are read. -/
theorem Yl.loads {t : TypeId} {p : Operand} {ad : Addr} {cs : List Value} (ho : o.op = .load t p) (hp : evO L p = some (.pointer (some ad))) (ht : aggB P t = some true) (hz : (P.info? t).map (·.size) = some cs.length) (hc : ∀ w, M w → ∀ j v, cs[j]? = some v → w.cell? (ad.add j) = some v) : Yl P o n L M (.agg cs.toArray) := fun a w hf hm => by
  unfold execOp
  simp [ho, hf.ev hp, Instr.loadAt, Instr.sureAddr, loadVar, Sem.run_bind, run_isAgg ht, run_size hz, run_loadCells_list w ad cs (hc w hm)]
theorem Addr.at_ (b o j : Nat) : (⟨b, o, none⟩ : Addr).add j = ⟨b, o + j, none⟩ := by unfold Addr.add; split <;> simp_all
section
variable {W0 w : World} {T : Nat → Prop} {H : List Res}
theorem Hp.cell {b off : Nat} {c : Array Value} {e : TypeId} {v : Value} (hm : blk b (.cells c e (0, 0)) ∈ H) (hc : c[off]? = some v) : ∀ w, Hp W0 T H w → w.cell? ⟨b, off, none⟩ = some v := fun w h => by
  rw [blk_cell (show w.heap[b]? = some (.cells c e (0, 0)) from h.all _ hm)]; exact hc
theorem Hp.cells {b off : Nat} {c : Array Value} {e : TypeId} {cs : List Value} (hm : blk b (.cells c e (0, 0)) ∈ H) (hc : ∀ j v, cs[j]? = some v → c[off + j]? = some v) : ∀ w, Hp W0 T H w → ∀ j v, cs[j]? = some v → w.cell? ((⟨b, off, none⟩ : Addr).add j) = some v := fun w h j v hj => by
  rw [Addr.at_, blk_cell (show w.heap[b]? = some (.cells c e (0, 0)) from h.all _ hm)]; exact hc j v hj
/-- What lay there at the head, and may not change. -/
theorem Hp.old {p : Addr} {v : Value} (hc : W0.cell? p = some v) (hT : ¬ T p.block) : ∀ w, Hp W0 T H w → w.cell? p = some v := fun w h =>
  (World.cell?_of_block (h.chg.block p.block (World.block_lt_of_cell? _ _ hc) hT)).trans hc
end
theorem Yl.field {t : TypeId} {p : Operand} {b off k : Nat} {f : Nat} {fs : Array Field} {fd : Field} (d : Nat) (ho : o.op = .fieldAddr t p f) (hp : evO L p = some (.pointer (some ⟨b, off, none⟩))) (hu : P.underlying t = some (.struct fs)) (hf : fs[f]? = some fd) (hz : (P.info? fd.type).map (·.size) = some (k + 1)) (hk : fd.offset = d) : Yl P o n L M (.pointer (some ⟨b, off + d, none⟩)) := fun a w hfr _ => by
  subst hk
  unfold execOp
  simp [ho, hfr.ev hp, Instr.fieldAt, run_underlying hu, hf, Instr.sureAddr, fieldPlace, run_size hz, Addr.at_]
theorem Yl.field0 {t : TypeId} {p : Operand} {b k : Nat} {f : Nat} {fs : Array Field} {fd : Field} (d : Nat) (ho : o.op = .fieldAddr t p f) (hp : evO L p = some (.pointer (some ⟨b, 0, none⟩))) (hu : P.underlying t = some (.struct fs)) (hf : fs[f]? = some fd) (hz : (P.info? fd.type).map (·.size) = some (k + 1)) (hk : fd.offset = d) : Yl P o n L M (.pointer (some ⟨b, d, none⟩)) := by
  have h := Yl.field (n := n) (M := M) d ho hp hu hf hz hk
  rwa [Nat.zero_add] at h
theorem Yl.idxS {t e : TypeId} {x i : Operand} {ad : Addr} {len cap k : Nat} {q : IntKind} {z : Int} {ad' : Addr} (ho : o.op = .indexAddr t x i) (hx : evO L x = some (.slice (some ad) len cap)) (hi : evO L i = some (.int q z)) (ht : P.underlying t = some (.slice e)) (hz : (P.info? e).map (·.size) = some k)
    (h0 : 0 ≤ z) (h1 : z < len) (had : ad.add (z.toNat * k) = ad') : Yl P o n L M (.pointer (some ad')) := fun a w hf _ => by
  subst had
  have he : P.elem t = e := by unfold Program.elem; rw [ht]
  have h := run_indexAt_slice (P := P) w t ad len cap q z (by rw [he]; exact ht)
  rw [if_pos ⟨h0, h1⟩, he, run_size hz] at h
  unfold execOp; simp [ho, hf.ev hx, hf.ev hi, h]
theorem Yl.idxA {t e : TypeId} {x i : Operand} {ad : Addr} {len k : Nat} {q : IntKind} {z : Int} {ad' : Addr} (ho : o.op = .indexAddr t x i) (hx : evO L x = some (.pointer (some ad))) (hi : evO L i = some (.int q z)) (ht : P.underlying t = some (.array len e)) (hz : (P.info? e).map (·.size) = some k)
    (h0 : 0 ≤ z) (h1 : z < len) (had : ad.add (z.toNat * k) = ad') : Yl P o n L M (.pointer (some ad')) := fun a w hf _ => by
  subst had
  have he : P.elem t = e := by unfold Program.elem; rw [ht]
  have hl : P.arrayLen t = len := by unfold Program.arrayLen; rw [ht]
  have h := run_indexAt_array (P := P) w t ad q z (by rw [he, hl]; exact ht)
  rw [hl, if_pos ⟨h0, h1⟩, he, run_size hz] at h
  unfold execOp; simp [ho, hf.ev hx, hf.ev hi, h]
theorem Yl.len {t e : TypeId} {x : Operand} {A : Option Addr} {k c : Nat} (ho : o.op = .call { callee := .builtin .len, args := #[x], argTypes := #[t] }) (hx : evO L x = some (.slice A k c)) (ht : P.underlying t = some (.slice e)) : Yl P o n L M (.int .i64 k) := fun a w hf _ => by
  have he : P.elem t = e := by unfold Program.elem; rw [ht]
  have h := run_len_slice (P := P) w t o.type A k c (by rw [he]; exact ht)
  unfold execOp; simp [ho, resolve, invoke, builtin, hf.ev hx, h, goInt]
theorem Yl.min {ts : Array TypeId} {x y : Operand} {k k' : IntKind} {p q : Int} (ho : o.op = .call { callee := .builtin .min, args := #[x, y], argTypes := ts }) (hx : evO L x = some (.int k p)) (hy : evO L y = some (.int k' q)) : Yl P o n L M (.int k (if q < p then q else p)) := fun a w hf _ => by
  have h : (Builtin.min_ ts o.type #[.int k p, .int k' q]).run P w = .ok (.int k (if q < p then q else p)) w := by simp [go_sem]
  unfold execOp; simp [ho, resolve, invoke, builtin, hf.ev hx, hf.ev hy, h]
theorem Yl.max {ts : Array TypeId} {x y : Operand} {k k' : IntKind} {p q : Int} (ho : o.op = .call { callee := .builtin .max, args := #[x, y], argTypes := ts }) (hx : evO L x = some (.int k p)) (hy : evO L y = some (.int k' q)) : Yl P o n L M (.int k (if q > p then q else p)) := fun a w hf _ => by
  have h : (Builtin.max_ ts o.type #[.int k p, .int k' q]).run P w = .ok (.int k (if q > p then q else p)) w := by simp [go_sem]
  unfold execOp; simp [ho, resolve, invoke, builtin, hf.ev hx, hf.ev hy, h]
/-! ### What makes memory -/
section
variable {W0 : World} {T : Nat → Prop} {H H' : List Res}
theorem Hp.alloc {w : World} (h : Hp W0 T H w) (ob : Obj) : Hp W0 T (blk w.heap.size ob :: H) (w.alloc ob) :=
  h.new (below_alloc (Below.refl _ _) _) (heap_alloc_new w ob) (fun k hk => by rw [show k = w.heap.size from hk]; exact Nat.le_refl _)
theorem Ym.alloc {e : TypeId} {z : Value} (ho : o.op = .alloc e) (hz : (P.info? e).map (·.zero) = some (some z)) : Ymx P o n L (Hp W0 T H) (fun b => .pointer (some ⟨b, 0, none⟩)) (fun b => Hp W0 T (blk b (.cells z.cells e (0, 0)) :: H)) := fun a w hf hm => by
  obtain ⟨i, hi, hs⟩ := Option.map_eq_some_iff.1 hz
  refine ⟨w.heap.size, w.alloc (.cells z.cells e (0, 0)), ?_, hm.alloc _⟩
  unfold execOp
  simp [ho, Instr.alloc, zeroValue, typeInfo, hi, hs, newVar, newRow]
theorem Ym.box {e : TypeId} {x : Operand} {v : Value} (ho : o.op = .box e x) (hx : evO L x = some v) : Ymx P o n L (Hp W0 T H) (fun b => .pointer (some ⟨b, 0, none⟩)) (fun b => Hp W0 T (blk b (.cells v.cells e (0, 0)) :: H)) := fun a w hf hm => by
  refine ⟨w.heap.size, w.alloc (.cells v.cells e (0, 0)), ?_, hm.alloc _⟩
  unfold execOp
  simp [ho, hf.ev hx, Instr.box, newVar, newRow]
/-- A store into a block. -/
theorem Ys.store {t : TypeId} {p x : Operand} {b off : Nat} {u : Value} {seg : List Value} {c c' : Array Value} {e : TypeId} (ho : o.op = .store t p x) (hp : evO L p = some (.pointer (some ⟨b, off, none⟩))) (hx : evO L x = some u) (hu : u.cells.toList = seg) (ht : (P.info? t).map (·.size) = some seg.length) (h1 : ∀ q ∈ seg, q.oneCell' = true)
    (hf : Foc H (blk b (.cells c e (0, 0))) H' (blk b (.cells c' e (0, 0)))) (hfit : off + seg.length ≤ c.size) (hc : putAt c off seg = c') : Ys P o n L (Hp W0 T H) (Hp W0 T H') := fun a w hfr hm => by
  subst hc
  have hb : w.heap[b]? = some (.cells c e (0, 0)) := hm.all _ hf.mem
  have hr := run_store_run (P := P) t u seg hb hu ht hfit h1
  have hup := upd_cells b e seg off c w hb
  refine ⟨w.setCells b off seg, ?_, hm.turn hf (Chg.of_upd hup) hup.new (fun k hk => .inl hk)⟩
  unfold execOp; simp [ho, hfr.ev hp, hfr.ev hx, hr]
/-- A slice of one's own, in cells. -/
def ownR (e : TypeId) (size : Nat) (v : Value) (m : Nat) (xs : List Value) : Res :=
  ⟨fun k => v.ownBlock = some k, fun w => w.ownsRow 0 e size v m xs, fun {w w'} h hw => by
    obtain ⟨h1, h2⟩ := hw
    refine ⟨h1, h2.imp id ?_⟩
    rintro ⟨g, cap, cur, rfl, hg, hh, r⟩
    exact ⟨g, cap, cur, rfl, hg, (h g rfl).trans hh, r⟩, fun hw k hk => own_lt hw k hk⟩
theorem own_nil (e : TypeId) (size : Nat) (w : World) : (ownR e size (.slice none 0 0) 0 []).holds w := World.ownsRow_nil w 0 e size
theorem Hp.nil {w : World} {e : TypeId} {size : Nat} (h : Hp W0 T H w) : Hp W0 T (ownR e size (.slice none 0 0) 0 [] :: H) w :=
  h.new (Below.refl _ _) (own_nil e size w) (fun k hk => by simp [ownR, Value.ownBlock] at hk)
/-- append of what lies somewhere. -/
theorem Ym.append {H' : Value → List Res} {s x : Operand} {t e : TypeId} {z : Value} {size bytes : Nat} {v : Value} {m : Nat} {xs : List Value} {ad : Addr} {k c : Nat} {news : List Value} (ho : o.op = .call { callee := .builtin .append, args := #[s, x], argTypes := #[t, t] })
    (ht : P.underlying t = some (.slice e)) (hi : (P.info? e).map (fun i => (i.zero, i.size, i.bytes)) = some (some z, size, bytes)) (hz : z.cells.size = size) (hs0 : 0 < size) (hb0 : 0 < bytes) (hs : evO L s = some v) (hx : evO L x = some (.slice (some ad) k c)) (hl : news.length = k * size)
    (hnews : ∀ w, Hp W0 T H w → ∀ j u, news[j]? = some u → w.cell? (ad.add j) = some u) (h1 : ∀ u ∈ news, u.oneCell' = true) (hlen : (m + k) * bytes ≤ 140737488355328) (hf : ∀ v', Foc H (ownR e size v m xs) (H' v') (ownR e size v' (m + k) (xs ++ news))) :
    Ymx P o n L (Hp W0 T H) (fun v' => v') (fun v' w => Hp W0 T (H' v') w) := fun a w hfr hm => by
  obtain ⟨i, hi, hzz⟩ := Option.map_eq_some_iff.1 hi
  simp only [Prod.mk.injEq] at hzz
  obtain ⟨hz0, hz1, hz2⟩ := hzz
  have hlen' : m + k ≤ 140737488355328 := Nat.le_trans (Nat.le_mul_of_pos_right _ hb0) hlen
  obtain ⟨v1, w1, hr, h2, h3, _, h5⟩ := run_append_own_at (P := P) w 0 t o.type e i z size bytes ht hi hz0 hz1 hz2 hz hs0 v m xs (hm.all _ (hf v).mem) ad k c news hl (hnews w hm) h1 (by simp only [maxLen]; omega) hlen (Nat.zero_le _)
  refine ⟨v1, w1, ?_, hm.turn (hf v1) ⟨h3.os, h3.tape, h3.output, h3.size, fun j hj hn => h3.block j hj (fun he => hn he.symm)⟩ h2 (fun j hj => ?_)⟩
  · unfold execOp
    simp [ho, resolve, invoke, builtin, hfr.ev hs, hfr.ev hx, hr]
  · rcases h5 with h5 | h5
    · exact .inl (h5.symm.trans hj)
    · have : v1.ownBlock = some j := hj
      rw [h5] at this
      injection this with this
      exact .inr (by omega)
/-! ### Calls -/
theorem Yc.call {f : FuncId} {fn : Func} {as : Array Operand} {ts : Array TypeId} {vs : List Value} {σ : Type} {v : σ → Value} {M' : σ → World → Prop} (ho : o.op = .call { callee := .value (.func f), args := as, argTypes := ts }) (hf : P.funcs[f]? = some fn) (hname : (fn.name == "runtime.NumGoroutine") = false) (hb : fn.body.isSome = true)
    (ha : evs L as.toList = some vs) (h : ∀ w, M w → Calls P f vs.toArray w fun e w' => ∃ s, e = .returned (v s) ∧ M' s w') : Yc P o n L M v M' := fun a w hfr hm => by
  refine ⟨f, vs.toArray, ?_, h w hm⟩
  have he := enters_ hf hname hb vs.toArray w
  have hm : as.map a.eval = vs.toArray := by
    have := hfr.evl ha
    apply Array.toList_inj.1
    simpa using this
  unfold execOp
  simp [ho, resolve, Deferred.ofValue, invoke, Act.eval, hm, he]
/-- A contract that leaves all as it was. -/
theorem Hp.calls {f : FuncId} {args : Array Value} {v : Value} (h : ∀ w, Hp W0 T H w → Calls P f args w fun e w' => e = .returned v ∧ Below w.heap.size w w') : ∀ w, Hp W0 T H w → Calls P f args w fun e w' => ∃ _ : Unit, e = .returned v ∧ Hp W0 T H w' := fun w hm =>
  (h w hm).mono fun e w' ⟨he, hb⟩ => ⟨(), he, hm.pass hb⟩
/-- One thing is turned by a call. -/
theorem Hp.turns {f : FuncId} {args : Array Value} {σ : Type} {v : σ → Value} {r : Res} {r' : σ → Res} {H' : σ → List Res} (hr : r ∈ H) (hf : ∀ s, Foc H r (H' s) (r' s)) (h : ∀ w, Hp W0 T H w → r.holds w → Calls P f args w fun e w' => ∃ s, e = .returned (v s) ∧ (r' s).holds w' ∧ Chg w w' r.foot ∧ ∀ k, (r' s).foot k → r.foot k ∨ w.heap.size ≤ k) : ∀ w, Hp W0 T H w → Calls P f args w fun e w' => ∃ s, e = .returned (v s) ∧ Hp W0 T (H' s) w' := fun w hm =>
  (h w hm (hm.all _ hr)).mono fun e w' ⟨s, he, h1, h2, h3⟩ => ⟨s, he, hm.turn (hf s) h2 h1 h3⟩
/-- Something new comes of a call. -/
theorem Hp.news {f : FuncId} {args : Array Value} {σ : Type} {v : σ → Value} {r : σ → Res} (h : ∀ w, Hp W0 T H w → Calls P f args w fun e w' => ∃ s, e = .returned (v s) ∧ (r s).holds w' ∧ Below w.heap.size w w' ∧ ∀ k, (r s).foot k → w.heap.size ≤ k) : ∀ w, Hp W0 T H w → Calls P f args w fun e w' => ∃ s, e = .returned (v s) ∧ Hp W0 T (r s :: H) w' := fun w hm =>
  (h w hm).mono fun e w' ⟨s, he, h1, h2, h3⟩ => ⟨s, he, hm.new h2 h1 h3⟩
end
end
/-! ## What is built -/
theorem i64in {x : Int} (h0 : -9223372036854775808 ≤ x) (h1 : x ≤ 9223372036854775807) : IntKind.i64.wrap x = x := by
  rw [IntKind.wrap_i64]; omega
def evp (L : FL) : List (Nat × Operand) → Option (List (Nat × Value))
  | [] => some []
  | (i, x) :: l => match evO L x with
    | none => none
    | some v => match evp L l with
      | none => none
      | some vs => some ((i, v) :: vs)
section
variable {P : Program} {n : Nat} {L : FL} {M : World → Prop} {o : Oper} {W0 : World} {T : Nat → Prop} {H : List Res}
theorem Fr.evp {a : Act} (h : Fr n L a) : ∀ {l : List (Nat × Operand)} {vs : List (Nat × Value)}, evp L l = some vs → l.map (fun p => (p.1, a.eval p.2)) = vs
  | [], vs, hv => by simp [HL.evp] at hv; simp [hv]
  | (i, x) :: l, vs, hv => by
    unfold HL.evp at hv
    cases e : evO L x with
    | none => rw [e] at hv; cases hv
    | some v =>
      rw [e] at hv
      cases e2 : HL.evp L l with
      | none => rw [e2] at hv; cases hv
      | some us =>
        rw [e2] at hv
        obtain rfl := Option.some.inj hv
        rw [List.map_cons, h.ev e, h.evp e2]
theorem Yl.build {t : TypeId} {ps : Array (Nat × Operand)} {z : Value} {fs : Array Field} (places : List (Nat × Nat)) {vs : List (Nat × Value)} {cells : Array Value} (ho : o.op = .build t ps) (hz : (P.info? t).map (·.zero) = some (some z)) (hu : P.underlying t = some (.struct fs))
    (hp : fs.toList.mapM (fun f => (P.info? f.type).map fun i => (f.offset, i.size)) = some places) (hv : evp L ps.toList = some vs) (hf : Instr.fill (places.toArray[·]?) z.cells vs = some cells) : Yl P o n L M (.agg cells) := fun a w hfr _ => by
  obtain ⟨i, hi, hs⟩ := Option.map_eq_some_iff.1 hz
  have hb : P.built t (ps.map fun p => (p.1, a.eval p.2)).toList = some cells := by
    have he := hfr.evp hv
    rw [Array.toList_map, he]
    unfold Program.built
    simp only [hi, hu, hs, hp]
    exact hf
  have h := run_build (P := P) w t (ps.map fun p => (p.1, a.eval p.2)) cells hb
  unfold execOp
  simp only [ho, Sem.run_bind, h, Result.andThen_ok, Sem.run_pure]
theorem Ym.buildSlice {t e : TypeId} {len size : Nat} {ps : Array (Nat × Operand)} {z : Value} (zs : Array Value) {vs : List (Nat × Value)} {cells : Array Value} (ho : o.op = .buildSlice t len ps) (hu : P.underlying t = some (.slice e)) (hz : (P.info? e).map (fun i => (i.zero, i.size)) = some (some z, size)) (h24 : len * size ≤ 16777216) (hpos : len * size ≠ 0)
    (hzs : madeCells z.cells (len * size) = zs) (hv : evp L ps.toList = some vs) (hf : Instr.fill (fun i => some (i * size, size)) zs vs = some cells) :
    Ymx P o n L (Hp W0 T H) (fun b => .slice (some ⟨b, 0, none⟩) len len) (fun b => Hp W0 T (blk b (.cells cells e (0, 0)) :: H)) := fun a w hfr hm => by
  obtain ⟨i, hi, hzz⟩ := Option.map_eq_some_iff.1 hz
  simp only [Prod.mk.injEq] at hzz
  obtain ⟨hz0, hz1⟩ := hzz
  refine ⟨w.heap.size, w.alloc (.cells cells e (0, 0)), ?_, hm.alloc _⟩
  have he := hfr.evp hv
  have hl : ¬ (2 ^ 24 < len * i.size) := by rw [hz1]; omega
  have hn : ¬ (len * i.size = 0) := by rw [hz1]; exact hpos
  unfold madeCells at hzs
  have h : (Instr.buildSlice t len (ps.map fun p => (p.1, a.eval p.2))).run P w = .ok (.slice (some ⟨w.heap.size, 0, none⟩) len len) (w.alloc (.cells cells e (0, 0))) := by
    subst hz1
    have hf' : Instr.fill (fun j => some (j * i.size, i.size)) ((Array.range (len * i.size)).map (z.cells[· % z.cells.size]!)) (List.map (fun p => (p.1, a.eval p.2)) ps.toList) = some cells := by rw [he]; rw [hzs]; exact hf
    simp only [Instr.buildSlice, Sem.run_bind, run_underlying hu, Go.sizeOf, typeInfo, run_program, Result.andThen_ok, hi, Sem.run_pure, Sem.run_ite, if_neg hl, if_neg hn, zeroValue, hz0, Array.toList_map, hf']
    simp [newRow, hf', Array.toList_map, hl, hn]
  unfold execOp
  simp only [ho, Sem.run_bind, h, Result.andThen_ok, Sem.run_pure]
end
/-! ## Calls, by contracts over one block -/
section
variable {P : Program} {W0 : World} {T : Nat → Prop} {H H' : List Res} {f : FuncId} {args : Array Value} {v : Value} {b : Nat} {ob ob' : Obj}
theorem Hp.below {w : World} (h : Hp W0 (fun _ => False) H w) : Below W0.heap.size W0 w := ⟨h.chg.os, h.chg.tape, h.chg.output, h.chg.size, fun k hk => h.chg.block k hk id⟩
end
/-! ## What the state tells; slices -/
section
variable {P : Program} {ops : Array Oper} {Q : Exit → Act → World → Prop} {n : Nat} {L : FL} {M : World → Prop} {o : Oper} {W0 : World} {T : Nat → Prop} {H : List Res} {φ : Prop}
theorem TC.fact {c : Code} (h : ∀ w, M w → φ) (k : φ → TC P c Q n L M) : TC P c Q n L M := fun a w hf hm => k (h w hm) a w hf hm
theorem TL.fact {rest : List Oper} (h : ∀ w, M w → φ) (k : φ → TL P ops Q rest n L M) : TL P ops Q rest n L M := fun a w hf hm => k (h w hm) a w hf hm
theorem TA.fact {S : World → Prop} {ds : List Nat} {fuel : Nat} {l : Array Bool} (h : ∀ w, M w → φ) (k : φ → TA P ops Q S ds fuel l n L M) : TA P ops Q S ds fuel l n L M := fun a w hf hm => k (h w hm) a w hf hm
theorem Hp.ownShape {e : TypeId} {size : Nat} {v : Value} {m : Nat} {xs : List Value} (hr : ownR e size v m xs ∈ H) : ∀ w, Hp W0 T H w → (v = .slice none 0 0 ∧ m = 0) ∨ ∃ g cap, v = .slice (some ⟨g, 0, none⟩) m cap := fun w h => by
  rcases (h.all _ hr).2 with h1 | ⟨g, cap, cur, h1, _⟩
  · exact .inl h1
  · exact .inr ⟨g, cap, h1⟩
theorem Hp.ownSome {e : TypeId} {size : Nat} {v : Value} {m : Nat} {xs : List Value} (hr : ownR e size v m xs ∈ H) (hm : 0 < m) : ∀ w, Hp W0 T H w → ∃ g cap, v = .slice (some ⟨g, 0, none⟩) m cap := fun w h => by
  rcases h.ownShape hr with h1 | h1
  · omega
  · exact h1
theorem Hp.ownCell {e : TypeId} {size : Nat} {g cap m j : Nat} {xs : List Value} {u : Value} (hr : ownR e size (.slice (some ⟨g, 0, none⟩) m cap) m xs ∈ H) (hx : xs[j]? = some u) : ∀ w, Hp W0 T H w → w.cell? ⟨g, j, none⟩ = some u := fun w h => by
  rcases (h.all _ hr).2 with ⟨h1, _⟩ | ⟨g', cap', cur, h1, _, hh, _, _, _, htk⟩
  · cases h1
  · have e1 : g = g' := by injection h1 with h1; injection h1 with h1; injection h1
    subst e1
    rw [blk_cell hh]
    rw [← htk, List.getElem?_take] at hx
    split at hx
    · simpa using hx
    · cases hx
/-- A slice that came in. -/
def Sl (W : World) (A : Option Addr) (vs : List Value) : Prop := ∀ j v, vs[j]? = some v → ∃ ad, A = some ad ∧ W.cell? (ad.add j) = some v
theorem Sl.below {W w : World} {A : Option Addr} {vs : List Value} (h : Sl W A vs) (hb : Below W.heap.size W w) : Sl w A vs := fun j v hj => by
  obtain ⟨ad, rfl, hc⟩ := h j v hj
  exact ⟨ad, rfl, (hb.cell (World.block_lt_of_cell? W _ hc)).trans hc⟩
/-- One of it, behind whatever. -/
theorem Sl.cell {ad : Addr} {vs : List Value} {j : Nat} {v : Value} (h : Sl W0 (some ad) vs) (hj : vs[j]? = some v) (hT : ∀ k, ¬ T k) : ∀ w, Hp W0 T H w → w.cell? (ad.add j) = some v := by
  obtain ⟨ad', e, hc⟩ := h j v hj
  cases e
  exact Hp.old hc (hT _)
end
/-! ## Two things as one; contracts of functions over things -/
/-- Two things apart from each other. -/
def star (r s : Res) : Res :=
  ⟨fun k => r.foot k ∨ s.foot k, fun w => r.holds w ∧ s.holds w ∧ Apart r s, fun h hw => ⟨r.keep (fun k hk => h k (.inl hk)) hw.1, s.keep (fun k hk => h k (.inr hk)) hw.2.1, hw.2.2⟩, fun hw k hk => hk.elim (r.lt hw.1 k) (s.lt hw.2.1 k)⟩
/-- What is known besides. -/
def pureR (φ : Prop) (r : Res) : Res := ⟨r.foot, fun w => r.holds w ∧ φ, fun h hw => ⟨r.keep h hw.1, hw.2⟩, fun hw => r.lt hw.1⟩
section
variable {W0 w w' : World} {T : Nat → Prop} {H : List Res} {r s : Res}
theorem Hp.unstar (h : Hp W0 T (star r s :: H) w) : Hp W0 T (r :: s :: H) w := by
  obtain ⟨h1, h2⟩ := List.pairwise_cons.1 h.apart
  have hh := h.all _ List.mem_cons_self
  refine ⟨h.chg, fun x hx => ?_, List.pairwise_cons.2 ⟨fun x hx => ?_, List.pairwise_cons.2 ⟨fun x hx k hk => h1 x hx k (.inr hk), h2⟩⟩, fun x hx k hk => ?_⟩
  · rcases List.mem_cons.1 hx with rfl | hx
    · exact hh.1
    · rcases List.mem_cons.1 hx with rfl | hx
      · exact hh.2.1
      · exact h.all _ (List.mem_cons_of_mem _ hx)
  · rcases List.mem_cons.1 hx with rfl | hx
    · exact hh.2.2
    · exact fun k hk => h1 x hx k (.inl hk)
  · rcases List.mem_cons.1 hx with rfl | hx
    · exact h.own _ List.mem_cons_self k (.inl hk)
    · rcases List.mem_cons.1 hx with rfl | hx
      · exact h.own _ List.mem_cons_self k (.inr hk)
      · exact h.own _ (List.mem_cons_of_mem _ hx) k hk
theorem Hp.tostar (h : Hp W0 T (r :: s :: H) w) : Hp W0 T (star r s :: H) w := by
  obtain ⟨h1, h2⟩ := List.pairwise_cons.1 h.apart
  obtain ⟨h3, h4⟩ := List.pairwise_cons.1 h2
  refine ⟨h.chg, fun x hx => ?_, List.pairwise_cons.2 ⟨fun x hx k hk => ?_, h4⟩, fun x hx k hk => ?_⟩
  · rcases List.mem_cons.1 hx with rfl | hx
    · exact ⟨h.all _ mem0, h.all _ mem1, h1 _ List.mem_cons_self⟩
    · exact h.all _ (List.mem_cons_of_mem _ (List.mem_cons_of_mem _ hx))
  · rcases hk with hk | hk
    · exact h1 x (List.mem_cons_of_mem _ hx) k hk
    · exact h3 x hx k hk
  · rcases List.mem_cons.1 hx with rfl | hx
    · rcases hk with hk | hk
      · exact h.own _ mem0 k hk
      · exact h.own _ mem1 k hk
    · exact h.own _ (List.mem_cons_of_mem _ (List.mem_cons_of_mem _ hx)) k hk
theorem Hp.swap (h : Hp W0 T (r :: s :: H) w) : Hp W0 T (s :: r :: H) w := by
  obtain ⟨h1, h2⟩ := List.pairwise_cons.1 h.apart
  obtain ⟨h3, h4⟩ := List.pairwise_cons.1 h2
  refine ⟨h.chg, fun x hx => h.all x ?_, List.pairwise_cons.2 ⟨fun x hx k hk hk' => ?_, List.pairwise_cons.2 ⟨fun x hx => h1 x (List.mem_cons_of_mem _ hx), h4⟩⟩, fun x hx => h.own x ?_⟩
  · simp only [List.mem_cons] at hx ⊢; rcases hx with h | h | h <;> simp [h]
  · rcases List.mem_cons.1 hx with rfl | hx
    · exact h1 s List.mem_cons_self k hk' hk
    · exact h3 x hx k hk hk'
  · simp only [List.mem_cons] at hx ⊢; rcases hx with h | h | h <;> simp [h]
/-- The second two turned. -/
theorem Hp.swap1 {q : Res} (h : Hp W0 T (q :: r :: s :: H) w) : Hp W0 T (q :: s :: r :: H) w := by
  obtain ⟨h1, h2⟩ := List.pairwise_cons.1 h.apart
  obtain ⟨h3, h4⟩ := List.pairwise_cons.1 h2
  obtain ⟨h5, h6⟩ := List.pairwise_cons.1 h4
  refine ⟨h.chg, fun x hx => h.all x ?_, List.pairwise_cons.2 ⟨fun x hx => h1 x ?_, List.pairwise_cons.2 ⟨fun x hx k hk hk' => ?_, List.pairwise_cons.2 ⟨fun x hx => h3 x (List.mem_cons_of_mem _ hx), h6⟩⟩⟩, fun x hx => h.own x ?_⟩
  · simp only [List.mem_cons] at hx ⊢; rcases hx with h | h | h | h <;> simp [h]
  · simp only [List.mem_cons] at hx ⊢; rcases hx with h | h | h <;> simp [h]
  · rcases List.mem_cons.1 hx with rfl | hx
    · exact h3 s List.mem_cons_self k hk' hk
    · exact h5 x hx k hk hk'
  · simp only [List.mem_cons] at hx ⊢; rcases hx with h | h | h | h <;> simp [h]
theorem Hp.topure {φ : Prop} (hφ : φ) (h : Hp W0 T (r :: H) w) : Hp W0 T (pureR φ r :: H) w := by
  obtain ⟨h1, h2⟩ := List.pairwise_cons.1 h.apart
  refine ⟨h.chg, fun x hx => ?_, List.pairwise_cons.2 ⟨h1, h2⟩, fun x hx k hk => ?_⟩
  · rcases List.mem_cons.1 hx with rfl | hx
    · exact ⟨h.all _ mem0, hφ⟩
    · exact h.all _ (List.mem_cons_of_mem _ hx)
  · rcases List.mem_cons.1 hx with rfl | hx
    · exact h.own r mem0 k hk
    · exact h.own _ (List.mem_cons_of_mem _ hx) k hk
theorem Hp.enter (h : r.holds w) : Hp w r.foot [r] w := ⟨Chg.refl _ _, by simpa using h, List.pairwise_singleton _ _, fun x hx k hk => by simp at hx; subst hx; exact .inl hk⟩
theorem Hp.leave (h : Hp W0 T [r] w) : r.holds w ∧ Chg W0 w T ∧ ∀ k, r.foot k → T k ∨ W0.heap.size ≤ k := ⟨h.all _ mem0, h.chg, h.own _ mem0⟩
theorem Hp.leaveNew (h : Hp W0 (fun _ => False) [r] w) : r.holds w ∧ Below W0.heap.size W0 w ∧ ∀ k, r.foot k → W0.heap.size ≤ k := ⟨h.all _ mem0, h.below, fun k hk => (h.own _ mem0 k hk).resolve_left id⟩
end
/-- A function turns a thing into another one. -/
def Turns (P : Program) (f : FuncId) (args : Array Value) (r : Res) {σ : Type} (v : σ → Value) (r' : σ → Res) : Prop :=
  ∀ w, r.holds w → Calls P f args w fun e w' => ∃ s, e = .returned (v s) ∧ (r' s).holds w' ∧ Chg w w' r.foot ∧ ∀ k, (r' s).foot k → r.foot k ∨ w.heap.size ≤ k
/-- A function yields v and changes nothing that was. -/
def Gives (P : Program) (f : FuncId) (args : Array Value) (v : Value) : Prop := ∀ w, Calls P f args w fun e w' => e = .returned v ∧ Below w.heap.size w w'
section
variable {P : Program} {W0 : World} {T : Nat → Prop} {H H' : List Res} {f : FuncId} {args : Array Value} {v : Value} {r r' : Res}
theorem Hp.turnx {σ : Type} {v : σ → Value} {r' : σ → Res} {H' : σ → List Res} (hr : r ∈ H) (hf : ∀ s, Foc H r (H' s) (r' s)) (h : Turns P f args r v r') : ∀ w, Hp W0 T H w → Calls P f args w fun e w' => ∃ s, e = .returned (v s) ∧ Hp W0 T (H' s) w' :=
  Hp.turns hr hf (fun w _ hw => h w hw)
theorem Hp.gives (h : Gives P f args v) : ∀ w, Hp W0 T H w → Calls P f args w fun e w' => ∃ _ : Unit, e = .returned v ∧ Hp W0 T H w' := Hp.calls (fun w _ => h w)
end
/-! ## Two operations that may come up in either order -/
section
variable {P : Program} {ops : Array Oper} {Q : Exit → Act → World → Prop} {n : Nat} {L : FL} {M : World → Prop} {o : Oper}
def Ye (P : Program) (o : Oper) (n : Nat) (L : FL) (M : World → Prop) {σ : Type} (v : σ → Value) (M' : σ → World → Prop) : Prop :=
  ∀ a w, Fr n L a → M w → ∀ (K : Act → World → Prop) (Q : Exit → Act → World → Prop), (∀ s w', M' s w' → K (a.put o.dst (v s)) w') → Oper.wp P o a w K Q
theorem Ymx.e {σ : Type} {v : σ → Value} {M' : σ → World → Prop} (h : Ymx P o n L M v M') : Ye P o n L M v M' := fun a w hf hm K Q hk => by
  obtain ⟨s, w', h1, h2⟩ := h a w hf hm
  unfold Oper.wp
  rw [h1, Oper.upon_value]
  exact hk s w' h2
theorem Yc.e {σ : Type} {v : σ → Value} {M' : σ → World → Prop} (h : Yc P o n L M v M') : Ye P o n L M v M' := fun a w hf hm K Q hk => by
  obtain ⟨f, args, h1, h2⟩ := h a w hf hm
  unfold Oper.wp
  rw [h1, Oper.upon_enter]
  refine h2.mono fun e w' hh => ?_
  obtain ⟨s, rfl, hm'⟩ := hh
  exact hk s w' hm'
theorem TA.two {S : World → Prop} {ds : List Nat} {fuel : Nat} {l : Array Bool} {oi oj : Oper} {i j di dj : Nat} {σ τ : Type} {vi : σ → Value} {vj : τ → Value} {Mi : σ → World → Prop} {Mj : τ → World → Prop} (li lj : Array Bool) (hi : ops[i]? = some oi) (hj : ops[j]? = some oj)
    (hdi : oi.dst = some di) (hdj : oj.dst = some dj) (hlti : Nat.blt di n = true) (hltj : Nat.blt dj n = true) (hc : (Region.ready .any ops l == [i, j] && l.setIfInBounds i true == li && l.setIfInBounds j true == lj) = true) (hdsi : i ∉ ds) (hdsj : j ∉ ds)
    (hwi : wantL ops L oi = some true) (hwj : wantL ops L oj = some true) (hyi : Ye P oi n L M vi Mi) (hyj : Ye P oj n L M vj Mj) (hSi : ∀ s w, Mi s w → S w) (hSj : ∀ s w, Mj s w → S w)
    (ki : ∀ s, TA P ops Q S ds fuel li n ((di, vi s) :: L) (Mi s)) (kj : ∀ s, TA P ops Q S ds fuel lj n ((dj, vj s) :: L) (Mj s)) : TA P ops Q S ds (fuel + 1) l n L M := fun a w hf hm =>
  two_ li lj hi hj hdi hdj hc hdsi hdsj
    (fun K hK => by
      rw [if_pos (hf.want hwi)]
      refine hyi a w hf hm K Q fun s w' hm' => ?_
      rw [hdi]
      exact hK.out _ _ (hSi s _ hm') (fun _ => ki s _ _ (hf.put hlti _) hm'))
    (fun K hK => by
      rw [if_pos (hf.want hwj)]
      refine hyj a w hf hm K Q fun s w' hm' => ?_
      rw [hdj]
      exact hK.out _ _ (hSj s _ hm') (fun _ => kj s _ _ (hf.put hltj _) hm'))
theorem TA.twoMM {S : World → Prop} {ds : List Nat} {fuel : Nat} {l : Array Bool} {oi oj : Oper} {i j di dj : Nat} {σ τ : Type} {vi : σ → Value} {vj : τ → Value} {Mi : σ → World → Prop} {Mj : τ → World → Prop} (li lj : Array Bool) (hi : ops[i]? = some oi) (hj : ops[j]? = some oj)
    (hdi : oi.dst = some di) (hdj : oj.dst = some dj) (hlti : Nat.blt di n = true) (hltj : Nat.blt dj n = true) (hc : (Region.ready .any ops l == [i, j] && l.setIfInBounds i true == li && l.setIfInBounds j true == lj) = true) (hdsi : i ∉ ds) (hdsj : j ∉ ds)
    (hwi : wantL ops L oi = some true) (hwj : wantL ops L oj = some true) (hyi : Ymx P oi n L M vi Mi) (hyj : Ymx P oj n L M vj Mj) (hSi : ∀ s w, Mi s w → S w) (hSj : ∀ s w, Mj s w → S w)
    (ki : ∀ s, TA P ops Q S ds fuel li n ((di, vi s) :: L) (Mi s)) (kj : ∀ s, TA P ops Q S ds fuel lj n ((dj, vj s) :: L) (Mj s)) : TA P ops Q S ds (fuel + 1) l n L M :=
  TA.two li lj hi hj hdi hdj hlti hltj hc hdsi hdsj hwi hwj (Ymx.e hyi) (Ymx.e hyj) hSi hSj ki kj
theorem TA.twoCM {S : World → Prop} {ds : List Nat} {fuel : Nat} {l : Array Bool} {oi oj : Oper} {i j di dj : Nat} {σ τ : Type} {vi : σ → Value} {vj : τ → Value} {Mi : σ → World → Prop} {Mj : τ → World → Prop} (li lj : Array Bool) (hi : ops[i]? = some oi) (hj : ops[j]? = some oj)
    (hdi : oi.dst = some di) (hdj : oj.dst = some dj) (hlti : Nat.blt di n = true) (hltj : Nat.blt dj n = true) (hc : (Region.ready .any ops l == [i, j] && l.setIfInBounds i true == li && l.setIfInBounds j true == lj) = true) (hdsi : i ∉ ds) (hdsj : j ∉ ds)
    (hwi : wantL ops L oi = some true) (hwj : wantL ops L oj = some true) (hyi : Yc P oi n L M vi Mi) (hyj : Ymx P oj n L M vj Mj) (hSi : ∀ s w, Mi s w → S w) (hSj : ∀ s w, Mj s w → S w)
    (ki : ∀ s, TA P ops Q S ds fuel li n ((di, vi s) :: L) (Mi s)) (kj : ∀ s, TA P ops Q S ds fuel lj n ((dj, vj s) :: L) (Mj s)) : TA P ops Q S ds (fuel + 1) l n L M :=
  TA.two li lj hi hj hdi hdj hlti hltj hc hdsi hdsj hwi hwj (Yc.e hyi) (Ymx.e hyj) hSi hSj ki kj
theorem TA.twoMC {S : World → Prop} {ds : List Nat} {fuel : Nat} {l : Array Bool} {oi oj : Oper} {i j di dj : Nat} {σ τ : Type} {vi : σ → Value} {vj : τ → Value} {Mi : σ → World → Prop} {Mj : τ → World → Prop} (li lj : Array Bool) (hi : ops[i]? = some oi) (hj : ops[j]? = some oj)
    (hdi : oi.dst = some di) (hdj : oj.dst = some dj) (hlti : Nat.blt di n = true) (hltj : Nat.blt dj n = true) (hc : (Region.ready .any ops l == [i, j] && l.setIfInBounds i true == li && l.setIfInBounds j true == lj) = true) (hdsi : i ∉ ds) (hdsj : j ∉ ds)
    (hwi : wantL ops L oi = some true) (hwj : wantL ops L oj = some true) (hyi : Ymx P oi n L M vi Mi) (hyj : Yc P oj n L M vj Mj) (hSi : ∀ s w, Mi s w → S w) (hSj : ∀ s w, Mj s w → S w)
    (ki : ∀ s, TA P ops Q S ds fuel li n ((di, vi s) :: L) (Mi s)) (kj : ∀ s, TA P ops Q S ds fuel lj n ((dj, vj s) :: L) (Mj s)) : TA P ops Q S ds (fuel + 1) l n L M :=
  TA.two li lj hi hj hdi hdj hlti hltj hc hdsi hdsj hwi hwj (Ymx.e hyi) (Yc.e hyj) hSi hSj ki kj
end
/-! ## Elements of a slice that came in -/
section
variable {P : Program} {W0 : World} {T : Nat → Prop} {H : List Res} {W : World} {vs : List Value} {A : Option Addr}
theorem Sl.some2 (h : Sl W A vs) (hl : 0 < vs.length) : ∃ b o, A = .some ⟨b, o, none⟩ := by
  obtain ⟨ad, e, hc⟩ := h 0 vs[0] (List.getElem?_eq_getElem hl)
  obtain ⟨b, o, s⟩ := ad
  cases s with
  | none => exact ⟨b, o, e⟩
  | some s =>
    simp only [Addr.add, if_true] at hc
    unfold World.cell? at hc
    split at hc <;> simp at hc
theorem Sl.cellAt {b o j q : Nat} {v : Value} (h : Sl W0 (.some ⟨b, o, none⟩) vs) (hj : vs[j]? = .some v) (hT : ∀ k, ¬ T k) (hq : o + j = q) : ∀ w, Hp W0 T H w → w.cell? ⟨b, q, none⟩ = .some v := by
  have := Sl.cell (H := H) h hj hT
  rw [Addr.at_, hq] at this
  exact this
end
/-! ## Arrays by what stands at each place -/
def rowA (k : Nat) (g : Nat → Value) : Array Value := Array.ofFn (n := k) fun j => g j.val
def upV {α : Type} (g : Nat → α) (i : Nat) (v : α) : Nat → α := fun j => if j = i then v else g j
theorem upV_ne {α : Type} (g : Nat → α) {i j : Nat} (v : α) (h : j ≠ i) : upV g i v j = g j := if_neg h
theorem rowA_size (k : Nat) (g : Nat → Value) : (rowA k g).size = k := by simp [rowA]
theorem rowA_get {k : Nat} {g : Nat → Value} {i : Nat} (h : i < k) : (rowA k g)[i]? = some (g i) := by
  rw [rowA, Array.getElem?_ofFn, dif_pos h]
theorem rowA_set (k : Nat) (g : Nat → Value) (i : Nat) (v : Value) : putAt (rowA k g) i [v] = rowA k (upV g i v) := by
  show (rowA k g).setIfInBounds i v = _
  apply Array.ext
  · simp [rowA]
  · intro j h1 h2
    have hj : j < k := by simpa [rowA] using h2
    by_cases e : i = j
    · subst e
      rw [Array.getElem_setIfInBounds_self]
      simp [rowA, upV]
    · rw [Array.getElem_setIfInBounds_ne (by simpa [rowA] using hj) e]
      simp [rowA, upV, Ne.symm e]
theorem rowA_list (k : Nat) (g : Nat → Value) : (rowA k g).toList = (List.range k).map g := by
  apply List.ext_getElem?
  intro i
  rw [Array.getElem?_toList]
  by_cases h : i < k
  · rw [rowA_get h]; simp [h]
  · rw [Array.getElem?_eq_none (by rw [rowA_size]; omega), List.getElem?_eq_none (by simp; omega)]
section
variable {P : Program} {W0 : World} {T : Nat → Prop} {H H' : List Res} {n : Nat} {L : FL}
/-- One element of a row. -/
theorem Hp.rowAt {b i k : Nat} {g : Nat → Value} {e : TypeId} {v : Value} (hm : blk b (.cells (rowA k g) e (0, 0)) ∈ H) (h : i < k) (hv : g i = v) : ∀ w, Hp W0 T H w → w.cell? ⟨b, i, none⟩ = some v := hv ▸ Hp.cell hm (rowA_get h)
/-- A store into a row. -/
theorem Ys.row {o : Oper} {t : TypeId} {p x : Operand} {b i k : Nat} {u : Value} {g g' : Nat → Value} {e : TypeId} (ho : o.op = .store t p x) (hp : evO L p = some (.pointer (some ⟨b, i, none⟩))) (hx : evO L x = some u) (hu : u.cells.toList = [u]) (ht : (P.info? t).map (·.size) = some 1) (h1 : u.oneCell' = true)
    (hf : Foc H (blk b (.cells (rowA k g) e (0, 0))) H' (blk b (.cells (rowA k g') e (0, 0)))) (hfit : i < k) (hc : upV g i u = g') : Ys P o n L (Hp W0 T H) (Hp W0 T H') := by
  subst hc
  exact Ys.store (seg := [u]) ho hp hx hu ht (by simpa using h1) hf (by rw [rowA_size]; simp; omega) (rowA_set k g i u)
/-- What lies in a block of one's own is a slice that came in, for whom one calls. -/
theorem Sl.ofBlk {w : World} {b : Nat} {c : Array Value} {e : TypeId} {vs : List Value} (h : w.heap[b]? = .some (.cells c e (0, 0))) (hc : c.toList = vs) : Sl w (.some ⟨b, 0, .none⟩) vs := fun j v hj => by
  refine ⟨_, rfl, ?_⟩
  subst hc
  rw [Addr.at_, Nat.zero_add, blk_cell h]
  simpa using hj
end
/-! ## Reading where nothing is turned; elements of slices -/
section
variable {P : Program} {W0 : World} {T : Nat → Prop} {H H' : List Res} {n : Nat} {L : FL} {M : World → Prop} {o : Oper}
theorem Hp.oldB {b off : Nat} {c : Array Value} {e : TypeId} {v : Value} (hb : W0.heap[b]? = some (.cells c e (0, 0))) (hc : c[off]? = some v) (hT : ¬ T b) : ∀ w, Hp W0 T H w → w.cell? ⟨b, off, none⟩ = some v :=
  Hp.old (p := ⟨b, off, none⟩) (by rw [blk_cell hb]; exact hc) hT
theorem Addr.at_0 (b j : Nat) : (⟨b, 0, none⟩ : Addr).add j = ⟨b, j, none⟩ := by rw [Addr.at_, Nat.zero_add]
section
variable {t e : TypeId} {x i : Operand} {b c len cap k j : Nat} {q : IntKind} {z : Int}
theorem Yl.ixn (ho : o.op = .indexAddr t x i) (hx : evO L x = some (.slice (some ⟨b, 0, none⟩) len cap)) (hi : evO L i = some (.int q (j : Int))) (ht : P.underlying t = some (.slice e)) (hz : (P.info? e).map (·.size) = some 1) (h1 : j < len) : Yl P o n L M (.pointer (some ⟨b, j, none⟩)) :=
  Yl.idxS (k := 1) ho hx hi ht hz (by omega) (by omega) (by rw [Int.toNat_natCast, Nat.mul_one, Addr.at_0])
theorem Yl.ixz (ho : o.op = .indexAddr t x i) (hx : evO L x = some (.slice (some ⟨b, 0, none⟩) len cap)) (hi : evO L i = some (.int q z)) (ht : P.underlying t = some (.slice e)) (hz : (P.info? e).map (·.size) = some 1) (h0 : 0 ≤ z) (h1 : z < len) : Yl P o n L M (.pointer (some ⟨b, z.toNat, none⟩)) :=
  Yl.idxS (k := 1) ho hx hi ht hz h0 h1 (by rw [Nat.mul_one, Addr.at_0])
theorem Yl.ixcn (ho : o.op = .indexAddr t x i) (hx : evO L x = some (.slice (some ⟨b, c, none⟩) len cap)) (hi : evO L i = some (.int q (j : Int))) (ht : P.underlying t = some (.slice e)) (hz : (P.info? e).map (·.size) = some 1) (h1 : j < len) : Yl P o n L M (.pointer (some ⟨b, c + j, none⟩)) :=
  Yl.idxS (k := 1) ho hx hi ht hz (by omega) (by omega) (by rw [Int.toNat_natCast, Nat.mul_one, Addr.at_])
theorem Yl.ixkn (ho : o.op = .indexAddr t x i) (hx : evO L x = some (.slice (some ⟨b, c, none⟩) len cap)) (hi : evO L i = some (.int q (j : Int))) (ht : P.underlying t = some (.slice e)) (hz : (P.info? e).map (·.size) = some k) (h1 : j < len) : Yl P o n L M (.pointer (some ⟨b, c + j * k, none⟩)) :=
  Yl.idxS (k := k) ho hx hi ht hz (by omega) (by omega) (by rw [Int.toNat_natCast, Addr.at_])
theorem Yl.ixkz (ho : o.op = .indexAddr t x i) (hx : evO L x = some (.slice (some ⟨b, c, none⟩) len cap)) (hi : evO L i = some (.int q z)) (ht : P.underlying t = some (.slice e)) (hz : (P.info? e).map (·.size) = some k) (h0 : 0 ≤ z) (h1 : z < len) : Yl P o n L M (.pointer (some ⟨b, c + z.toNat * k, none⟩)) :=
  Yl.idxS (k := k) ho hx hi ht hz h0 h1 (by rw [Addr.at_])
end
/-- A slice of numbers that came in. -/
theorem Sl.rd {b c : Nat} {α : Type} {l : List α} {h : α → Value} {j q : Nat} (d : α) (hs : Sl W0 (.some ⟨b, c, none⟩) (l.map h)) (hq : c + j = q) (hj : j < l.length) (hT : ∀ k, ¬ T k) : ∀ w, Hp W0 T H w → w.cell? ⟨b, q, none⟩ = .some (h (l.getD j d)) :=
  Sl.cellAt hs (by simp [List.getElem?_map, List.getElem?_eq_getElem hj]) hT hq
theorem Sl.in {α : Type} {l : List α} {h : α → Value} {A : Option Addr} (hs : Sl W0 A (l.map h)) (hl : 0 < l.length) : ∃ b o, A = .some ⟨b, o, none⟩ := Sl.some2 hs (by simpa using hl)
end
theorem drop_get (l : List Int) (i : Nat) (h : i < l.length) : l.drop i = l.getD i 0 :: l.drop (i + 1) := by
  rw [List.drop_eq_getElem_cons h, List.getD_eq_getElem?_getD, List.getElem?_eq_getElem h, Option.getD_some]
theorem u64in {x : Int} (h0 : 0 ≤ x) (h1 : x < 18446744073709551616) : IntKind.u64.wrap x = x := by
  rw [show IntKind.u64.wrap x = x % 18446744073709551616 by simp [IntKind.wrap, IntKind.bits, IntKind.signed]]; omega
theorem u64mod (x : Int) : IntKind.u64.wrap x = x % 18446744073709551616 := by simp [IntKind.wrap, IntKind.bits, IntKind.signed]
/-! ## Weaker knowledge; slices of one's own that are written, and appended to -/
section
variable {P : Program} {ops : Array Oper} {Q : Exit → Act → World → Prop} {n : Nat} {L : FL} {M M' : World → Prop} {o : Oper} {W0 : World} {T : Nat → Prop} {H H' : List Res}
theorem TC.wk {c : Code} (h : ∀ w, M w → M' w) (k : TC P c Q n L M') : TC P c Q n L M := fun a w hf hm => k a w hf (h w hm)
theorem TL.wk {rest : List Oper} (h : ∀ w, M w → M' w) (k : TL P ops Q rest n L M') : TL P ops Q rest n L M := fun a w hf hm => k a w hf (h w hm)
theorem TA.wk {S : World → Prop} {ds : List Nat} {fuel : Nat} {l : Array Bool} (h : ∀ w, M w → M' w) (k : TA P ops Q S ds fuel l n L M') : TA P ops Q S ds fuel l n L M := fun a w hf hm => k a w hf (h w hm)
theorem Hp.ownSl {e : TypeId} {size : Nat} {v : Value} {m : Nat} {xs : List Value} (hr : ownR e size v m xs ∈ H) : ∀ w, Hp W0 T H w → ∃ A c, v = .slice A m c := fun w h => by
  rcases h.ownShape hr with ⟨rfl, rfl⟩ | ⟨g, cap, rfl⟩
  · exact ⟨none, 0, rfl⟩
  · exact ⟨_, _, rfl⟩
theorem run_append_of_nil {w : World} (base : Nat) (t ty e : TypeId) (i : TypeInfo) (size : Nat) (ht : P.underlying t = some (.slice e)) (hi : P.info? e = some i)
    (v : Value) (n : Nat) (xs : List Value) (hown : w.ownsRow base e size v n xs) (c : Nat) : (Builtin.append_ #[t, t] ty #[v, .slice none 0 c]).run P w = .ok v w := by
  rcases hown.2 with ⟨rfl, rfl⟩ | ⟨g, cap, cur, rfl, _, _, hnc, _⟩
  · simp [Builtin.append_, run_underlying ht, sizeOf, typeInfo, hi, Builtin.lenOf, Builtin.firstCells]
  · simp [Builtin.append_, run_underlying ht, sizeOf, typeInfo, hi, Builtin.lenOf, Builtin.firstCells, hnc, storeCells]
/-- append of a slice, empty or not. -/
theorem Ym.appendSl {H' : Value → List Res} {s x : Operand} {t e : TypeId} {z : Value} {size bytes : Nat} {v : Value} {m : Nat} {xs : List Value} {A : Option Addr} {k c : Nat} {news : List Value} (ho : o.op = .call { callee := .builtin .append, args := #[s, x], argTypes := #[t, t] })
    (ht : P.underlying t = some (.slice e)) (hi : (P.info? e).map (fun i => (i.zero, i.size, i.bytes)) = some (some z, size, bytes)) (hz : z.cells.size = size) (hs0 : 0 < size) (hb0 : 0 < bytes) (hs : evO L s = some v) (hx : evO L x = some (.slice A k c)) (hl : news.length = k * size)
    (hnews : ∀ w, Hp W0 T H w → Sl w A news) (h1 : ∀ u ∈ news, u.oneCell' = true) (hlen : (m + k) * bytes ≤ 140737488355328) (hf : ∀ v', Foc H (ownR e size v m xs) (H' v') (ownR e size v' (m + k) (xs ++ news))) :
    Ymx P o n L (Hp W0 T H) (fun v' => v') (fun v' w => Hp W0 T (H' v') w) := fun a w hfr hm => by
  cases A with
  | some ad => exact Ym.append ho ht hi hz hs0 hb0 hs hx hl (fun w hw j u hj => by obtain ⟨ad', e, hc⟩ := hnews w hw j u hj; cases e; exact hc) h1 hlen hf a w hfr hm
  | none =>
    have hn : news = [] := by
      cases news with
      | nil => rfl
      | cons y ys => obtain ⟨ad, e, _⟩ := hnews w hm 0 y rfl; cases e
    subst hn
    have hk : k = 0 := by
      rcases Nat.eq_zero_or_pos k with h | h
      · exact h
      · have := Nat.mul_pos h hs0; simp at hl; omega
    subst hk
    obtain ⟨i, hi, hzz⟩ := Option.map_eq_some_iff.1 hi
    have hr := run_append_of_nil (P := P) 0 t o.type e i size ht hi v m xs (hm.all _ (hf v).mem) c
    refine ⟨v, w, ?_, ?_⟩
    · unfold execOp
      simp [ho, resolve, invoke, builtin, hfr.ev hs, hfr.ev hx, hr]
    · have hq : (ownR e size v (m + 0) (xs ++ [])).holds w := by simpa using hm.all _ (hf v).mem
      exact hm.turn (hf v) (Chg.refl _ _) hq (fun j hj => .inl hj)
def putL : List Value → Nat → List Value → List Value
  | xs, _, [] => xs
  | xs, o, v :: vs => putL (xs.set o v) (o + 1) vs
theorem putL_length : ∀ (seg : List Value) (off : Nat) (xs : List Value), (putL xs off seg).length = xs.length
  | [], _, _ => rfl
  | v :: vs, off, xs => by rw [putL, putL_length vs]; simp
theorem putAt_take (k : Nat) : ∀ (seg : List Value) (off : Nat) (cur : Array Value), off + seg.length ≤ k → (putAt cur off seg).toList.take k = putL (cur.toList.take k) off seg
  | [], _, _, _ => rfl
  | v :: vs, off, cur, h => by
    rw [putAt, putL, putAt_take k vs (off + 1) _ (by simp at h; omega), Array.toList_setIfInBounds, List.take_set]
theorem putAt_size : ∀ (seg : List Value) (off : Nat) (cur : Array Value), (putAt cur off seg).size = cur.size
  | [], _, _ => rfl
  | v :: vs, off, cur => by rw [putAt, putAt_size vs]; simp
/-- A store into a slice of one's own. -/
theorem Ys.own {t : TypeId} {p x : Operand} {g off size cap m : Nat} {u : Value} {seg xs xs' : List Value} {e : TypeId} (ho : o.op = .store t p x) (hp : evO L p = some (.pointer (some ⟨g, off, none⟩))) (hx : evO L x = some u) (hu : u.cells.toList = seg) (ht : (P.info? t).map (·.size) = some seg.length) (h1 : ∀ q ∈ seg, q.oneCell' = true)
    (hf : Foc H (ownR e size (.slice (some ⟨g, 0, none⟩) m cap) m xs) H' (ownR e size (.slice (some ⟨g, 0, none⟩) m cap) m xs')) (hfit : off + seg.length ≤ xs.length) (hc : putL xs off seg = xs') : Ys P o n L (Hp W0 T H) (Hp W0 T H') := fun a w hfr hm => by
  subst hc
  have hw := hm.all _ hf.mem
  obtain ⟨hlen, h2⟩ := hw
  rcases h2 with ⟨h2, _⟩ | ⟨g', cap', cur, h2, hg, hb, hmc, hcm, hcs, htk⟩
  · cases h2
  · injection h2 with h2 _ h3
    injection h2 with h2
    injection h2 with h2
    subst h2; subst h3
    have hle : m * size ≤ cap * size := Nat.mul_le_mul_right _ hmc
    have hr := run_store_run (P := P) (o := off) t u seg hb hu ht (by rw [hcs]; omega) h1
    have hup := upd_cells g e seg off cur w hb
    refine ⟨w.setCells g off seg, ?_, hm.turn hf ?_ ⟨by rw [putL_length]; exact hlen, .inr ⟨g, cap, _, rfl, Nat.zero_le _, hup.new, hmc, hcm, by rw [putAt_size]; exact hcs, ?_⟩⟩ (fun k hk => .inl hk)⟩
    · unfold execOp; simp [ho, hfr.ev hp, hfr.ev hx, hr]
    · have := Chg.of_upd hup
      exact ⟨this.os, this.tape, this.output, this.size, fun k hk hn => this.block k hk (fun e => hn (by subst e; rfl))⟩
    · rw [putAt_take (m * size) seg off cur (by omega), htk]
end
/-! Short names for what is printed often. -/
theorem nrm : (∀ (p : Prop) [Decidable p], (decide p = true) = p) ∧ (∀ (p : Prop) [Decidable p], (decide p = false) ↔ ¬ p) ∧ (∀ {α : Type} [BEq α] [LawfulBEq α] {a b : α}, (a == b) = true ↔ a = b) ∧ (∀ {α : Type} [BEq α] [LawfulBEq α] {a b : α}, (a == b) = false ↔ a ≠ b) ∧ (∀ {α : Type} [BEq α] [LawfulBEq α] {a b : α}, (a != b) = true ↔ a ≠ b) ∧ (∀ {α : Type} (a b : α), (a ≠ b) = ¬ (a = b)) ∧ (∀ {α : Type} [BEq α] [LawfulBEq α] {a b : α}, (a != b) = false ↔ a = b) ∧ (∀ (b : Bool), ((!b) = true) = (b = false)) ∧ (∀ (b : Bool), ((!b) = false) = (b = true)) ∧ (∀ {a b : Int}, ¬ a < b ↔ b ≤ a) ∧ (∀ {a b : Int}, ¬ a ≤ b ↔ b < a) ∧ (∀ {α : Type} [LT α] {a b : α}, a > b ↔ b < a) ∧ (∀ {α : Type} [LE α] {a b : α}, a ≥ b ↔ b ≤ a) := ⟨fun p _ => decide_eq_true_eq, fun p _ => decide_eq_false_iff_not, beq_iff_eq, beq_eq_false_iff_ne, bne_iff_ne, fun a b => ne_eq a b, bne_eq_false_iff_eq, fun b => Bool.not_eq_true' b, fun b => Bool.not_eq_false' b, Int.not_lt, Int.not_le, gt_iff_lt, ge_iff_le⟩
theorem sR {α : Type} (l : List α) : l.Sublist l := List.Sublist.refl l
theorem sN {α : Type} (l : List α) : ([] : List α).Sublist l := List.nil_sublist l
theorem sK {α : Type} {l m : List α} (a : α) (h : l.Sublist m) : (a :: l).Sublist (a :: m) := List.Sublist.cons_cons a h
theorem sC {α : Type} {l m : List α} (a : α) (h : l.Sublist m) : l.Sublist (a :: m) := List.Sublist.cons a h
end Go.Proofs.Ytabjdjkkpbkpfaa.HL
