/- Spaces: what they are, where they lie. -/
import Derived.Test.YtabjdjkkpbkpfaaSpD
import Derived.Test.YtabjdjkkpbkpfaaSpC
import Derived.Test.YtabjdjkkpbkpfaaRxZ
import Derived.Test.YtabjdjkkpbkpfaaProg
import Derived.RowKit3
namespace Go.Proofs.Ytabjdjkkpbkpfaa.Pk
open Go Go.RowKit Go.Proofs.Ytabjdjkkpbkpfaa.HL Go.Proofs.Ytabjdjkkpbkpfaa.Ev Go.Proofs.YtabjdjkkpbkpfaaW.PrintWords Go.Proofs.RgP Go.Proofs.RxP
set_option linter.unusedVariables false
set_option linter.unusedSimpArgs false
/-! ### A space, as values -/
def zEn : En := ⟨0, 0, false, false⟩
structure SS where
  G : List S25
  E : Nat → Option En
def encF (E : Nat → Option En) : Sf := fun n => (E n).map encE
def gE (u : SS) (n : Int) : Option En := if 0 ≤ n ∧ n < 65536 then u.E n.toNat else none
theorem gt_enc (u : SS) (n : Int) : gt (encF u.E) n = (gE u n).map encE := by unfold gt gE encF; split <;> rfl
theorem gE_nat {u : SS} {n : Nat} (h : n < 65536) : gE u (n : Int) = u.E n := by unfold gE; rw [if_pos (by omega)]; rfl
structure SS.Ok (u : SS) : Prop where
  right : rightB u.G = true
  ok : ∀ n e, u.E n = some e → okE e
  cov : ∀ n e, u.E n = some e → (u.G.find? (inB (n : Int))).isSome = true
theorem len_right : ∀ {l : List S25} {a : Int}, a ≤ 65536 → rightAt a l = true → (l.length : Int) ≤ 65536 - a
  | [], a, h, _ => by simp; omega
  | x :: l, a, h, hr => by
    rw [rightAt_cons] at hr
    have h1 := hr.1.b; have h2 := hr.1.c
    have := len_right h2 hr.2.2
    rw [List.length_cons]; omega
theorem SS.Ok.len {u : SS} (h : u.Ok) : u.G.length ≤ 65536 := by have := len_right (a := 0) (by omega) h.right; omega
theorem fnd_is {l : List S25} (h : rightB l = true) (n : Int) : fnd l n = l.find? (inB n) := if_pos h
theorem find_in {l : List S25} {a : Int} (h : rightAt a l = true) {n : Int} {x : S25} (hx : l.find? (inB n) = some x) : x ∈ l ∧ GoodG x ∧ x.f0 ≤ n ∧ n < x.f1 := by
  have hm := List.mem_of_find?_eq_some hx
  have hp := List.find?_some hx
  exact ⟨hm, (right_mem h x hm).1, (inB_iff n x).1 hp⟩
theorem fnd_in {u : SS} (h : u.Ok) {n : Int} (hs : (fnd u.G n).isSome = true) : 0 ≤ n ∧ n < 65536 := by
  rw [fnd_is h.right] at hs
  obtain ⟨x, hx⟩ := Option.isSome_iff_exists.1 hs
  obtain ⟨_, hg, h1, h2⟩ := find_in h.right hx
  have := hg.a; have := hg.c
  omega
theorem SS.Ok.page {u : SS} (h : u.Ok) {n : Nat} {e : En} (he : u.E n = some e) : n < 65536 := by
  have h1 := h.cov n e he
  rw [← fnd_is h.right] at h1
  have := fnd_in h h1; omega
theorem gE_some {u : SS} {n : Int} {e : En} (h : gE u n = some e) : 0 ≤ n ∧ n < 65536 ∧ u.E n.toNat = some e := by
  unfold gE at h
  split at h
  · rename_i h1; exact ⟨h1.1, h1.2, h⟩
  · cases h
theorem gE_ok {u : SS} (hu : u.Ok) {n : Int} {e : En} (h : gE u n = some e) : okE e := hu.ok _ e (gE_some h).2.2
def newS : SS := ⟨[], fun _ => none⟩
theorem newS_ok : newS.Ok := ⟨rfl, fun n e h => (by cases h), fun n e h => (by cases h)⟩
def mapS (u : SS) (x : S25) : SS := if (addL u.G x).2 = 0 then ⟨(addL u.G x).1, u.E⟩ else u
theorem addL_ok {l : List S25} {x : S25} (h : (addL l x).2 = 0) : rightB l = true ∧ GoodG x ∧ l.length < 64 ∧ ov x l = false ∧ (addL l x).1 = ins x l := by
  unfold addL at h ⊢
  split at h
  · rename_i h1
    rw [if_pos h1]
    split at h
    · cases h
    · rename_i h2
      rw [if_neg h2]
      exact ⟨h1.1, (good_iff x).1 h1.2.1, h1.2.2, by rw [← busy_ov h1.1]; simpa using h2, rfl⟩
  · cases h
theorem mapS_ok {u : SS} (hu : u.Ok) (x : S25) : (mapS u x).Ok := by
  unfold mapS
  split
  · rename_i h
    obtain ⟨h1, h2, h3, h4, h5⟩ := addL_ok h
    rw [h5]
    refine ⟨ins_right h2 h1 h4 h2.a, hu.ok, fun n e he => ?_⟩
    by_cases hi : inB (n : Int) x = true
    · show ((ins x u.G).find? (inB (n : Int))).isSome = true
      rw [(ins_find_in hi h1 h4).1]; rfl
    · show ((ins x u.G).find? (inB (n : Int))).isSome = true
      rw [ins_find_out hi]; exact hu.cov n e he
  · exact hu
def updE (E : Nat → Option En) (q : Nat) (x : Option En) : Nat → Option En := fun p => if p = q then x else E p
instance (e : En) : Decidable (okE e) := by unfold okE; infer_instance
def sset (u : SS) (n : Int) (e : En) : SS × Int := if (fnd u.G n).isSome = true then (if okE e then (⟨u.G, updE u.E n.toNat (some e)⟩, 0) else (u, 1)) else (u, 14)
theorem sset_ok {u : SS} (hu : u.Ok) (n : Int) (e : En) : (sset u n e).1.Ok := by
  unfold sset
  split
  · rename_i h1
    split
    · rename_i h2
      refine ⟨hu.right, fun p y hy => ?_, fun p y hy => ?_⟩
      · simp only [updE] at hy
        split at hy
        · cases hy; exact h2
        · exact hu.ok p y hy
      · simp only [updE] at hy
        split at hy
        · rename_i h3
          have hn := fnd_in hu h1
          rw [fnd_is hu.right] at h1
          rw [h3, show ((n.toNat : Nat) : Int) = n by omega]; exact h1
        · exact hu.cov p y hy
    · exact hu
  · exact hu
def scut (u : SS) (a b : Int) : SS := ⟨cutL u.G a b, fun p => if a ≤ (p : Int) ∧ (p : Int) < b then none else u.E p⟩
theorem cutL_is {l : List S25} (h : rightB l = true) (a b : Int) : cutL l a b = cutS l a b := if_pos h
theorem cut_find {l : List S25} (h : rightB l = true) {a b n : Int} (hn : ¬ (a ≤ n ∧ n < b)) : ((cutS l a b).find? (inB n)).isSome = (l.find? (inB n)).isSome := by
  rcases cut_find_out hn h with ⟨h1, h2⟩ | ⟨x, y, h1, h2, _⟩ <;> rw [h1, h2] <;> rfl
theorem scut_ok {u : SS} (hu : u.Ok) (a b : Int) : (scut u a b).Ok := by
  refine ⟨?_, fun p y hy => ?_, fun p y hy => ?_⟩
  · show rightB (cutL u.G a b) = true
    rw [cutL_is hu.right]; exact cut_right hu.right a b
  · simp only [scut] at hy
    split at hy
    · cases hy
    · exact hu.ok p y hy
  · simp only [scut] at hy
    split at hy
    · cases hy
    · rename_i h1
      show ((cutL u.G a b).find? (inB (p : Int))).isSome = true
      rw [cutL_is hu.right, cut_find hu.right h1]; exact hu.cov p y hy
def stouch (u : SS) (n : Int) : SS := ⟨u.G, fun p => if (p : Int) = n then (u.E p).map (tch · true) else u.E p⟩
theorem stouch_ok {u : SS} (hu : u.Ok) (n : Int) : (stouch u n).Ok := by
  refine ⟨hu.right, fun p y hy => ?_, fun p y hy => ?_⟩
  · simp only [stouch] at hy
    split at hy
    · obtain ⟨z, hz, rfl⟩ := Option.map_eq_some_iff.1 hy; exact tch_ok (hu.ok p z hz) true
    · exact hu.ok p y hy
  · simp only [stouch] at hy
    split at hy
    · obtain ⟨z, hz, rfl⟩ := Option.map_eq_some_iff.1 hy; exact hu.cov p z hz
    · exact hu.cov p y hy
def restL (u : SS) (l : List Int) : Nat → Option En := fun p => if (p : Int) ∈ l then (u.E p).map (tch · false) else u.E p
def srest (u : SS) : SS := ⟨u.G, fun p => (u.E p).map (tch · false)⟩
theorem srest_ok {u : SS} (hu : u.Ok) : (srest u).Ok := by
  refine ⟨hu.right, fun p y hy => ?_, fun p y hy => ?_⟩
  · obtain ⟨z, hz, rfl⟩ := Option.map_eq_some_iff.1 hy; exact tch_ok (hu.ok p z hz) false
  · obtain ⟨z, hz, rfl⟩ := Option.map_eq_some_iff.1 hy; exact hu.cov p z hz
def pgsE (u : SS) (a b : Int) : List Int := walkL (encF u.E) a b
def pgE (u : SS) (n : Int) : Int := ((gE u n).getD zEn).pg
def idsL (u : SS) (a b : Int) : List Int := (pgsE u a b).map (pgE u)
def tchd (u : SS) (n : Int) : Bool := ((gE u n).getD zEn).t
def restC (u : SS) : Nat := ((pgsE u 0 65536).filter (tchd u)).length
def sizeS (u : SS) : Nat := rk (encF u.E) 65536
theorem pgsE_mem {u : SS} {a b n : Int} : n ∈ pgsE u a b ↔ (gE u n).isSome = true ∧ a ≤ n ∧ n < b := by
  unfold pgsE
  rw [walkL_mem, gt_enc, Option.isSome_map]
theorem enc_set {u : SS} {n : Int} {e : En} (h : 0 ≤ n ∧ n < 65536) : setS (encF u.E) n (encE e) = encF (updE u.E n.toNat (some e)) := by
  unfold setS; rw [if_pos h]
  funext p
  unfold updS encF updE
  split <;> rfl
theorem enc_touch {u : SS} {n : Int} {e : En} (he : gE u n = some e) : setS (encF u.E) n (encE (tch e true)) = encF (stouch u n).E := by
  obtain ⟨h1, h2, h3⟩ := gE_some he
  rw [enc_set ⟨h1, h2⟩]
  funext p
  unfold encF updE stouch
  dsimp only
  by_cases h : p = n.toNat
  · rw [if_pos h, if_pos (by omega), h, h3]; rfl
  · rw [if_neg h, if_neg (by omega)]
theorem stouch_no {u : SS} {n : Int} (hu : u.Ok) (he : gE u n = none) : stouch u n = u := by
  have : (stouch u n).E = u.E := by
    funext p
    simp only [stouch]
    split
    · rename_i h
      cases h4 : u.E p with
      | none => rfl
      | some e =>
        have := hu.page h4
        rw [← h, gE_nat this, h4] at he; cases he
    · rfl
  calc stouch u n = ⟨u.G, (stouch u n).E⟩ := rfl
    _ = u := by rw [this]
/-- All of a list dropped. -/
def offs (S : Sf) (l : List Int) : Sf := fun p => if (p : Int) ∈ l then none else S p
theorem offs_snoc (S : Sf) (l : List Int) {n : Int} (h : 0 ≤ n ∧ n < 65536) : offS (offs S l) n = offs S (l ++ [n]) := by
  unfold offS; rw [if_pos h]
  funext p
  unfold updS offs
  by_cases h1 : p = n.toNat
  · rw [if_pos h1, if_pos (by rw [List.mem_append, List.mem_singleton]; right; omega)]
  · rw [if_neg h1]
    by_cases h2 : (p : Int) ∈ l
    · rw [if_pos h2, if_pos (List.mem_append_left _ h2)]
    · rw [if_neg h2, if_neg (by rw [List.mem_append, List.mem_singleton]; rintro (h | h); exact h2 h; omega)]
theorem offs_nil (S : Sf) : offs S [] = S := by funext p; unfold offs; rw [if_neg (by simp)]
theorem enc_cut {u : SS} (hu : u.Ok) (a b : Int) : offs (encF u.E) (pgsE u a b) = encF (scut u a b).E := by
  funext p
  unfold offs encF scut
  dsimp only
  cases hp : u.E p with
  | none => simp
  | some e =>
    have := hu.page hp
    by_cases h : a ≤ (p : Int) ∧ (p : Int) < b
    · rw [if_pos (pgsE_mem.2 ⟨by rw [gE_nat this, hp]; rfl, h⟩), if_pos h]; rfl
    · rw [if_neg (fun hm => h (pgsE_mem.1 hm).2), if_neg h]
theorem restL_nil (u : SS) : restL u [] = u.E := by funext p; unfold restL; rw [if_neg (by simp)]
theorem restL_all {u : SS} (hu : u.Ok) : restL u (pgsE u 0 65536) = (srest u).E := by
  funext p
  unfold restL srest
  dsimp only
  cases hp : u.E p with
  | none => simp
  | some e =>
    have := hu.page hp
    rw [if_pos (pgsE_mem.2 ⟨by rw [gE_nat this, hp]; rfl, by omega, by omega⟩)]
theorem tch_same {e : En} {b : Bool} (h : e.t = b) : tch e b = e := by subst h; rfl
theorem restL_same {u : SS} {l : List Int} {n : Int} {e : En} (he : gE u n = some e) (ht : e.t = false) : restL u (l ++ [n]) = restL u l := by
  obtain ⟨h1, h2, h3⟩ := gE_some he
  funext p
  unfold restL
  by_cases h : (p : Int) ∈ l
  · rw [if_pos h, if_pos (List.mem_append_left _ h)]
  · rw [if_neg h]
    by_cases h4 : (p : Int) = n
    · rw [if_pos (by rw [List.mem_append, List.mem_singleton]; exact .inr h4), show p = n.toNat by omega, h3, Option.map_some, tch_same ht]
    · rw [if_neg (by rw [List.mem_append, List.mem_singleton]; rintro (h | h'); exact absurd h (by assumption); exact h4 h')]
theorem restL_set {u : SS} {l : List Int} {n : Int} {e : En} (he : gE u n = some e) : setS (encF (restL u l)) n (encE (tch e false)) = encF (restL u (l ++ [n])) := by
  obtain ⟨h1, h2, h3⟩ := gE_some he
  rw [enc_set (u := ⟨u.G, restL u l⟩) ⟨h1, h2⟩]
  funext p
  unfold encF updE restL
  dsimp only
  by_cases h : p = n.toNat
  · rw [if_pos h, if_pos (by rw [List.mem_append, List.mem_singleton]; right; omega), h, h3]; rfl
  · rw [if_neg h]
    by_cases h4 : (p : Int) ∈ l
    · rw [if_pos h4, if_pos (List.mem_append_left _ h4)]
    · rw [if_neg h4, if_neg (by rw [List.mem_append, List.mem_singleton]; rintro (h' | h'); exact h4 h'; omega)]
theorem restL_get {u : SS} {l : List Int} {n : Int} (h : ¬ n ∈ l) : gE ⟨u.G, restL u l⟩ n = gE u n := by
  unfold gE restL
  split
  · dsimp only
    rw [if_neg (by rw [show ((n.toNat : Nat) : Int) = n by omega]; exact h)]
  · rfl
theorem gI_new' {l : List Int} (hr : l.Pairwise (· < ·)) {i : Nat} (hi : i < l.length) : ¬ gI l i ∈ l.take i := by
  intro hm
  obtain ⟨j, hj, he⟩ := List.getElem_of_mem hm
  rw [List.length_take] at hj
  rw [List.getElem_take] at he
  have := List.pairwise_iff_getElem.1 hr j i (by omega) hi (by omega)
  have h2 : gI l i = l[i] := by unfold gI; simp [hi]
  omega
theorem pgs_rise (u : SS) (a b : Int) : (pgsE u a b).Pairwise (· < ·) := by unfold pgsE; exact walkL_rise _ _ _
theorem gI_new {u : SS} {a b : Int} {i : Nat} (hi : i < (pgsE u a b).length) : ¬ gI (pgsE u a b) i ∈ (pgsE u a b).take i := gI_new' (pgs_rise u a b) hi
theorem gI_take {l : List Int} {i : Nat} (h : i < l.length) : l.take (i + 1) = l.take i ++ [gI l i] := by rw [List.take_add_one, gI_get h]; rfl
theorem pgs_len2 (u : SS) (a b : Int) : (pgsE u a b).length ≤ 65536 := walkL_len _ a b
theorem pgs_get {u : SS} {a b : Int} {i : Nat} (h : i < (pgsE u a b).length) : ∃ e, gE u (gI (pgsE u a b) i) = some e := Option.isSome_iff_exists.1 (pgsE_mem.1 (gI_mem h)).1
theorem pgs_bd {u : SS} {a b : Int} {i : Nat} (h : i < (pgsE u a b).length) : 0 ≤ gI (pgsE u a b) i ∧ gI (pgsE u a b) i < 65536 := by
  obtain ⟨e, he⟩ := pgs_get h
  have := gE_some he; omega
/-! ### Where a space lies -/
theorem Res.below {r : Res} {W w : World} (h : r.holds W) (hb : Below W.heap.size W w) : r.holds w := r.keep (fun k hk => hb.block _ (r.lt h k hk)) h
structure Sp where
  s : Nat
  v : Value
  b : Nat
  st : St
structure Sp.Is (x : Sp) (u : SS) (s : Nat) : Prop where
  s : x.s = s
  tab : Tab x.st (encF u.E) x.b
  ok : u.Ok
def spR (x : Sp) (u : SS) : Res := star (star (blk x.s (.cells #[x.v, .pointer (some ⟨x.b, 0, none⟩)] 67 (0, 0))) (rowG x.v u.G)) (tabR x.st)
theorem ownCp {w : World} {e : TypeId} {s : Nat} {v : Value} {m : Nat} {xs : List Value} (h : (ownR e s v m xs).holds w) : ∃ A c, v = .slice A m c ∧ m ≤ c := by
  rcases h.2 with ⟨h1, h2⟩ | ⟨g, cap, cur, h1, _, hh, h3, _⟩
  · exact ⟨none, 0, by rw [h1, h2], by omega⟩
  · exact ⟨_, cap, h1, h3⟩
theorem spR_open {W : World} {x : Sp} {u : SS} (h : (spR x u).holds W) : ∃ A c, x.v = .slice A u.G.length c ∧ u.G.length ≤ c ∧ Sl W A (Rw u.G) ∧ W.heap[x.s]? = some (.cells #[x.v, .pointer (some ⟨x.b, 0, none⟩)] 67 (0, 0)) ∧ Rep W x.st := by
  obtain ⟨⟨h1, h2, _⟩, h3, _⟩ := h
  obtain ⟨A, c, hv, hc⟩ := ownCp h2
  refine ⟨A, c, hv, hc, ?_, h1, h3⟩
  rw [hv] at h2
  exact gOwnN h2
attribute [local irreducible] Rw atG
end Go.Proofs.Ytabjdjkkpbkpfaa.Pk
