/- Spaces: what holds of them. -/
import Derived.Test.YtabjdjkkpbkpfaaSpE
import Derived.Test.YtabjdjkkpbkpfaaProg
import Derived.RowKit3
namespace Go.Proofs.Ytabjdjkkpbkpfaa.Pk
open Go Go.RowKit Go.Proofs.Ytabjdjkkpbkpfaa.HL Go.Proofs.Ytabjdjkkpbkpfaa.Ev Go.Proofs.YtabjdjkkpbkpfaaW.PrintWords Go.Proofs.RgP Go.Proofs.RxP
set_option linter.unusedVariables false
set_option linter.unusedSimpArgs false
attribute [local irreducible] ents
/-! ### What holds of a space -/
theorem rise_ext : ∀ {l l2 : List Int}, l.Pairwise (· < ·) → l2.Pairwise (· < ·) → (∀ x, x ∈ l ↔ x ∈ l2) → l = l2
  | [], [], _, _, _ => rfl
  | [], y :: l2, _, _, h => absurd ((h y).2 List.mem_cons_self) (by simp)
  | x :: l, [], _, _, h => absurd ((h x).1 List.mem_cons_self) (by simp)
  | x :: l, y :: l2, h1, h2, h => by
    obtain ⟨a1, a2⟩ := List.pairwise_cons.1 h1
    obtain ⟨b1, b2⟩ := List.pairwise_cons.1 h2
    have e : x = y := by
      rcases List.mem_cons.1 ((h x).1 List.mem_cons_self) with h3 | h3
      · exact h3
      · rcases List.mem_cons.1 ((h y).2 List.mem_cons_self) with h4 | h4
        · exact h4.symm
        · have := b1 x h3; have := a1 y h4; omega
    subst e
    congr 1
    refine rise_ext a2 b2 fun z => ?_
    constructor
    · intro hz
      rcases List.mem_cons.1 ((h z).1 (List.mem_cons_of_mem _ hz)) with h3 | h3
      · have := a1 z hz; omega
      · exact h3
    · intro hz
      rcases List.mem_cons.1 ((h z).2 (List.mem_cons_of_mem _ hz)) with h3 | h3
      · have := b1 z hz; omega
      · exact h3
theorem pgs_ext {u : SS} {a b : Int} {l : List Int} (hl : l.Pairwise (· < ·)) (h : ∀ n, n ∈ l ↔ (gE u n).isSome = true ∧ a ≤ n ∧ n < b) : pgsE u a b = l :=
  rise_ext (pgs_rise u a b) hl fun n => by rw [pgsE_mem, h]
theorem pgs_congr {u u2 : SS} (h : ∀ n, (gE u n).isSome = (gE u2 n).isSome) (a b : Int) : pgsE u a b = pgsE u2 a b :=
  pgs_ext (pgs_rise u2 a b) fun n => by rw [pgsE_mem, h]
theorem gE_bd {u : SS} {n : Int} (h : (gE u n).isSome = true) : 0 ≤ n ∧ n < 65536 := by
  obtain ⟨e, he⟩ := Option.isSome_iff_exists.1 h
  have := gE_some he; omega
theorem size_len (u : SS) : sizeS u = (pgsE u 0 65536).length := by
  unfold sizeS pgsE walkL
  rw [List.filter_eq_self.2 ?_, pagesL_len]
  intro x hx
  have h := pagesL_mem.1 hx
  rw [gt_enc, Option.isSome_map] at h
  have := gE_bd h
  simp [inW]; omega
theorem ids_len (u : SS) (a b : Int) : (idsL u a b).length = (pgsE u a b).length := List.length_map ..
theorem gE_cut {u : SS} (a b n : Int) : gE (scut u a b) n = if a ≤ n ∧ n < b then none else gE u n := by
  unfold gE scut
  dsimp only
  by_cases h : 0 ≤ n ∧ n < 65536
  · rw [if_pos h, if_pos h, show ((n.toNat : Nat) : Int) = n by omega]
  · rw [if_neg h, if_neg h]; split <;> rfl
theorem filt_len (p : Int → Bool) : ∀ l : List Int, (l.filter p).length + (l.filter fun x => !p x).length = l.length
  | [] => rfl
  | x :: l => by
    have := filt_len p l
    simp only [List.filter_cons, List.length_cons]
    cases p x <;> simp <;> omega
/-- What is cut away, and what stays. -/
theorem cut_size (u : SS) (a b : Int) : sizeS (scut u a b) + (idsL u a b).length = sizeS u := by
  rw [size_len, size_len, ids_len]
  have hr := pgs_rise u 0 65536
  have h1 : pgsE u a b = (pgsE u 0 65536).filter (fun x => decide (a ≤ x ∧ x < b)) := pgs_ext (hr.sublist List.filter_sublist) fun n => by
    rw [List.mem_filter, pgsE_mem, decide_eq_true_iff]
    constructor
    · rintro ⟨⟨h1, _⟩, h2⟩; exact ⟨h1, h2⟩
    · rintro ⟨h1, h2⟩
      have := gE_bd h1
      exact ⟨⟨h1, by omega, by omega⟩, h2⟩
  have h2 : pgsE (scut u a b) 0 65536 = (pgsE u 0 65536).filter (fun x => !decide (a ≤ x ∧ x < b)) := pgs_ext (hr.sublist List.filter_sublist) fun n => by
    rw [List.mem_filter, pgsE_mem, gE_cut, Bool.not_eq_true', decide_eq_false_iff_not]
    constructor
    · rintro ⟨⟨h1, h3⟩, h2⟩; rw [if_neg h2]; exact ⟨h1, h3⟩
    · rintro ⟨h1, h3⟩
      by_cases h4 : a ≤ n ∧ n < b
      · rw [if_pos h4] at h1; cases h1
      · rw [if_neg h4] at h1; exact ⟨⟨h1, h3⟩, h4⟩
  have := filt_len (fun x => decide (a ≤ x ∧ x < b)) (pgsE u 0 65536)
  rw [h1, h2]; omega
theorem gE_touch {u : SS} (m n : Int) : gE (stouch u m) n = if n = m then (gE u n).map (tch · true) else gE u n := by
  unfold gE stouch
  dsimp only
  by_cases h : 0 ≤ n ∧ n < 65536
  · rw [if_pos h, if_pos h, show ((n.toNat : Nat) : Int) = n by omega]
  · rw [if_neg h, if_neg h]; split <;> rfl
theorem gE_rest {u : SS} (n : Int) : gE (srest u) n = (gE u n).map (tch · false) := by
  unfold gE srest
  split <;> rfl
theorem size_touch (u : SS) (m : Int) : sizeS (stouch u m) = sizeS u := by
  rw [size_len, size_len, pgs_congr (u2 := u) fun n => ?_]
  rw [gE_touch]; split
  · rw [Option.isSome_map]
  · rfl
theorem size_rest (u : SS) : sizeS (srest u) = sizeS u := by
  rw [size_len, size_len, pgs_congr (u2 := u) fun n => ?_]
  rw [gE_rest, Option.isSome_map]
theorem filt_one {p q : Int → Bool} {n : Int} (h1 : p n = false) (h2 : q n = true) (h : ∀ x, x ≠ n → q x = p x) : ∀ {l : List Int}, l.Pairwise (· < ·) → n ∈ l → (l.filter q).length = (l.filter p).length + 1
  | [], _, hm => by cases hm
  | x :: l, hr, hm => by
    obtain ⟨a1, a2⟩ := List.pairwise_cons.1 hr
    simp only [List.filter_cons]
    by_cases e : x = n
    · subst e
      have hq : l.filter q = l.filter p := List.filter_congr fun y hy => h y (by have := a1 y hy; omega)
      rw [h1, h2, hq]; simp
    · have hm2 : n ∈ l := by rcases List.mem_cons.1 hm with h3 | h3; exact absurd h3.symm e; exact h3
      have ih := filt_one h1 h2 h a2 hm2
      rw [h x e]
      cases p x <;> simp [ih]
theorem restC_touch {u : SS} {n : Int} {e : En} (he : gE u n = some e) : restC (stouch u n) = restC u + (if e.t = true then 0 else 1) := by
  unfold restC
  rw [pgs_congr (u := stouch u n) (u2 := u) (fun m => by rw [gE_touch]; split; rw [Option.isSome_map]; rfl)]
  have hx : ∀ x, x ≠ n → tchd (stouch u n) x = tchd u x := fun x hx => by unfold tchd; rw [gE_touch, if_neg hx]
  have hn : tchd (stouch u n) n = true := by unfold tchd; rw [gE_touch, if_pos rfl, he]; rfl
  have hb := gE_some he
  cases ht : e.t
  · rw [if_neg (by simp)]
    exact filt_one (by unfold tchd; rw [he]; exact ht) hn hx (pgs_rise u 0 65536) (pgsE_mem.2 ⟨by rw [he]; rfl, hb.1, hb.2.1⟩)
  · rw [if_pos rfl, Nat.add_zero]
    congr 1
    refine List.filter_congr fun x _ => ?_
    by_cases e2 : x = n
    · rw [e2, hn]; unfold tchd; rw [he]; exact ht.symm
    · exact hx x e2
/-! ### The example -/
def y0 : S25 := ⟨0, 9, 1, 0, 0, false⟩
def e0 : En := ⟨1, 7, false, false⟩
def u1 : SS := ⟨[y0], fun _ => none⟩
def u2 : SS := ⟨[y0], updE (fun _ => none) 3 (some e0)⟩
theorem addL_w : addL newS.G y0 = ([y0], 0) := by rfl
theorem map_w : mapS newS y0 = u1 := by unfold mapS; rw [addL_w]; rfl
theorem fnd_w : fnd [y0] 3 = some y0 := by rfl
theorem set_w : sset u1 3 e0 = (u2, 0) := by
  unfold sset
  rw [show u1.G = [y0] from rfl, fnd_w, if_pos (show (some y0).isSome = true from rfl), if_pos (by decide)]; rfl
theorem get_w : gE u2 3 = some e0 := by rfl
theorem gE_w {n : Int} (h : n ≠ 3) : gE u2 n = none := by
  unfold gE u2 updE
  split
  · dsimp only; rw [if_neg (by omega)]
  · rfl
theorem pgs_w {a b : Int} (ha : a ≤ 3) (hb : 3 < b) : pgsE u2 a b = [3] := pgs_ext (List.pairwise_singleton _ _) fun n => by
  rw [List.mem_singleton]
  constructor
  · rintro rfl; exact ⟨by rw [get_w]; rfl, ha, hb⟩
  · rintro ⟨h, _⟩
    apply Classical.byContradiction
    intro hn
    rw [gE_w hn] at h; cases h
theorem size_w : sizeS u2 = 1 := by rw [size_len, pgs_w (by decide) (by decide)]; rfl
theorem tch_w : tchd u2 3 = false := by unfold tchd; rw [get_w]; rfl
theorem rest_w0 : restC u2 = 0 := by
  have h : (pgsE u2 0 65536).filter (tchd u2) = [] := by
    rw [pgs_w (a := 0) (b := 65536) (by decide) (by decide)]
    exact List.filter_cons_of_neg (by rw [tch_w]; decide)
  unfold restC
  rw [h]; rfl
theorem rest_w : restC (stouch u2 3) = 1 := (restC_touch get_w).trans (by rw [rest_w0]; rfl)
theorem ids_w : idsL (srest (stouch u2 3)) 2 5 = [7] := by
  unfold idsL
  rw [pgs_congr (u := srest (stouch u2 3)) (u2 := u2) (fun m => by rw [gE_rest, Option.isSome_map, gE_touch]; split; rw [Option.isSome_map]; rfl), pgs_w (by decide) (by decide), List.map_cons, List.map_nil]
  have h1 : pgE (srest (stouch u2 3)) 3 = 7 := by unfold pgE; rw [gE_rest, gE_touch, if_pos rfl, get_w]; rfl
  rw [h1]
theorem reg_w : cutL [y0] 2 5 = [partS y0 0 2, partS y0 5 9] := by rfl
end Go.Proofs.Ytabjdjkkpbkpfaa.Pk
