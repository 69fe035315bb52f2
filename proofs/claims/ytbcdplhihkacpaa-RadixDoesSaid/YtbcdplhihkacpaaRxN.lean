/- A table by digits: nodes, counted along a row: plain Lean. -/
import Derived.Test.YtbcdplhihkacpaaRxQ
namespace Go.Proofs.RxP
set_option linter.unusedVariables false
set_option linter.unusedSimpArgs false
def at_ (L : List (Int × Int)) (i : Nat) : Int × Int := (L[i]?).getD (0, 0)
theorem at_app {L M : List (Int × Int)} {i : Nat} (h : i < L.length) : at_ (L ++ M) i = at_ L i := by unfold at_; rw [List.getElem?_append_left h]
theorem at_get {L : List (Int × Int)} {i : Nat} (h : i < L.length) : L[i]? = some (at_ L i) := by unfold at_; rw [List.getElem?_eq_getElem h]; rfl
theorem at_take {L : List (Int × Int)} {i : Nat} (h : i < L.length) : L.take (i + 1) = L.take i ++ [at_ L i] := by rw [List.take_add_one, at_get h]; rfl
theorem at_ents {S : Sf} {n i : Nat} (h : i < (ents S n).length) : ∃ p x, p < n ∧ S p = some x ∧ rk S p = i ∧ at_ (ents S n) i = ((p : Int), x) := by
  obtain ⟨p, x, h1, h2, h3, h4⟩ := ents_get (S := S) n i h
  exact ⟨p, x, h1, h2, h3, by unfold at_; rw [h4]; rfl⟩
theorem at_rk {S : Sf} {n p : Nat} {x : Int} (h : S p = some x) (hn : p < n) : at_ (ents S n) (rk S p) = ((p : Int), x) := by unfold at_; rw [ents_at h hn]; rfl
theorem rk_inj {S : Sf} {p q : Nat} {x y : Int} (hp : S p = some x) (hq : S q = some y) (h : rk S p = rk S q) : p = q := by
  rcases Nat.lt_trichotomy p q with h1 | h1 | h1
  · have := rk_lt hp h1; omega
  · exact h1
  · have := rk_lt hq h1; omega
theorem rk_lt_iff {S : Sf} {p q : Nat} {x : Int} (hp : S p = some x) : rk S p < rk S q ↔ p < q := by
  constructor
  · intro h
    rcases Nat.lt_or_ge p q with h1 | h1
    · exact h1
    · have := rk_mono S q (p - q)
      rw [show q + (p - q) = p by omega] at this; omega
  · exact fun h => rk_lt hp h
/-! ## Where a block begins -/
def fst (S : Sf) (d p : Nat) : Bool := (S p).isSome && !anyS S (d * (p / d)) (p % d)
theorem fst_block {S : Sf} {d : Nat} (hd : 0 < d) (q : Nat) : ∀ j, j ≤ d → smN (fun i => b2n (fst S d (d * q + i))) j = b2n (anyS S (d * q) j)
  | 0, _ => rfl
  | j + 1, h => by
    rw [smN, fst_block hd q j (by omega), anyS]
    have e1 : (d * q + j) / d = q := by rw [Nat.mul_add_div hd, Nat.div_eq_of_lt (by omega), Nat.add_zero]
    have e2 : (d * q + j) % d = j := by rw [Nat.mul_add_mod, Nat.mod_eq_of_lt (by omega)]
    unfold fst
    rw [e1, e2]
    cases anyS S (d * q) j <;> cases (S (d * q + j)).isSome <;> rfl
theorem fst_all {S : Sf} {d : Nat} (hd : 0 < d) (n : Nat) : smN (fun p => b2n (fst S d p)) (d * n) = blks S d n := by
  rw [smN_blocks]
  unfold blks
  apply smN_congr
  intro q _
  exact fst_block hd q d (Nat.le_refl _)
/-- Does a row come to another block? -/
def chg (d : Int) (L : List (Int × Int)) (i : Nat) : Nat := if i = 0 ∨ (at_ L (i - 1)).1 / d ≠ (at_ L i).1 / d then 1 else 0
theorem chg_fst {S : Sf} {d : Nat} (hd : 0 < d) : ∀ n, smN (chg d (ents S n)) (rk S n) = smN (fun p => b2n (fst S d p)) n
  | 0 => rfl
  | n + 1 => by
    rw [smN, ← chg_fst hd n]
    cases hs : S n with
    | none =>
      rw [rk_no hs, ents, entA_no hs, List.append_nil]
      unfold fst; rw [hs]; rfl
    | some x =>
      rw [rk_yes hs, smN]
      have hl : (ents S n).length = rk S n := rfl
      congr 1
      · apply smN_congr
        intro i hi
        unfold chg
        rw [ents, at_app (by omega), at_app (by omega)]
      · unfold chg
        have hat : at_ (ents S (n + 1)) (rk S n) = ((n : Int), x) := at_rk hs (by omega)
        rw [hat]
        dsimp only
        have hf : fst S d n = !anyS S (d * (n / d)) (n % d) := by unfold fst; rw [hs]; rfl
        have hdm := Nat.div_add_mod n d
        rw [hf]
        cases ha : anyS S (d * (n / d)) (n % d)
        · rw [if_pos]
          · rfl
          · by_cases h0 : rk S n = 0
            · exact .inl h0
            · right
              obtain ⟨p, y, h1, h2, h3, h4⟩ := at_ents (S := S) (n := n + 1) (i := rk S n - 1) (by show _ < rk S (n + 1); rw [rk_yes hs]; omega)
              rw [h4]
              dsimp only
              have hpn : p < n := (rk_lt_iff h2).1 (by omega)
              intro e
              have e2 : p / d = n / d := by exact_mod_cast e
              have : anyS S (d * (n / d)) (n % d) = true := (anyS_iff _).2 ⟨p, by rw [← e2]; exact Nat.mul_div_le _ _, by omega, by rw [h2]; rfl⟩
              rw [ha] at this; cases this
        · rw [if_neg]
          · rfl
          · obtain ⟨q, h1, h2, h3⟩ := (anyS_iff _).1 ha
            obtain ⟨z, hz⟩ := Option.isSome_iff_exists.1 h3
            have hr := rk_lt hz (show q < n by omega)
            rintro (e | e)
            · omega
            · obtain ⟨p, y, h4, h5, h6, h7⟩ := at_ents (S := S) (n := n + 1) (i := rk S n - 1) (by show _ < rk S (n + 1); rw [rk_yes hs]; omega)
              rw [h7] at e
              dsimp only at e
              have hpn : p < n := (rk_lt_iff h5).1 (by omega)
              have hqp : q ≤ p := by
                rcases Nat.lt_or_ge p q with h | h
                · have := rk_lt h5 h; omega
                · exact h
              apply e
              have h8 : n / d ≤ p / d := by
                have : d * (n / d) / d ≤ p / d := Nat.div_le_div_right (by omega)
                rwa [Nat.mul_div_cancel_left _ hd] at this
              have h9 : p / d ≤ n / d := Nat.div_le_div_right (by omega)
              have : p / d = n / d := by omega
              exact_mod_cast this
def dv (e : Nat) : Int := if e = 0 then 16 else if e = 1 then 256 else if e = 2 then 4096 else 65536
theorem dv_cases {e : Nat} (h : e ≤ 3) : (e = 0 ∧ dv e = 16) ∨ (e = 1 ∧ dv e = 256) ∨ (e = 2 ∧ dv e = 4096) ∨ (e = 3 ∧ dv e = 65536) := by
  rcases (by omega : e = 0 ∨ e = 1 ∨ e = 2 ∨ e = 3) with rfl | rfl | rfl | rfl <;> decide
theorem dv_next {e : Nat} (h : e < 3) : dv e * 16 = dv (e + 1) := by
  rcases (by omega : e = 0 ∨ e = 1 ∨ e = 2) with rfl | rfl | rfl <;> decide
def tot (L : List (Int × Int)) (i : Nat) : Nat := smN (fun e => chg (dv e) L i) 3
theorem tot_nodes (S : Sf) : 1 + smN (tot (ents S 65536)) (rk S 65536) = nodes S := by
  have h : smN (tot (ents S 65536)) (rk S 65536) = smN (chg 16 (ents S 65536)) (rk S 65536) + smN (chg 256 (ents S 65536)) (rk S 65536) + smN (chg 4096 (ents S 65536)) (rk S 65536) := by
    rw [← smN_add, ← smN_add]
    apply smN_congr
    intro i _
    show 0 + _ + _ + _ = _
    rw [Nat.zero_add]; rfl
  have h1 := chg_fst (S := S) (d := 16) (by decide) 65536
  have h2 := chg_fst (S := S) (d := 256) (by decide) 65536
  have h3 := chg_fst (S := S) (d := 4096) (by decide) 65536
  have f1 := fst_all (S := S) (d := 16) (by decide) 4096
  have f2 := fst_all (S := S) (d := 256) (by decide) 256
  have f3 := fst_all (S := S) (d := 4096) (by decide) 16
  rw [show 16 * 4096 = 65536 from rfl] at f1
  rw [show 256 * 256 = 65536 from rfl] at f2
  rw [show 4096 * 16 = 65536 from rfl] at f3
  rw [h, show (16 : Int) = ((16 : Nat) : Int) from rfl, show (256 : Int) = ((256 : Nat) : Int) from rfl, show (4096 : Int) = ((4096 : Nat) : Int) from rfl, h1, h2, h3, f1, f2, f3]
  unfold nodes; omega
theorem chg_le (d : Int) (L : List (Int × Int)) (i : Nat) : chg d L i ≤ 1 := by unfold chg; split <;> omega
theorem tot_le (L : List (Int × Int)) (i : Nat) : tot L i ≤ 3 := by
  have := smN_le (f := fun e => chg (dv e) L i) (c := 1) 3 (fun e _ => chg_le _ _ _)
  unfold tot; omega
/-! ## A page more, or less -/
theorem b2n_le (b : Bool) : b2n b ≤ 1 := by cases b <;> decide
theorem anyS_put {S : Sf} {p : Nat} {x : Int} {a n : Nat} : anyS (updS S p (some x)) a n = (anyS S a n || (decide (a ≤ p) && decide (p < a + n))) := by
  rw [Bool.eq_iff_iff, Bool.or_eq_true, anyS_iff, anyS_iff, Bool.and_eq_true, decide_eq_true_eq, decide_eq_true_eq]
  constructor
  · rintro ⟨q, h1, h2, h3⟩
    by_cases e : q = p
    · subst e; exact .inr ⟨h1, h2⟩
    · rw [updS_ne e] at h3; exact .inl ⟨q, h1, h2, h3⟩
  · rintro (⟨q, h1, h2, h3⟩ | ⟨h1, h2⟩)
    · refine ⟨q, h1, h2, ?_⟩
      by_cases e : q = p
      · rw [e, updS_at]; rfl
      · rw [updS_ne e]; exact h3
    · exact ⟨p, h1, h2, by rw [updS_at]; rfl⟩
theorem smN_one {f : Nat → Nat} (q : Nat) (h1 : f q ≤ 1) : ∀ n, (∀ i, i < n → i ≠ q → f i = 0) → smN f n ≤ 1
  | 0, _ => Nat.zero_le _
  | n + 1, h => by
    rw [smN]
    by_cases e : n = q
    · subst e
      rw [smN_zero n (fun i hi => h i (by omega) (by omega))]; omega
    · have := smN_one q h1 n (fun i hi hn => h i (by omega) hn)
      have := h n (by omega) e; omega
theorem blks_put {S : Sf} {p : Nat} {x : Int} {d : Nat} (hd : 0 < d) (n : Nat) : blks S d n ≤ blks (updS S p (some x)) d n ∧ blks (updS S p (some x)) d n ≤ blks S d n + 1 := by
  have key : blks (updS S p (some x)) d n = blks S d n + smN (fun q => b2n (anyS (updS S p (some x)) (d * q) d) - b2n (anyS S (d * q) d)) n := by
    unfold blks
    rw [← smN_add]
    apply smN_congr
    intro q _
    rw [anyS_put]
    cases anyS S (d * q) d <;> cases (decide (d * q ≤ p) && decide (p < d * q + d)) <;> rfl
  have h1 := smN_one (f := fun q => b2n (anyS (updS S p (some x)) (d * q) d) - b2n (anyS S (d * q) d)) (p / d) (by
    have := b2n_le (anyS (updS S p (some x)) (d * (p / d)) d); (try dsimp only); omega) n (fun q _ hq => by
    (try dsimp only)
    rw [anyS_put]
    have : (decide (d * q ≤ p) && decide (p < d * q + d)) = false := by
      cases e : (decide (d * q ≤ p) && decide (p < d * q + d))
      · rfl
      · exfalso
        rw [Bool.and_eq_true, decide_eq_true_eq, decide_eq_true_eq] at e
        apply hq
        exact (Nat.div_eq_of_lt_le (by rw [Nat.mul_comm]; exact e.1) (by rw [Nat.mul_comm, Nat.mul_succ]; exact e.2)).symm
    rw [this, Bool.or_false, Nat.sub_self])
  omega
theorem nodes_put (S : Sf) (p : Nat) (x : Int) : nodes S ≤ nodes (updS S p (some x)) ∧ nodes (updS S p (some x)) ≤ nodes S + 3 := by
  have h1 := blks_put (S := S) (p := p) (x := x) (d := 4096) (by decide) 16
  have h2 := blks_put (S := S) (p := p) (x := x) (d := 256) (by decide) 256
  have h3 := blks_put (S := S) (p := p) (x := x) (d := 16) (by decide) 4096
  unfold nodes; omega
theorem fst_le {S : Sf} {d : Nat} : ∀ n, smN (fun p => b2n (fst S d p)) n ≤ rk S n
  | 0 => Nat.le_refl _
  | n + 1 => by
    have h := fst_le (S := S) (d := d) n
    rw [smN]
    cases hs : S n with
    | none => rw [rk_no hs]; have : fst S d n = false := by unfold fst; rw [hs]; rfl
              rw [this]; exact h
    | some x => rw [rk_yes hs]; have := b2n_le (fst S d n); omega
theorem blks_le {S : Sf} {d n : Nat} (hd : 0 < d) (h : d * n = 65536) : blks S d n ≤ rk S 65536 := by
  have := fst_le (S := S) (d := d) (d * n)
  rw [fst_all hd, h] at this; exact this
theorem nodes_le (S : Sf) : 1 ≤ nodes S ∧ nodes S ≤ 1 + 3 * rk S 65536 := by
  have h1 := blks_le (S := S) (d := 4096) (n := 16) (by decide) rfl
  have h2 := blks_le (S := S) (d := 256) (n := 256) (by decide) rfl
  have h3 := blks_le (S := S) (d := 16) (n := 4096) (by decide) rfl
  unfold nodes; omega
theorem smN_pos {f : Nat → Nat} {q : Nat} : ∀ n, q < n → 1 ≤ f q → 1 ≤ smN f n
  | 0, h, _ => by omega
  | n + 1, h, h1 => by
    rw [smN]
    by_cases e : q = n
    · subst e; omega
    · have := smN_pos n (by omega) h1; omega
theorem blks_pos {S : Sf} {p d n : Nat} (hd : 0 < d) (hp : p < d * n) (hs : (S p).isSome = true) : 1 ≤ blks S d n := by
  unfold blks
  refine smN_pos (q := p / d) n ?_ ?_
  · exact Nat.div_lt_of_lt_mul hp
  · have : anyS S (d * (p / d)) d = true := (anyS_iff d).2 ⟨p, Nat.mul_div_le _ _, by have := Nat.lt_mul_div_succ p hd; rw [Nat.mul_succ] at this; exact this, hs⟩
    rw [this]; decide
theorem nodes_pos {S : Sf} (h : 0 < rk S 65536) : 4 ≤ nodes S := by
  obtain ⟨p, x, h1, h2, _⟩ := ents_get (S := S) 65536 0 h
  have hs : (S p).isSome = true := by rw [h2]; rfl
  have a1 := blks_pos (S := S) (d := 4096) (n := 16) (by decide) h1 hs
  have a2 := blks_pos (S := S) (d := 256) (n := 256) (by decide) h1 hs
  have a3 := blks_pos (S := S) (d := 16) (n := 4096) (by decide) h1 hs
  unfold nodes; omega
/-! ## A row with one more, as it comes -/
def insL (L : List (Int × Int)) (a : Nat) (e : Int × Int) (i : Nat) : List (Int × Int) := if i ≤ a then L.take i else L.take a ++ [e] ++ (L.take i).drop a
theorem insL_lo {L : List (Int × Int)} {a : Nat} {e : Int × Int} {i : Nat} (hi : i < a) (hl : i < L.length) : insL L a e (i + 1) = insL L a e i ++ [at_ L i] := by
  unfold insL; rw [if_pos (by omega), if_pos (by omega), at_take hl]
theorem insL_at {L : List (Int × Int)} {a : Nat} {e : Int × Int} (hl : a < L.length) : insL L a e (a + 1) = insL L a e a ++ [e] ++ [at_ L a] := by
  unfold insL; rw [if_neg (by omega), if_pos (Nat.le_refl _), at_take hl, List.drop_append_of_le_length (by rw [List.length_take]; omega), List.drop_eq_nil_of_le (by rw [List.length_take]; omega), List.nil_append]
theorem insL_hi {L : List (Int × Int)} {a : Nat} {e : Int × Int} {i : Nat} (hi : a < i) (hl : i < L.length) : insL L a e (i + 1) = insL L a e i ++ [at_ L i] := by
  unfold insL; rw [if_neg (by omega), if_neg (by omega), at_take hl, List.drop_append_of_le_length (by rw [List.length_take]; omega), List.append_assoc, List.append_assoc, List.append_assoc]
theorem insL_end {L : List (Int × Int)} {a : Nat} {e : Int × Int} (ha : a ≤ L.length) : insL L a e L.length = if a = L.length then L else L.take a ++ [e] ++ L.drop a := by
  unfold insL
  by_cases h : a = L.length
  · rw [if_pos h, if_pos (by omega), List.take_length]
  · rw [if_neg h, if_neg (by omega), List.take_length]
theorem put_list {S : Sf} {q : Nat} (hq : q < 65536) (hn : S q = none) (x : Int) : ents (updS S q (some x)) 65536 = (ents S 65536).take (rk S q) ++ [((q : Int), x)] ++ (ents S 65536).drop (rk S q) := by
  obtain ⟨h1, h2⟩ := ents_put hq hn x
  rw [h2, h1]
  unfold rk
  rw [List.take_left, List.drop_left]
theorem at_side {S : Sf} {q i : Nat} (hn : S q = none) (h : i < rk S 65536) : (i < rk S q → (at_ (ents S 65536) i).1 < q) ∧ (rk S q ≤ i → (q : Int) < (at_ (ents S 65536) i).1) := by
  obtain ⟨p, x, h1, h2, h3, h4⟩ := at_ents (S := S) (n := 65536) h
  rw [h4]
  refine ⟨fun h5 => ?_, fun h5 => ?_⟩
  · have := (rk_lt_iff h2).1 (show rk S p < rk S q by omega)
    show (p : Int) < q; omega
  · show (q : Int) < p
    have h6 : ¬ p < q := fun h7 => by have := rk_lt h2 h7; omega
    have : p ≠ q := fun e => by rw [e, hn] at h2; cases h2
    omega
/-- What dropping tells, of a row. -/
theorem off_list (S : Sf) (n : Int) : (ents S 65536).filter (fun e => decide (e.1 ≠ n)) = ents (offS S n) 65536 := by
  unfold offS
  split
  · rename_i h
    obtain ⟨q, rfl⟩ := Int.eq_ofNat_of_zero_le h.1
    rw [Int.toNat_natCast, ents_off]
  · rename_i h
    rw [List.filter_eq_self]
    intro e he
    obtain ⟨p, h1, h2, h3⟩ := (ents_mem 65536 e).1 he
    have : e.1 ≠ n := by omega
    simp [this]
theorem gt_some {S : Sf} {n : Int} {p : Nat} {x : Int} (h1 : p < 65536) (h2 : S p = some x) (h : (p : Int) = n) : gt S n = some x := by subst h; rw [gt_nat h1, h2]
theorem gt_none {S : Sf} {n : Int} (h : ∀ i, i < rk S 65536 → (at_ (ents S 65536) i).1 ≠ n) : gt S n = none := by
  unfold gt
  split
  · rename_i hr
    cases e : S n.toNat with
    | none => rfl
    | some x =>
      exfalso
      refine h (rk S n.toNat) (rk_lt e (by omega)) ?_
      rw [at_rk e (by omega)]; show ((n.toNat : Nat) : Int) = n; omega
  · rfl
theorem filt_lt {L : List (Int × Int)} {n : Int} {e : Int × Int} (h : e ∈ L) (hn : e.1 = n) : (L.filter (fun e => decide (e.1 ≠ n))).length < L.length := by
  rw [← Nat.not_le]
  intro hle
  have h2 := List.filter_eq_self.1 (List.Sublist.eq_of_length_le List.filter_sublist hle) e h
  simp at h2; exact h2 hn
attribute [local irreducible] ents
theorem off_rk (S : Sf) (n : Int) : (decide (rk (offS S n) 65536 < rk S 65536)) = (gt S n).isSome := by
  cases e : gt S n with
  | none => rw [offS_none e]; simp
  | some x =>
    unfold gt at e
    split at e
    · rename_i hr
      have h : rk (offS S n) 65536 < rk S 65536 := by
        unfold rk
        rw [← off_list]
        exact filt_lt ((ents_mem 65536 ((n.toNat : Int), x)).2 ⟨n.toNat, by omega, e, rfl⟩) (by show ((n.toNat : Nat) : Int) = n; omega)
      simp [h]
    · cases e
end Go.Proofs.RxP
