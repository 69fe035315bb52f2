/- Contracts of the pool. -/
import Derived.Test.YtafcmeoidcgmdaaDoorBitsC
import Derived.Test.YtafcmeoidcgmdaaDoorProg
import Derived.RowKit3
namespace Go.Proofs.YtafcmeoidcgmdaaDoor.Pk
open Go Go.RowKit Go.Proofs.YtafcmeoidcgmdaaDoor.HL Go.Proofs.YtafcmeoidcgmdaaDoor.Ev Go.Proofs.YtafcmeoidcgmdaaDoorW.PrintWords Go.Proofs.YtafcmeoidcgmdaaDoor.BM
set_option linter.unusedVariables false
set_option linter.unusedSimpArgs false
/-! ## Runs of what is free -/
def allB (f : Nat → Bool) (i : Nat) : Nat → Bool
  | 0 => true
  | k + 1 => allB f i k && !f (i + k)
theorem allB_iff (f : Nat → Bool) (i : Nat) : ∀ k, allB f i k = true ↔ ∀ p, i ≤ p → p < i + k → f p = false
  | 0 => ⟨fun _ p h1 h2 => by omega, fun _ => rfl⟩
  | k + 1 => by
    rw [allB, Bool.and_eq_true, allB_iff f i k]
    constructor
    · rintro ⟨h1, h2⟩ p h3 h4
      by_cases e : p = i + k
      · rw [e]; simpa using h2
      · exact h1 p h3 (by omega)
    · intro h
      exact ⟨fun p h3 h4 => h p h3 (by omega), by simpa using h (i + k) (by omega) (by omega)⟩
def runV (f : Nat → Bool) (n k : Nat) : Int := nextV (fun i => allB f i k) (n + 1 - k) 0 true
def fillB (f : Nat → Bool) (a k : Nat) : Nat → Bool := fun p => if a ≤ p ∧ p < a + k then true else f p
theorem fillB_zero (f : Nat → Bool) (a : Nat) : fillB f a 0 = f := by
  funext p; unfold fillB; rw [if_neg (by omega)]
theorem fillB_succ (f : Nat → Bool) (a k : Nat) : setB (fillB f a k) (a + k) true = fillB f a (k + 1) := by
  funext p; unfold setB fillB
  by_cases e : p = a + k
  · rw [if_pos e, if_pos (by omega)]
  · rw [if_neg e]
    by_cases h : a ≤ p ∧ p < a + k
    · rw [if_pos h, if_pos (by omega)]
    · rw [if_neg h, if_neg (by omega)]
theorem fillB_one (f : Nat → Bool) (a : Nat) : fillB f a 1 = setB f a true := by rw [← fillB_succ, fillB_zero, Nat.add_zero]
theorem runV_found {f : Nat → Bool} {n k : Nat} (a : Nat) (h1 : a + k ≤ n) (h2 : ∀ p, a ≤ p → p < a + k → f p = false) (h3 : ∀ j, j < a → ¬ ∀ p, j ≤ p → p < j + k → f p = false) : runV f n k = a :=
  nextV_found a (by omega) (by omega) ((allB_iff f a k).2 h2) (fun j _ hj e => h3 j hj ((allB_iff f j k).1 e))
theorem runV_none {f : Nat → Bool} {n k : Nat} (h3 : ∀ j, j + k ≤ n → ¬ ∀ p, j ≤ p → p < j + k → f p = false) : runV f n k = -1 :=
  nextV_none (fun j _ hj e => h3 j (by omega) ((allB_iff f j k).1 e))
theorem runV_cases (f : Nat → Bool) (n k : Nat) : (runV f n k = -1 ∧ ∀ j, j + k ≤ n → ¬ ∀ p, j ≤ p → p < j + k → f p = false) ∨ ∃ a : Nat, runV f n k = a ∧ a + k ≤ n ∧ (∀ p, a ≤ p → p < a + k → f p = false) ∧ ∀ j, j < a → ¬ ∀ p, j ≤ p → p < j + k → f p = false := by
  rcases nextV_cases (fun i => allB f i k) (n + 1 - k) 0 true with ⟨h1, h2⟩ | ⟨a, h1, h2, h3, h4, h5⟩
  · exact .inl ⟨h1, fun j hj e => h2 j (by omega) (by omega) ((allB_iff f j k).2 e)⟩
  · exact .inr ⟨a, h1, by omega, (allB_iff f a k).1 h4, fun j hj e => h5 j (by omega) hj ((allB_iff f j k).2 e)⟩
/-- Where the search for a run stands. -/
def RunI (f : Nat → Bool) (n k a : Nat) (x : Int) : Prop := (x = -1 ∧ ∀ j, j + k ≤ n → ¬ ∀ p, j ≤ p → p < j + k → f p = false) ∨ (x = a ∧ a < n ∧ f a = false ∧ ∀ j, j < a → ¬ ∀ p, j ≤ p → p < j + k → f p = false)
theorem RunI_next {f : Nat → Bool} {n k : Nat} (hk : 1 ≤ k) (tq : Nat) (hA : ∀ j, j < tq → j + k ≤ n → ¬ ∀ p, j ≤ p → p < j + k → f p = false) (hB : tq < n → ∀ j, j < tq → ¬ ∀ p, j ≤ p → p < j + k → f p = false) :
    RunI f n k (nextV f n (tq : Int) false).toNat (nextV f n (tq : Int) false) ∧ (nextV f n (tq : Int) false = -1 ∨ tq ≤ (nextV f n (tq : Int) false).toNat) := by
  rcases nextV_cases f n (tq : Int) false with ⟨h1, h2⟩ | ⟨q, h1, h2, h3, h4, h5⟩
  · rw [h1]
    refine ⟨.inl ⟨rfl, fun j hj e => ?_⟩, .inl rfl⟩
    by_cases h : j < tq
    · exact hA j h hj e
    · exact h2 j (by omega) (by omega) (e j (by omega) (by omega))
  · rw [h1, Int.toNat_natCast]
    refine ⟨.inr ⟨rfl, h3, h4, fun j hj e => ?_⟩, .inr (by omega)⟩
    by_cases h : j < tq
    · exact hB (by omega) j h e
    · exact h5 j (by omega) hj (e j (by omega) (by omega))
/-- What Run answers, and what it leaves. -/
def runA (f : Nat → Bool) (n : Nat) (k : Int) : Int × Int := if k < 1 then (-1, 1) else if runV f n k.toNat < 0 then (-1, 3) else (runV f n k.toNat, 0)
def runF (f : Nat → Bool) (n : Nat) (k : Int) : Nat → Bool := if k < 1 then f else if runV f n k.toNat < 0 then f else fillB f (runV f n k.toNat).toNat k.toNat
def giveA (f : Nat → Bool) (n : Nat) (i : Int) : Int := if i < 0 ∨ (n : Int) ≤ i then 1 else if f i.toNat = true then 0 else 2
def giveF (f : Nat → Bool) (n : Nat) (i : Int) : Nat → Bool := if i < 0 ∨ (n : Int) ≤ i then f else if f i.toNat = true then setB f i.toNat false else f
def levelV (free low high : Int) : Int := if free < low then 0 else if free < high then 1 else 2
theorem runA_none {f : Nat → Bool} {n : Nat} {k : Int} (hk : 1 ≤ k) (h : runV f n k.toNat = -1) : runA f n k = (-1, 3) ∧ runF f n k = f := by
  have h1 : ¬ k < 1 := by omega
  have h2 : runV f n k.toNat < 0 := by omega
  simp only [runA, runF, h1, h2, if_true, if_false, and_self]
theorem runA_some {f : Nat → Bool} {n : Nat} {k : Int} {a : Nat} (hk : 1 ≤ k) (h : runV f n k.toNat = a) : runA f n k = ((a : Int), 0) ∧ runF f n k = fillB f a k.toNat := by
  have h1 : ¬ k < 1 := by omega
  have h2 : ¬ (a : Int) < 0 := by omega
  simp only [runA, runF, h1, h, h2, if_false, Int.toNat_natCast, and_self]
theorem runA_low {f : Nat → Bool} {n : Nat} {k : Int} (hk : k < 1) : runA f n k = (-1, 1) ∧ runF f n k = f := by
  simp only [runA, runF, hk, if_true, and_self]
/-- One alone is the first that is free. -/
theorem runV_one (f : Nat → Bool) (n : Nat) : runV f n 1 = nextV f n 0 false := by
  rcases nextV_cases f n 0 false with ⟨h1, h2⟩ | ⟨q, h1, h2, h3, h4, h5⟩
  · rw [h1]; exact runV_none (fun j hj e => h2 j (by omega) (by omega) (e j (by omega) (by omega)))
  · rw [h1]
    exact runV_found q (by omega) (fun p h6 h7 => by rw [show p = q by omega]; exact h4) (fun j hj e => h5 j (by omega) hj (e j (by omega) (by omega)))
theorem fill_shut {f : Nat → Bool} {n a k : Nat} (h : a + k ≤ n) (hz : ∀ p, n ≤ p → f p = false) : ∀ p, n ≤ p → fillB f a k p = false := fun p hp => by
  unfold fillB; rw [if_neg (by omega)]; exact hz p hp
theorem run_shut {f : Nat → Bool} {n : Nat} {k : Int} (hz : ∀ p, n ≤ p → f p = false) : ∀ p, n ≤ p → runF f n k p = false := by
  by_cases hk : k < 1
  · rw [(runA_low hk).2]; exact hz
  · rcases runV_cases f n k.toNat with ⟨h1, _⟩ | ⟨a, h1, h2, _⟩
    · rw [(runA_none (by omega) h1).2]; exact hz
    · rw [(runA_some (by omega) h1).2]; exact fill_shut h2 hz
theorem give_shut {f : Nat → Bool} {n : Nat} {i : Int} (hz : ∀ p, n ≤ p → f p = false) : ∀ p, n ≤ p → giveF f n i p = false := by
  unfold giveF
  split
  · exact hz
  · split
    · exact setB_shut (by omega) hz
    · exact hz
theorem give_out {f : Nat → Bool} {n : Nat} {i : Int} (h : i < 0 ∨ (n : Int) ≤ i) : giveA f n i = 1 ∧ giveF f n i = f := by
  simp only [giveA, giveF, h, if_true, and_self]
theorem give_free {f : Nat → Bool} {n j : Nat} (h : j < n) (hf : f j = false) : giveA f n (j : Int) = 2 ∧ giveF f n (j : Int) = f := by
  have h1 : ¬ ((j : Int) < 0 ∨ (n : Int) ≤ j) := by omega
  refine ⟨?_, ?_⟩ <;> simp only [giveA, giveF, h1, if_false, Int.toNat_natCast, hf, if_true, Bool.false_eq_true]
theorem give_in {f : Nat → Bool} {n j : Nat} (h : j < n) (hf : f j = true) : giveA f n (j : Int) = 0 ∧ giveF f n (j : Int) = setB f j false := by
  have h1 : ¬ ((j : Int) < 0 ∨ (n : Int) ≤ j) := by omega
  refine ⟨?_, ?_⟩ <;> simp only [giveA, giveF, h1, if_false, Int.toNat_natCast, hf, if_true, Bool.false_eq_true]
attribute [local irreducible] rowA mapR rowR
theorem Res.below' {r : Res} {W w : World} (h : r.holds W) (hb : Below W.heap.size W w) : r.holds w := r.keep (fun k hk => hb.block k (r.lt h k hk)) h
def poolO (b : Nat) : Obj := .cells #[.pointer (some ⟨b, 0, none⟩)] 43 (0, 0)
/-- A pool of n. -/
def poolR (p b g n : Nat) (f : Nat → Bool) : Res := star (blk p (poolO b)) (mapR b g n f)
section
variable {W0 w : World} {T : Nat → Prop} {H : List Res} {p b g n : Nat} {f : Nat → Bool}
theorem poolR_facts (h : (poolR p b g n f).holds w) : n ≤ 65536 ∧ ∀ p, n ≤ p → f p = false := by
  unfold poolR mapR at h
  exact h.2.1.2
end
set_option maxRecDepth 100000 in
set_option maxHeartbeats 2000000 in
theorem k_free (W : World) {p b g n : Nat} {f : Nat → Bool} (hR : (poolR p b g n f).holds W) : Calls Tryd.prog 18 #[.pointer (some ⟨p, 0, none⟩)] W fun e w' => e = .returned (.int .i64 ((n : Int) - cntB f n)) ∧ Below W.heap.size W w' := by
  have hz := poolR_facts hR
  obtain ⟨hp, hm, _⟩ := hR
  have hM : Hp W (fun _ => False) [] W := Hp.start
  have hcn := cntB_le f n
  refine TC.enter (n := 14) Tryd.func18 rfl rfl rfl hM ?_
  refine TC.seq ?_
  refine TC.region ?_
  refine' TL.y rfl rfl rfl ?hy1 ?_
  case hy1 => exact Yl.assign rfl rfl
  refine TL.nil ?_
  refine TE.next ?_
  refine TC.seq ?_
  refine TC.draw (k := 12) _ [] #[false, false, false, false, false, false, false, false, false, false, false, false] (by kernel_rfl) rfl rfl (fun _ h => h.drew) (fun _ h => h) ?_
  refine' TA.y (i := 0) #[true, false, false, false, false, false, false, false, false, false, false, false] rfl rfl rfl (by kernel_rfl) (fun _ _ _ h => h) (fun _ h => by exact Hp.sub h (by repeat (first | exact List.Sublist.refl _ | apply List.Sublist.cons))) rfl ?hy2 ?_
  case hy2 => exact Yl.move rfl rfl
  refine' TA.y (i := 1) #[true, true, false, false, false, false, false, false, false, false, false, false] rfl rfl rfl (by kernel_rfl) (fun _ _ _ h => h) (fun _ h => by exact Hp.sub h (by repeat (first | exact List.Sublist.refl _ | apply List.Sublist.cons))) rfl ?hy3 ?_
  case hy3 => exact Yl.nilCheck rfl rfl
  refine' TA.y (i := 2) #[true, true, true, false, false, false, false, false, false, false, false, false] rfl rfl rfl (by kernel_rfl) (fun _ _ _ h => h) (fun _ h => by exact Hp.sub h (by repeat (first | exact List.Sublist.refl _ | apply List.Sublist.cons))) rfl ?hy4 ?_
  case hy4 => first | exact Yl.field0 (k := 0) 0 rfl rfl Tryd.underlying43 rfl (by kernel_rfl) rfl | exact Yl.field (k := 0) 0 rfl rfl Tryd.underlying43 rfl (by kernel_rfl) rfl
  refine' TA.y (i := 3) #[true, true, true, true, false, false, false, false, false, false, false, false] rfl rfl rfl (by kernel_rfl) (fun _ _ _ h => h) (fun _ h => by exact Hp.sub h (by repeat (first | exact List.Sublist.refl _ | apply List.Sublist.cons))) rfl ?hy5 ?_
  case hy5 => first | exact Yl.load rfl rfl (by kernel_rfl) (Hp.oldB hp rfl (fun h => h)) | exact Yl.load rfl rfl (by kernel_rfl) (Hp.cell mem0 rfl) | exact Yl.load rfl rfl (by kernel_rfl) (Hp.cell mem1 rfl) | exact Yl.load rfl rfl (by kernel_rfl) (Hp.cell mem2 rfl) | exact Yl.load rfl rfl (by kernel_rfl) (Hp.cell mem3 rfl) | exact Yl.load rfl rfl (by kernel_rfl) (Hp.cell mem4 rfl) | exact Yl.load rfl rfl (by kernel_rfl) (Hp.rowAt mem0 (by omega) rfl) | exact Yl.load rfl rfl (by kernel_rfl) (Hp.rowAt mem1 (by omega) rfl) | exact Yl.load rfl rfl (by kernel_rfl) (Hp.rowAt mem2 (by omega) rfl) | exact Yl.load rfl rfl (by kernel_rfl) (Hp.rowAt mem3 (by omega) rfl) | exact Yl.load rfl rfl (by kernel_rfl) (Hp.rowAt mem4 (by omega) rfl)
  refine' TA.y (i := 5) #[true, true, true, true, false, true, false, false, false, false, false, false] rfl rfl rfl (by kernel_rfl) (fun _ _ _ h => h) (fun _ h => by exact Hp.sub h (by repeat (first | exact List.Sublist.refl _ | apply List.Sublist.cons))) rfl ?hy6 ?_
  case hy6 => exact Yl.move rfl rfl
  refine' TA.y (i := 6) #[true, true, true, true, false, true, true, false, false, false, false, false] rfl rfl rfl (by kernel_rfl) (fun _ _ _ h => h) (fun _ h => by exact Hp.sub h (by repeat (first | exact List.Sublist.refl _ | apply List.Sublist.cons))) rfl ?hy7 ?_
  case hy7 => exact Yl.nilCheck rfl rfl
  refine' TA.y (i := 7) #[true, true, true, true, false, true, true, true, false, false, false, false] rfl rfl rfl (by kernel_rfl) (fun _ _ _ h => h) (fun _ h => by exact Hp.sub h (by repeat (first | exact List.Sublist.refl _ | apply List.Sublist.cons))) rfl ?hy8 ?_
  case hy8 => first | exact Yl.field0 (k := 0) 0 rfl rfl Tryd.underlying43 rfl (by kernel_rfl) rfl | exact Yl.field (k := 0) 0 rfl rfl Tryd.underlying43 rfl (by kernel_rfl) rfl
  refine' TA.y (i := 8) #[true, true, true, true, false, true, true, true, true, false, false, false] rfl rfl rfl (by kernel_rfl) (fun _ _ _ h => h) (fun _ h => by exact Hp.sub h (by repeat (first | exact List.Sublist.refl _ | apply List.Sublist.cons))) rfl ?hy9 ?_
  case hy9 => first | exact Yl.load rfl rfl (by kernel_rfl) (Hp.oldB hp rfl (fun h => h)) | exact Yl.load rfl rfl (by kernel_rfl) (Hp.cell mem0 rfl) | exact Yl.load rfl rfl (by kernel_rfl) (Hp.cell mem1 rfl) | exact Yl.load rfl rfl (by kernel_rfl) (Hp.cell mem2 rfl) | exact Yl.load rfl rfl (by kernel_rfl) (Hp.cell mem3 rfl) | exact Yl.load rfl rfl (by kernel_rfl) (Hp.cell mem4 rfl) | exact Yl.load rfl rfl (by kernel_rfl) (Hp.rowAt mem0 (by omega) rfl) | exact Yl.load rfl rfl (by kernel_rfl) (Hp.rowAt mem1 (by omega) rfl) | exact Yl.load rfl rfl (by kernel_rfl) (Hp.rowAt mem2 (by omega) rfl) | exact Yl.load rfl rfl (by kernel_rfl) (Hp.rowAt mem3 (by omega) rfl) | exact Yl.load rfl rfl (by kernel_rfl) (Hp.rowAt mem4 (by omega) rfl)
  refine' TA.c (i := 4) #[true, true, true, true, true, true, true, true, true, false, false, false] rfl rfl rfl (by kernel_rfl) (by decide) rfl ?hy10 ?hz10 ?_
  case hy10 => exact Yc.call rfl Tryd.func23 (by kernel_rfl) rfl rfl (Hp.calls (fun w h => k_len w (Res.below' hm h.below)))
  case hz10 => exact (fun _ _ h => by exact Hp.sub h (by repeat (first | exact List.Sublist.refl _ | apply List.Sublist.cons)))
  intro _
  refine' TA.c (i := 9) #[true, true, true, true, true, true, true, true, true, true, false, false] rfl rfl rfl (by kernel_rfl) (by decide) rfl ?hy11 ?hz11 ?_
  case hy11 => exact Yc.call rfl Tryd.func27 (by kernel_rfl) rfl rfl (Hp.calls (fun w h => k_count w (Res.below' hm h.below)))
  case hz11 => exact (fun _ _ h => by exact Hp.sub h (by repeat (first | exact List.Sublist.refl _ | apply List.Sublist.cons)))
  intro _
  refine' TA.y (i := 10) #[true, true, true, true, true, true, true, true, true, true, true, false] rfl rfl rfl (by kernel_rfl) (fun _ _ _ h => h) (fun _ h => by exact Hp.sub h (by repeat (first | exact List.Sublist.refl _ | apply List.Sublist.cons))) rfl ?hy12 ?_
  case hy12 => first | (refine Yl.val (Yl.bin rfl rfl rfl (Bin.sub _ _ _ _)) (congrArg (Value.int .i64) (i64in ?_ ?_)) <;> omega) | exact Yl.bin rfl rfl rfl (Bin.sub _ _ _ _)
  refine' TA.y (i := 11) #[true, true, true, true, true, true, true, true, true, true, true, true] rfl rfl rfl (by kernel_rfl) (fun _ _ _ h => h) (fun _ h => by exact Hp.sub h (by repeat (first | exact List.Sublist.refl _ | apply List.Sublist.cons))) rfl ?hy13 ?_
  case hy13 => exact Yl.assign rfl rfl
  refine TA.done (by kernel_rfl) ?_
  refine TE.next ?_
  refine TC.ret ?_
  refine TE.ret1 rfl rfl ?_
  exact fun w h => ⟨rfl, h.below⟩
set_option maxRecDepth 100000 in
set_option maxHeartbeats 2000000 in
theorem k_taken (W : World) {p b g n : Nat} {f : Nat → Bool} (hR : (poolR p b g n f).holds W) (i : Int) : Calls Tryd.prog 20 #[.pointer (some ⟨p, 0, none⟩), .int .i64 i] W fun e w' => e = .returned (.bool (getB f n i)) ∧ Below W.heap.size W w' := by
  have hz := poolR_facts hR
  obtain ⟨hp, hm, _⟩ := hR
  have hM : Hp W (fun _ => False) [] W := Hp.start
  refine TC.enter (n := 11) Tryd.func20 rfl rfl rfl hM ?_
  refine TC.seq ?_
  refine TC.region ?_
  refine' TL.y rfl rfl rfl ?hy1 ?_
  case hy1 => exact Yl.assign rfl rfl
  refine TL.nil ?_
  refine TE.next ?_
  refine TC.seq ?_
  refine TC.region ?_
  refine' TL.y rfl rfl rfl ?hy2 ?_
  case hy2 => exact Yl.move rfl rfl
  refine' TL.y rfl rfl rfl ?hy3 ?_
  case hy3 => exact Yl.nilCheck rfl rfl
  refine' TL.y rfl rfl rfl ?hy4 ?_
  case hy4 => first | exact Yl.field0 (k := 0) 0 rfl rfl Tryd.underlying43 rfl (by kernel_rfl) rfl | exact Yl.field (k := 0) 0 rfl rfl Tryd.underlying43 rfl (by kernel_rfl) rfl
  refine' TL.y rfl rfl rfl ?hy5 ?_
  case hy5 => first | exact Yl.load rfl rfl (by kernel_rfl) (Hp.oldB hp rfl (fun h => h)) | exact Yl.load rfl rfl (by kernel_rfl) (Hp.cell mem0 rfl) | exact Yl.load rfl rfl (by kernel_rfl) (Hp.cell mem1 rfl) | exact Yl.load rfl rfl (by kernel_rfl) (Hp.cell mem2 rfl) | exact Yl.load rfl rfl (by kernel_rfl) (Hp.cell mem3 rfl) | exact Yl.load rfl rfl (by kernel_rfl) (Hp.cell mem4 rfl) | exact Yl.load rfl rfl (by kernel_rfl) (Hp.rowAt mem0 (by omega) rfl) | exact Yl.load rfl rfl (by kernel_rfl) (Hp.rowAt mem1 (by omega) rfl) | exact Yl.load rfl rfl (by kernel_rfl) (Hp.rowAt mem2 (by omega) rfl) | exact Yl.load rfl rfl (by kernel_rfl) (Hp.rowAt mem3 (by omega) rfl) | exact Yl.load rfl rfl (by kernel_rfl) (Hp.rowAt mem4 (by omega) rfl)
  refine' TL.y rfl rfl rfl ?hy6 ?_
  case hy6 => exact Yl.move rfl rfl
  refine' TL.c rfl rfl rfl ?hy7 ?_
  case hy7 => exact Yc.call rfl Tryd.func28 (by kernel_rfl) rfl rfl (Hp.calls (fun w h => k_get w (Res.below' hm h.below) i))
  intro _
  refine' TL.y rfl rfl rfl ?hy8 ?_
  case hy8 => exact Yl.assign rfl rfl
  refine TL.nil ?_
  refine TE.next ?_
  refine TC.ret ?_
  refine TE.ret1 rfl rfl ?_
  exact fun w h => ⟨rfl, h.below⟩
set_option maxRecDepth 100000 in
set_option maxHeartbeats 2000000 in
theorem k_level (W : World) {p b g n : Nat} {f : Nat → Bool} (hR : (poolR p b g n f).holds W) (low high : Int) : Calls Tryd.prog 21 #[.pointer (some ⟨p, 0, none⟩), .int .i64 low, .int .i64 high] W fun e w' => e = .returned (.int .i64 (levelV ((n : Int) - cntB f n) low high)) ∧ Below W.heap.size W w' := by
  have hM : Hp W (fun _ => False) [] W := Hp.start
  refine TC.enter (n := 18) Tryd.func21 rfl rfl rfl hM ?_
  refine TC.seq ?_
  refine TC.region ?_
  refine' TL.y rfl rfl rfl ?hy1 ?_
  case hy1 => exact Yl.assign rfl rfl
  refine TL.nil ?_
  refine TE.next ?_
  refine TC.seq ?_
  refine TC.seq ?_
  refine TC.region ?_
  refine' TL.y rfl rfl rfl ?hy2 ?_
  case hy2 => exact Yl.move rfl rfl
  refine' TL.c rfl rfl rfl ?hy3 ?_
  case hy3 => exact Yc.call rfl Tryd.func18 (by kernel_rfl) rfl rfl (Hp.calls (fun w h => k_free w (Res.below' hR h.below)))
  intro _
  refine' TL.y rfl rfl rfl ?hy4 ?_
  case hy4 => exact Yl.assign rfl rfl
  refine TL.nil ?_
  refine TE.next ?_
  refine TC.block ?_
  refine TC.seq ?_
  refine TC.region ?_
  refine' TL.y rfl rfl rfl ?hy5 ?_
  case hy5 => exact Yl.move rfl rfl
  refine' TL.y rfl rfl rfl ?hy6 ?_
  case hy6 => exact Yl.move rfl rfl
  refine' TL.y rfl rfl rfl ?hy7 ?_
  case hy7 => exact Yl.bin rfl rfl rfl (Bin.lss _ _ _ _)
  refine' TL.y rfl rfl rfl ?hy8 ?_
  case hy8 => exact Yl.assign rfl rfl
  refine TL.nil ?_
  refine TE.next ?_
  refine TC.cond rfl (fun hs10 => ?_) (fun hs10 => ?_)
  · skip
    (try simp only [decide_eq_true_eq, decide_eq_false_iff_not, beq_iff_eq, beq_eq_false_iff_ne, bne_iff_ne, ne_eq, bne_eq_false_iff_eq, Bool.not_eq_true', Bool.not_eq_false', Int.not_lt, Int.not_le, gt_iff_lt, ge_iff_le] at hs10)
    refine TC.seq ?_
    refine TC.region ?_
    refine' TL.y rfl rfl rfl ?hy9 ?_
    case hy9 => exact Yl.assign rfl rfl
    refine TL.nil ?_
    refine TE.next ?_
    refine TC.ret ?_
    refine TE.inRet ?_
    refine TE.thenRet ?_
    refine TE.ret1 rfl rfl ?_
    exact fun w h => ⟨by unfold levelV; rw [if_pos (by omega)], h.below⟩
  · skip
    (try simp only [decide_eq_true_eq, decide_eq_false_iff_not, beq_iff_eq, beq_eq_false_iff_ne, bne_iff_ne, ne_eq, bne_eq_false_iff_eq, Bool.not_eq_true', Bool.not_eq_false', Int.not_lt, Int.not_le, gt_iff_lt, ge_iff_le] at hs10)
    refine TC.seq ?_
    refine TC.region ?_
    refine' TL.y rfl rfl rfl ?hy10 ?_
    case hy10 => exact Yl.move rfl rfl
    refine' TL.y rfl rfl rfl ?hy11 ?_
    case hy11 => exact Yl.move rfl rfl
    refine' TL.y rfl rfl rfl ?hy12 ?_
    case hy12 => exact Yl.bin rfl rfl rfl (Bin.lss _ _ _ _)
    refine' TL.y rfl rfl rfl ?hy13 ?_
    case hy13 => exact Yl.assign rfl rfl
    refine TL.nil ?_
    refine TE.next ?_
    refine TC.cond rfl (fun hs14 => ?_) (fun hs14 => ?_)
    · skip
      (try simp only [decide_eq_true_eq, decide_eq_false_iff_not, beq_iff_eq, beq_eq_false_iff_ne, bne_iff_ne, ne_eq, bne_eq_false_iff_eq, Bool.not_eq_true', Bool.not_eq_false', Int.not_lt, Int.not_le, gt_iff_lt, ge_iff_le] at hs14)
      refine TC.seq ?_
      refine TC.region ?_
      refine' TL.y rfl rfl rfl ?hy14 ?_
      case hy14 => exact Yl.assign rfl rfl
      refine TL.nil ?_
      refine TE.next ?_
      refine TC.ret ?_
      refine TE.inRet ?_
      refine TE.thenRet ?_
      refine TE.ret1 rfl rfl ?_
      exact fun w h => ⟨by unfold levelV; rw [if_neg (by omega), if_pos (by omega)], h.below⟩
    · skip
      (try simp only [decide_eq_true_eq, decide_eq_false_iff_not, beq_iff_eq, beq_eq_false_iff_ne, bne_iff_ne, ne_eq, bne_eq_false_iff_eq, Bool.not_eq_true', Bool.not_eq_false', Int.not_lt, Int.not_le, gt_iff_lt, ge_iff_le] at hs14)
      refine TC.skip ?_
      refine TE.inNormal ?_
      refine TE.next ?_
      refine TC.seq ?_
      refine TC.region ?_
      refine' TL.y rfl rfl rfl ?hy15 ?_
      case hy15 => exact Yl.assign rfl rfl
      refine TL.nil ?_
      refine TE.next ?_
      refine TC.ret ?_
      refine TE.ret1 rfl rfl ?_
      exact fun w h => ⟨by unfold levelV; rw [if_neg (by omega), if_neg (by omega)], h.below⟩
set_option maxRecDepth 100000 in
set_option maxHeartbeats 2000000 in
theorem k_pnew (n : Int) : Makes Tryd.prog 10 #[.int .i64 n] (fun s : Nat × Nat × Nat => .pointer (some ⟨s.1, 0, none⟩)) (fun s => poolR s.1 s.2.1 s.2.2 (newN (min n 1024)) (fun _ => false)) := by
  intro W
  have hM : Hp W (fun _ => False) [] W := Hp.start
  refine TC.enter (n := 8) Tryd.func10 rfl rfl rfl hM ?_
  refine TC.seq ?_
  refine TC.region ?_
  refine' TL.y rfl rfl rfl ?hy1 ?_
  case hy1 => exact Yl.assign rfl rfl
  refine TL.nil ?_
  refine TE.next ?_
  refine TC.seq ?_
  refine TC.region ?_
  refine' TL.y rfl rfl rfl ?hy2 ?_
  case hy2 => exact Yl.move rfl rfl
  refine' TL.y rfl rfl rfl ?hy3 ?_
  case hy3 => exact Yl.val (Yl.min rfl rfl rfl) (congrArg (Value.int .i64) (show (if (1024 : Int) < n then 1024 else n) = min n 1024 from by split <;> omega))
  refine' TL.c rfl rfl rfl ?hy4 ?_
  case hy4 => exact Yc.call rfl Tryd.func24 (by kernel_rfl) rfl rfl (Hp.makes (k_new (min n 1024)))
  intro ⟨b, g⟩
  refine' TL.y rfl rfl rfl ?hy5 ?_
  case hy5 => exact Yl.build (z := .agg #[.pointer none]) [(0, 1)] rfl (by kernel_rfl) Tryd.underlying43 (by kernel_rfl) rfl rfl
  refine' TL.mx rfl rfl rfl ?hy6 ?_
  case hy6 => exact Ym.box rfl rfl
  intro b7
  refine' TL.y rfl rfl rfl ?hy7 ?_
  case hy7 => exact Yl.assign rfl rfl
  refine TL.nil ?_
  refine TE.next ?_
  refine TC.ret ?_
  refine TE.ret1 rfl rfl ?_
  exact fun w h => ⟨(b7, b, g), rfl, (h.tostar).leaveNew⟩
theorem TabOK.hp {W : World} {T : Nat → Prop} {H : List Res} (h : TabOK W) (hn : ¬ T 0) : ∀ w, Hp W T H w → TabOK w := fun w hw j hj => Hp.old (h j hj) hn w hw
theorem poolR_tab {W : World} {p b g n : Nat} {f : Nat → Bool} (hR : (poolR p b g n f).holds W) (hT : TabOK W) : ¬ (poolR p b g n f).foot 0 := by
  unfold poolR mapR at *
  obtain ⟨h1, ⟨⟨h2, h3, _⟩, _⟩, _⟩ := hR
  have h0 := hT 0 (by decide)
  rintro (h | h | h)
  · obtain rfl : (0 : Nat) = p := h
    rw [blk_cell (show W.heap[0]? = some (poolO b) from h1)] at h0
    exact absurd h0 (by simp)
  · obtain rfl : (0 : Nat) = b := h
    rw [blk_cell (show W.heap[0]? = some (mapO n g) from h2)] at h0
    exact absurd h0 (by simp)
  · obtain rfl : (0 : Nat) = g := h
    rw [blk_cell (show W.heap[0]? = some (mapW f n) from h3)] at h0
    by_cases hn : 0 < (n + 63) / 64
    · rw [rowA_get hn] at h0; unfold wordV at h0; exact absurd h0 (by simp)
    · rw [Array.getElem?_eq_none (by rw [rowA_size]; omega)] at h0; exact absurd h0 (by simp)
/-- A function turns a thing, where the table lies. -/
def TurnT (P : Program) (f : FuncId) (args : Array Value) (r : Res) (v : Value) (r' : Res) : Prop :=
  ∀ w, r.holds w → TabOK w → Calls P f args w fun e w' => ∃ _ : Unit, e = .returned v ∧ r'.holds w' ∧ Chg w w' r.foot ∧ ∀ k, r'.foot k → r.foot k ∨ w.heap.size ≤ k
theorem Hp.turnT {P : Program} {W0 : World} {T : Nat → Prop} {H H' : List Res} {f : FuncId} {args : Array Value} {v : Value} {r r' : Res} (hT : ∀ w, Hp W0 T H w → TabOK w) (hr : r ∈ H) (hf : Foc H r H' r') (h : TurnT P f args r v r') : ∀ w, Hp W0 T H w → Calls P f args w fun e w' => ∃ _ : Unit, e = .returned v ∧ Hp W0 T H' w' :=
  Hp.turns hr (fun _ => hf) (fun w hw hrw => h w hrw (hT w hw))
theorem poolR_shut {W0 w : World} {T : Nat → Prop} {H : List Res} {p b g n : Nat} {f : Nat → Bool} (h : Hp W0 T (blk p (poolO b) :: mapR b g n f :: H) w) : Hp W0 T (poolR p b g n f :: H) w := h.tostar
theorem poolR_enter {w : World} {p b g n : Nat} {f : Nat → Bool} (h : (poolR p b g n f).holds w) : Hp w (poolR p b g n f).foot [blk p (poolO b), mapR b g n f] w := Hp.unstar (Hp.enter h)
attribute [local irreducible] poolR
set_option maxRecDepth 100000 in
set_option maxHeartbeats 2000000 in
theorem k_take {p b g n : Nat} {f : Nat → Bool} : TurnT Tryd.prog 12 #[.pointer (some ⟨p, 0, none⟩)] (poolR p b g n f) (.tuple #[.int .i64 (runA f n 1).1, .int .i64 (runA f n 1).2]) (poolR p b g n (runF f n 1)) := by
  intro W hR hT
  have hz := poolR_facts hR
  have hnt := poolR_tab hR hT
  have hM : Hp W (poolR p b g n f).foot [blk p (poolO b), mapR b g n f] W := poolR_enter hR
  refine TC.enter (n := 19) Tryd.func12 rfl rfl rfl hM ?_
  refine TC.seq ?_
  refine TC.region ?_
  refine' TL.y rfl rfl rfl ?hy1 ?_
  case hy1 => exact Yl.assign rfl rfl
  refine' TL.y rfl rfl rfl ?hy2 ?_
  case hy2 => exact Yl.assign rfl rfl
  refine TL.nil ?_
  refine TE.next ?_
  refine TC.seq ?_
  refine TC.region ?_
  refine' TL.y rfl rfl rfl ?hy3 ?_
  case hy3 => exact Yl.move rfl rfl
  refine' TL.y rfl rfl rfl ?hy4 ?_
  case hy4 => exact Yl.nilCheck rfl rfl
  refine' TL.y rfl rfl rfl ?hy5 ?_
  case hy5 => first | exact Yl.field0 (k := 0) 0 rfl rfl Tryd.underlying43 rfl (by kernel_rfl) rfl | exact Yl.field (k := 0) 0 rfl rfl Tryd.underlying43 rfl (by kernel_rfl) rfl
  refine' TL.y rfl rfl rfl ?hy6 ?_
  case hy6 => first | exact Yl.load rfl rfl (by kernel_rfl) (Hp.cell mem0 rfl) | exact Yl.load rfl rfl (by kernel_rfl) (Hp.cell mem1 rfl) | exact Yl.load rfl rfl (by kernel_rfl) (Hp.cell mem2 rfl) | exact Yl.load rfl rfl (by kernel_rfl) (Hp.cell mem3 rfl) | exact Yl.load rfl rfl (by kernel_rfl) (Hp.cell mem4 rfl) | exact Yl.load rfl rfl (by kernel_rfl) (Hp.rowAt mem0 (by omega) rfl) | exact Yl.load rfl rfl (by kernel_rfl) (Hp.rowAt mem1 (by omega) rfl) | exact Yl.load rfl rfl (by kernel_rfl) (Hp.rowAt mem2 (by omega) rfl) | exact Yl.load rfl rfl (by kernel_rfl) (Hp.rowAt mem3 (by omega) rfl) | exact Yl.load rfl rfl (by kernel_rfl) (Hp.rowAt mem4 (by omega) rfl)
  refine' TL.c rfl rfl rfl ?hy7 ?_
  case hy7 => exact Yc.call rfl Tryd.func25 (by kernel_rfl) rfl rfl (Hp.calls (fun w h => k_next w (h.all _ mem1) (hT.hp hnt w h) 0 (by decide) false))
  intro _
  refine' TL.y rfl rfl rfl ?hy8 ?_
  case hy8 => exact Yl.assign rfl rfl
  refine TL.nil ?_
  refine TE.next ?_
  refine TC.seq ?_
  refine TC.seq ?_
  refine TC.region ?_
  refine' TL.y rfl rfl rfl ?hy9 ?_
  case hy9 => exact Yl.move rfl rfl
  refine' TL.y rfl rfl rfl ?hy10 ?_
  case hy10 => exact Yl.bin rfl rfl rfl (Bin.lss _ _ _ _)
  refine TL.nil ?_
  refine TE.next ?_
  refine TC.cond rfl (fun hs11 => ?_) (fun hs11 => ?_)
  · skip
    (try simp only [decide_eq_true_eq, decide_eq_false_iff_not, beq_iff_eq, beq_eq_false_iff_ne, bne_iff_ne, ne_eq, bne_eq_false_iff_eq, Bool.not_eq_true', Bool.not_eq_false', Int.not_lt, Int.not_le, gt_iff_lt, ge_iff_le] at hs11)
    have hr : runV f n 1 = -1 := by rw [runV_one]; rcases nextV_cases f n 0 false with ⟨h1, _⟩ | ⟨q, h1, _⟩ <;> omega
    refine TC.seq ?_
    refine TC.region ?_
    refine' TL.y rfl rfl rfl ?hy11 ?_
    case hy11 => exact Yl.assign rfl rfl
    refine' TL.y rfl rfl rfl ?hy12 ?_
    case hy12 => exact Yl.assign rfl rfl
    refine TL.nil ?_
    refine TE.next ?_
    refine TC.ret ?_
    refine TE.thenRet ?_
    refine TE.ret2 rfl rfl rfl ?_
    have e := runA_none (k := 1) (by decide) hr
    exact fun w h => ⟨(), by rw [e.1], by rw [e.2]; exact (poolR_shut h).leave⟩
  · skip
    (try simp only [decide_eq_true_eq, decide_eq_false_iff_not, beq_iff_eq, beq_eq_false_iff_ne, bne_iff_ne, ne_eq, bne_eq_false_iff_eq, Bool.not_eq_true', Bool.not_eq_false', Int.not_lt, Int.not_le, gt_iff_lt, ge_iff_le] at hs11)
    obtain ⟨q, hq1, hq3, hq4⟩ : ∃ q : Nat, nextV f n 0 false = q ∧ q < n ∧ f q = false := by
      rcases nextV_cases f n 0 false with ⟨h1, _⟩ | ⟨q, h1, h2, h3, h4, _⟩
      · omega
      · exact ⟨q, h1, h3, h4⟩
    have hr : runV f n 1 = q := by rw [runV_one]; exact hq1
    rw [hq1]
    refine TC.skip ?_
    refine TE.next ?_
    refine TC.seq ?_
    refine TC.region ?_
    refine' TL.y rfl rfl rfl ?hy13 ?_
    case hy13 => exact Yl.move rfl rfl
    refine' TL.y rfl rfl rfl ?hy14 ?_
    case hy14 => exact Yl.nilCheck rfl rfl
    refine' TL.y rfl rfl rfl ?hy15 ?_
    case hy15 => first | exact Yl.field0 (k := 0) 0 rfl rfl Tryd.underlying43 rfl (by kernel_rfl) rfl | exact Yl.field (k := 0) 0 rfl rfl Tryd.underlying43 rfl (by kernel_rfl) rfl
    refine' TL.y rfl rfl rfl ?hy16 ?_
    case hy16 => first | exact Yl.load rfl rfl (by kernel_rfl) (Hp.cell mem0 rfl) | exact Yl.load rfl rfl (by kernel_rfl) (Hp.cell mem1 rfl) | exact Yl.load rfl rfl (by kernel_rfl) (Hp.cell mem2 rfl) | exact Yl.load rfl rfl (by kernel_rfl) (Hp.cell mem3 rfl) | exact Yl.load rfl rfl (by kernel_rfl) (Hp.cell mem4 rfl) | exact Yl.load rfl rfl (by kernel_rfl) (Hp.rowAt mem0 (by omega) rfl) | exact Yl.load rfl rfl (by kernel_rfl) (Hp.rowAt mem1 (by omega) rfl) | exact Yl.load rfl rfl (by kernel_rfl) (Hp.rowAt mem2 (by omega) rfl) | exact Yl.load rfl rfl (by kernel_rfl) (Hp.rowAt mem3 (by omega) rfl) | exact Yl.load rfl rfl (by kernel_rfl) (Hp.rowAt mem4 (by omega) rfl)
    refine' TL.y rfl rfl rfl ?hy17 ?_
    case hy17 => exact Yl.move rfl rfl
    refine' TL.c rfl rfl rfl ?hy18 ?_
    case hy18 => exact Yc.call rfl Tryd.func26 (by kernel_rfl) rfl rfl (Hp.turn1 mem1 foc1 (k_set (q : Int) true))
    intro _
    rw [(set_in hq3 (show f q ≠ true by rw [hq4]; decide)).2]
    refine TL.nil ?_
    refine TE.next ?_
    refine TC.seq ?_
    refine TC.region ?_
    refine' TL.y rfl rfl rfl ?hy19 ?_
    case hy19 => exact Yl.move rfl rfl
    refine' TL.y rfl rfl rfl ?hy20 ?_
    case hy20 => exact Yl.assign rfl rfl
    refine' TL.y rfl rfl rfl ?hy21 ?_
    case hy21 => exact Yl.assign rfl rfl
    refine TL.nil ?_
    refine TE.next ?_
    refine TC.ret ?_
    refine TE.ret2 rfl rfl rfl ?_
    have e := runA_some (k := 1) (by decide) hr
    have e3 : fillB f q (1 : Int).toNat = setB f q true := fillB_one f q
    exact fun w h => ⟨(), by rw [e.1], by rw [e.2, e3]; exact (poolR_shut h).leave⟩
set_option maxRecDepth 100000 in
set_option maxHeartbeats 2000000 in
theorem k_give {p b g n : Nat} {f : Nat → Bool} (i : Int) : TurnT Tryd.prog 14 #[.pointer (some ⟨p, 0, none⟩), .int .i64 i] (poolR p b g n f) (.int .i64 (giveA f n i)) (poolR p b g n (giveF f n i)) := by
  intro W hR hT
  have hz := poolR_facts hR
  have hnt := poolR_tab hR hT
  have hM : Hp W (poolR p b g n f).foot [blk p (poolO b), mapR b g n f] W := poolR_enter hR
  refine TC.enter (n := 25) Tryd.func14 rfl rfl rfl hM ?_
  refine TC.seq ?_
  refine TC.region ?_
  refine' TL.y rfl rfl rfl ?hy1 ?_
  case hy1 => exact Yl.assign rfl rfl
  refine TL.nil ?_
  refine TE.next ?_
  refine TC.seq ?_
  refine TC.block ?_
  refine TC.seq ?_
  refine TC.region ?_
  refine' TL.y rfl rfl rfl ?hy2 ?_
  case hy2 => exact Yl.move rfl rfl
  refine' TL.y rfl rfl rfl ?hy3 ?_
  case hy3 => exact Yl.bin rfl rfl rfl (Bin.lss _ _ _ _)
  refine' TL.y rfl rfl rfl ?hy4 ?_
  case hy4 => exact Yl.move rfl rfl
  refine TL.split (i := 8) rfl (fun hs8 => ?_) (fun hs8 => ?_)
  · skip
    (try simp only [decide_eq_true_eq, decide_eq_false_iff_not, beq_iff_eq, beq_eq_false_iff_ne, bne_iff_ne, ne_eq, bne_eq_false_iff_eq, Bool.not_eq_true', Bool.not_eq_false', Int.not_lt, Int.not_le, gt_iff_lt, ge_iff_le] at hs8)
    refine TL.skip rfl rfl rfl ?_
    refine TL.skip rfl rfl rfl ?_
    refine TL.skip rfl rfl rfl ?_
    refine TL.skip rfl rfl rfl ?_
    refine TL.skip rfl rfl rfl ?_
    refine TL.skip rfl rfl rfl ?_
    refine TL.skip rfl rfl rfl ?_
    refine' TL.y rfl rfl rfl ?hy5 ?_
    case hy5 => exact Yl.pickT rfl rfl rfl
    refine' TL.y rfl rfl rfl ?hy6 ?_
    case hy6 => exact Yl.assign rfl rfl
    refine TL.nil ?_
    refine TE.next ?_
    refine TC.yes rfl rfl ?_
    refine TC.seq ?_
    refine TC.region ?_
    refine' TL.y rfl rfl rfl ?hy7 ?_
    case hy7 => exact Yl.assign rfl rfl
    refine TL.nil ?_
    refine TE.next ?_
    refine TC.ret ?_
    refine TE.inRet ?_
    refine TE.thenRet ?_
    refine TE.ret1 rfl rfl ?_
    exact fun w h => ⟨(), by rw [(give_out (f := f) (show i < 0 ∨ (n : Int) ≤ i by omega)).1], by rw [(give_out (f := f) (show i < 0 ∨ (n : Int) ≤ i by omega)).2]; exact (poolR_shut h).leave⟩
  · skip
    (try simp only [decide_eq_true_eq, decide_eq_false_iff_not, beq_iff_eq, beq_eq_false_iff_ne, bne_iff_ne, ne_eq, bne_eq_false_iff_eq, Bool.not_eq_true', Bool.not_eq_false', Int.not_lt, Int.not_le, gt_iff_lt, ge_iff_le] at hs8)
    refine' TL.y rfl rfl rfl ?hy8 ?_
    case hy8 => exact Yl.move rfl rfl
    refine' TL.y rfl rfl rfl ?hy9 ?_
    case hy9 => exact Yl.move rfl rfl
    refine' TL.y rfl rfl rfl ?hy10 ?_
    case hy10 => exact Yl.nilCheck rfl rfl
    refine' TL.y rfl rfl rfl ?hy11 ?_
    case hy11 => first | exact Yl.field0 (k := 0) 0 rfl rfl Tryd.underlying43 rfl (by kernel_rfl) rfl | exact Yl.field (k := 0) 0 rfl rfl Tryd.underlying43 rfl (by kernel_rfl) rfl
    refine' TL.y rfl rfl rfl ?hy12 ?_
    case hy12 => first | exact Yl.load rfl rfl (by kernel_rfl) (Hp.cell mem0 rfl) | exact Yl.load rfl rfl (by kernel_rfl) (Hp.cell mem1 rfl) | exact Yl.load rfl rfl (by kernel_rfl) (Hp.cell mem2 rfl) | exact Yl.load rfl rfl (by kernel_rfl) (Hp.cell mem3 rfl) | exact Yl.load rfl rfl (by kernel_rfl) (Hp.cell mem4 rfl) | exact Yl.load rfl rfl (by kernel_rfl) (Hp.rowAt mem0 (by omega) rfl) | exact Yl.load rfl rfl (by kernel_rfl) (Hp.rowAt mem1 (by omega) rfl) | exact Yl.load rfl rfl (by kernel_rfl) (Hp.rowAt mem2 (by omega) rfl) | exact Yl.load rfl rfl (by kernel_rfl) (Hp.rowAt mem3 (by omega) rfl) | exact Yl.load rfl rfl (by kernel_rfl) (Hp.rowAt mem4 (by omega) rfl)
    refine' TL.c rfl rfl rfl ?hy13 ?_
    case hy13 => exact Yc.call rfl Tryd.func23 (by kernel_rfl) rfl rfl (Hp.calls (fun w h => k_len w (h.all _ mem1)))
    intro _
    refine' TL.y rfl rfl rfl ?hy14 ?_
    case hy14 => exact Yl.bin rfl rfl rfl (Bin.geq _ _ _ _)
    refine' TL.y rfl rfl rfl ?hy15 ?_
    case hy15 => exact Yl.pickF rfl rfl rfl
    refine' TL.y rfl rfl rfl ?hy16 ?_
    case hy16 => exact Yl.assign rfl rfl
    refine TL.nil ?_
    refine TE.next ?_
    refine TC.cond rfl (fun hs5 => ?_) (fun hs5 => ?_)
    · skip
      (try simp only [decide_eq_true_eq, decide_eq_false_iff_not, beq_iff_eq, beq_eq_false_iff_ne, bne_iff_ne, ne_eq, bne_eq_false_iff_eq, Bool.not_eq_true', Bool.not_eq_false', Int.not_lt, Int.not_le, gt_iff_lt, ge_iff_le] at hs5)
      refine TC.seq ?_
      refine TC.region ?_
      refine' TL.y rfl rfl rfl ?hy17 ?_
      case hy17 => exact Yl.assign rfl rfl
      refine TL.nil ?_
      refine TE.next ?_
      refine TC.ret ?_
      refine TE.inRet ?_
      refine TE.thenRet ?_
      refine TE.ret1 rfl rfl ?_
      exact fun w h => ⟨(), by rw [(give_out (f := f) (show i < 0 ∨ (n : Int) ≤ i by omega)).1], by rw [(give_out (f := f) (show i < 0 ∨ (n : Int) ≤ i by omega)).2]; exact (poolR_shut h).leave⟩
    · skip
      (try simp only [decide_eq_true_eq, decide_eq_false_iff_not, beq_iff_eq, beq_eq_false_iff_ne, bne_iff_ne, ne_eq, bne_eq_false_iff_eq, Bool.not_eq_true', Bool.not_eq_false', Int.not_lt, Int.not_le, gt_iff_lt, ge_iff_le] at hs5)
      obtain ⟨j, rfl⟩ := Int.eq_ofNat_of_zero_le (show 0 ≤ i by omega)
      refine TC.seq ?_
      refine TC.region ?_
      refine' TL.y rfl rfl rfl ?hy18 ?_
      case hy18 => exact Yl.move rfl rfl
      refine' TL.y rfl rfl rfl ?hy19 ?_
      case hy19 => exact Yl.nilCheck rfl rfl
      refine' TL.y rfl rfl rfl ?hy20 ?_
      case hy20 => first | exact Yl.field0 (k := 0) 0 rfl rfl Tryd.underlying43 rfl (by kernel_rfl) rfl | exact Yl.field (k := 0) 0 rfl rfl Tryd.underlying43 rfl (by kernel_rfl) rfl
      refine' TL.y rfl rfl rfl ?hy21 ?_
      case hy21 => first | exact Yl.load rfl rfl (by kernel_rfl) (Hp.cell mem0 rfl) | exact Yl.load rfl rfl (by kernel_rfl) (Hp.cell mem1 rfl) | exact Yl.load rfl rfl (by kernel_rfl) (Hp.cell mem2 rfl) | exact Yl.load rfl rfl (by kernel_rfl) (Hp.cell mem3 rfl) | exact Yl.load rfl rfl (by kernel_rfl) (Hp.cell mem4 rfl) | exact Yl.load rfl rfl (by kernel_rfl) (Hp.rowAt mem0 (by omega) rfl) | exact Yl.load rfl rfl (by kernel_rfl) (Hp.rowAt mem1 (by omega) rfl) | exact Yl.load rfl rfl (by kernel_rfl) (Hp.rowAt mem2 (by omega) rfl) | exact Yl.load rfl rfl (by kernel_rfl) (Hp.rowAt mem3 (by omega) rfl) | exact Yl.load rfl rfl (by kernel_rfl) (Hp.rowAt mem4 (by omega) rfl)
      refine' TL.y rfl rfl rfl ?hy22 ?_
      case hy22 => exact Yl.move rfl rfl
      refine' TL.c rfl rfl rfl ?hy23 ?_
      case hy23 => exact Yc.call rfl Tryd.func26 (by kernel_rfl) rfl rfl (Hp.turn1 mem1 foc1 (k_set (j : Int) false))
      intro _
      refine' TL.y rfl rfl rfl ?hy24 ?_
      case hy24 => exact Yl.not rfl rfl
      refine' TL.y rfl rfl rfl ?hy25 ?_
      case hy25 => exact Yl.assign rfl rfl
      refine TL.nil ?_
      refine TE.next ?_
      refine TC.cond rfl (fun hs17 => ?_) (fun hs17 => ?_)
      · skip
        (try simp only [decide_eq_true_eq, decide_eq_false_iff_not, beq_iff_eq, beq_eq_false_iff_ne, bne_iff_ne, ne_eq, bne_eq_false_iff_eq, Bool.not_eq_true', Bool.not_eq_false', Int.not_lt, Int.not_le, gt_iff_lt, ge_iff_le] at hs17)
        have hfj : f j = false := by cases e : f j; rfl; rw [(set_in (on := false) (show j < n by omega) (by rw [e]; decide)).1] at hs17; cases hs17
        rw [(set_same (n := n) hfj).2]
        refine TC.seq ?_
        refine TC.region ?_
        refine' TL.y rfl rfl rfl ?hy26 ?_
        case hy26 => exact Yl.assign rfl rfl
        refine TL.nil ?_
        refine TE.next ?_
        refine TC.ret ?_
        refine TE.inRet ?_
        refine TE.thenRet ?_
        refine TE.ret1 rfl rfl ?_
        exact fun w h => ⟨(), by rw [(give_free (show j < n by omega) hfj).1], by rw [(give_free (show j < n by omega) hfj).2]; exact (poolR_shut h).leave⟩
      · skip
        (try simp only [decide_eq_true_eq, decide_eq_false_iff_not, beq_iff_eq, beq_eq_false_iff_ne, bne_iff_ne, ne_eq, bne_eq_false_iff_eq, Bool.not_eq_true', Bool.not_eq_false', Int.not_lt, Int.not_le, gt_iff_lt, ge_iff_le] at hs17)
        have hfj : f j = true := by cases e : f j; rw [(set_same (n := n) e).1] at hs17; cases hs17; rfl
        rw [(set_in (on := false) (show j < n by omega) (show f j ≠ false by rw [hfj]; decide)).2]
        refine TC.skip ?_
        refine TE.inNormal ?_
        refine TE.next ?_
        refine TC.seq ?_
        refine TC.region ?_
        refine' TL.y rfl rfl rfl ?hy27 ?_
        case hy27 => exact Yl.assign rfl rfl
        refine TL.nil ?_
        refine TE.next ?_
        refine TC.ret ?_
        refine TE.ret1 rfl rfl ?_
        exact fun w h => ⟨(), by rw [(give_in (show j < n by omega) hfj).1], by rw [(give_in (show j < n by omega) hfj).2]; exact (poolR_shut h).leave⟩
set_option maxRecDepth 100000 in
set_option maxHeartbeats 2000000 in
theorem k_run {p b g n : Nat} {f : Nat → Bool} (k0 : Int) (hk0 : k0 ≤ 9223372036854775807) : TurnT Tryd.prog 16 #[.pointer (some ⟨p, 0, none⟩), .int .i64 k0] (poolR p b g n f) (.tuple #[.int .i64 (runA f n k0).1, .int .i64 (runA f n k0).2]) (poolR p b g n (runF f n k0)) := by
  intro W hR hT
  have hz := poolR_facts hR
  have hnt := poolR_tab hR hT
  have hM : Hp W (poolR p b g n f).foot [blk p (poolO b), mapR b g n f] W := poolR_enter hR
  refine TC.enter (n := 63) Tryd.func16 rfl rfl rfl hM ?_
  refine TC.seq ?_
  refine TC.region ?_
  refine' TL.y rfl rfl rfl ?hy1 ?_
  case hy1 => exact Yl.assign rfl rfl
  refine' TL.y rfl rfl rfl ?hy2 ?_
  case hy2 => exact Yl.assign rfl rfl
  refine TL.nil ?_
  refine TE.next ?_
  refine TC.seq ?_
  refine TC.seq ?_
  refine TC.region ?_
  refine' TL.y rfl rfl rfl ?hy3 ?_
  case hy3 => exact Yl.move rfl rfl
  refine' TL.y rfl rfl rfl ?hy4 ?_
  case hy4 => exact Yl.bin rfl rfl rfl (Bin.lss _ _ _ _)
  refine TL.nil ?_
  refine TE.next ?_
  refine TC.cond rfl (fun hs10 => ?_) (fun hs10 => ?_)
  · skip
    (try simp only [decide_eq_true_eq, decide_eq_false_iff_not, beq_iff_eq, beq_eq_false_iff_ne, bne_iff_ne, ne_eq, bne_eq_false_iff_eq, Bool.not_eq_true', Bool.not_eq_false', Int.not_lt, Int.not_le, gt_iff_lt, ge_iff_le] at hs10)
    refine TC.seq ?_
    refine TC.region ?_
    refine' TL.y rfl rfl rfl ?hy5 ?_
    case hy5 => exact Yl.assign rfl rfl
    refine' TL.y rfl rfl rfl ?hy6 ?_
    case hy6 => exact Yl.assign rfl rfl
    refine TL.nil ?_
    refine TE.next ?_
    refine TC.ret ?_
    refine TE.thenRet ?_
    refine TE.ret2 rfl rfl rfl ?_
    exact fun w h => ⟨(), by rw [(runA_low (f := f) (n := n) hs10).1], by rw [(runA_low (f := f) (n := n) hs10).2]; exact (poolR_shut h).leave⟩
  · skip
    (try simp only [decide_eq_true_eq, decide_eq_false_iff_not, beq_iff_eq, beq_eq_false_iff_ne, bne_iff_ne, ne_eq, bne_eq_false_iff_eq, Bool.not_eq_true', Bool.not_eq_false', Int.not_lt, Int.not_le, gt_iff_lt, ge_iff_le] at hs10)
    obtain ⟨k, rfl⟩ := Int.eq_ofNat_of_zero_le (show 0 ≤ k0 by omega)
    refine TC.skip ?_
    refine TE.next ?_
    refine TC.seq ?_
    refine TC.seq ?_
    refine TC.region ?_
    refine' TL.y rfl rfl rfl ?hy7 ?_
    case hy7 => exact Yl.move rfl rfl
    refine' TL.y rfl rfl rfl ?hy8 ?_
    case hy8 => exact Yl.nilCheck rfl rfl
    refine' TL.y rfl rfl rfl ?hy9 ?_
    case hy9 => first | exact Yl.field0 (k := 0) 0 rfl rfl Tryd.underlying43 rfl (by kernel_rfl) rfl | exact Yl.field (k := 0) 0 rfl rfl Tryd.underlying43 rfl (by kernel_rfl) rfl
    refine' TL.y rfl rfl rfl ?hy10 ?_
    case hy10 => first | exact Yl.load rfl rfl (by kernel_rfl) (Hp.cell mem0 rfl) | exact Yl.load rfl rfl (by kernel_rfl) (Hp.cell mem1 rfl) | exact Yl.load rfl rfl (by kernel_rfl) (Hp.cell mem2 rfl) | exact Yl.load rfl rfl (by kernel_rfl) (Hp.cell mem3 rfl) | exact Yl.load rfl rfl (by kernel_rfl) (Hp.cell mem4 rfl) | exact Yl.load rfl rfl (by kernel_rfl) (Hp.rowAt mem0 (by omega) rfl) | exact Yl.load rfl rfl (by kernel_rfl) (Hp.rowAt mem1 (by omega) rfl) | exact Yl.load rfl rfl (by kernel_rfl) (Hp.rowAt mem2 (by omega) rfl) | exact Yl.load rfl rfl (by kernel_rfl) (Hp.rowAt mem3 (by omega) rfl) | exact Yl.load rfl rfl (by kernel_rfl) (Hp.rowAt mem4 (by omega) rfl)
    refine' TL.c rfl rfl rfl ?hy11 ?_
    case hy11 => exact Yc.call rfl Tryd.func25 (by kernel_rfl) rfl rfl (Hp.calls (fun w h => k_next w (h.all _ mem1) (hT.hp hnt w h) 0 (by decide) false))
    intro _
    refine' TL.y rfl rfl rfl ?hy12 ?_
    case hy12 => exact Yl.assign rfl rfl
    refine TL.nil ?_
    refine TE.next ?_
    refine TC.block ?_
    refine TC.loop (σ := Nat × Int) (fun s => [(0, .pointer (some ⟨p, 0, none⟩)), (1, .int .i64 (k : Int)), (6, .int .i64 s.2)]) (fun s => Hp W (poolR p b g n f).foot [blk p (poolO b), mapR b g n f]) (fun s => RunI f n k s.1 s.2) (fun s => if s.2 = -1 then 0 else n - s.1 + 1) ((nextV f n 0 false).toNat, nextV f n 0 false) ?hF13 ?hs13 ?hm13 ?round13
    case hF13 => exact (RunI_next (show 1 ≤ k by omega) 0 (fun j hj => by omega) (fun _ j hj => by omega)).1
    case hs13 => exact ⟨rfl, rfl, rfl, trivial⟩
    case hm13 => exact fun _ h => h
    case round13 =>
      rintro ⟨a, x⟩ hF
      dsimp only at hF ⊢
      refine TC.seq ?_
      refine TC.seq ?_
      refine TC.region ?_
      refine' TL.y rfl rfl rfl ?hy14 ?_
      case hy14 => exact Yl.move rfl rfl
      refine' TL.y rfl rfl rfl ?hy15 ?_
      case hy15 => exact Yl.bin rfl rfl rfl (Bin.geq _ _ _ _)
      refine TL.nil ?_
      refine TE.next ?_
      refine TC.cond rfl (fun hs17 => ?_) (fun hs17 => ?_)
      · skip
        (try simp only [decide_eq_true_eq, decide_eq_false_iff_not, beq_iff_eq, beq_eq_false_iff_ne, bne_iff_ne, ne_eq, bne_eq_false_iff_eq, Bool.not_eq_true', Bool.not_eq_false', Int.not_lt, Int.not_le, gt_iff_lt, ge_iff_le] at hs17)
        obtain ⟨hx1, hx2, hx3, hx4⟩ := hF.resolve_left (fun h => by omega)
        subst hx1
        refine TC.skip ?_
        refine TE.next ?_
        refine TC.block ?_
        refine TC.seq ?_
        refine TC.region ?_
        refine' TL.y rfl rfl rfl ?hy16 ?_
        case hy16 => exact Yl.move rfl rfl
        refine' TL.y rfl rfl rfl ?hy17 ?_
        case hy17 => exact Yl.nilCheck rfl rfl
        refine' TL.y rfl rfl rfl ?hy18 ?_
        case hy18 => first | exact Yl.field0 (k := 0) 0 rfl rfl Tryd.underlying43 rfl (by kernel_rfl) rfl | exact Yl.field (k := 0) 0 rfl rfl Tryd.underlying43 rfl (by kernel_rfl) rfl
        refine' TL.y rfl rfl rfl ?hy19 ?_
        case hy19 => first | exact Yl.load rfl rfl (by kernel_rfl) (Hp.cell mem0 rfl) | exact Yl.load rfl rfl (by kernel_rfl) (Hp.cell mem1 rfl) | exact Yl.load rfl rfl (by kernel_rfl) (Hp.cell mem2 rfl) | exact Yl.load rfl rfl (by kernel_rfl) (Hp.cell mem3 rfl) | exact Yl.load rfl rfl (by kernel_rfl) (Hp.cell mem4 rfl) | exact Yl.load rfl rfl (by kernel_rfl) (Hp.rowAt mem0 (by omega) rfl) | exact Yl.load rfl rfl (by kernel_rfl) (Hp.rowAt mem1 (by omega) rfl) | exact Yl.load rfl rfl (by kernel_rfl) (Hp.rowAt mem2 (by omega) rfl) | exact Yl.load rfl rfl (by kernel_rfl) (Hp.rowAt mem3 (by omega) rfl) | exact Yl.load rfl rfl (by kernel_rfl) (Hp.rowAt mem4 (by omega) rfl)
        refine' TL.y rfl rfl rfl ?hy20 ?_
        case hy20 => exact Yl.move rfl rfl
        refine' TL.c rfl rfl rfl ?hy21 ?_
        case hy21 => exact Yc.call rfl Tryd.func25 (by kernel_rfl) rfl rfl (Hp.calls (fun w h => k_next w (h.all _ mem1) (hT.hp hnt w h) (a : Int) (by omega) true))
        intro _
        refine' TL.y rfl rfl rfl ?hy22 ?_
        case hy22 => exact Yl.assign rfl rfl
        refine TL.nil ?_
        refine TE.next ?_
        refine TC.meet (σ := Nat) (fun tq => [(0, .pointer (some ⟨p, 0, none⟩)), (1, .int .i64 (k : Int)), (6, .int .i64 (a : Int)), (7, .int .i64 (tq : Int))]) (fun tq => Hp W (poolR p b g n f).foot [blk p (poolO b), mapR b g n f]) (fun tq => a < tq ∧ tq ≤ n ∧ (∀ p, a ≤ p → p < tq → f p = false) ∧ (tq < n → f tq = true)) ?hx23 ?hy23
        case hx23 =>
          refine TC.seq ?_
          refine TC.region ?_
          refine' TL.y rfl rfl rfl ?hy24 ?_
          case hy24 => exact Yl.move rfl rfl
          refine' TL.y rfl rfl rfl ?hy25 ?_
          case hy25 => exact Yl.bin rfl rfl rfl (Bin.lss _ _ _ _)
          refine TL.nil ?_
          refine TE.next ?_
          refine TC.cond rfl (fun hs25 => ?_) (fun hs25 => ?_)
          · skip
            (try simp only [decide_eq_true_eq, decide_eq_false_iff_not, beq_iff_eq, beq_eq_false_iff_ne, bne_iff_ne, ne_eq, bne_eq_false_iff_eq, Bool.not_eq_true', Bool.not_eq_false', Int.not_lt, Int.not_le, gt_iff_lt, ge_iff_le] at hs25)
            have hno : ∀ p, a ≤ p → p < n → f p ≠ true := by
              rcases nextV_cases f n (a : Int) true with ⟨_, h2⟩ | ⟨q, h1, _⟩
              · exact fun p h6 h7 => h2 p (by omega) h7
              · omega
            refine TC.region ?_
            refine' TL.y rfl rfl rfl ?hy26 ?_
            case hy26 => exact Yl.move rfl rfl
            refine' TL.y rfl rfl rfl ?hy27 ?_
            case hy27 => exact Yl.nilCheck rfl rfl
            refine' TL.y rfl rfl rfl ?hy28 ?_
            case hy28 => first | exact Yl.field0 (k := 0) 0 rfl rfl Tryd.underlying43 rfl (by kernel_rfl) rfl | exact Yl.field (k := 0) 0 rfl rfl Tryd.underlying43 rfl (by kernel_rfl) rfl
            refine' TL.y rfl rfl rfl ?hy29 ?_
            case hy29 => first | exact Yl.load rfl rfl (by kernel_rfl) (Hp.cell mem0 rfl) | exact Yl.load rfl rfl (by kernel_rfl) (Hp.cell mem1 rfl) | exact Yl.load rfl rfl (by kernel_rfl) (Hp.cell mem2 rfl) | exact Yl.load rfl rfl (by kernel_rfl) (Hp.cell mem3 rfl) | exact Yl.load rfl rfl (by kernel_rfl) (Hp.cell mem4 rfl) | exact Yl.load rfl rfl (by kernel_rfl) (Hp.rowAt mem0 (by omega) rfl) | exact Yl.load rfl rfl (by kernel_rfl) (Hp.rowAt mem1 (by omega) rfl) | exact Yl.load rfl rfl (by kernel_rfl) (Hp.rowAt mem2 (by omega) rfl) | exact Yl.load rfl rfl (by kernel_rfl) (Hp.rowAt mem3 (by omega) rfl) | exact Yl.load rfl rfl (by kernel_rfl) (Hp.rowAt mem4 (by omega) rfl)
            refine' TL.c rfl rfl rfl ?hy30 ?_
            case hy30 => exact Yc.call rfl Tryd.func23 (by kernel_rfl) rfl rfl (Hp.calls (fun w h => k_len w (h.all _ mem1)))
            intro _
            refine' TL.y rfl rfl rfl ?hy31 ?_
            case hy31 => exact Yl.assign rfl rfl
            refine TL.nil ?_
            refine TE.met n ?hF32 ?hs32 ?hm32
            case hF32 => exact ⟨hx2, Nat.le_refl _, fun p h1 h2 => by have := hno p (by omega) h2; cases e : f p; rfl; exact absurd e this, fun h => by omega⟩
            case hs32 => exact ⟨rfl, rfl, rfl, rfl, trivial⟩
            case hm32 => exact fun _ h => h
          · skip
            (try simp only [decide_eq_true_eq, decide_eq_false_iff_not, beq_iff_eq, beq_eq_false_iff_ne, bne_iff_ne, ne_eq, bne_eq_false_iff_eq, Bool.not_eq_true', Bool.not_eq_false', Int.not_lt, Int.not_le, gt_iff_lt, ge_iff_le] at hs25)
            obtain ⟨q, hq1, hq2, hq3, hq4, hq5⟩ : ∃ q : Nat, nextV f n (a : Int) true = q ∧ a ≤ q ∧ q < n ∧ f q = true ∧ ∀ p, a ≤ p → p < q → f p ≠ true := by
              rcases nextV_cases f n (a : Int) true with ⟨h1, _⟩ | ⟨q, h1, h2, h3, h4, h5⟩
              · omega
              · exact ⟨q, h1, by omega, h3, h4, fun p h6 h7 => h5 p (by omega) h7⟩
            rw [hq1]
            have hqa : a < q := by rcases Nat.lt_or_ge a q with h | h; exact h; rw [show q = a by omega, hx3] at hq4; cases hq4
            refine TC.skip ?_
            refine TE.met q ?hF33 ?hs33 ?hm33
            case hF33 => exact ⟨by omega, by omega, fun p h1 h2 => by have := hq5 p (by omega) h2; cases e : f p; rfl; exact absurd e this, fun _ => hq4⟩
            case hs33 => exact ⟨rfl, rfl, rfl, rfl, trivial⟩
            case hm33 => exact fun _ h => h
        case hy23 =>
          rintro tq ⟨ht1, ht2, ht3, ht4⟩
          refine TC.seq ?_
          refine TC.seq ?_
          refine TC.region ?_
          refine' TL.y rfl rfl rfl ?hy34 ?_
          case hy34 => exact Yl.move rfl rfl
          refine' TL.y rfl rfl rfl ?hy35 ?_
          case hy35 => exact Yl.move rfl rfl
          refine' TL.y rfl rfl rfl ?hy36 ?_
          case hy36 => first | (refine Yl.val (Yl.bin rfl rfl rfl (Bin.sub _ _ _ _)) (congrArg (Value.int .i64) (i64in ?_ ?_)) <;> omega) | exact Yl.bin rfl rfl rfl (Bin.sub _ _ _ _)
          refine' TL.y rfl rfl rfl ?hy37 ?_
          case hy37 => exact Yl.move rfl rfl
          refine' TL.y rfl rfl rfl ?hy38 ?_
          case hy38 => exact Yl.bin rfl rfl rfl (Bin.geq _ _ _ _)
          refine TL.nil ?_
          refine TE.next ?_
          refine TC.cond rfl (fun hs35 => ?_) (fun hs35 => ?_)
          · skip
            (try simp only [decide_eq_true_eq, decide_eq_false_iff_not, beq_iff_eq, beq_eq_false_iff_ne, bne_iff_ne, ne_eq, bne_eq_false_iff_eq, Bool.not_eq_true', Bool.not_eq_false', Int.not_lt, Int.not_le, gt_iff_lt, ge_iff_le] at hs35)
            have hE := runA_some (k := (k : Int)) (by omega) (runV_found (f := f) (n := n) (k := k) a (by omega) (fun p h1 h2 => ht3 p h1 (by omega)) hx4)
            refine TC.seq ?_
            refine TC.seq ?_
            refine TC.region ?_
            refine' TL.y rfl rfl rfl ?hy39 ?_
            case hy39 => exact Yl.move rfl rfl
            refine' TL.y rfl rfl rfl ?hy40 ?_
            case hy40 => exact Yl.move rfl rfl
            refine TL.nil ?_
            refine TE.next ?_
            refine TC.block ?_
            refine TC.loop (σ := Nat) (fun i => [(0, .pointer (some ⟨p, 0, none⟩)), (6, .int .i64 (a : Int)), (36, .int .i64 (k : Int)), (37, .int .i64 (i : Int))]) (fun i => Hp W (poolR p b g n f).foot [blk p (poolO b), mapR b g n (fillB f a i)]) (fun i => i ≤ k) (fun i => k - i) 0 ?hF41 ?hs41 ?hm41 ?round41
            case hF41 => exact Nat.zero_le _
            case hs41 => exact ⟨rfl, rfl, rfl, rfl, trivial⟩
            case hm41 => exact fun w h => by rw [fillB_zero]; exact h
            case round41 =>
              intro i hi
              refine TC.seq ?_
              refine TC.region ?_
              refine' TL.y rfl rfl rfl ?hy42 ?_
              case hy42 => exact Yl.bin rfl rfl rfl (Bin.lss _ _ _ _)
              refine TL.nil ?_
              refine TE.next ?_
              refine TC.seq ?_
              refine TC.cond rfl (fun hs38 => ?_) (fun hs38 => ?_)
              · skip
                (try simp only [decide_eq_true_eq, decide_eq_false_iff_not, beq_iff_eq, beq_eq_false_iff_ne, bne_iff_ne, ne_eq, bne_eq_false_iff_eq, Bool.not_eq_true', Bool.not_eq_false', Int.not_lt, Int.not_le, gt_iff_lt, ge_iff_le] at hs38)
                refine TC.skip ?_
                refine TE.next ?_
                refine TC.seq ?_
                refine TC.block ?_
                refine TC.seq ?_
                refine TC.region ?_
                refine' TL.y rfl rfl rfl ?hy43 ?_
                case hy43 => exact Yl.move rfl rfl
                refine' TL.y rfl rfl rfl ?hy44 ?_
                case hy44 => exact Yl.assign rfl rfl
                refine TL.nil ?_
                refine TE.next ?_
                refine TC.region ?_
                refine' TL.y rfl rfl rfl ?hy45 ?_
                case hy45 => exact Yl.move rfl rfl
                refine' TL.y rfl rfl rfl ?hy46 ?_
                case hy46 => exact Yl.nilCheck rfl rfl
                refine' TL.y rfl rfl rfl ?hy47 ?_
                case hy47 => first | exact Yl.field0 (k := 0) 0 rfl rfl Tryd.underlying43 rfl (by kernel_rfl) rfl | exact Yl.field (k := 0) 0 rfl rfl Tryd.underlying43 rfl (by kernel_rfl) rfl
                refine' TL.y rfl rfl rfl ?hy48 ?_
                case hy48 => first | exact Yl.load rfl rfl (by kernel_rfl) (Hp.cell mem0 rfl) | exact Yl.load rfl rfl (by kernel_rfl) (Hp.cell mem1 rfl) | exact Yl.load rfl rfl (by kernel_rfl) (Hp.cell mem2 rfl) | exact Yl.load rfl rfl (by kernel_rfl) (Hp.cell mem3 rfl) | exact Yl.load rfl rfl (by kernel_rfl) (Hp.cell mem4 rfl) | exact Yl.load rfl rfl (by kernel_rfl) (Hp.rowAt mem0 (by omega) rfl) | exact Yl.load rfl rfl (by kernel_rfl) (Hp.rowAt mem1 (by omega) rfl) | exact Yl.load rfl rfl (by kernel_rfl) (Hp.rowAt mem2 (by omega) rfl) | exact Yl.load rfl rfl (by kernel_rfl) (Hp.rowAt mem3 (by omega) rfl) | exact Yl.load rfl rfl (by kernel_rfl) (Hp.rowAt mem4 (by omega) rfl)
                refine' TL.y rfl rfl rfl ?hy49 ?_
                case hy49 => exact Yl.move rfl rfl
                refine' TL.y rfl rfl rfl ?hy50 ?_
                case hy50 => exact Yl.move rfl rfl
                refine' TL.y rfl rfl rfl ?hy51 ?_
                case hy51 => exact Yl.val (Yl.bin rfl rfl rfl (Bin.add _ _ _ _)) (congrArg (Value.int .i64) (show IntKind.i64.wrap ((a : Int) + (i : Int)) = ((a + i : Nat) : Int) from by rw [i64in (by omega) (by omega)]; omega))
                refine' TL.c rfl rfl rfl ?hy52 ?_
                case hy52 => exact Yc.call rfl Tryd.func26 (by kernel_rfl) rfl rfl (Hp.turn1 mem1 foc1 (k_set ((a + i : Nat) : Int) true))
                intro _
                rw [(set_in (f := fillB f a i) (n := n) (on := true) (show a + i < n by omega) (by unfold fillB; rw [if_neg (by omega), ht3 (a + i) (by omega) (by omega)]; decide)).2, fillB_succ]
                refine TL.nil ?_
                refine TE.inNormal ?_
                refine TE.next ?_
                refine TC.region ?_
                refine' TL.y rfl rfl rfl ?hy53 ?_
                case hy53 => first | (refine Yl.val (Yl.bin rfl rfl rfl (Bin.add _ _ _ _)) (congrArg (Value.int .i64) (i64in ?_ ?_)) <;> omega) | exact Yl.bin rfl rfl rfl (Bin.add _ _ _ _)
                refine' TL.y rfl rfl rfl ?hy54 ?_
                case hy54 => exact Yl.move rfl rfl
                refine TL.nil ?_
                refine TE.round (i + 1) ?hF55 ?hlt55 ?hs55 ?hm55
                case hF55 => omega
                case hlt55 => omega
                case hs55 => exact ⟨rfl, rfl, rfl, rfl, trivial⟩
                case hm55 => exact fun _ h => h
              · skip
                (try simp only [decide_eq_true_eq, decide_eq_false_iff_not, beq_iff_eq, beq_eq_false_iff_ne, bne_iff_ne, ne_eq, bne_eq_false_iff_eq, Bool.not_eq_true', Bool.not_eq_false', Int.not_lt, Int.not_le, gt_iff_lt, ge_iff_le] at hs38)
                refine TC.exit ?_
                refine TE.thenExit ?_
                refine TE.thenExit ?_
                refine TE.inHere ?_
                refine TE.next ?_
                refine TC.seq ?_
                refine TC.region ?_
                refine' TL.y rfl rfl rfl ?hy56 ?_
                case hy56 => exact Yl.move rfl rfl
                refine' TL.y rfl rfl rfl ?hy57 ?_
                case hy57 => exact Yl.assign rfl rfl
                refine' TL.y rfl rfl rfl ?hy58 ?_
                case hy58 => exact Yl.assign rfl rfl
                refine TL.nil ?_
                refine TE.next ?_
                refine TC.ret ?_
                refine TE.thenRet ?_
                refine TE.inRet ?_
                refine TE.thenRet ?_
                refine TE.inRet ?_
                refine TE.thenRet ?_
                refine TE.ret2 rfl rfl rfl ?_
                obtain rfl : i = k := by omega
                exact fun w h => ⟨(), by rw [hE.1], by rw [hE.2]; exact (poolR_shut h).leave⟩
          · skip
            (try simp only [decide_eq_true_eq, decide_eq_false_iff_not, beq_iff_eq, beq_eq_false_iff_ne, bne_iff_ne, ne_eq, bne_eq_false_iff_eq, Bool.not_eq_true', Bool.not_eq_false', Int.not_lt, Int.not_le, gt_iff_lt, ge_iff_le] at hs35)
            have hBy : ∀ j, j < tq → j + k ≤ n → ¬ ∀ p, j ≤ p → p < j + k → f p = false := fun j hj hjn e => by
              by_cases h : j < a
              · exact hx4 j h e
              · have h5 := e tq (by omega) (by omega)
                rw [ht4 (by omega)] at h5; cases h5
            have hN := RunI_next (show 1 ≤ k by omega) tq hBy (fun hl j hj e => by
              by_cases h9 : j < a
              · exact hx4 j h9 e
              · by_cases h8 : j + k ≤ n
                · exact hBy j hj h8 e
                · have h6 := e tq (by omega) (by omega)
                  rw [ht4 hl] at h6; cases h6)
            refine TC.skip ?_
            refine TE.next ?_
            refine TC.seq ?_
            refine TC.region ?_
            refine' TL.y rfl rfl rfl ?hy59 ?_
            case hy59 => exact Yl.move rfl rfl
            refine' TL.y rfl rfl rfl ?hy60 ?_
            case hy60 => exact Yl.nilCheck rfl rfl
            refine' TL.y rfl rfl rfl ?hy61 ?_
            case hy61 => first | exact Yl.field0 (k := 0) 0 rfl rfl Tryd.underlying43 rfl (by kernel_rfl) rfl | exact Yl.field (k := 0) 0 rfl rfl Tryd.underlying43 rfl (by kernel_rfl) rfl
            refine' TL.y rfl rfl rfl ?hy62 ?_
            case hy62 => first | exact Yl.load rfl rfl (by kernel_rfl) (Hp.cell mem0 rfl) | exact Yl.load rfl rfl (by kernel_rfl) (Hp.cell mem1 rfl) | exact Yl.load rfl rfl (by kernel_rfl) (Hp.cell mem2 rfl) | exact Yl.load rfl rfl (by kernel_rfl) (Hp.cell mem3 rfl) | exact Yl.load rfl rfl (by kernel_rfl) (Hp.cell mem4 rfl) | exact Yl.load rfl rfl (by kernel_rfl) (Hp.rowAt mem0 (by omega) rfl) | exact Yl.load rfl rfl (by kernel_rfl) (Hp.rowAt mem1 (by omega) rfl) | exact Yl.load rfl rfl (by kernel_rfl) (Hp.rowAt mem2 (by omega) rfl) | exact Yl.load rfl rfl (by kernel_rfl) (Hp.rowAt mem3 (by omega) rfl) | exact Yl.load rfl rfl (by kernel_rfl) (Hp.rowAt mem4 (by omega) rfl)
            refine' TL.y rfl rfl rfl ?hy63 ?_
            case hy63 => exact Yl.move rfl rfl
            refine' TL.c rfl rfl rfl ?hy64 ?_
            case hy64 => exact Yc.call rfl Tryd.func25 (by kernel_rfl) rfl rfl (Hp.calls (fun w h => k_next w (h.all _ mem1) (hT.hp hnt w h) (tq : Int) (by omega) false))
            intro _
            refine' TL.y rfl rfl rfl ?hy65 ?_
            case hy65 => exact Yl.assign rfl rfl
            refine TL.nil ?_
            refine TE.next ?_
            refine TC.seq ?_
            refine TC.region ?_
            refine' TL.y rfl rfl rfl ?hy66 ?_
            case hy66 => exact Yl.move rfl rfl
            refine' TL.y rfl rfl rfl ?hy67 ?_
            case hy67 => exact Yl.move rfl rfl
            refine' TL.y rfl rfl rfl ?hy68 ?_
            case hy68 => exact Yl.nilCheck rfl rfl
            refine' TL.y rfl rfl rfl ?hy69 ?_
            case hy69 => first | exact Yl.field0 (k := 0) 0 rfl rfl Tryd.underlying43 rfl (by kernel_rfl) rfl | exact Yl.field (k := 0) 0 rfl rfl Tryd.underlying43 rfl (by kernel_rfl) rfl
            refine' TL.y rfl rfl rfl ?hy70 ?_
            case hy70 => first | exact Yl.load rfl rfl (by kernel_rfl) (Hp.cell mem0 rfl) | exact Yl.load rfl rfl (by kernel_rfl) (Hp.cell mem1 rfl) | exact Yl.load rfl rfl (by kernel_rfl) (Hp.cell mem2 rfl) | exact Yl.load rfl rfl (by kernel_rfl) (Hp.cell mem3 rfl) | exact Yl.load rfl rfl (by kernel_rfl) (Hp.cell mem4 rfl) | exact Yl.load rfl rfl (by kernel_rfl) (Hp.rowAt mem0 (by omega) rfl) | exact Yl.load rfl rfl (by kernel_rfl) (Hp.rowAt mem1 (by omega) rfl) | exact Yl.load rfl rfl (by kernel_rfl) (Hp.rowAt mem2 (by omega) rfl) | exact Yl.load rfl rfl (by kernel_rfl) (Hp.rowAt mem3 (by omega) rfl) | exact Yl.load rfl rfl (by kernel_rfl) (Hp.rowAt mem4 (by omega) rfl)
            refine' TL.c rfl rfl rfl ?hy71 ?_
            case hy71 => exact Yc.call rfl Tryd.func23 (by kernel_rfl) rfl rfl (Hp.calls (fun w h => k_len w (h.all _ mem1)))
            intro _
            refine' TL.y rfl rfl rfl ?hy72 ?_
            case hy72 => exact Yl.bin rfl rfl rfl (Bin.eql _ _ _ _)
            refine TL.nil ?_
            refine TE.next ?_
            refine TC.cond rfl (fun hs62 => ?_) (fun hs62 => ?_)
            · skip
              (try simp only [decide_eq_true_eq, decide_eq_false_iff_not, beq_iff_eq, beq_eq_false_iff_ne, bne_iff_ne, ne_eq, bne_eq_false_iff_eq, Bool.not_eq_true', Bool.not_eq_false', Int.not_lt, Int.not_le, gt_iff_lt, ge_iff_le] at hs62)
              have hOut : ∀ j, j + k ≤ n → ¬ ∀ p, j ≤ p → p < j + k → f p = false := fun j hj e => hBy j (by omega) hj e
              refine TC.exit ?_
              refine TE.inOut (by rfl) ?_
              refine TE.thenExit ?_
              refine TE.inHere ?_
              refine TE.next ?_
              refine TC.seq ?_
              refine TC.region ?_
              refine' TL.y rfl rfl rfl ?hy73 ?_
              case hy73 => exact Yl.assign rfl rfl
              refine' TL.y rfl rfl rfl ?hy74 ?_
              case hy74 => exact Yl.assign rfl rfl
              refine TL.nil ?_
              refine TE.next ?_
              refine TC.ret ?_
              refine TE.ret2 rfl rfl rfl ?_
              have hE := runA_none (k := (k : Int)) (by omega) (runV_none (f := f) (n := n) (k := k) hOut)
              exact fun w h => ⟨(), by rw [hE.1], by rw [hE.2]; exact (poolR_shut h).leave⟩
            · skip
              (try simp only [decide_eq_true_eq, decide_eq_false_iff_not, beq_iff_eq, beq_eq_false_iff_ne, bne_iff_ne, ne_eq, bne_eq_false_iff_eq, Bool.not_eq_true', Bool.not_eq_false', Int.not_lt, Int.not_le, gt_iff_lt, ge_iff_le] at hs62)
              refine TC.skip ?_
              refine TE.inNormal ?_
              refine TE.round ((nextV f n (tq : Int) false).toNat, nextV f n (tq : Int) false) ?hF75 ?hlt75 ?hs75 ?hm75
              case hF75 => exact hN.1
              case hlt75 => dsimp only; rw [if_neg (show ¬ (a : Int) = -1 by omega)]; have := hN.2; split <;> omega
              case hs75 => exact ⟨rfl, rfl, rfl, trivial⟩
              case hm75 => exact fun _ h => h
      · skip
        (try simp only [decide_eq_true_eq, decide_eq_false_iff_not, beq_iff_eq, beq_eq_false_iff_ne, bne_iff_ne, ne_eq, bne_eq_false_iff_eq, Bool.not_eq_true', Bool.not_eq_false', Int.not_lt, Int.not_le, gt_iff_lt, ge_iff_le] at hs17)
        have hOut := (hF.resolve_right (fun h => by omega)).2
        refine TC.exit ?_
        refine TE.thenExit ?_
        refine TE.thenExit ?_
        refine TE.inHere ?_
        refine TE.next ?_
        refine TC.seq ?_
        refine TC.region ?_
        refine' TL.y rfl rfl rfl ?hy76 ?_
        case hy76 => exact Yl.assign rfl rfl
        refine' TL.y rfl rfl rfl ?hy77 ?_
        case hy77 => exact Yl.assign rfl rfl
        refine TL.nil ?_
        refine TE.next ?_
        refine TC.ret ?_
        refine TE.ret2 rfl rfl rfl ?_
        have hE := runA_none (k := (k : Int)) (by omega) (runV_none (f := f) (n := n) (k := k) hOut)
        exact fun w h => ⟨(), by rw [hE.1], by rw [hE.2]; exact (poolR_shut h).leave⟩
end Go.Proofs.YtafcmeoidcgmdaaDoor.Pk
