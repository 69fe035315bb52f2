/- In plain lists: RegionPieces, for every list and number. -/
import Derived.Test.YtpgfhgonkinldaaAx17
import Derived.Test.YtpgfhgonkinldaaLib
namespace Go.Proofs.Ytpgfhgonkinldaa.Pure
open Go.RowKit Go.Proofs.Ytpgfhgonkinldaa.A Go.Proofs.YtpgfhgonkinldaaW.PrintWords Go.Proofs.YtpgfhgonkinldaaW.PrintLast Go.Proofs.YtpgfhgonkinldaaW.PrintMore
set_option linter.unusedVariables false
set_option linter.unusedSimpArgs false
theorem pieces_l (a : List S25) (hr : rightB a = true) (hl : a.length ≤ 400) (d : Nat) : ∀ (k : Nat) (i : Int), 0 ≤ i → i ≤ a.length → (a.length : Int) - i = d → d < k → millpondlaw07_RegionPieces.l0 k true a a i = some true := by
  induction d with
  | zero =>
    intro k i h0 h1 hd hk
    obtain ⟨k, rfl⟩ : ∃ m, k = m + 1 := ⟨k - 1, by omega⟩
    simp only [millpondlaw07_RegionPieces.l0]
    rw [if_neg (by omega)]
  | succ d ih =>
    intro k i h0 h1 hd hk
    obtain ⟨k, rfl⟩ : ∃ m, k = m + 1 := ⟨k - 1, by omega⟩
    have hw : wrap64 (i + 1) = i + 1 := by unfold wrap64; omega
    have hm := rd_mem a i h0 (by omega)
    have hg := (right_mem hr _ hm).1
    have hb := hg.b
    have hf : a.find? (inB (rd_T25 a i).f0) = some (rd_T25 a i) := find_own hr _ hm (by rw [inB_iff]; omega)
    have e2 : region_Find.f a (rd_T25 a i).f0 = some (tell (some (rd_T25 a i))) := by unfold region_Find.f; rw [if_pos (by omega), find7_is, hr, if_pos rfl, hf]
    simp only [millpondlaw07_RegionPieces.l0]
    rw [if_pos (by omega), if_pos h0, e2, Option.bind_some, hw]
    simp only [tell, if_true]
    have e3 := ih k (i + 1) (by omega) (by omega) (by omega) (by omega)
    unfold region_Key.f
    split
    · rw [Option.bind_some, Option.bind_some, e3]; simp
    · rw [Option.bind_some, Option.bind_some, e3]; simp
theorem RegionPieces (l : List S25) (p m q : Int) (hl : l.length ≤ 9223372036854775807) : millpondlaw07_RegionPieces.f (l.length + 1000) l p m q = some true := by
  unfold millpondlaw07_RegionPieces.f
  rw [works_is _ (by omega), Option.bind_some, if_pos rfl, rright_is l hl _ (by omega), Option.bind_some]
  by_cases hb : (l.length : Int) > 80
  · rw [if_pos hb]
  · rw [if_neg hb]
    cases hr : rightB l
    · rfl
    · rw [if_pos rfl]
      by_cases h1 : p > m
      · rw [if_pos h1]
      · rw [if_neg h1]
        by_cases h2 : m > q
        · rw [if_pos h2]
        · rw [if_neg h2]
          have ec : ∀ (l : List S25) (p q : Int), l.length ≤ 1000 → rightB l = true → region_Cut.f l p q = some (cutS l p q) := by
            intro l p q hl hr; unfold region_Cut.f; rw [if_pos (by omega), hr]; rfl
          have l1 := cut_len l p q
          have l2 := cut_len l p m
          have r1 : rightB (cutS l p q) = true := cut_right hr p q
          have r2 : rightB (cutS l p m) = true := cut_right hr p m
          rw [ec l p q (by omega) hr, Option.bind_some, ec l p m (by omega) hr, Option.bind_some, ec _ m q (by omega) r2, Option.bind_some, ec _ p q (by omega) r1, Option.bind_some, cut_cut (by omega) (by omega) hr, cut_idem hr,
            (pages_is (cutS l p q) (by omega) (l.length + 1000) (by omega)).1, Option.bind_some, same_self (cutS l p q) (by omega) (l.length + 1000) (by omega), Option.bind_some, Option.bind_some, if_pos rfl, if_pos rfl, pieces_l (cutS l p q) r1 (by omega) (cutS l p q).length (l.length + 1000) 0 (by omega) (by omega) (by omega) (by omega)]
end Go.Proofs.Ytpgfhgonkinldaa.Pure
