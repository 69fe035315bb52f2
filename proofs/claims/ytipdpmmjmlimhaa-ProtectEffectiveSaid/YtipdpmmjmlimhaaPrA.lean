/- The way up; who may be; who is below. -/
import Derived.Test.YtipdpmmjmlimhaaHR
import Derived.Test.YtipdpmmjmlimhaaPrP
import Derived.Test.YtipdpmmjmlimhaaDiv
import Derived.Test.YtipdpmmjmlimhaaProg
import Derived.RowKit3
namespace Go.Proofs.Ytipdpmmjmlimhaa.Pk
open Go Go.RowKit Go.Proofs.Ytipdpmmjmlimhaa.HL Go.Proofs.Ytipdpmmjmlimhaa.Ev Go.Proofs.YtipdpmmjmlimhaaW.PrintWords Go.Proofs.PrP Go.Proofs.DvP
set_option linter.unusedVariables false
set_option linter.unusedSimpArgs false
def Nw (m : Nat) (f : Nat → Nd) : List Value := (List.range m).flatMap fun j => [.int .i64 (f j).1, .int .i64 (f j).2.1, .int .i64 (f j).2.2]
def fld (x : Nd) : Nat → Int
  | 0 => x.1
  | 1 => x.2.1
  | _ => x.2.2
theorem Nw_succ (m : Nat) (f : Nat → Nd) : Nw (m + 1) f = Nw m f ++ [.int .i64 (f m).1, .int .i64 (f m).2.1, .int .i64 (f m).2.2] := by simp [Nw, List.range_succ]
theorem Nw_length (f : Nat → Nd) : ∀ m, (Nw m f).length = m * 3
  | 0 => rfl
  | m + 1 => by rw [Nw_succ, List.length_append, Nw_length f m]; simp; omega
theorem Nw_get (f : Nat → Nd) : ∀ (m j i : Nat), j < m → i < 3 → (Nw m f)[j * 3 + i]? = some (.int .i64 (fld (f j) i))
  | 0, j, i, h, _ => by omega
  | m + 1, j, i, h, hi => by
    rw [Nw_succ]
    by_cases h1 : j < m
    · rw [List.getElem?_append_left (by rw [Nw_length]; omega)]; exact Nw_get f m j i h1 hi
    · obtain rfl : j = m := by omega
      rw [List.getElem?_append_right (by rw [Nw_length]; omega), Nw_length, show j * 3 + i - j * 3 = i by omega]
      rcases (by omega : i = 0 ∨ i = 1 ∨ i = 2) with rfl | rfl | rfl <;> rfl
theorem Sl.nw {W0 : World} {H : List Res} {b c j q i m : Nat} {f : Nat → Nd} (hs : Sl W0 (.some ⟨b, c, none⟩) (Nw m f)) (hq : c + j * 3 + i = q) (hj : j < m) (hi : i < 3) : ∀ w, Hp W0 (fun _ => False) H w → w.cell? ⟨b, q, none⟩ = .some (.int .i64 (fld (f j) i)) := Sl.cellAt hs (Nw_get f m j i hj hi) (fun _ h => h) (by omega)
theorem Sl.nws {W0 : World} {H : List Res} {b c j m : Nat} {f : Nat → Nd} (hs : Sl W0 (.some ⟨b, c, none⟩) (Nw m f)) (hj : j < m) : ∀ w, Hp W0 (fun _ => False) H w → ∀ i v, [Value.int .i64 (f j).1, .int .i64 (f j).2.1, .int .i64 (f j).2.2][i]? = some v → w.cell? ((⟨b, c + j * 3, none⟩ : Addr).add i) = .some v := fun w h i v hi => by
  have hi3 : i < 3 := by
    rcases Nat.lt_or_ge i 3 with h | h
    · exact h
    · rw [List.getElem?_eq_none (by simpa using h)] at hi; cases hi
  rw [Addr.at_]
  have h1 := Sl.nw (H := H) hs (i := i) rfl hj hi3 w h
  rw [h1, ← hi]
  rcases (by omega : i = 0 ∨ i = 1 ∨ i = 2) with rfl | rfl | rfl <;> rfl
/-- What the way up keeps: where it is, the target, the groups. -/
def upR (pg pt pl : Nat) (x t : Int) (A : Option Addr) (m cp : Nat) : Res := star (star (blk pg (.cells #[.int .i64 x] 3 (0, 0))) (blk pt (.cells #[.int .i64 t] 3 (0, 0)))) (blk pl (.cells #[.slice A m cp] 22 (0, 0)))
section
variable {P : Program} {n : Nat} {L : FL} {o : Oper} {W0 w : World} {T : Nat → Prop} {H : List Res} {pg pt pl : Nat} {x t : Int} {A : Option Addr} {m cp : Nat}
theorem up1 : ∀ w, Hp W0 T (upR pg pt pl x t A m cp :: H) w → w.cell? ⟨pg, 0, none⟩ = some (.int .i64 x) := fun w h => by
  rw [blk_cell (show w.heap[pg]? = some (.cells #[.int .i64 x] 3 (0, 0)) from (h.all _ mem0).1.1)]; rfl
theorem up2 : ∀ w, Hp W0 T (upR pg pt pl x t A m cp :: H) w → w.cell? ⟨pt, 0, none⟩ = some (.int .i64 t) := fun w h => by
  rw [blk_cell (show w.heap[pt]? = some (.cells #[.int .i64 t] 3 (0, 0)) from (h.all _ mem0).1.2.1)]; rfl
theorem up3 : ∀ w, Hp W0 T (upR pg pt pl x t A m cp :: H) w → w.cell? ⟨pl, 0, none⟩ = some (.slice A m cp) := fun w h => by
  rw [blk_cell (show w.heap[pl]? = some (.cells #[.slice A m cp] 22 (0, 0)) from (h.all _ mem0).2.1)]; rfl
theorem upS {y : Int} {ty : TypeId} {p z : Operand} (ho : o.op = .store ty p z) (hp : evO L p = some (.pointer (some ⟨pg, 0, none⟩))) (hz : evO L z = some (.int .i64 y)) (ht : (P.info? ty).map (·.size) = some 1) : Ys P o n L (Hp W0 T (upR pg pt pl x t A m cp :: H)) (Hp W0 T (upR pg pt pl y t A m cp :: H)) := fun a w hf hm => by
  obtain ⟨w', h1, h2⟩ := Ys.store (P := P) (n := n) (seg := [.int .i64 y]) (W0 := W0) (T := T) (H := blk pg (.cells #[.int .i64 x] 3 (0, 0)) :: blk pt (.cells #[.int .i64 t] 3 (0, 0)) :: blk pl (.cells #[.slice A m cp] 22 (0, 0)) :: H) ho hp hz (by simp [Value.cells]) ht (by simp [Value.oneCell']) foc0 (by simp) rfl a w hf hm.unstar.unstar
  exact ⟨w', h1, h2.tostar.tostar⟩
end
attribute [local irreducible] upR nU Nw
set_option maxRecDepth 100000 in
set_option maxHeartbeats 2000000 in
theorem it_up {W0 : World} {m : Nat} {f : Nat → Nd} {A : Option Addr} {cp pg pt pl : Nat} {g t : Int} (hS : Sl W0 A (Nw m f)) (hv : Vld m f) (hg0 : 0 ≤ g) (hg1 : g < m) (ht : 0 ≤ t) : IterH Try.prog 33 #[.pointer (some ⟨pg, 0, none⟩), .pointer (some ⟨pt, 0, none⟩), .pointer (some ⟨pl, 0, none⟩)] (nU f t (m + 1) g) (fun i => [.int .i64 (sq f g i)]) (fun i => upR pg pt pl (sq f g i) t A m cp) W0 (fun _ => False) := by
  obtain ⟨b, o, rfl⟩ := Sl.some2 hS (by rw [Nw_length]; omega)
  have hm64 := hv.m1
  intro l H X hY W hW
  rw [show (#[.func (.yield l) #[] #[]] ++ #[.pointer (some ⟨pg, 0, none⟩), .pointer (some ⟨pt, 0, none⟩), .pointer (some ⟨pl, 0, none⟩)] : Array Value) = [.func (.yield l) #[] #[], .pointer (some ⟨pg, 0, none⟩), .pointer (some ⟨pt, 0, none⟩), .pointer (some ⟨pl, 0, none⟩)].toArray by simp]
  refine RC.enter (n := 21) Try.func33 rfl rfl rfl hW ?_
  refine RC.block ?_
  refine RC.loop (σ := Nat × Nat) (fun s => [(0, .func (.yield l) #[] #[]), (1, .pointer (some ⟨pg, 0, none⟩)), (2, .pointer (some ⟨pt, 0, none⟩)), (3, .pointer (some ⟨pl, 0, none⟩))]) (fun s => Hp W0 (fun _ => False) (upR pg pt pl (sq f g s.1) t (some ⟨b, o, none⟩) m cp :: H s.1)) (fun s => WayUp m f t g s.1 s.2) (fun s => s.2) (0, m + 1) ?hF1 ?hs1 ?hm1 ?round1
  case hF1 => exact WayUp.start hg0 hg1
  case hs1 => exact ⟨rfl, rfl, rfl, rfl, trivial⟩
  case hm1 => exact fun _ h => h
  case round1 =>
    rintro ⟨i, k⟩ hw
    dsimp only at hw ⊢
    have hwl := hw.lo
    have hwh := hw.hi
    refine RC.seq ?_
    refine RC.seq ?_
    refine RC.region ?_
    refine' RL.y rfl rfl rfl ?hy2 ?_
    case hy2 => first | exact Yl.load rfl rfl (by kernel_rfl) (up1) | exact Yl.load rfl rfl (by kernel_rfl) (up2) | exact Yl.load rfl rfl (by kernel_rfl) (up3) | exact Yl.load rfl rfl (by kernel_rfl) (Sl.nw hS (i := 0) rfl (by omega) (by decide)) | exact Yl.load rfl rfl (by kernel_rfl) (Sl.nw hS (i := 1) rfl (by omega) (by decide)) | exact Yl.load rfl rfl (by kernel_rfl) (Sl.nw hS (i := 2) rfl (by omega) (by decide)) | exact Yl.load rfl rfl (by kernel_rfl) (Hp.cell mem0 rfl) | exact Yl.load rfl rfl (by kernel_rfl) (Hp.cell mem1 rfl) | exact Yl.load rfl rfl (by kernel_rfl) (Hp.cell mem2 rfl) | exact Yl.load rfl rfl (by kernel_rfl) (Hp.cell mem3 rfl) | exact Yl.load rfl rfl (by kernel_rfl) (Hp.cell mem4 rfl) | exact Yl.load rfl rfl (by kernel_rfl) (Hp.rowAt mem0 (by omega) rfl) | exact Yl.load rfl rfl (by kernel_rfl) (Hp.rowAt mem1 (by omega) rfl) | exact Yl.load rfl rfl (by kernel_rfl) (Hp.rowAt mem2 (by omega) rfl) | exact Yl.load rfl rfl (by kernel_rfl) (Hp.rowAt mem3 (by omega) rfl) | exact Yl.load rfl rfl (by kernel_rfl) (Hp.rowAt mem4 (by omega) rfl)
    refine' RL.y rfl rfl rfl ?hy3 ?_
    case hy3 => first | exact Yl.load rfl rfl (by kernel_rfl) (up1) | exact Yl.load rfl rfl (by kernel_rfl) (up2) | exact Yl.load rfl rfl (by kernel_rfl) (up3) | exact Yl.load rfl rfl (by kernel_rfl) (Sl.nw hS (i := 0) rfl (by omega) (by decide)) | exact Yl.load rfl rfl (by kernel_rfl) (Sl.nw hS (i := 1) rfl (by omega) (by decide)) | exact Yl.load rfl rfl (by kernel_rfl) (Sl.nw hS (i := 2) rfl (by omega) (by decide)) | exact Yl.load rfl rfl (by kernel_rfl) (Hp.cell mem0 rfl) | exact Yl.load rfl rfl (by kernel_rfl) (Hp.cell mem1 rfl) | exact Yl.load rfl rfl (by kernel_rfl) (Hp.cell mem2 rfl) | exact Yl.load rfl rfl (by kernel_rfl) (Hp.cell mem3 rfl) | exact Yl.load rfl rfl (by kernel_rfl) (Hp.cell mem4 rfl) | exact Yl.load rfl rfl (by kernel_rfl) (Hp.rowAt mem0 (by omega) rfl) | exact Yl.load rfl rfl (by kernel_rfl) (Hp.rowAt mem1 (by omega) rfl) | exact Yl.load rfl rfl (by kernel_rfl) (Hp.rowAt mem2 (by omega) rfl) | exact Yl.load rfl rfl (by kernel_rfl) (Hp.rowAt mem3 (by omega) rfl) | exact Yl.load rfl rfl (by kernel_rfl) (Hp.rowAt mem4 (by omega) rfl)
    refine' RL.y rfl rfl rfl ?hy4 ?_
    case hy4 => exact Yl.bin rfl rfl rfl (Bin.neq _ _ _ _)
    refine RL.nil ?_
    refine RE.next ?_
    refine RC.cond rfl (fun hs7 => ?_) (fun hs7 => ?_)
    · skip
      (try simp only [decide_eq_true_eq, decide_eq_false_iff_not, beq_iff_eq, beq_eq_false_iff_ne, bne_iff_ne, ne_eq, bne_eq_false_iff_eq, Bool.not_eq_true', Bool.not_eq_false', Int.not_lt, Int.not_le, gt_iff_lt, ge_iff_le] at hs7)
      have hne : sq f g i ≠ t := by omega
      have hin : i < nU f t (m + 1) g := by
        by_cases e : sq f g i < 0
        · have := hw.last hne e; omega
        · exact (hw.next hv hne (by omega)).2.1
      refine RC.skip ?_
      refine RE.next ?_
      refine RC.seq ?_
      refine RC.block ?_
      refine RC.seq ?_
      refine RC.region ?_
      refine' RL.y rfl rfl rfl ?hy5 ?_
      case hy5 => exact Yl.move rfl rfl
      refine' RL.y rfl rfl rfl ?hy6 ?_
      case hy6 => first | exact Yl.load rfl rfl (by kernel_rfl) (up1) | exact Yl.load rfl rfl (by kernel_rfl) (up2) | exact Yl.load rfl rfl (by kernel_rfl) (up3) | exact Yl.load rfl rfl (by kernel_rfl) (Sl.nw hS (i := 0) rfl (by omega) (by decide)) | exact Yl.load rfl rfl (by kernel_rfl) (Sl.nw hS (i := 1) rfl (by omega) (by decide)) | exact Yl.load rfl rfl (by kernel_rfl) (Sl.nw hS (i := 2) rfl (by omega) (by decide)) | exact Yl.load rfl rfl (by kernel_rfl) (Hp.cell mem0 rfl) | exact Yl.load rfl rfl (by kernel_rfl) (Hp.cell mem1 rfl) | exact Yl.load rfl rfl (by kernel_rfl) (Hp.cell mem2 rfl) | exact Yl.load rfl rfl (by kernel_rfl) (Hp.cell mem3 rfl) | exact Yl.load rfl rfl (by kernel_rfl) (Hp.cell mem4 rfl) | exact Yl.load rfl rfl (by kernel_rfl) (Hp.rowAt mem0 (by omega) rfl) | exact Yl.load rfl rfl (by kernel_rfl) (Hp.rowAt mem1 (by omega) rfl) | exact Yl.load rfl rfl (by kernel_rfl) (Hp.rowAt mem2 (by omega) rfl) | exact Yl.load rfl rfl (by kernel_rfl) (Hp.rowAt mem3 (by omega) rfl) | exact Yl.load rfl rfl (by kernel_rfl) (Hp.rowAt mem4 (by omega) rfl)
      refine RL.yield rfl rfl rfl rfl rfl rfl (hY i hin) ?_
      intro b
      rcases b with _ | _
      · skip
        simp only [Bool.false_eq_true, if_false]
        refine' RL.y rfl rfl rfl ?hy7 ?_
        case hy7 => exact Yl.not rfl rfl
        refine' RL.y rfl rfl rfl ?hy8 ?_
        case hy8 => exact Yl.move rfl rfl
        refine RL.skip rfl rfl rfl ?_
        refine RL.skip rfl rfl rfl ?_
        refine' RL.y rfl rfl rfl ?hy9 ?_
        case hy9 => exact Yl.pickT rfl rfl rfl
        refine RL.nil ?_
        refine RE.next ?_
        refine RC.yes rfl rfl ?_
        refine RC.ret ?_
        refine RE.inRet ?_
        refine RE.thenRet ?_
        refine RE.thenRet ?_
        refine RE.inRet ?_
        refine RE.ret0 rfl ?_
        exact fun w h => ⟨⟨_, rfl⟩, .inr h⟩
      · skip
        simp only [if_true]
        refine' RL.y rfl rfl rfl ?hy10 ?_
        case hy10 => exact Yl.not rfl rfl
        refine' RL.y rfl rfl rfl ?hy11 ?_
        case hy11 => exact Yl.move rfl rfl
        refine' RL.y rfl rfl rfl ?hy12 ?_
        case hy12 => first | exact Yl.load rfl rfl (by kernel_rfl) (up1) | exact Yl.load rfl rfl (by kernel_rfl) (up2) | exact Yl.load rfl rfl (by kernel_rfl) (up3) | exact Yl.load rfl rfl (by kernel_rfl) (Sl.nw hS (i := 0) rfl (by omega) (by decide)) | exact Yl.load rfl rfl (by kernel_rfl) (Sl.nw hS (i := 1) rfl (by omega) (by decide)) | exact Yl.load rfl rfl (by kernel_rfl) (Sl.nw hS (i := 2) rfl (by omega) (by decide)) | exact Yl.load rfl rfl (by kernel_rfl) (Hp.cell mem0 rfl) | exact Yl.load rfl rfl (by kernel_rfl) (Hp.cell mem1 rfl) | exact Yl.load rfl rfl (by kernel_rfl) (Hp.cell mem2 rfl) | exact Yl.load rfl rfl (by kernel_rfl) (Hp.cell mem3 rfl) | exact Yl.load rfl rfl (by kernel_rfl) (Hp.cell mem4 rfl) | exact Yl.load rfl rfl (by kernel_rfl) (Hp.rowAt mem0 (by omega) rfl) | exact Yl.load rfl rfl (by kernel_rfl) (Hp.rowAt mem1 (by omega) rfl) | exact Yl.load rfl rfl (by kernel_rfl) (Hp.rowAt mem2 (by omega) rfl) | exact Yl.load rfl rfl (by kernel_rfl) (Hp.rowAt mem3 (by omega) rfl) | exact Yl.load rfl rfl (by kernel_rfl) (Hp.rowAt mem4 (by omega) rfl)
        refine' RL.y rfl rfl rfl ?hy13 ?_
        case hy13 => exact Yl.bin rfl rfl rfl (Bin.lss _ _ _ _)
        refine' RL.y rfl rfl rfl ?hy14 ?_
        case hy14 => exact Yl.pickF rfl rfl rfl
        refine RL.nil ?_
        refine RE.next ?_
        refine RC.cond rfl (fun hs20 => ?_) (fun hs20 => ?_)
        · skip
          (try simp only [decide_eq_true_eq, decide_eq_false_iff_not, beq_iff_eq, beq_eq_false_iff_ne, bne_iff_ne, ne_eq, bne_eq_false_iff_eq, Bool.not_eq_true', Bool.not_eq_false', Int.not_lt, Int.not_le, gt_iff_lt, ge_iff_le] at hs20)
          have hlast := hw.last hne (by omega)
          refine RC.ret ?_
          refine RE.inRet ?_
          refine RE.thenRet ?_
          refine RE.thenRet ?_
          refine RE.inRet ?_
          refine RE.ret0 rfl ?_
          have hsame : sq f g (i + 1) = sq f g i := sq_same (by omega)
          exact fun w h => ⟨⟨_, rfl⟩, .inl (by rw [hlast, hsame]; exact h)⟩
        · skip
          (try simp only [decide_eq_true_eq, decide_eq_false_iff_not, beq_iff_eq, beq_eq_false_iff_ne, bne_iff_ne, ne_eq, bne_eq_false_iff_eq, Bool.not_eq_true', Bool.not_eq_false', Int.not_lt, Int.not_le, gt_iff_lt, ge_iff_le] at hs20)
          have hnx := hw.next hv hne (by omega)
          refine RC.skip ?_
          refine RE.inNormal ?_
          refine RE.next ?_
          refine RC.region ?_
          refine' RL.y rfl rfl rfl ?hy15 ?_
          case hy15 => first | exact Yl.load rfl rfl (by kernel_rfl) (up1) | exact Yl.load rfl rfl (by kernel_rfl) (up2) | exact Yl.load rfl rfl (by kernel_rfl) (up3) | exact Yl.load rfl rfl (by kernel_rfl) (Sl.nw hS (i := 0) rfl (by omega) (by decide)) | exact Yl.load rfl rfl (by kernel_rfl) (Sl.nw hS (i := 1) rfl (by omega) (by decide)) | exact Yl.load rfl rfl (by kernel_rfl) (Sl.nw hS (i := 2) rfl (by omega) (by decide)) | exact Yl.load rfl rfl (by kernel_rfl) (Hp.cell mem0 rfl) | exact Yl.load rfl rfl (by kernel_rfl) (Hp.cell mem1 rfl) | exact Yl.load rfl rfl (by kernel_rfl) (Hp.cell mem2 rfl) | exact Yl.load rfl rfl (by kernel_rfl) (Hp.cell mem3 rfl) | exact Yl.load rfl rfl (by kernel_rfl) (Hp.cell mem4 rfl) | exact Yl.load rfl rfl (by kernel_rfl) (Hp.rowAt mem0 (by omega) rfl) | exact Yl.load rfl rfl (by kernel_rfl) (Hp.rowAt mem1 (by omega) rfl) | exact Yl.load rfl rfl (by kernel_rfl) (Hp.rowAt mem2 (by omega) rfl) | exact Yl.load rfl rfl (by kernel_rfl) (Hp.rowAt mem3 (by omega) rfl) | exact Yl.load rfl rfl (by kernel_rfl) (Hp.rowAt mem4 (by omega) rfl)
          refine' RL.y rfl rfl rfl ?hy16 ?_
          case hy16 => first | exact Yl.load rfl rfl (by kernel_rfl) (up1) | exact Yl.load rfl rfl (by kernel_rfl) (up2) | exact Yl.load rfl rfl (by kernel_rfl) (up3) | exact Yl.load rfl rfl (by kernel_rfl) (Sl.nw hS (i := 0) rfl (by omega) (by decide)) | exact Yl.load rfl rfl (by kernel_rfl) (Sl.nw hS (i := 1) rfl (by omega) (by decide)) | exact Yl.load rfl rfl (by kernel_rfl) (Sl.nw hS (i := 2) rfl (by omega) (by decide)) | exact Yl.load rfl rfl (by kernel_rfl) (Hp.cell mem0 rfl) | exact Yl.load rfl rfl (by kernel_rfl) (Hp.cell mem1 rfl) | exact Yl.load rfl rfl (by kernel_rfl) (Hp.cell mem2 rfl) | exact Yl.load rfl rfl (by kernel_rfl) (Hp.cell mem3 rfl) | exact Yl.load rfl rfl (by kernel_rfl) (Hp.cell mem4 rfl) | exact Yl.load rfl rfl (by kernel_rfl) (Hp.rowAt mem0 (by omega) rfl) | exact Yl.load rfl rfl (by kernel_rfl) (Hp.rowAt mem1 (by omega) rfl) | exact Yl.load rfl rfl (by kernel_rfl) (Hp.rowAt mem2 (by omega) rfl) | exact Yl.load rfl rfl (by kernel_rfl) (Hp.rowAt mem3 (by omega) rfl) | exact Yl.load rfl rfl (by kernel_rfl) (Hp.rowAt mem4 (by omega) rfl)
          refine' RL.y rfl rfl rfl ?hy17 ?_
          case hy17 => exact Yl.ixkz (k := 3) rfl rfl rfl Try.underlying22 (by kernel_rfl) (by omega) (by omega)
          refine' RL.y rfl rfl rfl ?hy18 ?_
          case hy18 => first | exact Yl.field0 (k := 0) 0 rfl rfl Try.underlying38 rfl (by kernel_rfl) rfl | exact Yl.field (k := 0) 0 rfl rfl Try.underlying38 rfl (by kernel_rfl) rfl
          refine' RL.y rfl rfl rfl ?hy19 ?_
          case hy19 => first | exact Yl.load rfl rfl (by kernel_rfl) (up1) | exact Yl.load rfl rfl (by kernel_rfl) (up2) | exact Yl.load rfl rfl (by kernel_rfl) (up3) | exact Yl.load rfl rfl (by kernel_rfl) (Sl.nw hS (i := 0) rfl (by omega) (by decide)) | exact Yl.load rfl rfl (by kernel_rfl) (Sl.nw hS (i := 1) rfl (by omega) (by decide)) | exact Yl.load rfl rfl (by kernel_rfl) (Sl.nw hS (i := 2) rfl (by omega) (by decide)) | exact Yl.load rfl rfl (by kernel_rfl) (Hp.cell mem0 rfl) | exact Yl.load rfl rfl (by kernel_rfl) (Hp.cell mem1 rfl) | exact Yl.load rfl rfl (by kernel_rfl) (Hp.cell mem2 rfl) | exact Yl.load rfl rfl (by kernel_rfl) (Hp.cell mem3 rfl) | exact Yl.load rfl rfl (by kernel_rfl) (Hp.cell mem4 rfl) | exact Yl.load rfl rfl (by kernel_rfl) (Hp.rowAt mem0 (by omega) rfl) | exact Yl.load rfl rfl (by kernel_rfl) (Hp.rowAt mem1 (by omega) rfl) | exact Yl.load rfl rfl (by kernel_rfl) (Hp.rowAt mem2 (by omega) rfl) | exact Yl.load rfl rfl (by kernel_rfl) (Hp.rowAt mem3 (by omega) rfl) | exact Yl.load rfl rfl (by kernel_rfl) (Hp.rowAt mem4 (by omega) rfl)
          refine RL.re (i := 12) (v' := .int .i64 (sq f g (i + 1))) rfl (congrArg (Value.int .i64) (show (f (sq f g i).toNat).1 = sq f g (i + 1) from (sq_next (by omega)).symm)) ?_
          refine' RL.s rfl rfl ?hy20 ?_
          case hy20 => exact upS rfl rfl rfl (by kernel_rfl)
          refine RL.nil ?_
          refine RE.round (i + 1, k - 1) ?hF21 ?hlt21 ?hs21 ?hm21
          case hF21 => exact hnx.1
          case hlt21 => dsimp only; omega
          case hs21 => exact ⟨rfl, rfl, rfl, rfl, trivial⟩
          case hm21 => exact fun _ h => h
    · skip
      (try simp only [decide_eq_true_eq, decide_eq_false_iff_not, beq_iff_eq, beq_eq_false_iff_ne, bne_iff_ne, ne_eq, bne_eq_false_iff_eq, Bool.not_eq_true', Bool.not_eq_false', Int.not_lt, Int.not_le, gt_iff_lt, ge_iff_le] at hs7)
      refine RC.exit ?_
      refine RE.thenExit ?_
      refine RE.thenExit ?_
      refine RE.inHere ?_
      refine RE.end0 rfl ?_
      have hst := hw.stop (by omega)
      exact fun w h => ⟨⟨_, rfl⟩, .inl (by rw [hst]; exact h)⟩
set_option maxRecDepth 100000 in
set_option maxHeartbeats 2000000 in
theorem k_up (W : World) (A : Option Addr) (m cp : Nat) (g t : Int) : Calls Try.prog 30 #[.slice A m cp, .int .i64 g, .int .i64 t] W fun e w' => ∃ s : Nat × Nat × Nat, e = .returned (.func (.func 33) #[] #[.pointer (some ⟨s.1, 0, none⟩), .pointer (some ⟨s.2.1, 0, none⟩), .pointer (some ⟨s.2.2, 0, none⟩)]) ∧ (upR s.1 s.2.1 s.2.2 g t A m cp).holds w' ∧ Below W.heap.size W w' ∧ ∀ k, (upR s.1 s.2.1 s.2.2 g t A m cp).foot k → W.heap.size ≤ k := by
  have hM : Hp W (fun _ => False) [] W := Hp.start
  refine TC.enter (n := 8) Try.func30 rfl rfl rfl hM ?_
  refine TC.seq ?_
  refine TC.region ?_
  refine' TL.mx rfl rfl rfl ?hy1 ?_
  case hy1 => exact Ym.box rfl rfl
  intro b3
  refine' TL.mx rfl rfl rfl ?hy2 ?_
  case hy2 => exact Ym.box rfl rfl
  intro b4
  refine' TL.mx rfl rfl rfl ?hy3 ?_
  case hy3 => exact Ym.box rfl rfl
  intro b5
  refine' TL.y rfl rfl rfl ?hy4 ?_
  case hy4 => exact Yl.assign rfl rfl
  refine TL.nil ?_
  refine TE.next ?_
  refine TC.seq ?_
  refine TC.region ?_
  refine' TL.y rfl rfl rfl ?hy5 ?_
  case hy5 => exact Yl.makeFunc rfl rfl rfl
  refine' TL.y rfl rfl rfl ?hy6 ?_
  case hy6 => exact Yl.assign rfl rfl
  refine TL.nil ?_
  refine TE.next ?_
  refine TC.ret ?_
  refine TE.ret1 rfl rfl ?_
  exact fun w h => ⟨(b4, b5, b3), rfl, by unfold upR; exact (Hp.tostar (Hp.tostar (Hp.swap h))).leaveNew⟩
section
variable {W0 w : World} {T : Nat → Prop} {H : List Res} {a b c r : Res} {φ : Prop}
theorem pure3 (h : Hp W0 T (a :: b :: c :: pureR φ r :: H) w) : φ ∧ Hp W0 T (a :: b :: c :: r :: H) w := by
  refine ⟨(h.all _ mem3).2, h.chg, fun x hx => ?_, ?_, fun x hx => ?_⟩
  · simp only [List.mem_cons] at hx
    rcases hx with rfl | rfl | rfl | rfl | hx
    · exact h.all _ mem0
    · exact h.all _ mem1
    · exact h.all _ mem2
    · exact (h.all _ mem3).1
    · exact h.all x (by simp [hx])
  · have := h.apart
    simp only [List.pairwise_cons, List.mem_cons, forall_eq_or_imp] at this ⊢
    exact this
  · simp only [List.mem_cons] at hx
    rcases hx with rfl | rfl | rfl | rfl | hx
    · exact h.own _ mem0
    · exact h.own _ mem1
    · exact h.own _ mem2
    · exact h.own (pureR φ _) mem3
    · exact h.own x (by simp [hx])
theorem mkpure3 (hφ : φ) (h : Hp W0 T (a :: b :: c :: r :: H) w) : Hp W0 T (a :: b :: c :: pureR φ r :: H) w := by
  refine ⟨h.chg, fun x hx => ?_, ?_, fun x hx => ?_⟩
  · simp only [List.mem_cons] at hx
    rcases hx with rfl | rfl | rfl | rfl | hx
    · exact h.all _ mem0
    · exact h.all _ mem1
    · exact h.all _ mem2
    · exact ⟨h.all _ mem3, hφ⟩
    · exact h.all x (by simp [hx])
  · have := h.apart
    simp only [List.pairwise_cons, List.mem_cons, forall_eq_or_imp] at this ⊢
    exact this
  · simp only [List.mem_cons] at hx
    rcases hx with rfl | rfl | rfl | rfl | hx
    · exact h.own _ mem0
    · exact h.own _ mem1
    · exact h.own _ mem2
    · exact h.own r mem3
    · exact h.own x (by simp [hx])
theorem pure2 (h : Hp W0 T (a :: b :: pureR φ r :: H) w) : φ ∧ Hp W0 T (a :: b :: r :: H) w := by
  refine ⟨(h.all _ mem2).2, h.chg, fun x hx => ?_, ?_, fun x hx => ?_⟩
  · simp only [List.mem_cons] at hx
    rcases hx with rfl | rfl | rfl | hx
    · exact h.all _ mem0
    · exact h.all _ mem1
    · exact (h.all _ mem2).1
    · exact h.all x (by simp [hx])
  · have := h.apart
    simp only [List.pairwise_cons, List.mem_cons, forall_eq_or_imp] at this ⊢
    exact this
  · simp only [List.mem_cons] at hx
    rcases hx with rfl | rfl | rfl | hx
    · exact h.own _ mem0
    · exact h.own _ mem1
    · exact h.own (pureR φ _) mem2
    · exact h.own x (by simp [hx])
theorem Hp.drop2 (h : Hp W0 T (a :: b :: c :: H) w) : Hp W0 T (a :: b :: H) w := h.sub (by simp)
end
set_option maxRecDepth 100000 in
set_option maxHeartbeats 2000000 in
theorem k_below (W : World) {m : Nat} {f : Nat → Nd} {A : Option Addr} {cp : Nat} (hS : Sl W A (Nw m f)) (hv : Vld m f) {g t : Int} (hg0 : 0 ≤ g) (hg1 : g < m) (ht : 0 ≤ t) : Calls Try.prog 23 #[.slice A m cp, .int .i64 g, .int .i64 t] W fun e w' => e = .returned (.bool (blV f t (m + 1) g)) ∧ Below W.heap.size W w' := by
  have hm64 := hv.m1
  have hbl := bl_iff hv ht (m + 1) g (by omega) hg1 (by omega)
  have hM : Hp W (fun _ => False) [] W := Hp.start
  refine RC.enter (n := 15) Try.func23 rfl rfl rfl hM ?_
  refine RC.seq ?_
  refine RC.region ?_
  refine' RL.mx rfl rfl rfl ?hy1 ?_
  case hy1 => exact Ym.alloc (z := .bool false) rfl (by kernel_rfl)
  intro b6
  refine RL.nil ?_
  refine RE.next ?_
  refine RC.seq ?_
  refine RC.seq ?_
  refine RC.region ?_
  refine' RL.y rfl rfl rfl ?hy2 ?_
  case hy2 => exact Yl.move rfl rfl
  refine' RL.y rfl rfl rfl ?hy3 ?_
  case hy3 => exact Yl.move rfl rfl
  refine' RL.y rfl rfl rfl ?hy4 ?_
  case hy4 => exact Yl.move rfl rfl
  refine' RL.c rfl rfl rfl ?hy5 ?_
  case hy5 => exact Yc.call rfl Try.func30 (by kernel_rfl) rfl rfl (Hp.news (fun w h => k_up w A m cp g t))
  intro ⟨pg, pt, pl⟩
  dsimp only
  refine RL.nil ?_
  refine RE.next ?_
  refine RC.block ?_
  refine RC.range (H := fun i => [pureR (∀ j, j < i → 0 ≤ sq f g j) (blk b6 (.cells #[.bool false] 4 (0, 0)))]) (σ := Unit) (fun s => ∃ j, j < nU f t (m + 1) g ∧ sq f g j < 0) (fun s => [blk b6 (.cells #[.bool false] 4 (0, 0))]) (N := nU f t (m + 1) g) (xs := fun i => [.int .i64 (sq f g i)]) (It := fun i => upR pg pt pl (sq f g i) t A m cp) rfl Try.func33 rfl rfl (it_up hS hv hg0 hg1 ht) (fun _ => rfl) rfl (fun w h => (Hp.swap (Hp.topure (φ := ∀ j, j < 0 → 0 ≤ sq f g j) (fun j hj => by omega) (Hp.swap h)))) ?hx6 ?hy6 ?hz6
  case hx6 =>
    intro i hi l d rc
    refine RC.region ?_
    refine' RL.y rfl rfl rfl ?hy7 ?_
    case hy7 => exact Yl.assign rfl rfl
    refine RL.nil ?_
    refine RE.begin_ ?_
    refine RC.block ?_
    refine RC.seq ?_
    refine RC.region ?_
    refine' RL.y rfl rfl rfl ?hy8 ?_
    case hy8 => exact Yl.move rfl rfl
    refine' RL.y rfl rfl rfl ?hy9 ?_
    case hy9 => exact Yl.bin rfl rfl rfl (Bin.lss _ _ _ _)
    refine RL.nil ?_
    refine RE.next ?_
    refine RC.cond rfl (fun hs14 => ?_) (fun hs14 => ?_)
    · skip
      (try simp only [decide_eq_true_eq, decide_eq_false_iff_not, beq_iff_eq, beq_eq_false_iff_ne, bne_iff_ne, ne_eq, bne_eq_false_iff_eq, Bool.not_eq_true', Bool.not_eq_false', Int.not_lt, Int.not_le, gt_iff_lt, ge_iff_le] at hs14)
      refine RC.wk (fun w h => (pure3 h).2) ?_
      refine RC.seq ?_
      refine RC.region ?_
      refine' RL.s rfl rfl ?hy10 ?_
      case hy10 => first | exact Ys.store (seg := [.bool false]) (c' := #[.bool false]) rfl rfl rfl (by simp [Value.cells]) (by kernel_rfl) (by simp [Value.oneCell']) foc0 (by simp) rfl | exact Ys.store (seg := [.bool false]) (c' := #[.bool false]) rfl rfl rfl (by simp [Value.cells]) (by kernel_rfl) (by simp [Value.oneCell']) foc1 (by simp) rfl | exact Ys.store (seg := [.bool false]) (c' := #[.bool false]) rfl rfl rfl (by simp [Value.cells]) (by kernel_rfl) (by simp [Value.oneCell']) foc2 (by simp) rfl | exact Ys.store (seg := [.bool false]) (c' := #[.bool false]) rfl rfl rfl (by simp [Value.cells]) (by kernel_rfl) (by simp [Value.oneCell']) foc3 (by simp) rfl | exact Ys.store (seg := [.bool false]) (c' := #[.bool false]) rfl rfl rfl (by simp [Value.cells]) (by kernel_rfl) (by simp [Value.oneCell']) foc4 (by simp) rfl
      refine RL.nil ?_
      refine RE.next ?_
      refine RC.ret ?_
      refine RE.inRet ?_
      exact RE.quits (()) (⟨i, hi, by omega⟩) (fun w h => h.sub (.cons_cons _ (.cons_cons _ (.cons _ (List.Sublist.refl _)))))
    · skip
      (try simp only [decide_eq_true_eq, decide_eq_false_iff_not, beq_iff_eq, beq_eq_false_iff_ne, bne_iff_ne, ne_eq, bne_eq_false_iff_eq, Bool.not_eq_true', Bool.not_eq_false', Int.not_lt, Int.not_le, gt_iff_lt, ge_iff_le] at hs14)
      refine RC.skip ?_
      refine RE.inNormal ?_
      exact RE.goes (fun w h => by
        obtain ⟨hp, h⟩ := pure3 h
        exact mkpure3 (fun j hj => by
          by_cases e : j = i
          · rw [e]; omega
          · exact hp j (by omega)) h)
  case hy6 =>
    intro d
    refine RE.fact (fun w h => (pure2 h).1) ?_
    intro hall
    refine RE.wk (fun w h => (pure2 h).2) ?_
    refine RE.inNormal ?_
    refine RE.next ?_
    refine RC.seq ?_
    refine RC.region ?_
    refine' RL.s rfl rfl ?hy11 ?_
    case hy11 => first | exact Ys.store (seg := [.bool true]) (c' := #[.bool true]) rfl rfl rfl (by simp [Value.cells]) (by kernel_rfl) (by simp [Value.oneCell']) foc0 (by simp) rfl | exact Ys.store (seg := [.bool true]) (c' := #[.bool true]) rfl rfl rfl (by simp [Value.cells]) (by kernel_rfl) (by simp [Value.oneCell']) foc1 (by simp) rfl | exact Ys.store (seg := [.bool true]) (c' := #[.bool true]) rfl rfl rfl (by simp [Value.cells]) (by kernel_rfl) (by simp [Value.oneCell']) foc2 (by simp) rfl | exact Ys.store (seg := [.bool true]) (c' := #[.bool true]) rfl rfl rfl (by simp [Value.cells]) (by kernel_rfl) (by simp [Value.oneCell']) foc3 (by simp) rfl | exact Ys.store (seg := [.bool true]) (c' := #[.bool true]) rfl rfl rfl (by simp [Value.cells]) (by kernel_rfl) (by simp [Value.oneCell']) foc4 (by simp) rfl
    refine RL.nil ?_
    refine RE.next ?_
    refine RC.ret ?_
    refine RE.mark ?_
    first | refine RE.retC rfl rfl (by kernel_rfl) (Hp.cell mem0 rfl) ?_ | refine RE.retC rfl rfl (by kernel_rfl) (Hp.cell mem1 rfl) ?_ | refine RE.retC rfl rfl (by kernel_rfl) (Hp.cell mem2 rfl) ?_ | refine RE.retC rfl rfl (by kernel_rfl) (Hp.cell mem3 rfl) ?_ | refine RE.retC rfl rfl (by kernel_rfl) (Hp.cell mem4 rfl) ?_
    have hfin := hbl.2 hall
    exact fun w h => ⟨by rw [hfin]; rfl, (h.sub (List.nil_sublist _)).below⟩
  case hz6 =>
    intro d s hs
    refine RC.ret ?_
    refine RE.inRet ?_
    refine RE.thenRet ?_
    refine RE.mark ?_
    first | refine RE.retC rfl rfl (by kernel_rfl) (Hp.cell mem0 rfl) ?_ | refine RE.retC rfl rfl (by kernel_rfl) (Hp.cell mem1 rfl) ?_ | refine RE.retC rfl rfl (by kernel_rfl) (Hp.cell mem2 rfl) ?_ | refine RE.retC rfl rfl (by kernel_rfl) (Hp.cell mem3 rfl) ?_ | refine RE.retC rfl rfl (by kernel_rfl) (Hp.cell mem4 rfl) ?_
    have hfin : blV f t (m + 1) g = false := by
      cases e : blV f t (m + 1) g
      · rfl
      · obtain ⟨j, hj1, hj2⟩ := hs
        have := hbl.1 e j hj1; omega
    exact fun w h => ⟨by rw [hfin]; rfl, (h.sub (List.nil_sublist _)).below⟩
end Go.Proofs.Ytipdpmmjmlimhaa.Pk
