/- What the example comes to; what the laws share. -/
import Derived.Test.YtbcdplhihkacpaaRxH
import Derived.Test.YtbcdplhihkacpaaRxZ
import Derived.Test.YtbcdplhihkacpaaProg
import Derived.RowKit3
namespace Go.Proofs.Ytbcdplhihkacpaa.Pk
open Go Go.RowKit Go.Proofs.Ytbcdplhihkacpaa.HL Go.Proofs.Ytbcdplhihkacpaa.Ev Go.Proofs.YtbcdplhihkacpaaW.PrintWords Go.Proofs.RxP
set_option linter.unusedVariables false
set_option linter.unusedSimpArgs false
theorem k_getT (W : World) {st : St} {S : Sf} {b : Nat} (hR : Rep W st) (hT : Tab st S b) (n : Int) : Calls Go.Proofs.Try.prog 14 #[.pointer (some ⟨b, 0, none⟩), .int .i64 n] W fun e w' => e = .returned (.tuple #[.int .u64 ((gt S n).getD 0), .bool (gt S n).isSome]) ∧ Below W.heap.size W w' := hT.root ▸ k_get W hR hT.tree n
theorem k_lenT (W : World) {st : St} {S : Sf} {b : Nat} (hR : Rep W st) (hT : Tab st S b) : Calls Go.Proofs.Try.prog 22 #[.pointer (some ⟨b, 0, none⟩)] W fun e w' => e = .returned (.int .i64 (rk S 65536 : Nat)) ∧ Below W.heap.size W w' := hT.root ▸ k_len W hR hT.tree
theorem k_nodesT (W : World) {st : St} {S : Sf} {b : Nat} (hR : Rep W st) (hT : Tab st S b) : Calls Go.Proofs.Try.prog 17 #[.pointer (some ⟨b, 0, none⟩)] W fun e w' => e = .returned (.int .i64 (nodes S : Nat)) ∧ Below W.heap.size W w' := by
  have h := k_nodes W hR hT.tree
  rw [nodes_is hT, hT.root] at h
  exact h
theorem k_walkT (W : World) {st : St} {S : Sf} {b : Nat} (hR : Rep W st) (hT : Tab st S b) (a t : Int) : Calls Go.Proofs.Try.prog 13 #[.pointer (some ⟨b, 0, none⟩), .int .i64 a, .int .i64 t] W fun e w' => ∃ v : Value, e = .returned v ∧ (rowI v (walkL S a t)).holds w' ∧ Below W.heap.size W w' ∧ ∀ k, (rowI v (walkL S a t)).foot k → W.heap.size ≤ k := hT.root ▸ k_walk W hR hT.tree a t
theorem k_cloneT (W : World) {st : St} {S : Sf} {b : Nat} (hR : Rep W st) (hT : Tab st S b) : Calls Go.Proofs.Try.prog 26 #[.pointer (some ⟨b, 0, none⟩)] W fun e w' => ∃ x : {x : Nat × St // Tab x.2 S x.1}, e = .returned (.pointer (some ⟨x.1.1, 0, none⟩)) ∧ (tabR x.1.2).holds w' ∧ Below W.heap.size W w' ∧ ∀ k, (tabR x.1.2).foot k → W.heap.size ≤ k := hT.root ▸ k_clone W hR hT.tree
section
variable {W0 w : World} {T : Nat → Prop} {H : List Res}
theorem Hp.rowSl {A : Option Addr} {m c : Nat} {l : List Int} (hr : rowI (.slice A m c) l ∈ H) : ∀ w, Hp W0 T H w → Sl w A (Iw l) := fun w h => by
  have h1 : (ownR 3 1 (.slice A m c) l.length (Iw l)).holds w := h.all _ hr
  obtain ⟨A2, c2, e⟩ := Hp.ownSl (W0 := w) (T := (ownR 3 1 (.slice A m c) l.length (Iw l)).foot) (H := [ownR 3 1 (.slice A m c) l.length (Iw l)]) mem0 w (Hp.enter h1)
  injection e with _ e2
  subst e2
  exact ofOwnN h1
theorem Hp.rowAtI {g i c : Nat} {l : List Int} (hr : rowI (.slice (some ⟨g, 0, none⟩) l.length c) l ∈ H) (hi : i < l.length) : ∀ w, Hp W0 T H w → w.cell? ⟨g, i, none⟩ = some (.int .i64 (gI l i)) :=
  Hp.ownCell (e := 3) (size := 1) (m := l.length) (xs := Iw l) hr (by unfold Iw; rw [List.getElem?_map, gI_get hi]; rfl)
theorem Hp.rowShape {v : Value} {l : List Int} (hr : rowI v l ∈ H) : ∀ w, Hp W0 T H w → ∃ A c, v = .slice A l.length c := fun w h => h.ownSl (e := 3) (size := 1) (m := l.length) (xs := Iw l) hr
theorem Hp.rowSome {A : Option Addr} {c : Nat} {l : List Int} (hr : rowI (.slice A l.length c) l ∈ H) (hl : 0 < l.length) : ∀ w, Hp W0 T H w → ∃ g, A = some ⟨g, 0, none⟩ := fun w h => h.ownSome' (e := 3) (size := 1) (m := l.length) (xs := Iw l) hr hl
end
/-- A row of acts. -/
def Aw (m : Nat) (f : Nat → Ac) : List Value := (List.range m).flatMap fun j => [.int .i64 (f j).1, .int .u64 (f j).2.1, .bool (f j).2.2]
def afl (x : Ac) : Nat → Value
  | 0 => .int .i64 x.1
  | 1 => .int .u64 x.2.1
  | _ => .bool x.2.2
theorem Aw_succ (m : Nat) (f : Nat → Ac) : Aw (m + 1) f = Aw m f ++ [.int .i64 (f m).1, .int .u64 (f m).2.1, .bool (f m).2.2] := by simp [Aw, List.range_succ]
theorem Aw_length (f : Nat → Ac) : ∀ m, (Aw m f).length = m * 3
  | 0 => rfl
  | m + 1 => by rw [Aw_succ, List.length_append, Aw_length f m]; simp; omega
theorem Aw_get (f : Nat → Ac) : ∀ (m j i : Nat), j < m → i < 3 → (Aw m f)[j * 3 + i]? = some (afl (f j) i)
  | 0, j, i, h, _ => by omega
  | m + 1, j, i, h, hi => by
    rw [Aw_succ]
    by_cases h1 : j < m
    · rw [List.getElem?_append_left (by rw [Aw_length]; omega)]; exact Aw_get f m j i h1 hi
    · obtain rfl : j = m := by omega
      rw [List.getElem?_append_right (by rw [Aw_length]; omega), Aw_length, show j * 3 + i - j * 3 = i by omega]
      rcases (by omega : i = 0 ∨ i = 1 ∨ i = 2) with rfl | rfl | rfl <;> rfl
theorem Sl.aw {W0 : World} {H : List Res} {b c j q i m : Nat} {f : Nat → Ac} (hs : Sl W0 (.some ⟨b, c, none⟩) (Aw m f)) (hq : c + j * 3 + i = q) (hj : j < m) (hi : i < 3) : ∀ w, Hp W0 (fun _ => False) H w → w.cell? ⟨b, q, none⟩ = .some (afl (f j) i) := Sl.cellAt hs (Aw_get f m j i hj hi) (fun _ h => h) (by omega)
attribute [local irreducible] btw rowA nth ents Iw Aw
set_option maxRecDepth 100000 in
set_option maxHeartbeats 2000000 in
theorem k_rowV (W : World) {m m2 : Nat} {u v : Nat → Int} {A B : Option Addr} {cp cq : Nat} (hS : Sl W A (Vw m u)) (hS2 : Sl W B (Vw m2 v)) (hm : m ≤ 9223372036854775807) : Calls Try.prog 15 #[.slice A m cp, .slice B m2 cq] W fun e w' => e = .returned (.bool (decide (m = m2 ∧ ∀ j, j < m → u j = v j))) ∧ Below W.heap.size W w' := by
  have hM : Hp W (fun _ => False) [] W := Hp.start
  refine TC.enter (n := 26) Try.func15 rfl rfl rfl hM ?_
  refine TC.seq ?_
  refine TC.region ?_
  refine' TL.y rfl rfl rfl ?hy1 ?_
  case hy1 => exact Yl.assign rfl rfl
  refine TL.nil ?_
  refine TE.next ?_
  refine TC.seq ?_
  refine TC.seq ?_
  refine TC.region ?_
  refine' TL.y rfl rfl rfl ?hy2 ?_
  case hy2 => exact Yl.move rfl rfl
  refine' TL.y rfl rfl rfl ?hy3 ?_
  case hy3 => exact Yl.len rfl rfl Try.underlying31
  refine' TL.y rfl rfl rfl ?hy4 ?_
  case hy4 => exact Yl.move rfl rfl
  refine' TL.y rfl rfl rfl ?hy5 ?_
  case hy5 => exact Yl.len rfl rfl Try.underlying31
  refine' TL.y rfl rfl rfl ?hy6 ?_
  case hy6 => exact Yl.bin rfl rfl rfl (Bin.neq _ _ _ _)
  refine TL.nil ?_
  refine TE.next ?_
  refine TC.cond rfl (fun hs10 => ?_) (fun hs10 => ?_)
  · skip
    (try simp only [decide_eq_true_eq, decide_eq_false_iff_not, beq_iff_eq, beq_eq_false_iff_ne, bne_iff_ne, ne_eq, bne_eq_false_iff_eq, Bool.not_eq_true', Bool.not_eq_false', Int.not_lt, Int.not_le, gt_iff_lt, ge_iff_le] at hs10)
    refine TC.seq ?_
    refine TC.region ?_
    refine' TL.y rfl rfl rfl ?hy7 ?_
    case hy7 => exact Yl.assign rfl rfl
    refine TL.nil ?_
    refine TE.next ?_
    refine TC.ret ?_
    refine TE.thenRet ?_
    refine TE.ret1 rfl rfl ?_
    exact fun w h => ⟨by rw [decide_eq_false (fun e => by omega)], h.below⟩
  · skip
    (try simp only [decide_eq_true_eq, decide_eq_false_iff_not, beq_iff_eq, beq_eq_false_iff_ne, bne_iff_ne, ne_eq, bne_eq_false_iff_eq, Bool.not_eq_true', Bool.not_eq_false', Int.not_lt, Int.not_le, gt_iff_lt, ge_iff_le] at hs10)
    obtain rfl : m = m2 := by omega
    refine TC.skip ?_
    refine TE.next ?_
    refine TC.seq ?_
    refine TC.seq ?_
    refine TC.region ?_
    refine' TL.y rfl rfl rfl ?hy8 ?_
    case hy8 => exact Yl.assign rfl rfl
    refine TL.nil ?_
    refine TE.next ?_
    refine TC.block ?_
    refine TC.loop (σ := Nat) (fun i => [(0, .slice A m cp), (1, .slice B m cq), (5, .int .i64 (i : Int))]) (fun i => Hp W (fun _ => False) []) (fun i => i ≤ m ∧ ∀ j, j < i → u j = v j) (fun i => m - i) 0 ?hF9 ?hs9 ?hm9 ?round9
    case hF9 => exact ⟨Nat.zero_le _, fun j hj => by omega⟩
    case hs9 => exact ⟨rfl, rfl, rfl, trivial⟩
    case hm9 => exact fun _ h => h
    case round9 =>
      rintro i ⟨hi, hF⟩
      refine TC.seq ?_
      refine TC.seq ?_
      refine TC.region ?_
      refine' TL.y rfl rfl rfl ?hy10 ?_
      case hy10 => exact Yl.move rfl rfl
      refine' TL.y rfl rfl rfl ?hy11 ?_
      case hy11 => exact Yl.move rfl rfl
      refine' TL.y rfl rfl rfl ?hy12 ?_
      case hy12 => exact Yl.len rfl rfl Try.underlying31
      refine' TL.y rfl rfl rfl ?hy13 ?_
      case hy13 => exact Yl.bin rfl rfl rfl (Bin.lss _ _ _ _)
      refine TL.nil ?_
      refine TE.next ?_
      refine TC.cond rfl (fun hs14 => ?_) (fun hs14 => ?_)
      · skip
        (try simp only [decide_eq_true_eq, decide_eq_false_iff_not, beq_iff_eq, beq_eq_false_iff_ne, bne_iff_ne, ne_eq, bne_eq_false_iff_eq, Bool.not_eq_true', Bool.not_eq_false', Int.not_lt, Int.not_le, gt_iff_lt, ge_iff_le] at hs14)
        obtain ⟨b, o, rfl⟩ := Sl.some2 hS (by rw [Vw_length]; omega)
        obtain ⟨b2, o2, rfl⟩ := Sl.some2 hS2 (by rw [Vw_length]; omega)
        refine TC.skip ?_
        refine TE.next ?_
        refine TC.seq ?_
        refine TC.block ?_
        refine TC.seq ?_
        refine TC.draw (k := 9) _ [] #[false, false, false, false, false, false, false, false, false] (by kernel_rfl) rfl rfl (fun _ h => h.drew) (fun _ h => h) ?_
        refine' TA.y (i := 0) #[true, false, false, false, false, false, false, false, false] rfl rfl rfl (by kernel_rfl) (fun _ _ _ h => h) (fun _ h => by exact Hp.sub h (by repeat (first | exact List.Sublist.refl _ | apply List.Sublist.cons))) rfl ?hy14 ?_
        case hy14 => exact Yl.move rfl rfl
        refine' TA.y (i := 1) #[true, true, false, false, false, false, false, false, false] rfl rfl rfl (by kernel_rfl) (fun _ _ _ h => h) (fun _ h => by exact Hp.sub h (by repeat (first | exact List.Sublist.refl _ | apply List.Sublist.cons))) rfl ?hy15 ?_
        case hy15 => exact Yl.move rfl rfl
        refine' TA.y (i := 2) #[true, true, true, false, false, false, false, false, false] rfl rfl rfl (by kernel_rfl) (fun _ _ _ h => h) (fun _ h => by exact Hp.sub h (by repeat (first | exact List.Sublist.refl _ | apply List.Sublist.cons))) rfl ?hy16 ?_
        case hy16 => first | exact Yl.ixn rfl rfl rfl Try.underlying31 (by kernel_rfl) (by omega) | exact Yl.ixz rfl rfl rfl Try.underlying31 (by kernel_rfl) (by omega) (by omega) | exact Yl.ixcn rfl rfl rfl Try.underlying31 (by kernel_rfl) (by omega) | exact Yl.ixcz rfl rfl rfl Try.underlying31 (by kernel_rfl) (by omega) (by omega)
        refine' TA.y (i := 3) #[true, true, true, true, false, false, false, false, false] rfl rfl rfl (by kernel_rfl) (fun _ _ _ h => h) (fun _ h => by exact Hp.sub h (by repeat (first | exact List.Sublist.refl _ | apply List.Sublist.cons))) rfl ?hy17 ?_
        case hy17 => first | exact Yl.load rfl rfl (by kernel_rfl) (Sl.vw hS rfl (by omega) (fun _ h => h)) | exact Yl.load rfl rfl (by kernel_rfl) (Sl.vw hS2 rfl (by omega) (fun _ h => h)) | exact Yl.load rfl rfl (by kernel_rfl) (Hp.cell mem0 rfl) | exact Yl.load rfl rfl (by kernel_rfl) (Hp.cell mem1 rfl) | exact Yl.load rfl rfl (by kernel_rfl) (Hp.cell mem2 rfl) | exact Yl.load rfl rfl (by kernel_rfl) (Hp.cell mem3 rfl) | exact Yl.load rfl rfl (by kernel_rfl) (Hp.cell mem4 rfl) | exact Yl.load rfl rfl (by kernel_rfl) (Hp.rowAt mem0 (by omega) rfl) | exact Yl.load rfl rfl (by kernel_rfl) (Hp.rowAt mem1 (by omega) rfl) | exact Yl.load rfl rfl (by kernel_rfl) (Hp.rowAt mem2 (by omega) rfl) | exact Yl.load rfl rfl (by kernel_rfl) (Hp.rowAt mem3 (by omega) rfl) | exact Yl.load rfl rfl (by kernel_rfl) (Hp.rowAt mem4 (by omega) rfl)
        refine' TA.y (i := 4) #[true, true, true, true, true, false, false, false, false] rfl rfl rfl (by kernel_rfl) (fun _ _ _ h => h) (fun _ h => by exact Hp.sub h (by repeat (first | exact List.Sublist.refl _ | apply List.Sublist.cons))) rfl ?hy18 ?_
        case hy18 => exact Yl.move rfl rfl
        refine' TA.y (i := 5) #[true, true, true, true, true, true, false, false, false] rfl rfl rfl (by kernel_rfl) (fun _ _ _ h => h) (fun _ h => by exact Hp.sub h (by repeat (first | exact List.Sublist.refl _ | apply List.Sublist.cons))) rfl ?hy19 ?_
        case hy19 => exact Yl.move rfl rfl
        refine' TA.y (i := 6) #[true, true, true, true, true, true, true, false, false] rfl rfl rfl (by kernel_rfl) (fun _ _ _ h => h) (fun _ h => by exact Hp.sub h (by repeat (first | exact List.Sublist.refl _ | apply List.Sublist.cons))) rfl ?hy20 ?_
        case hy20 => first | exact Yl.ixn rfl rfl rfl Try.underlying31 (by kernel_rfl) (by omega) | exact Yl.ixz rfl rfl rfl Try.underlying31 (by kernel_rfl) (by omega) (by omega) | exact Yl.ixcn rfl rfl rfl Try.underlying31 (by kernel_rfl) (by omega) | exact Yl.ixcz rfl rfl rfl Try.underlying31 (by kernel_rfl) (by omega) (by omega)
        refine' TA.y (i := 7) #[true, true, true, true, true, true, true, true, false] rfl rfl rfl (by kernel_rfl) (fun _ _ _ h => h) (fun _ h => by exact Hp.sub h (by repeat (first | exact List.Sublist.refl _ | apply List.Sublist.cons))) rfl ?hy21 ?_
        case hy21 => first | exact Yl.load rfl rfl (by kernel_rfl) (Sl.vw hS rfl (by omega) (fun _ h => h)) | exact Yl.load rfl rfl (by kernel_rfl) (Sl.vw hS2 rfl (by omega) (fun _ h => h)) | exact Yl.load rfl rfl (by kernel_rfl) (Hp.cell mem0 rfl) | exact Yl.load rfl rfl (by kernel_rfl) (Hp.cell mem1 rfl) | exact Yl.load rfl rfl (by kernel_rfl) (Hp.cell mem2 rfl) | exact Yl.load rfl rfl (by kernel_rfl) (Hp.cell mem3 rfl) | exact Yl.load rfl rfl (by kernel_rfl) (Hp.cell mem4 rfl) | exact Yl.load rfl rfl (by kernel_rfl) (Hp.rowAt mem0 (by omega) rfl) | exact Yl.load rfl rfl (by kernel_rfl) (Hp.rowAt mem1 (by omega) rfl) | exact Yl.load rfl rfl (by kernel_rfl) (Hp.rowAt mem2 (by omega) rfl) | exact Yl.load rfl rfl (by kernel_rfl) (Hp.rowAt mem3 (by omega) rfl) | exact Yl.load rfl rfl (by kernel_rfl) (Hp.rowAt mem4 (by omega) rfl)
        refine' TA.y (i := 8) #[true, true, true, true, true, true, true, true, true] rfl rfl rfl (by kernel_rfl) (fun _ _ _ h => h) (fun _ h => by exact Hp.sub h (by repeat (first | exact List.Sublist.refl _ | apply List.Sublist.cons))) rfl ?hy22 ?_
        case hy22 => exact Yl.bin rfl rfl rfl (Bin.neq _ _ _ _)
        refine TA.done (by kernel_rfl) ?_
        refine TE.next ?_
        refine TC.cond rfl (fun hs25 => ?_) (fun hs25 => ?_)
        · skip
          (try simp only [decide_eq_true_eq, decide_eq_false_iff_not, beq_iff_eq, beq_eq_false_iff_ne, bne_iff_ne, ne_eq, bne_eq_false_iff_eq, Bool.not_eq_true', Bool.not_eq_false', Int.not_lt, Int.not_le, gt_iff_lt, ge_iff_le] at hs25)
          refine TC.seq ?_
          refine TC.region ?_
          refine' TL.y rfl rfl rfl ?hy23 ?_
          case hy23 => exact Yl.assign rfl rfl
          refine TL.nil ?_
          refine TE.next ?_
          refine TC.ret ?_
          refine TE.inRet ?_
          refine TE.thenRet ?_
          refine TE.thenRet ?_
          refine TE.inRet ?_
          refine TE.thenRet ?_
          refine TE.ret1 rfl rfl ?_
          exact fun w h => ⟨by rw [decide_eq_false (fun e => hs25 (e.2 i (by omega)))], h.below⟩
        · skip
          (try simp only [decide_eq_true_eq, decide_eq_false_iff_not, beq_iff_eq, beq_eq_false_iff_ne, bne_iff_ne, ne_eq, bne_eq_false_iff_eq, Bool.not_eq_true', Bool.not_eq_false', Int.not_lt, Int.not_le, gt_iff_lt, ge_iff_le] at hs25)
          refine TC.skip ?_
          refine TE.inNormal ?_
          refine TE.next ?_
          refine TC.region ?_
          refine' TL.y rfl rfl rfl ?hy24 ?_
          case hy24 => exact Yl.move rfl rfl
          refine' TL.y rfl rfl rfl ?hy25 ?_
          case hy25 => first | (refine Yl.val (Yl.bin rfl rfl rfl (Bin.add _ _ _ _)) (congrArg (Value.int .i64) (i64in ?_ ?_)) <;> omega) | exact Yl.bin rfl rfl rfl (Bin.add _ _ _ _)
          refine' TL.y rfl rfl rfl ?hy26 ?_
          case hy26 => exact Yl.assign rfl rfl
          refine TL.nil ?_
          refine TE.round (i + 1) ?hF27 ?hlt27 ?hs27 ?hm27
          case hF27 => exact ⟨by omega, fun j hj => by
            by_cases e : j = i
            · rw [e]; omega
            · exact hF j (by omega)⟩
          case hlt27 => omega
          case hs27 => exact ⟨rfl, rfl, rfl, trivial⟩
          case hm27 => exact fun _ h => h
      · skip
        (try simp only [decide_eq_true_eq, decide_eq_false_iff_not, beq_iff_eq, beq_eq_false_iff_ne, bne_iff_ne, ne_eq, bne_eq_false_iff_eq, Bool.not_eq_true', Bool.not_eq_false', Int.not_lt, Int.not_le, gt_iff_lt, ge_iff_le] at hs14)
        refine TC.exit ?_
        refine TE.thenExit ?_
        refine TE.thenExit ?_
        refine TE.inHere ?_
        refine TE.next ?_
        refine TC.seq ?_
        refine TC.region ?_
        refine' TL.y rfl rfl rfl ?hy28 ?_
        case hy28 => exact Yl.assign rfl rfl
        refine TL.nil ?_
        refine TE.next ?_
        refine TC.ret ?_
        refine TE.ret1 rfl rfl ?_
        exact fun w h => ⟨by rw [decide_eq_true ⟨rfl, fun j hj => hF j (by omega)⟩], h.below⟩
section
attribute [local semireducible] Iw
theorem Iw_v (l : List Int) : Iw l = Vw l.length (fun j => l.getD j 0) := Vw_of l
end
theorem k_rowL (W : World) {l l2 : List Int} {A B : Option Addr} {cp cq : Nat} (hS : Sl W A (Iw l)) (hS2 : Sl W B (Iw l2)) (hm : l.length ≤ 9223372036854775807) : Calls Go.Proofs.Try.prog 15 #[.slice A l.length cp, .slice B l2.length cq] W fun e w' => e = .returned (.bool (decide (l = l2))) ∧ Below W.heap.size W w' := by
  rw [Iw_v] at hS hS2
  have h := k_rowV W hS hS2 hm (cp := cp) (cq := cq)
  have e : decide (l.length = l2.length ∧ ∀ j, j < l.length → l.getD j 0 = l2.getD j 0) = decide (l = l2) := by
    apply decide_eq_decide.2
    constructor
    · rintro ⟨h1, h2⟩
      apply List.ext_getElem h1
      intro j h3 h4
      have := h2 j h3
      simpa [List.getD_eq_getElem?_getD, h3, h4] using this
    · rintro rfl; exact ⟨rfl, fun _ _ => rfl⟩
  rw [e] at h
  exact h
set_option maxRecDepth 100000 in
set_option maxHeartbeats 2000000 in
theorem k_works (W : World) : Calls Try.prog 10 #[] W fun e w' => e = .returned (.bool true) ∧ Below W.heap.size W w' := by
  have hM : Hp W (fun _ => False) [] W := Hp.start
  refine TC.enter (n := 67) Try.func10 rfl rfl rfl hM ?_
  refine TC.seq ?_
  refine TC.region ?_
  refine' TL.y rfl rfl rfl ?hy1 ?_
  case hy1 => exact Yl.assign rfl rfl
  refine TL.nil ?_
  refine TE.next ?_
  refine TC.seq ?_
  refine TC.region ?_
  refine' TL.c rfl rfl rfl ?hy2 ?_
  case hy2 => exact Yc.call rfl Try.func11 (by kernel_rfl) rfl rfl (Hp.news (fun w h => k_new w))
  intro b
  refine' TL.y rfl rfl rfl ?hy3 ?_
  case hy3 => exact Yl.assign rfl rfl
  refine TL.nil ?_
  refine TE.next ?_
  refine TC.seq ?_
  refine TC.seq ?_
  refine TC.region ?_
  refine' TL.y rfl rfl rfl ?hy4 ?_
  case hy4 => exact Yl.move rfl rfl
  refine' TL.y rfl rfl rfl ?hy5 ?_
  case hy5 => exact Yl.bin rfl rfl rfl (Bin.eqlP _ _ _ Try.underlying24)
  refine TL.nil ?_
  refine TE.next ?_
  refine TC.no rfl (rfl) ?_
  refine TC.skip ?_
  refine TE.next ?_
  refine TC.seq ?_
  refine TC.region ?_
  refine' TL.c rfl rfl rfl ?hy6 ?_
  case hy6 => exact Yc.call rfl Try.func16 (by kernel_rfl) rfl rfl (Hp.news (fun w h => k_path w 4660))
  intro v10
  rw [path_1]
  refine TL.fact (fun w h => Hp.rowShape mem0 w h) ?_
  rintro ⟨A10, c10, rfl⟩
  refine TL.fact (fun w h => Hp.rowSome mem0 (by decide) w h) ?_
  rintro ⟨g10, rfl⟩
  refine' TL.y rfl rfl rfl ?hy7 ?_
  case hy7 => exact Yl.assign rfl rfl
  refine TL.nil ?_
  refine TE.next ?_
  refine TC.seq ?_
  refine TC.region ?_
  refine' TL.y rfl rfl rfl ?hy8 ?_
  case hy8 => exact Yl.move rfl rfl
  refine' TL.c rfl rfl rfl ?hy9 ?_
  case hy9 => exact Yc.call rfl Try.func12 (by kernel_rfl) rfl rfl (Hp.turnx mem1 (fun s => foc1) (k_set (Tab.new b) 4660 9))
  intro ⟨st1, hT1⟩
  dsimp only
  have hT1 : Tab st1 S1 b := hT1
  refine TL.re (i := 12) (v' := .int .i64 0) rfl rfl ?_
  refine' TL.y rfl rfl rfl ?hy10 ?_
  case hy10 => exact Yl.assign rfl rfl
  refine TL.nil ?_
  refine TE.next ?_
  refine TC.seq ?_
  refine TC.region ?_
  refine' TL.y rfl rfl rfl ?hy11 ?_
  case hy11 => exact Yl.move rfl rfl
  refine' TL.c rfl rfl rfl ?hy12 ?_
  case hy12 => exact Yc.call rfl Try.func14 (by kernel_rfl) rfl rfl (Hp.calls (fun w h => k_getT w (h.all _ mem1) hT1 4660))
  intro _
  rw [gt_1]
  refine TL.re (i := 15) (v' := .tuple #[.int .u64 9, .bool true]) rfl rfl ?_
  refine' TL.y rfl rfl rfl ?hy13 ?_
  case hy13 => exact Yl.move rfl rfl
  refine' TL.y rfl rfl rfl ?hy14 ?_
  case hy14 => exact Yl.extract rfl rfl rfl
  refine' TL.y rfl rfl rfl ?hy15 ?_
  case hy15 => exact Yl.extract rfl rfl rfl
  refine' TL.y rfl rfl rfl ?hy16 ?_
  case hy16 => exact Yl.assign rfl rfl
  refine' TL.y rfl rfl rfl ?hy17 ?_
  case hy17 => exact Yl.assign rfl rfl
  refine TL.nil ?_
  refine TE.next ?_
  refine TC.seq ?_
  refine TC.region ?_
  refine' TL.y rfl rfl rfl ?hy18 ?_
  case hy18 => exact Yl.move rfl rfl
  refine' TL.c rfl rfl rfl ?hy19 ?_
  case hy19 => exact Yc.call rfl Try.func13 (by kernel_rfl) rfl rfl (Hp.news (fun w h => k_walkT w (h.all _ mem1) hT1 0 65536))
  intro v19
  rw [walk_1]
  refine TL.fact (fun w h => Hp.rowShape mem0 w h) ?_
  rintro ⟨A19, c19, rfl⟩
  refine TL.fact (fun w h => Hp.rowSome mem0 (by decide) w h) ?_
  rintro ⟨g19, rfl⟩
  refine' TL.y rfl rfl rfl ?hy20 ?_
  case hy20 => exact Yl.assign rfl rfl
  refine TL.nil ?_
  refine TE.next ?_
  refine TC.seq ?_
  refine TC.region ?_
  refine' TL.y rfl rfl rfl ?hy21 ?_
  case hy21 => exact Yl.move rfl rfl
  refine' TL.y rfl rfl rfl ?hy22 ?_
  case hy22 => exact Yl.len rfl rfl Try.underlying31
  refine' TL.y rfl rfl rfl ?hy23 ?_
  case hy23 => exact Yl.bin rfl rfl rfl (Bin.eql _ _ _ _)
  refine' TL.y rfl rfl rfl ?hy24 ?_
  case hy24 => exact Yl.move rfl rfl
  refine TL.re (i := 23) (v' := .bool true) rfl (congrArg Value.bool (rfl)) ?_
  refine' TL.y rfl rfl rfl ?hy25 ?_
  case hy25 => exact Yl.move rfl rfl
  refine' TL.y rfl rfl rfl ?hy26 ?_
  case hy26 => exact Yl.ixz rfl rfl rfl Try.underlying31 (by kernel_rfl) (by decide) (by decide)
  refine' TL.y rfl rfl rfl ?hy27 ?_
  case hy27 => first | exact Yl.load rfl rfl (by kernel_rfl) (Hp.rowAtI mem1 (by decide)) | exact Yl.load rfl rfl (by kernel_rfl) (Hp.rowAtI mem0 (by decide)) | exact Yl.load rfl rfl (by kernel_rfl) (Hp.cell mem0 rfl) | exact Yl.load rfl rfl (by kernel_rfl) (Hp.cell mem1 rfl) | exact Yl.load rfl rfl (by kernel_rfl) (Hp.cell mem2 rfl) | exact Yl.load rfl rfl (by kernel_rfl) (Hp.cell mem3 rfl) | exact Yl.load rfl rfl (by kernel_rfl) (Hp.rowAt mem0 (by omega) rfl) | exact Yl.load rfl rfl (by kernel_rfl) (Hp.rowAt mem1 (by omega) rfl) | exact Yl.load rfl rfl (by kernel_rfl) (Hp.rowAt mem2 (by omega) rfl) | exact Yl.load rfl rfl (by kernel_rfl) (Hp.rowAt mem3 (by omega) rfl)
  refine' TL.y rfl rfl rfl ?hy28 ?_
  case hy28 => exact Yl.bin rfl rfl rfl (Bin.eql _ _ _ _)
  refine' TL.y rfl rfl rfl ?hy29 ?_
  case hy29 => exact Yl.pickT rfl rfl rfl
  refine' TL.y rfl rfl rfl ?hy30 ?_
  case hy30 => exact Yl.move rfl rfl
  refine TL.re (i := 29) (v' := .bool true) rfl (congrArg Value.bool (rfl)) ?_
  refine' TL.y rfl rfl rfl ?hy31 ?_
  case hy31 => exact Yl.move rfl rfl
  refine' TL.y rfl rfl rfl ?hy32 ?_
  case hy32 => exact Yl.ixz rfl rfl rfl Try.underlying31 (by kernel_rfl) (by decide) (by decide)
  refine' TL.y rfl rfl rfl ?hy33 ?_
  case hy33 => first | exact Yl.load rfl rfl (by kernel_rfl) (Hp.rowAtI mem1 (by decide)) | exact Yl.load rfl rfl (by kernel_rfl) (Hp.rowAtI mem0 (by decide)) | exact Yl.load rfl rfl (by kernel_rfl) (Hp.cell mem0 rfl) | exact Yl.load rfl rfl (by kernel_rfl) (Hp.cell mem1 rfl) | exact Yl.load rfl rfl (by kernel_rfl) (Hp.cell mem2 rfl) | exact Yl.load rfl rfl (by kernel_rfl) (Hp.cell mem3 rfl) | exact Yl.load rfl rfl (by kernel_rfl) (Hp.rowAt mem0 (by omega) rfl) | exact Yl.load rfl rfl (by kernel_rfl) (Hp.rowAt mem1 (by omega) rfl) | exact Yl.load rfl rfl (by kernel_rfl) (Hp.rowAt mem2 (by omega) rfl) | exact Yl.load rfl rfl (by kernel_rfl) (Hp.rowAt mem3 (by omega) rfl)
  refine' TL.y rfl rfl rfl ?hy34 ?_
  case hy34 => exact Yl.bin rfl rfl rfl (Bin.eql _ _ _ _)
  refine' TL.y rfl rfl rfl ?hy35 ?_
  case hy35 => exact Yl.pickT rfl rfl rfl
  refine' TL.y rfl rfl rfl ?hy36 ?_
  case hy36 => exact Yl.move rfl rfl
  refine TL.re (i := 35) (v' := .bool true) rfl (congrArg Value.bool (rfl)) ?_
  refine' TL.y rfl rfl rfl ?hy37 ?_
  case hy37 => exact Yl.move rfl rfl
  refine' TL.y rfl rfl rfl ?hy38 ?_
  case hy38 => exact Yl.bin rfl rfl rfl (Bin.eql _ _ _ _)
  refine' TL.y rfl rfl rfl ?hy39 ?_
  case hy39 => exact Yl.pickT rfl rfl rfl
  refine' TL.y rfl rfl rfl ?hy40 ?_
  case hy40 => exact Yl.move rfl rfl
  refine TL.re (i := 39) (v' := .bool true) rfl (congrArg Value.bool (rfl)) ?_
  refine' TL.y rfl rfl rfl ?hy41 ?_
  case hy41 => exact Yl.move rfl rfl
  refine' TL.y rfl rfl rfl ?hy42 ?_
  case hy42 => exact Yl.bin rfl rfl rfl (Bin.eql _ _ _ _)
  refine' TL.y rfl rfl rfl ?hy43 ?_
  case hy43 => exact Yl.pickT rfl rfl rfl
  refine' TL.y rfl rfl rfl ?hy44 ?_
  case hy44 => exact Yl.move rfl rfl
  refine TL.re (i := 43) (v' := .bool true) rfl (congrArg Value.bool (rfl)) ?_
  refine' TL.y rfl rfl rfl ?hy45 ?_
  case hy45 => exact Yl.move rfl rfl
  refine' TL.y rfl rfl rfl ?hy46 ?_
  case hy46 => exact Yl.pickT rfl rfl rfl
  refine' TL.y rfl rfl rfl ?hy47 ?_
  case hy47 => exact Yl.move rfl rfl
  refine' TL.y rfl rfl rfl ?hy48 ?_
  case hy48 => exact Yl.move rfl rfl
  refine' TL.c rfl rfl rfl ?hy49 ?_
  case hy49 => exact Yc.call rfl Try.func17 (by kernel_rfl) rfl rfl (Hp.calls (fun w h => k_nodesT w (h.all _ mem2) hT1))
  intro _
  rw [nodes_1]
  refine' TL.y rfl rfl rfl ?hy50 ?_
  case hy50 => exact Yl.bin rfl rfl rfl (Bin.eql _ _ _ _)
  refine' TL.y rfl rfl rfl ?hy51 ?_
  case hy51 => exact Yl.pickT rfl rfl rfl
  refine' TL.y rfl rfl rfl ?hy52 ?_
  case hy52 => exact Yl.move rfl rfl
  refine TL.re (i := 51) (v' := .bool true) rfl (congrArg Value.bool (rfl)) ?_
  refine' TL.y rfl rfl rfl ?hy53 ?_
  case hy53 => exact Yl.move rfl rfl
  refine' TL.c rfl rfl rfl ?hy54 ?_
  case hy54 => exact Yc.call rfl Try.func22 (by kernel_rfl) rfl rfl (Hp.calls (fun w h => k_lenT w (h.all _ mem2) hT1))
  intro _
  rw [rk_1]
  refine' TL.y rfl rfl rfl ?hy55 ?_
  case hy55 => exact Yl.bin rfl rfl rfl (Bin.eql _ _ _ _)
  refine' TL.y rfl rfl rfl ?hy56 ?_
  case hy56 => exact Yl.pickT rfl rfl rfl
  refine' TL.y rfl rfl rfl ?hy57 ?_
  case hy57 => exact Yl.move rfl rfl
  refine TL.re (i := 56) (v' := .bool true) rfl (congrArg Value.bool (rfl)) ?_
  refine' TL.y rfl rfl rfl ?hy58 ?_
  case hy58 => exact Yl.move rfl rfl
  refine' TL.y rfl rfl rfl ?hy59 ?_
  case hy59 => exact Yl.len rfl rfl Try.underlying31
  refine' TL.y rfl rfl rfl ?hy60 ?_
  case hy60 => exact Yl.bin rfl rfl rfl (Bin.eql _ _ _ _)
  refine' TL.y rfl rfl rfl ?hy61 ?_
  case hy61 => exact Yl.pickT rfl rfl rfl
  refine' TL.y rfl rfl rfl ?hy62 ?_
  case hy62 => exact Yl.move rfl rfl
  refine TL.re (i := 61) (v' := .bool true) rfl (congrArg Value.bool (rfl)) ?_
  refine' TL.y rfl rfl rfl ?hy63 ?_
  case hy63 => exact Yl.move rfl rfl
  refine' TL.y rfl rfl rfl ?hy64 ?_
  case hy64 => exact Yl.ixz rfl rfl rfl Try.underlying31 (by kernel_rfl) (by decide) (by decide)
  refine' TL.y rfl rfl rfl ?hy65 ?_
  case hy65 => first | exact Yl.load rfl rfl (by kernel_rfl) (Hp.rowAtI mem1 (by decide)) | exact Yl.load rfl rfl (by kernel_rfl) (Hp.rowAtI mem0 (by decide)) | exact Yl.load rfl rfl (by kernel_rfl) (Hp.cell mem0 rfl) | exact Yl.load rfl rfl (by kernel_rfl) (Hp.cell mem1 rfl) | exact Yl.load rfl rfl (by kernel_rfl) (Hp.cell mem2 rfl) | exact Yl.load rfl rfl (by kernel_rfl) (Hp.cell mem3 rfl) | exact Yl.load rfl rfl (by kernel_rfl) (Hp.rowAt mem0 (by omega) rfl) | exact Yl.load rfl rfl (by kernel_rfl) (Hp.rowAt mem1 (by omega) rfl) | exact Yl.load rfl rfl (by kernel_rfl) (Hp.rowAt mem2 (by omega) rfl) | exact Yl.load rfl rfl (by kernel_rfl) (Hp.rowAt mem3 (by omega) rfl)
  refine' TL.y rfl rfl rfl ?hy66 ?_
  case hy66 => exact Yl.bin rfl rfl rfl (Bin.eql _ _ _ _)
  refine' TL.y rfl rfl rfl ?hy67 ?_
  case hy67 => exact Yl.pickT rfl rfl rfl
  refine' TL.y rfl rfl rfl ?hy68 ?_
  case hy68 => exact Yl.assign rfl rfl
  refine TL.nil ?_
  refine TE.next ?_
  refine TC.ret ?_
  refine TE.ret1 rfl rfl ?_
  exact fun w h => ⟨rfl, (h.sub (List.nil_sublist _)).below⟩
end Go.Proofs.Ytbcdplhihkacpaa.Pk
