/- Entries that are unlike have words that are; one that leads nowhere is nought: for every two entries. -/
import Derived.Test.YtjcibcnphdnfbaaRows
import Derived.Test.YtjcibcnphdnfbaaPureEntryBits
import Derived.WalkKit
import Derived.ProofKit
import Derived.OpenShut
import Derived.ShutString
import Derived.ChangeOld
import Derived.Below
import Derived.SizedLaws
import Derived.Lib.SmallJoins
import Derived.Carry
namespace Go.Proofs.Ytjcibcnphdnfbaa.entryBits
open Go.ChangeShapes Go.WideShapes Go.ChangeAt Go.RowKit Go.Joins
open Go.ChangeMaps (open_string shut_string)
set_option linter.unusedVariables false
theorem own : ownKnob Try.prog.godebug = none := by kernel_rfl
theorem laidOut : laidOutB Try.prog = true := by kernel_rfl
theorem cells24 : Try.prog.cellsOf 24 = 4 := by kernel_rfl
set_option maxRecDepth 100000 in
theorem lifted (os : Os) (started : os.Started) (H : Type) (enc : TypeId × Value → H) :
    ReturnsInHanded {} Try.checked os 7 .any (Rows.entryBitsSpec.pre6 enc Try.prog Try.f7 Rows.entryBitsRow.domain false) (Rows.entryBitsSpec.post enc Try.prog Try.f7 false true false false) := by
  refine returnsInHanded_of_change_sized (C := Try.checked) own started (by kernel_rfl) Try.func7
    (ChangeSpec.witness6 (enc := enc) (C := Try.checked) false ⟨#[], #[.agg #[.int .i64 0, .int .i64 0, .bool false, .bool false], .agg #[.int .i64 0, .int .i64 0, .bool false, .bool false]], []⟩ 8 (by kernel_rfl) (by kernel_rfl) (by kernel_rfl) (by kernel_rfl)) ?_
  intro W base args ds gs before hval0 hW hcnd hsz0 _
  have hval : ∀ (j : Nat) t v, Try.f7.params[j]? = some t → args[j]? = some v → Value.okWide Try.prog W .any base t v := hval0
  have hW' := hW
  obtain ⟨p, q, hA0, hV, rfl, hfz, hnd⟩ := hW
  have hA : DataW.TrodAll enc Try.prog W 0 (fun _ => true) true Try.f7.params.toList args.toList ds p := hA0
  rw [Try.params7] at hA hval
  obtain ⟨v0, vs0, d0, ds0, p0, q0, hargs, rfl, rfl, h0, r0⟩ := trodAll_cons hA
  obtain ⟨v1, vs1, d1, ds1, p1, q1, rfl, rfl, rfl, h1, r1⟩ := trodAll_cons r0
  obtain ⟨rfl, rfl, rfl⟩ := trodAll_nil r1
  obtain rfl : args = #[v0, v1] := by cases args; simp_all
  obtain ⟨rfl, rfl⟩ := trodVars_none hV
  have k0 := h0
  have l0 : ∀ x ∈ p0, x.block < W.heap.size := fun x hx => hW'.lt x (by simp [hx])
  have k1 := h1
  have l1 : ∀ x ∈ p1, x.block < W.heap.size := fun x hx => hW'.lt x (by simp [hx])
  obtain ⟨c00, c01, c02, c03, y00, y01, y02, y03, m0, rfl, hd0, hp0, g00, g01, g02, g03⟩ := open_agg4 Try.underlying24 (by kernel_rfl) cells24 (hval 0 24 v0 rfl rfl) h0
  obtain ⟨a00, e00, -, w00⟩ := DataW.trod_int Try.underlying22 g00
  obtain ⟨a01, e01, -, w01⟩ := DataW.trod_int Try.underlying3 g01
  obtain ⟨a02, e02, -⟩ := DataW.trod_bool Try.underlying4 g02
  obtain ⟨a03, e03, -⟩ := DataW.trod_bool Try.underlying4 g03
  obtain rfl := (List.cons.inj e00).1
  obtain rfl := (List.cons.inj e01).1
  obtain rfl := (List.cons.inj e02).1
  obtain rfl := (List.cons.inj e03).1
  obtain ⟨c10, c11, c12, c13, y10, y11, y12, y13, m1, rfl, hd1, hp1, g10, g11, g12, g13⟩ := open_agg4 Try.underlying24 (by kernel_rfl) cells24 (hval 1 24 v1 rfl rfl) h1
  obtain ⟨a10, e10, -, w10⟩ := DataW.trod_int Try.underlying22 g10
  obtain ⟨a11, e11, -, w11⟩ := DataW.trod_int Try.underlying3 g11
  obtain ⟨a12, e12, -⟩ := DataW.trod_bool Try.underlying4 g12
  obtain ⟨a13, e13, -⟩ := DataW.trod_bool Try.underlying4 g13
  obtain rfl := (List.cons.inj e10).1
  obtain rfl := (List.cons.inj e11).1
  obtain rfl := (List.cons.inj e12).1
  obtain rfl := (List.cons.inj e13).1
  clear hA0 hval0 hsz0
  refine (PEntryTurns.millpondlaw06_EntryBits.calls 70 a00 a01 a02 a03 a10 a11 a12 a13 true W (Pure.EntryBits a00 a01 a02 a03 a10 a11 a12 a13 (bounds_i64 w00) (bounds_i64 w01) (bounds_i64 w10) (bounds_i64 w11))).mono fun e W' ⟨he, bel⟩ => ?_
  subst he
  exact ⟨_, rfl, _, _, _, [], _, [], hW', trodAll_mk1 (shut_bool Try.underlying4 _), (trodAll_cons_mk (Below.trod laidOut (by kernel_rfl) (of_decide_eq_true (by kernel_rfl)) k0 bel l0) (trodAll_cons_mk (Below.trod laidOut (by kernel_rfl) (of_decide_eq_true (by kernel_rfl)) k1 bel l1) trodAll_mk0)), rfl, bel.frame _, fun h => by cases h⟩
theorem over : Rows.entryBitsRow.holds Try.pinned (OpenSpec.ofChange Rows.entryBitsSpec) :=
  OpenClaim.holds_of_wide 7 Try.f7 rfl rfl rfl rfl rfl rfl rfl ⟨rfl, rfl, rfl, rfl, rfl⟩ rfl rfl rfl rfl rfl (by kernel_rfl) Try.func7 (by kernel_rfl)
    (of_decide_eq_true (by kernel_rfl)) (by unfold Func.isWrapper; rw [if_neg (of_decide_eq_false (by kernel_rfl))]; exact ⟨rfl, rfl⟩)
    (fun os started H enc _ => lifted os started H enc)
theorem proved : Rows.EntryBitsSaid := over
#print axioms proved
end Go.Proofs.Ytjcibcnphdnfbaa.entryBits
namespace Go.Proofs.Ytjcibcnphdnfbaa
theorem entryBits_holds : Rows.EntryBitsSaid := entryBits.proved
end Go.Proofs.Ytjcibcnphdnfbaa
