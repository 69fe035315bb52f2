/- Words: their length, their products, their division. -/
import Derived.Test.YtipdpmmjmlimhaaHM
import Derived.Test.YtipdpmmjmlimhaaDvP
import Derived.Test.YtipdpmmjmlimhaaProg
import Derived.RowKit3
namespace Go.Proofs.Ytipdpmmjmlimhaa.Pk
open Go Go.RowKit Go.Proofs.Ytipdpmmjmlimhaa.HL Go.Proofs.Ytipdpmmjmlimhaa.Ev Go.Proofs.YtipdpmmjmlimhaaW.PrintWords Go.Proofs.DvP
set_option linter.unusedVariables false
set_option linter.unusedSimpArgs false
theorem u64m (x : Int) : IntKind.u64.wrap x = x % 18446744073709551616 := u64mod x
theorem bits2 (x y : Int) (h0 : 0 ≤ x) (h1 : x < 18446744073709551616) (h2 : 0 ≤ y) (h3 : y < 18446744073709551616) :
    Go.bits .and .u64 x y = ((x.toNat &&& y.toNat : Nat) : Int) ∧ Go.bits .or .u64 x y = ((x.toNat ||| y.toNat : Nat) : Int) ∧ Go.bits .xor .u64 x y = ((x.toNat ^^^ y.toNat : Nat) : Int) := by
  obtain ⟨a, rfl⟩ := Int.eq_ofNat_of_zero_le h0
  obtain ⟨b, rfl⟩ := Int.eq_ofNat_of_zero_le h2
  have ha : a < 2 ^ 64 := by omega
  have hb : b < 2 ^ 64 := by omega
  have hw : ∀ n : Int, 0 ≤ n → n < 2 ^ 64 → IntKind.u64.wrap n = n := fun n h0 h1 => by rw [u64m]; omega
  have h := bits_nat .u64 64 (by decide) hw a b ha hb
  refine ⟨h.1, h.2, ?_⟩
  simp only [Go.bits, BitVec.ofInt_natCast, Int.toNat_natCast]
  show IntKind.u64.wrap ((BitVec.ofNat 64 a ^^^ BitVec.ofNat 64 b).toNat : Int) = _
  have hx : (BitVec.ofNat 64 a ^^^ BitVec.ofNat 64 b).toNat = a ^^^ b := by
    rw [BitVec.toNat_xor, BitVec.toNat_ofNat, BitVec.toNat_ofNat, Nat.mod_eq_of_lt ha, Nat.mod_eq_of_lt hb]
  rw [hx]
  have := Nat.xor_lt_two_pow ha hb
  exact hw _ (by omega) (by exact_mod_cast this)
theorem bitsN (a b : Nat) (ha : a < 2 ^ 64) (hb : b < 2 ^ 64) :
    Go.bits .and .u64 (a : Int) (b : Int) = ((a &&& b : Nat) : Int) ∧ Go.bits .or .u64 (a : Int) (b : Int) = ((a ||| b : Nat) : Int) ∧ Go.bits .xor .u64 (a : Int) (b : Int) = ((a ^^^ b : Nat) : Int) := by
  have h := bits2 (a : Int) (b : Int) (by omega) (by omega) (by omega) (by omega)
  simpa using h
theorem andI64 (x : Int) (i : Nat) (hi : i ≤ 62) (h0 : 0 ≤ x) (h1 : x < 9223372036854775808) : Go.bits .and .i64 x (2 ^ i - 1) = x % 2 ^ i :=
  Go.bits_mask .i64 63 (by decide) (fun n h0 h1 => by rw [IntKind.wrap_i64]; omega) i (by omega) x h0 (by omega)
theorem maskU (x : Int) (i : Nat) (hi : i ≤ 64) (h0 : 0 ≤ x) (h1 : x < 18446744073709551616) : Go.bits .and .u64 x (2 ^ i - 1) = x % 2 ^ i :=
  Go.bits_mask .u64 64 (by decide) (fun n h0 h1 => by rw [u64m]; omega) i hi x h0 (by omega)
/-- Something above what is below. -/
theorem orU (x v : Int) (i : Nat) (h0 : 0 ≤ x) (h1 : x < 2 ^ i) (hx : x < 18446744073709551616) (hv : 0 ≤ v) (hb : v * 2 ^ i < 18446744073709551616) : Go.bits .or .u64 x (v * 2 ^ i) = x + v * 2 ^ i ∧ Go.bits .or .u64 (v * 2 ^ i) x = v * 2 ^ i + x := by
  obtain ⟨a, rfl⟩ := Int.eq_ofNat_of_zero_le h0
  obtain ⟨b, rfl⟩ := Int.eq_ofNat_of_zero_le hv
  have ha : a < 2 ^ i := by exact_mod_cast h1
  have hp := Nat.two_pow_pos i
  have e : ((b : Int) * 2 ^ i) = ((b * 2 ^ i : Nat) : Int) := by push_cast; rfl
  have hb' : b * 2 ^ i < 2 ^ 64 := by rw [e] at hb; omega
  have hk : 2 ^ i * b + a = 2 ^ i * b ||| a := Nat.two_pow_add_eq_or_of_lt ha b
  have hi : a < 2 ^ 64 := by omega
  rw [e, (bitsN a _ hi hb').2.1, (bitsN _ a hb' hi).2.1]
  rw [Nat.mul_comm b] at *
  rw [Nat.or_comm a, ← hk]
  constructor <;> push_cast <;> omega
def lenT : ByteArray := { data := (List.toArray (List.append (List.append [0, 1, 2, 2, 3, 3, 3, 3, 4, 4, 4, 4, 4, 4, 4, 4, 5, 5, 5, 5, 5, 5, 5, 5, 5, 5, 5, 5, 5, 5, 5, 5, 6, 6, 6, 6, 6, 6, 6, 6, 6, 6, 6, 6, 6, 6, 6, 6, 6, 6, 6, 6, 6, 6, 6, 6, 6, 6, 6, 6, 6, 6, 6, 6] [7, 7, 7, 7, 7, 7, 7, 7, 7, 7, 7, 7, 7, 7, 7, 7, 7, 7, 7, 7, 7, 7, 7, 7, 7, 7, 7, 7, 7, 7, 7, 7, 7, 7, 7, 7, 7, 7, 7, 7, 7, 7, 7, 7, 7, 7, 7, 7, 7, 7, 7, 7, 7, 7, 7, 7, 7, 7, 7, 7, 7, 7, 7, 7]) (List.append [8, 8, 8, 8, 8, 8, 8, 8, 8, 8, 8, 8, 8, 8, 8, 8, 8, 8, 8, 8, 8, 8, 8, 8, 8, 8, 8, 8, 8, 8, 8, 8, 8, 8, 8, 8, 8, 8, 8, 8, 8, 8, 8, 8, 8, 8, 8, 8, 8, 8, 8, 8, 8, 8, 8, 8, 8, 8, 8, 8, 8, 8, 8, 8] [8, 8, 8, 8, 8, 8, 8, 8, 8, 8, 8, 8, 8, 8, 8, 8, 8, 8, 8, 8, 8, 8, 8, 8, 8, 8, 8, 8, 8, 8, 8, 8, 8, 8, 8, 8, 8, 8, 8, 8, 8, 8, 8, 8, 8, 8, 8, 8, 8, 8, 8, 8, 8, 8, 8, 8, 8, 8, 8, 8, 8, 8, 8, 8]))) }
def lenB (z : Nat) : UInt8 := if z = 0 then 0 else UInt8.ofNat (Nat.log2 z + 1)
structure IsLen (x : Int) (k : Nat) : Prop where
  up : x < 2 ^ k
  low : 0 < k → 2 ^ (k - 1) ≤ x
theorem lenT_all : ∀ z : Fin 256, ∃ k : Fin 9, lenT[z.val]? = some (UInt8.ofNat k.val) ∧ z.val < 2 ^ k.val ∧ (0 < k.val → 2 ^ (k.val - 1) ≤ z.val) := by decide +kernel
theorem lenT_at {x : Int} (h0 : 0 ≤ x) (h1 : x < 256) : ∃ k : Nat, k ≤ 8 ∧ lenT[x.toNat]? = some (UInt8.ofNat k) ∧ IsLen x k := by
  obtain ⟨k, e1, e2, e3⟩ := lenT_all ⟨x.toNat, by omega⟩
  obtain ⟨z, rfl⟩ := Int.eq_ofNat_of_zero_le h0
  simp only [Int.toNat_natCast] at e1 e2 e3 ⊢
  exact ⟨k.val, by omega, e1, by exact_mod_cast e2, fun h => by exact_mod_cast e3 h⟩
theorem IsLen.up_by {x : Int} {k : Nat} (s : Nat) (h0 : 0 ≤ x) (hx : 2 ^ s ≤ x) (h : IsLen (x / 2 ^ s) k) : IsLen x (k + s) := by
  have hs : (0 : Int) < 2 ^ s := Int.pow_pos (by decide)
  have hk : 0 < k := by
    rcases Nat.eq_zero_or_pos k with e | e
    · exfalso
      subst e
      have h1 := h.up
      have h2 : 1 ≤ x / 2 ^ s := Int.le_ediv_of_mul_le hs (by omega)
      simp at h1; omega
    · exact e
  refine ⟨?_, fun _ => ?_⟩
  · rw [Int.pow_add]
    exact (Int.ediv_lt_iff_lt_mul hs).1 h.up
  · rw [show k + s - 1 = (k - 1) + s by omega, Int.pow_add]
    exact Int.le_trans (Int.mul_le_mul_of_nonneg_right (h.low hk) (by omega)) (Int.ediv_mul_le _ (by omega))
theorem Yl.indexStr {P : Program} {n : Nat} {L : FL} {M : World → Prop} {o : Oper} {t : TypeId} {x i : Operand} {s : ByteArray} {q : IntKind} {z : Int} {b : UInt8} (ho : o.op = .index t x i) (hx : evO L x = some (.string s)) (hi : evO L i = some (.int q z)) (ht : P.underlying t = some .string) (h0 : 0 ≤ z) (hb : s[z.toNat]? = some b) : Yl P o n L M (.int .u8 b.toNat) := fun a w hf _ => by
  unfold execOp
  simp [ho, hf.ev hx, hf.ev hi, Instr.index, asIntOf, run_underlying ht, h0, hb]
theorem Hp.callsx {P : Program} {W0 : World} {T : Nat → Prop} {H : List Res} {f : FuncId} {args : Array Value} {σ : Type} {v : σ → Value} (h : ∀ w, Hp W0 T H w → Calls P f args w fun e w' => ∃ s, e = .returned (v s) ∧ Below w.heap.size w w') : ∀ w, Hp W0 T H w → Calls P f args w fun e w' => ∃ s, e = .returned (v s) ∧ Hp W0 T H w' := fun w hm =>
  (h w hm).mono fun e w' ⟨s, he, hb⟩ => ⟨s, he, hm.pass hb⟩
theorem shr64 {x : Int} {s : Nat} (hs : s ≤ 64) : x / 2 ^ min ((s : Nat) : Int).toNat IntKind.u64.bits = x / 2 ^ s := by
  rw [show IntKind.u64.bits = 64 from rfl, Int.toNat_natCast, Nat.min_eq_left hs]
theorem lenW {k : Nat} (h : k ≤ 8) : IntKind.i64.wrap ((UInt8.ofNat k).toNat : Int) = (k : Int) := by
  have e : (UInt8.ofNat k).toNat = k := by simp; omega
  rw [e, i64in (by omega) (by omega)]
set_option maxRecDepth 100000 in
set_option maxHeartbeats 2000000 in
theorem k_len64 (W : World) {x : Int} (h0 : 0 ≤ x) (h1 : x < 18446744073709551616) : Calls Try.prog 35 #[.int .u64 x] W fun e w' => ∃ k : { k : Nat // IsLen x k ∧ k ≤ 64 }, e = .returned (.int .i64 (k.1 : Int)) ∧ Below W.heap.size W w' := by
  have hM : Hp W (fun _ => False) [] W := Hp.start
  refine TC.enter (n := 25) Try.func35 rfl rfl rfl hM ?_
  refine TC.seq ?_
  refine TC.region ?_
  refine' TL.y rfl rfl rfl ?hy1 ?_
  case hy1 => exact Yl.assign rfl rfl
  refine TL.nil ?_
  refine TE.next ?_
  refine TC.meet (σ := Int × Nat) (fun s => [(0, .int .u64 s.1), (2, .int .i64 (s.2 : Int))]) (fun s => Hp W (fun _ => False) []) (fun s => 0 ≤ s.1 ∧ s.1 < 4294967296 ∧ s.2 ≤ 32 ∧ ∀ k, IsLen s.1 k → IsLen x (k + s.2)) ?hx2 ?hy2
  case hx2 =>
    refine TC.seq ?_
    refine TC.region ?_
    refine' TL.y rfl rfl rfl ?hy3 ?_
    case hy3 => exact Yl.move rfl rfl
    refine' TL.y rfl rfl rfl ?hy4 ?_
    case hy4 => exact Yl.bin rfl rfl rfl (Bin.geq _ _ _ _)
    refine TL.nil ?_
    refine TE.next ?_
    refine TC.cond rfl (fun hs4 => ?_) (fun hs4 => ?_)
    · skip
      (try simp only [decide_eq_true_eq, decide_eq_false_iff_not, beq_iff_eq, beq_eq_false_iff_ne, bne_iff_ne, ne_eq, bne_eq_false_iff_eq, Bool.not_eq_true', Bool.not_eq_false', Int.not_lt, Int.not_le, gt_iff_lt, ge_iff_le] at hs4)
      refine TC.seq ?_
      refine TC.region ?_
      refine' TL.y rfl rfl rfl ?hy5 ?_
      case hy5 => exact Yl.move rfl rfl
      refine' TL.y rfl rfl rfl ?hy6 ?_
      case hy6 => exact Yl.val (Yl.bin rfl rfl rfl (Bin.shr _ _ _ _ _ (by omega))) (congrArg (Value.int .u64) (show x / 2 ^ min (32 : Int).toNat IntKind.u64.bits = x / 4294967296 from by rw [show min (32 : Int).toNat IntKind.u64.bits = 32 from by decide]; omega))
      refine' TL.y rfl rfl rfl ?hy7 ?_
      case hy7 => exact Yl.assign rfl rfl
      refine TL.nil ?_
      refine TE.next ?_
      refine TC.region ?_
      refine' TL.y rfl rfl rfl ?hy8 ?_
      case hy8 => exact Yl.assign rfl rfl
      refine TL.nil ?_
      refine TE.met (x / 4294967296, 32) ?hF9 ?hs9 ?hm9
      case hF9 => exact ⟨by dsimp only; omega, by dsimp only; omega, Nat.le_refl _, fun k hk => hk.up_by 32 h0 (by omega)⟩
      case hs9 => exact ⟨rfl, rfl, trivial⟩
      case hm9 => exact fun _ h => h
    · skip
      (try simp only [decide_eq_true_eq, decide_eq_false_iff_not, beq_iff_eq, beq_eq_false_iff_ne, bne_iff_ne, ne_eq, bne_eq_false_iff_eq, Bool.not_eq_true', Bool.not_eq_false', Int.not_lt, Int.not_le, gt_iff_lt, ge_iff_le] at hs4)
      refine TC.skip ?_
      refine TE.met (x, 0) ?hF10 ?hs10 ?hm10
      case hF10 => exact ⟨h0, by dsimp only; omega, Nat.zero_le _, fun k hk => hk⟩
      case hs10 => exact ⟨rfl, rfl, trivial⟩
      case hm10 => exact fun _ h => h
  case hy2 =>
    rintro ⟨y, q⟩ ⟨h1, h2, h3, h4⟩
    dsimp only at h1 h2 h3 h4 ⊢
    refine TC.meet (σ := Int × Nat) (fun s => [(0, .int .u64 s.1), (2, .int .i64 (s.2 : Int))]) (fun s => Hp W (fun _ => False) []) (fun s => 0 ≤ s.1 ∧ s.1 < 65536 ∧ s.2 ≤ 48 ∧ ∀ k, IsLen s.1 k → IsLen x (k + s.2)) ?hx11 ?hy11
    case hx11 =>
      refine TC.seq ?_
      refine TC.region ?_
      refine' TL.y rfl rfl rfl ?hy12 ?_
      case hy12 => exact Yl.move rfl rfl
      refine' TL.y rfl rfl rfl ?hy13 ?_
      case hy13 => exact Yl.bin rfl rfl rfl (Bin.geq _ _ _ _)
      refine TL.nil ?_
      refine TE.next ?_
      refine TC.cond rfl (fun hs8 => ?_) (fun hs8 => ?_)
      · skip
        (try simp only [decide_eq_true_eq, decide_eq_false_iff_not, beq_iff_eq, beq_eq_false_iff_ne, bne_iff_ne, ne_eq, bne_eq_false_iff_eq, Bool.not_eq_true', Bool.not_eq_false', Int.not_lt, Int.not_le, gt_iff_lt, ge_iff_le] at hs8)
        refine TC.seq ?_
        refine TC.region ?_
        refine' TL.y rfl rfl rfl ?hy14 ?_
        case hy14 => exact Yl.move rfl rfl
        refine' TL.y rfl rfl rfl ?hy15 ?_
        case hy15 => exact Yl.val (Yl.bin rfl rfl rfl (Bin.shr _ _ _ _ _ (by omega))) (congrArg (Value.int .u64) (show y / 2 ^ min (16 : Int).toNat IntKind.u64.bits = y / 65536 from by rw [show min (16 : Int).toNat IntKind.u64.bits = 16 from by decide]; omega))
        refine' TL.y rfl rfl rfl ?hy16 ?_
        case hy16 => exact Yl.assign rfl rfl
        refine TL.nil ?_
        refine TE.next ?_
        refine TC.region ?_
        refine' TL.y rfl rfl rfl ?hy17 ?_
        case hy17 => exact Yl.move rfl rfl
        refine' TL.y rfl rfl rfl ?hy18 ?_
        case hy18 => exact Yl.val (Yl.bin rfl rfl rfl (Bin.add _ _ _ _)) (congrArg (Value.int .i64) (show IntKind.i64.wrap ((q : Int) + 16) = ((q + 16 : Nat) : Int) from by rw [i64in (by omega) (by omega)]; omega))
        refine' TL.y rfl rfl rfl ?hy19 ?_
        case hy19 => exact Yl.assign rfl rfl
        refine TL.nil ?_
        refine TE.met (y / 65536, q + 16) ?hF20 ?hs20 ?hm20
        case hF20 => exact ⟨by dsimp only; omega, by dsimp only; omega, by dsimp only; omega, fun k hk => by have := h4 _ (hk.up_by 16 h1 (by omega)); rw [show k + (q + 16) = k + 16 + q by omega]; exact this⟩
        case hs20 => exact ⟨rfl, rfl, trivial⟩
        case hm20 => exact fun _ h => h
      · skip
        (try simp only [decide_eq_true_eq, decide_eq_false_iff_not, beq_iff_eq, beq_eq_false_iff_ne, bne_iff_ne, ne_eq, bne_eq_false_iff_eq, Bool.not_eq_true', Bool.not_eq_false', Int.not_lt, Int.not_le, gt_iff_lt, ge_iff_le] at hs8)
        refine TC.skip ?_
        refine TE.met (y, q) ?hF21 ?hs21 ?hm21
        case hF21 => exact ⟨h1, by dsimp only; omega, by dsimp only; omega, h4⟩
        case hs21 => exact ⟨rfl, rfl, trivial⟩
        case hm21 => exact fun _ h => h
    case hy11 =>
      rintro ⟨y, q⟩ ⟨h1, h2, h3, h4⟩
      dsimp only at h1 h2 h3 h4 ⊢
      refine TC.meet (σ := Int × Nat) (fun s => [(0, .int .u64 s.1), (2, .int .i64 (s.2 : Int))]) (fun s => Hp W (fun _ => False) []) (fun s => 0 ≤ s.1 ∧ s.1 < 256 ∧ s.2 ≤ 56 ∧ ∀ k, IsLen s.1 k → IsLen x (k + s.2)) ?hx22 ?hy22
      case hx22 =>
        refine TC.seq ?_
        refine TC.region ?_
        refine' TL.y rfl rfl rfl ?hy23 ?_
        case hy23 => exact Yl.move rfl rfl
        refine' TL.y rfl rfl rfl ?hy24 ?_
        case hy24 => exact Yl.bin rfl rfl rfl (Bin.geq _ _ _ _)
        refine TL.nil ?_
        refine TE.next ?_
        refine TC.cond rfl (fun hs14 => ?_) (fun hs14 => ?_)
        · skip
          (try simp only [decide_eq_true_eq, decide_eq_false_iff_not, beq_iff_eq, beq_eq_false_iff_ne, bne_iff_ne, ne_eq, bne_eq_false_iff_eq, Bool.not_eq_true', Bool.not_eq_false', Int.not_lt, Int.not_le, gt_iff_lt, ge_iff_le] at hs14)
          refine TC.seq ?_
          refine TC.region ?_
          refine' TL.y rfl rfl rfl ?hy25 ?_
          case hy25 => exact Yl.move rfl rfl
          refine' TL.y rfl rfl rfl ?hy26 ?_
          case hy26 => exact Yl.val (Yl.bin rfl rfl rfl (Bin.shr _ _ _ _ _ (by omega))) (congrArg (Value.int .u64) (show y / 2 ^ min (8 : Int).toNat IntKind.u64.bits = y / 256 from by rw [show min (8 : Int).toNat IntKind.u64.bits = 8 from by decide]; omega))
          refine' TL.y rfl rfl rfl ?hy27 ?_
          case hy27 => exact Yl.assign rfl rfl
          refine TL.nil ?_
          refine TE.next ?_
          refine TC.region ?_
          refine' TL.y rfl rfl rfl ?hy28 ?_
          case hy28 => exact Yl.move rfl rfl
          refine' TL.y rfl rfl rfl ?hy29 ?_
          case hy29 => exact Yl.val (Yl.bin rfl rfl rfl (Bin.add _ _ _ _)) (congrArg (Value.int .i64) (show IntKind.i64.wrap ((q : Int) + 8) = ((q + 8 : Nat) : Int) from by rw [i64in (by omega) (by omega)]; omega))
          refine' TL.y rfl rfl rfl ?hy30 ?_
          case hy30 => exact Yl.assign rfl rfl
          refine TL.nil ?_
          refine TE.met (y / 256, q + 8) ?hF31 ?hs31 ?hm31
          case hF31 => exact ⟨by dsimp only; omega, by dsimp only; omega, by dsimp only; omega, fun k hk => by have := h4 _ (hk.up_by 8 h1 (by omega)); rw [show k + (q + 8) = k + 8 + q by omega]; exact this⟩
          case hs31 => exact ⟨rfl, rfl, trivial⟩
          case hm31 => exact fun _ h => h
        · skip
          (try simp only [decide_eq_true_eq, decide_eq_false_iff_not, beq_iff_eq, beq_eq_false_iff_ne, bne_iff_ne, ne_eq, bne_eq_false_iff_eq, Bool.not_eq_true', Bool.not_eq_false', Int.not_lt, Int.not_le, gt_iff_lt, ge_iff_le] at hs14)
          refine TC.skip ?_
          refine TE.met (y, q) ?hF32 ?hs32 ?hm32
          case hF32 => exact ⟨h1, by dsimp only; omega, by dsimp only; omega, h4⟩
          case hs32 => exact ⟨rfl, rfl, trivial⟩
          case hm32 => exact fun _ h => h
      case hy22 =>
        rintro ⟨y, q⟩ ⟨h1, h2, h3, h4⟩
        dsimp only at h1 h2 h3 h4 ⊢
        obtain ⟨k, hk8, hkt, hkl⟩ := lenT_at h1 h2
        refine TC.seq ?_
        refine TC.region ?_
        refine' TL.y rfl rfl rfl ?hy33 ?_
        case hy33 => exact Yl.move rfl rfl
        refine' TL.y rfl rfl rfl ?hy34 ?_
        case hy34 => exact Yl.move rfl rfl
        refine' TL.y rfl rfl rfl ?hy35 ?_
        case hy35 => exact Yl.val (Yl.conv rfl rfl (by kernel_rfl) Try.underlying5) (congrArg (Value.int .u8) (show IntKind.u8.wrap y = y from by rw [show IntKind.u8.wrap y = y % 256 by simp [IntKind.wrap, IntKind.bits, IntKind.signed]]; omega))
        refine' TL.y rfl rfl rfl ?hy36 ?_
        case hy36 => exact Yl.indexStr (s := lenT) rfl rfl rfl Try.underlying9 (by omega) hkt
        refine' TL.y rfl rfl rfl ?hy37 ?_
        case hy37 => exact Yl.val (Yl.conv rfl rfl (by kernel_rfl) Try.underlying3) (congrArg (Value.int .i64) (lenW hk8))
        refine' TL.y rfl rfl rfl ?hy38 ?_
        case hy38 => exact Yl.val (Yl.bin rfl rfl rfl (Bin.add _ _ _ _)) (congrArg (Value.int .i64) (show IntKind.i64.wrap ((q : Int) + (k : Int)) = ((k + q : Nat) : Int) from by rw [i64in (by omega) (by omega)]; omega))
        refine' TL.y rfl rfl rfl ?hy39 ?_
        case hy39 => exact Yl.assign rfl rfl
        refine TL.nil ?_
        refine TE.next ?_
        refine TC.ret ?_
        refine TE.ret1 rfl rfl ?_
        exact fun w h => ⟨⟨k + q, h4 k hkl, by omega⟩, rfl, h.below⟩
set_option maxRecDepth 100000 in
set_option maxHeartbeats 2000000 in
theorem k_lz64 (W : World) {x : Int} (h0 : 0 ≤ x) (h1 : x < 18446744073709551616) : Calls Try.prog 34 #[.int .u64 x] W fun e w' => ∃ k : { k : Nat // IsLen x k ∧ k ≤ 64 }, e = .returned (.int .i64 ((64 - k.1 : Nat) : Int)) ∧ Below W.heap.size W w' := by
  have hM : Hp W (fun _ => False) [] W := Hp.start
  refine TC.enter (n := 6) Try.func34 rfl rfl rfl hM ?_
  refine TC.seq ?_
  refine TC.region ?_
  refine' TL.y rfl rfl rfl ?hy1 ?_
  case hy1 => exact Yl.assign rfl rfl
  refine TL.nil ?_
  refine TE.next ?_
  refine TC.seq ?_
  refine TC.region ?_
  refine' TL.y rfl rfl rfl ?hy2 ?_
  case hy2 => exact Yl.move rfl rfl
  refine' TL.c rfl rfl rfl ?hy3 ?_
  case hy3 => exact Yc.call rfl Try.func35 (by kernel_rfl) rfl rfl (Hp.callsx (fun w h => k_len64 w h0 h1))
  intro ⟨k, hk, hk64⟩
  dsimp only
  refine' TL.y rfl rfl rfl ?hy4 ?_
  case hy4 => exact Yl.val (Yl.bin rfl rfl rfl (Bin.sub _ _ _ _)) (congrArg (Value.int .i64) (show IntKind.i64.wrap (64 - (k : Int)) = ((64 - k : Nat) : Int) from by rw [i64in (by omega) (by omega)]; omega))
  refine' TL.y rfl rfl rfl ?hy5 ?_
  case hy5 => exact Yl.assign rfl rfl
  refine TL.nil ?_
  refine TE.next ?_
  refine TC.ret ?_
  refine TE.ret1 rfl rfl ?_
  exact fun w h => ⟨⟨k, hk, hk64⟩, rfl, h.below⟩
theorem and32 {x : Int} (h0 : 0 ≤ x) (h1 : x < 18446744073709551616) : Go.bits .and .u64 x 4294967295 = x % 4294967296 :=
  Go.bits_mask .u64 64 (by decide) (fun n h0 h1 => by rw [u64m]; omega) 32 (by decide) x h0 (by omega)
set_option maxRecDepth 100000 in
set_option maxHeartbeats 2000000 in
theorem k_mul64 (W : World) {a b : Int} (h0 : 0 ≤ a) (h1 : a ≤ 70368744177664) (h2 : 0 ≤ b) (h3 : b ≤ 70368744177664) : Calls Try.prog 31 #[.int .u64 a, .int .u64 b] W fun e w' => e = .returned (.tuple #[.int .u64 (a * b / 18446744073709551616), .int .u64 (a * b % 18446744073709551616)]) ∧ Below W.heap.size W w' := by
  obtain ⟨x0, hx0⟩ : ∃ z, a % 4294967296 = z := ⟨_, rfl⟩
  obtain ⟨x1, hx1⟩ : ∃ z, a / 4294967296 = z := ⟨_, rfl⟩
  obtain ⟨y0, hy0⟩ : ∃ z, b % 4294967296 = z := ⟨_, rfl⟩
  obtain ⟨y1, hy1⟩ : ∃ z, b / 4294967296 = z := ⟨_, rfl⟩
  have p00 := mul_bd (a := x0) (b := y0) (A := 4294967295) (B := 4294967295) (by omega) (by omega) (by omega) (by omega)
  have p10 := mul_bd (a := x1) (b := y0) (A := 16384) (B := 4294967295) (by omega) (by omega) (by omega) (by omega)
  have p01 := mul_bd (a := x0) (b := y1) (A := 4294967295) (B := 16384) (by omega) (by omega) (by omega) (by omega)
  have p11 := mul_bd (a := x1) (b := y1) (A := 16384) (B := 16384) (by omega) (by omega) (by omega) (by omega)
  have hab : a * b = x1 * y1 * 18446744073709551616 + (x1 * y0 + x0 * y1) * 4294967296 + x0 * y0 := by rw [← mul_four, show x1 * 4294967296 + x0 = a by omega, show y1 * 4294967296 + y0 = b by omega]
  obtain ⟨t, ht⟩ : ∃ z, x1 * y0 + x0 * y0 / 4294967296 = z := ⟨_, rfl⟩
  have hM : Hp W (fun _ => False) [] W := Hp.start
  refine TC.enter (n := 51) Try.func31 rfl rfl rfl hM ?_
  refine TC.seq ?_
  refine TC.region ?_
  refine' TL.y rfl rfl rfl ?hy1 ?_
  case hy1 => exact Yl.assign rfl rfl
  refine' TL.y rfl rfl rfl ?hy2 ?_
  case hy2 => exact Yl.assign rfl rfl
  refine TL.nil ?_
  refine TE.next ?_
  refine TC.seq ?_
  refine TC.region ?_
  refine' TL.y rfl rfl rfl ?hy3 ?_
  case hy3 => exact Yl.move rfl rfl
  refine' TL.y rfl rfl rfl ?hy4 ?_
  case hy4 => exact Yl.val (Yl.bin rfl rfl rfl (Bin.and _ _ _ _)) (congrArg (Value.int .u64) (show Go.bits .and .u64 a 4294967295 = x0 from (and32 h0 (by omega)).trans hx0))
  refine' TL.y rfl rfl rfl ?hy5 ?_
  case hy5 => exact Yl.assign rfl rfl
  refine TL.nil ?_
  refine TE.next ?_
  refine TC.seq ?_
  refine TC.region ?_
  refine' TL.y rfl rfl rfl ?hy6 ?_
  case hy6 => exact Yl.move rfl rfl
  refine' TL.y rfl rfl rfl ?hy7 ?_
  case hy7 => exact Yl.val (Yl.bin rfl rfl rfl (Bin.shr _ _ _ _ _ (by omega))) (congrArg (Value.int .u64) (show a / 2 ^ min (32 : Int).toNat IntKind.u64.bits = x1 from by rw [show min (32 : Int).toNat IntKind.u64.bits = 32 from by decide]; exact hx1))
  refine' TL.y rfl rfl rfl ?hy8 ?_
  case hy8 => exact Yl.assign rfl rfl
  refine TL.nil ?_
  refine TE.next ?_
  refine TC.seq ?_
  refine TC.region ?_
  refine' TL.y rfl rfl rfl ?hy9 ?_
  case hy9 => exact Yl.move rfl rfl
  refine' TL.y rfl rfl rfl ?hy10 ?_
  case hy10 => exact Yl.val (Yl.bin rfl rfl rfl (Bin.and _ _ _ _)) (congrArg (Value.int .u64) (show Go.bits .and .u64 b 4294967295 = y0 from (and32 h2 (by omega)).trans hy0))
  refine' TL.y rfl rfl rfl ?hy11 ?_
  case hy11 => exact Yl.assign rfl rfl
  refine TL.nil ?_
  refine TE.next ?_
  refine TC.seq ?_
  refine TC.region ?_
  refine' TL.y rfl rfl rfl ?hy12 ?_
  case hy12 => exact Yl.move rfl rfl
  refine' TL.y rfl rfl rfl ?hy13 ?_
  case hy13 => exact Yl.val (Yl.bin rfl rfl rfl (Bin.shr _ _ _ _ _ (by omega))) (congrArg (Value.int .u64) (show b / 2 ^ min (32 : Int).toNat IntKind.u64.bits = y1 from by rw [show min (32 : Int).toNat IntKind.u64.bits = 32 from by decide]; exact hy1))
  refine' TL.y rfl rfl rfl ?hy14 ?_
  case hy14 => exact Yl.assign rfl rfl
  refine TL.nil ?_
  refine TE.next ?_
  refine TC.seq ?_
  refine TC.region ?_
  refine' TL.y rfl rfl rfl ?hy15 ?_
  case hy15 => exact Yl.move rfl rfl
  refine' TL.y rfl rfl rfl ?hy16 ?_
  case hy16 => exact Yl.move rfl rfl
  refine' TL.y rfl rfl rfl ?hy17 ?_
  case hy17 => first | (refine Yl.val (Yl.bin rfl rfl rfl (Bin.mul _ _ _ _)) (congrArg (Value.int .u64) (u64in ?_ ?_)) <;> omega) | exact Yl.bin rfl rfl rfl (Bin.mul _ _ _ _)
  refine' TL.y rfl rfl rfl ?hy18 ?_
  case hy18 => exact Yl.assign rfl rfl
  refine TL.nil ?_
  refine TE.next ?_
  refine TC.seq ?_
  refine TC.region ?_
  refine' TL.y rfl rfl rfl ?hy19 ?_
  case hy19 => exact Yl.move rfl rfl
  refine' TL.y rfl rfl rfl ?hy20 ?_
  case hy20 => exact Yl.move rfl rfl
  refine' TL.y rfl rfl rfl ?hy21 ?_
  case hy21 => first | (refine Yl.val (Yl.bin rfl rfl rfl (Bin.mul _ _ _ _)) (congrArg (Value.int .u64) (u64in ?_ ?_)) <;> omega) | exact Yl.bin rfl rfl rfl (Bin.mul _ _ _ _)
  refine' TL.y rfl rfl rfl ?hy22 ?_
  case hy22 => exact Yl.move rfl rfl
  refine' TL.y rfl rfl rfl ?hy23 ?_
  case hy23 => exact Yl.val (Yl.bin rfl rfl rfl (Bin.shr _ _ _ _ _ (by omega))) (congrArg (Value.int .u64) (show x0 * y0 / 2 ^ min (32 : Int).toNat IntKind.u64.bits = x0 * y0 / 4294967296 from by rw [show min (32 : Int).toNat IntKind.u64.bits = 32 from by decide]; exact rfl))
  refine' TL.y rfl rfl rfl ?hy24 ?_
  case hy24 => exact Yl.val (Yl.bin rfl rfl rfl (Bin.add _ _ _ _)) (congrArg (Value.int .u64) (show IntKind.u64.wrap (x1 * y0 + x0 * y0 / 4294967296) = t from (u64in (by omega) (by omega)).trans ht))
  refine' TL.y rfl rfl rfl ?hy25 ?_
  case hy25 => exact Yl.assign rfl rfl
  refine TL.nil ?_
  refine TE.next ?_
  refine TC.seq ?_
  refine TC.region ?_
  refine' TL.y rfl rfl rfl ?hy26 ?_
  case hy26 => exact Yl.move rfl rfl
  refine' TL.y rfl rfl rfl ?hy27 ?_
  case hy27 => exact Yl.val (Yl.bin rfl rfl rfl (Bin.and _ _ _ _)) (congrArg (Value.int .u64) (show Go.bits .and .u64 t 4294967295 = t % 4294967296 from and32 (by omega) (by omega)))
  refine' TL.y rfl rfl rfl ?hy28 ?_
  case hy28 => exact Yl.assign rfl rfl
  refine TL.nil ?_
  refine TE.next ?_
  refine TC.seq ?_
  refine TC.region ?_
  refine' TL.y rfl rfl rfl ?hy29 ?_
  case hy29 => exact Yl.move rfl rfl
  refine' TL.y rfl rfl rfl ?hy30 ?_
  case hy30 => exact Yl.val (Yl.bin rfl rfl rfl (Bin.shr _ _ _ _ _ (by omega))) (congrArg (Value.int .u64) (show t / 2 ^ min (32 : Int).toNat IntKind.u64.bits = t / 4294967296 from by rw [show min (32 : Int).toNat IntKind.u64.bits = 32 from by decide]; exact rfl))
  refine' TL.y rfl rfl rfl ?hy31 ?_
  case hy31 => exact Yl.assign rfl rfl
  refine TL.nil ?_
  refine TE.next ?_
  refine TC.seq ?_
  refine TC.region ?_
  refine' TL.y rfl rfl rfl ?hy32 ?_
  case hy32 => exact Yl.move rfl rfl
  refine' TL.y rfl rfl rfl ?hy33 ?_
  case hy33 => exact Yl.move rfl rfl
  refine' TL.y rfl rfl rfl ?hy34 ?_
  case hy34 => exact Yl.move rfl rfl
  refine' TL.y rfl rfl rfl ?hy35 ?_
  case hy35 => first | (refine Yl.val (Yl.bin rfl rfl rfl (Bin.mul _ _ _ _)) (congrArg (Value.int .u64) (u64in ?_ ?_)) <;> omega) | exact Yl.bin rfl rfl rfl (Bin.mul _ _ _ _)
  refine' TL.y rfl rfl rfl ?hy36 ?_
  case hy36 => first | (refine Yl.val (Yl.bin rfl rfl rfl (Bin.add _ _ _ _)) (congrArg (Value.int .u64) (u64in ?_ ?_)) <;> omega) | exact Yl.bin rfl rfl rfl (Bin.add _ _ _ _)
  refine' TL.y rfl rfl rfl ?hy37 ?_
  case hy37 => exact Yl.assign rfl rfl
  refine TL.nil ?_
  refine TE.next ?_
  refine TC.seq ?_
  refine TC.region ?_
  refine' TL.y rfl rfl rfl ?hy38 ?_
  case hy38 => exact Yl.move rfl rfl
  refine' TL.y rfl rfl rfl ?hy39 ?_
  case hy39 => exact Yl.move rfl rfl
  refine' TL.y rfl rfl rfl ?hy40 ?_
  case hy40 => first | (refine Yl.val (Yl.bin rfl rfl rfl (Bin.mul _ _ _ _)) (congrArg (Value.int .u64) (u64in ?_ ?_)) <;> omega) | exact Yl.bin rfl rfl rfl (Bin.mul _ _ _ _)
  refine' TL.y rfl rfl rfl ?hy41 ?_
  case hy41 => exact Yl.move rfl rfl
  refine' TL.y rfl rfl rfl ?hy42 ?_
  case hy42 => first | (refine Yl.val (Yl.bin rfl rfl rfl (Bin.add _ _ _ _)) (congrArg (Value.int .u64) (u64in ?_ ?_)) <;> omega) | exact Yl.bin rfl rfl rfl (Bin.add _ _ _ _)
  refine' TL.y rfl rfl rfl ?hy43 ?_
  case hy43 => exact Yl.move rfl rfl
  refine' TL.y rfl rfl rfl ?hy44 ?_
  case hy44 => exact Yl.val (Yl.bin rfl rfl rfl (Bin.shr _ _ _ _ _ (by omega))) (congrArg (Value.int .u64) (show (t % 4294967296 + x0 * y1) / 2 ^ min (32 : Int).toNat IntKind.u64.bits = (t % 4294967296 + x0 * y1) / 4294967296 from by rw [show min (32 : Int).toNat IntKind.u64.bits = 32 from by decide]; exact rfl))
  refine' TL.y rfl rfl rfl ?hy45 ?_
  case hy45 => exact Yl.val (Yl.bin rfl rfl rfl (Bin.add _ _ _ _)) (congrArg (Value.int .u64) (show IntKind.u64.wrap (x1 * y1 + t / 4294967296 + (t % 4294967296 + x0 * y1) / 4294967296) = a * b / 18446744073709551616 from (u64in (by omega) (by omega)).trans (by omega)))
  refine' TL.y rfl rfl rfl ?hy46 ?_
  case hy46 => exact Yl.assign rfl rfl
  refine TL.nil ?_
  refine TE.next ?_
  refine TC.seq ?_
  refine TC.region ?_
  refine' TL.y rfl rfl rfl ?hy47 ?_
  case hy47 => exact Yl.move rfl rfl
  refine' TL.y rfl rfl rfl ?hy48 ?_
  case hy48 => exact Yl.move rfl rfl
  refine' TL.y rfl rfl rfl ?hy49 ?_
  case hy49 => exact Yl.val (Yl.bin rfl rfl rfl (Bin.mul _ _ _ _)) (congrArg (Value.int .u64) (u64m (a * b)))
  refine' TL.y rfl rfl rfl ?hy50 ?_
  case hy50 => exact Yl.assign rfl rfl
  refine TL.nil ?_
  refine TE.next ?_
  refine TC.ret ?_
  refine TE.ret2 rfl rfl rfl ?_
  exact fun w h => ⟨rfl, h.below⟩
set_option maxRecDepth 100000 in
set_option maxHeartbeats 2000000 in
theorem k_div64 (W : World) {hi lo y : Int} (hh0 : 0 ≤ hi) (hl0 : 0 ≤ lo) (hl1 : lo < 18446744073709551616) (hlt : hi < y) (hy64 : y < 18446744073709551616) : Calls Try.prog 32 #[.int .u64 hi, .int .u64 lo, .int .u64 y] W fun e w' => ∃ r : Int, e = .returned (.tuple #[.int .u64 ((hi * 18446744073709551616 + lo) / y), .int .u64 r]) ∧ Below W.heap.size W w' := by
  have hM : Hp W (fun _ => False) [] W := Hp.start
  refine TC.enter (n := 135) Try.func32 rfl rfl rfl hM ?_
  refine TC.seq ?_
  refine TC.region ?_
  refine' TL.y rfl rfl rfl ?hy1 ?_
  case hy1 => exact Yl.assign rfl rfl
  refine' TL.y rfl rfl rfl ?hy2 ?_
  case hy2 => exact Yl.assign rfl rfl
  refine TL.nil ?_
  refine TE.next ?_
  refine TC.seq ?_
  refine TC.seq ?_
  refine TC.region ?_
  refine' TL.y rfl rfl rfl ?hy3 ?_
  case hy3 => exact Yl.move rfl rfl
  refine' TL.y rfl rfl rfl ?hy4 ?_
  case hy4 => exact Yl.bin rfl rfl rfl (Bin.eql _ _ _ _)
  refine TL.nil ?_
  refine TE.next ?_
  refine TC.no rfl (by simp; omega) ?_
  refine TC.skip ?_
  refine TE.next ?_
  refine TC.seq ?_
  refine TC.seq ?_
  refine TC.region ?_
  refine' TL.y rfl rfl rfl ?hy5 ?_
  case hy5 => exact Yl.move rfl rfl
  refine' TL.y rfl rfl rfl ?hy6 ?_
  case hy6 => exact Yl.move rfl rfl
  refine' TL.y rfl rfl rfl ?hy7 ?_
  case hy7 => exact Yl.bin rfl rfl rfl (Bin.leq _ _ _ _)
  refine TL.nil ?_
  refine TE.next ?_
  refine TC.no rfl (by simp; omega) ?_
  refine TC.skip ?_
  refine TE.next ?_
  refine TC.seq ?_
  refine TC.seq ?_
  refine TC.region ?_
  refine' TL.y rfl rfl rfl ?hy8 ?_
  case hy8 => exact Yl.move rfl rfl
  refine' TL.y rfl rfl rfl ?hy9 ?_
  case hy9 => exact Yl.bin rfl rfl rfl (Bin.eql _ _ _ _)
  refine TL.nil ?_
  refine TE.next ?_
  refine TC.cond rfl (fun hs27 => ?_) (fun hs27 => ?_)
  · skip
    (try simp only [decide_eq_true_eq, decide_eq_false_iff_not, beq_iff_eq, beq_eq_false_iff_ne, bne_iff_ne, ne_eq, bne_eq_false_iff_eq, Bool.not_eq_true', Bool.not_eq_false', Int.not_lt, Int.not_le, gt_iff_lt, ge_iff_le] at hs27)
    have hi0 : hi = 0 := by omega
    have hq0 : 0 ≤ lo / y := Int.ediv_nonneg hl0 (by omega)
    have hq1 : lo / y ≤ lo := Int.ediv_le_self _ hl0
    refine TC.seq ?_
    refine TC.draw (k := 8) _ [] #[false, false, false, false, false, false, false, false] (by kernel_rfl) rfl rfl (fun _ h => h.drew) (fun _ h => h) ?_
    refine' TA.y (i := 0) #[true, false, false, false, false, false, false, false] rfl rfl rfl (by kernel_rfl) (fun _ _ _ h => h) (fun _ h => by exact Hp.sub h (by repeat (first | exact List.Sublist.refl _ | apply List.Sublist.cons))) rfl ?hy10 ?_
    case hy10 => exact Yl.move rfl rfl
    refine' TA.y (i := 1) #[true, true, false, false, false, false, false, false] rfl rfl rfl (by kernel_rfl) (fun _ _ _ h => h) (fun _ h => by exact Hp.sub h (by repeat (first | exact List.Sublist.refl _ | apply List.Sublist.cons))) rfl ?hy11 ?_
    case hy11 => exact Yl.move rfl rfl
    refine' TA.y (i := 2) #[true, true, true, false, false, false, false, false] rfl rfl rfl (by kernel_rfl) (fun _ _ _ h => h) (fun _ h => by exact Hp.sub h (by repeat (first | exact List.Sublist.refl _ | apply List.Sublist.cons))) rfl ?hy12 ?_
    case hy12 => exact Yl.val (Yl.bin rfl rfl rfl (Bin.quo _ _ _ _ (by omega))) (congrArg (Value.int .u64) (show IntKind.u64.wrap (lo.tdiv y) = lo / y from by rw [Int.tdiv_eq_ediv_of_nonneg hl0, u64in hq0 (by omega)]))
    refine' TA.y (i := 3) #[true, true, true, true, false, false, false, false] rfl rfl rfl (by kernel_rfl) (fun _ _ _ h => h) (fun _ h => by exact Hp.sub h (by repeat (first | exact List.Sublist.refl _ | apply List.Sublist.cons))) rfl ?hy13 ?_
    case hy13 => exact Yl.move rfl rfl
    refine' TA.y (i := 4) #[true, true, true, true, true, false, false, false] rfl rfl rfl (by kernel_rfl) (fun _ _ _ h => h) (fun _ h => by exact Hp.sub h (by repeat (first | exact List.Sublist.refl _ | apply List.Sublist.cons))) rfl ?hy14 ?_
    case hy14 => exact Yl.move rfl rfl
    refine' TA.y (i := 5) #[true, true, true, true, true, true, false, false] rfl rfl rfl (by kernel_rfl) (fun _ _ _ h => h) (fun _ h => by exact Hp.sub h (by repeat (first | exact List.Sublist.refl _ | apply List.Sublist.cons))) rfl ?hy15 ?_
    case hy15 => exact Yl.bin rfl rfl rfl (Bin.rem _ _ _ _ (by omega))
    refine' TA.y (i := 6) #[true, true, true, true, true, true, true, false] rfl rfl rfl (by kernel_rfl) (fun _ _ _ h => h) (fun _ h => by exact Hp.sub h (by repeat (first | exact List.Sublist.refl _ | apply List.Sublist.cons))) rfl ?hy16 ?_
    case hy16 => exact Yl.assign rfl rfl
    refine' TA.y (i := 7) #[true, true, true, true, true, true, true, true] rfl rfl rfl (by kernel_rfl) (fun _ _ _ h => h) (fun _ h => by exact Hp.sub h (by repeat (first | exact List.Sublist.refl _ | apply List.Sublist.cons))) rfl ?hy17 ?_
    case hy17 => exact Yl.assign rfl rfl
    refine TA.done (by kernel_rfl) ?_
    refine TE.next ?_
    refine TC.ret ?_
    refine TE.thenRet ?_
    refine TE.ret2 rfl rfl rfl ?_
    exact fun w h => ⟨_, by rw [hi0, Int.zero_mul, Int.zero_add], h.below⟩
  · skip
    (try simp only [decide_eq_true_eq, decide_eq_false_iff_not, beq_iff_eq, beq_eq_false_iff_ne, bne_iff_ne, ne_eq, bne_eq_false_iff_eq, Bool.not_eq_true', Bool.not_eq_false', Int.not_lt, Int.not_le, gt_iff_lt, ge_iff_le] at hs27)
    refine TC.skip ?_
    refine TE.next ?_
    refine TC.seq ?_
    refine TC.region ?_
    refine' TL.y rfl rfl rfl ?hy18 ?_
    case hy18 => exact Yl.move rfl rfl
    refine' TL.c rfl rfl rfl ?hy19 ?_
    case hy19 => exact Yc.call rfl Try.func34 (by kernel_rfl) rfl rfl (Hp.callsx (fun w h => k_lz64 w (by omega) hy64))
    intro ⟨k, hk, hk64⟩
    dsimp only
    have hyl := hk.low
    have hyu := hk.up
    have hk0 : 0 < k := by
      rcases Nat.eq_zero_or_pos k with e | e
      · subst e; simp at hyu; omega
      · exact e
    have hn := nrm (s := 64 - k) hh0 hl0 hl1 hlt (by omega) hyu (hyl hk0) hk0
    obtain ⟨s, hs⟩ : ∃ s, 64 - k = s := ⟨_, rfl⟩
    rw [hs] at hn ⊢
    have hs64 : s ≤ 64 := by omega
    obtain ⟨hK0, n1, n2, n3, n4, n5, n6, n7, n8, n9⟩ := hn
    obtain ⟨Y, hY⟩ : ∃ Y, y * 2 ^ s = Y := ⟨_, rfl⟩
    obtain ⟨u, hu⟩ : ∃ u, hi * 2 ^ s + lo * 2 ^ s / 18446744073709551616 = u := ⟨_, rfl⟩
    obtain ⟨z, hz⟩ : ∃ z, lo * 2 ^ s % 18446744073709551616 = z := ⟨_, rfl⟩
    rw [hY] at n1 n2 n8
    rw [hu] at n8 n9
    rw [hz] at n9
    obtain ⟨y1, hy1⟩ : ∃ x, Y / 4294967296 = x := ⟨_, rfl⟩
    obtain ⟨y0, hy0⟩ : ∃ x, Y % 4294967296 = x := ⟨_, rfl⟩
    obtain ⟨l1, hl1e⟩ : ∃ x, z / 4294967296 = x := ⟨_, rfl⟩
    obtain ⟨l0, hl0e⟩ : ∃ x, z % 4294967296 = x := ⟨_, rfl⟩
    have hYe : y1 * 4294967296 + y0 = Y := by omega
    have hp1 : DigP u l1 y1 y0 := ⟨by omega, by omega, by omega, by omega, by omega, by omega, by omega, by omega⟩
    have hu1 := hp1.start
    have hu2 : 0 ≤ u / y1 := hu1.1.q0
    have hu3 := hu1.1.r0
    have hu4 := hu1.1.q1
    have hu5 := hu1.2
    refine' TL.y rfl rfl rfl ?hy20 ?_
    case hy20 => exact Yl.val (Yl.conv rfl rfl (by kernel_rfl) Try.underlying55) (congrArg (Value.int .u64) (show IntKind.u64.wrap ((s : Nat) : Int) = (s : Int) from u64in (by omega) (by omega)))
    refine' TL.y rfl rfl rfl ?hy21 ?_
    case hy21 => exact Yl.assign rfl rfl
    refine TL.nil ?_
    refine TE.next ?_
    refine TC.seq ?_
    refine TC.region ?_
    refine' TL.y rfl rfl rfl ?hy22 ?_
    case hy22 => exact Yl.move rfl rfl
    refine' TL.y rfl rfl rfl ?hy23 ?_
    case hy23 => exact Yl.move rfl rfl
    refine' TL.y rfl rfl rfl ?hy24 ?_
    case hy24 => exact Yl.val (Yl.bin rfl rfl rfl (Bin.shl _ _ _ _ _ (by omega))) (congrArg (Value.int .u64) (show IntKind.u64.wrap (y * 2 ^ min ((s : Nat) : Int).toNat IntKind.u64.bits) = Y from by rw [show IntKind.u64.bits = 64 from rfl, Int.toNat_natCast, Nat.min_eq_left hs64, hY]; exact u64in (by omega) (by omega)))
    refine' TL.y rfl rfl rfl ?hy25 ?_
    case hy25 => exact Yl.assign rfl rfl
    refine TL.nil ?_
    refine TE.next ?_
    refine TC.seq ?_
    refine TC.region ?_
    refine' TL.y rfl rfl rfl ?hy26 ?_
    case hy26 => exact Yl.move rfl rfl
    refine' TL.y rfl rfl rfl ?hy27 ?_
    case hy27 => exact Yl.val (Yl.bin rfl rfl rfl (Bin.shr _ _ _ _ _ (by omega))) (congrArg (Value.int .u64) (show Y / 2 ^ min (32 : Int).toNat IntKind.u64.bits = y1 from by rw [show min (32 : Int).toNat IntKind.u64.bits = 32 from by decide]; exact hy1))
    refine' TL.y rfl rfl rfl ?hy28 ?_
    case hy28 => exact Yl.assign rfl rfl
    refine TL.nil ?_
    refine TE.next ?_
    refine TC.seq ?_
    refine TC.region ?_
    refine' TL.y rfl rfl rfl ?hy29 ?_
    case hy29 => exact Yl.move rfl rfl
    refine' TL.y rfl rfl rfl ?hy30 ?_
    case hy30 => exact Yl.val (Yl.bin rfl rfl rfl (Bin.and _ _ _ _)) (congrArg (Value.int .u64) (show Go.bits .and .u64 Y 4294967295 = y0 from (and32 (by omega) (by omega)).trans hy0))
    refine' TL.y rfl rfl rfl ?hy31 ?_
    case hy31 => exact Yl.assign rfl rfl
    refine TL.nil ?_
    refine TE.next ?_
    refine TC.seq ?_
    refine TC.region ?_
    refine' TL.y rfl rfl rfl ?hy32 ?_
    case hy32 => exact Yl.move rfl rfl
    refine' TL.y rfl rfl rfl ?hy33 ?_
    case hy33 => exact Yl.move rfl rfl
    refine' TL.y rfl rfl rfl ?hy34 ?_
    case hy34 => exact Yl.val (Yl.bin rfl rfl rfl (Bin.shl _ _ _ _ _ (by omega))) (congrArg (Value.int .u64) (show IntKind.u64.wrap (hi * 2 ^ min ((s : Nat) : Int).toNat IntKind.u64.bits) = hi * 2 ^ s from by rw [show IntKind.u64.bits = 64 from rfl, Int.toNat_natCast, Nat.min_eq_left hs64]; exact u64in n3 n4))
    refine' TL.y rfl rfl rfl ?hy35 ?_
    case hy35 => exact Yl.move rfl rfl
    refine' TL.y rfl rfl rfl ?hy36 ?_
    case hy36 => exact Yl.move rfl rfl
    refine' TL.y rfl rfl rfl ?hy37 ?_
    case hy37 => exact Yl.val (Yl.bin rfl rfl rfl (Bin.sub _ _ _ _)) (congrArg (Value.int .u64) (show IntKind.u64.wrap (64 - (s : Int)) = ((64 - s : Nat) : Int) from (u64in (by omega) (by omega)).trans (by omega)))
    refine' TL.y rfl rfl rfl ?hy38 ?_
    case hy38 => exact Yl.val (Yl.bin rfl rfl rfl (Bin.shr _ _ _ _ _ (by omega))) (congrArg (Value.int .u64) ((shr64 (x := lo) (s := 64 - s) (by omega)).trans n5))
    refine' TL.y rfl rfl rfl ?hy39 ?_
    case hy39 => exact Yl.val (Yl.bin rfl rfl rfl (Bin.or _ _ _ _)) (congrArg (Value.int .u64) ((orU (lo * 2 ^ s / 18446744073709551616) hi s n7 n6 (by omega) hh0 n4).2.trans hu))
    refine' TL.y rfl rfl rfl ?hy40 ?_
    case hy40 => exact Yl.assign rfl rfl
    refine TL.nil ?_
    refine TE.next ?_
    refine TC.seq ?_
    refine TC.region ?_
    refine' TL.y rfl rfl rfl ?hy41 ?_
    case hy41 => exact Yl.move rfl rfl
    refine' TL.y rfl rfl rfl ?hy42 ?_
    case hy42 => exact Yl.move rfl rfl
    refine' TL.y rfl rfl rfl ?hy43 ?_
    case hy43 => exact Yl.val (Yl.bin rfl rfl rfl (Bin.shl _ _ _ _ _ (by omega))) (congrArg (Value.int .u64) (show IntKind.u64.wrap (lo * 2 ^ min ((s : Nat) : Int).toNat IntKind.u64.bits) = z from by rw [show IntKind.u64.bits = 64 from rfl, Int.toNat_natCast, Nat.min_eq_left hs64, u64m, hz]))
    refine' TL.y rfl rfl rfl ?hy44 ?_
    case hy44 => exact Yl.assign rfl rfl
    refine TL.nil ?_
    refine TE.next ?_
    refine TC.seq ?_
    refine TC.region ?_
    refine' TL.y rfl rfl rfl ?hy45 ?_
    case hy45 => exact Yl.move rfl rfl
    refine' TL.y rfl rfl rfl ?hy46 ?_
    case hy46 => exact Yl.val (Yl.bin rfl rfl rfl (Bin.shr _ _ _ _ _ (by omega))) (congrArg (Value.int .u64) (show z / 2 ^ min (32 : Int).toNat IntKind.u64.bits = l1 from by rw [show min (32 : Int).toNat IntKind.u64.bits = 32 from by decide]; exact hl1e))
    refine' TL.y rfl rfl rfl ?hy47 ?_
    case hy47 => exact Yl.assign rfl rfl
    refine TL.nil ?_
    refine TE.next ?_
    refine TC.seq ?_
    refine TC.region ?_
    refine' TL.y rfl rfl rfl ?hy48 ?_
    case hy48 => exact Yl.move rfl rfl
    refine' TL.y rfl rfl rfl ?hy49 ?_
    case hy49 => exact Yl.val (Yl.bin rfl rfl rfl (Bin.and _ _ _ _)) (congrArg (Value.int .u64) (show Go.bits .and .u64 z 4294967295 = l0 from (and32 (by omega) (by omega)).trans hl0e))
    refine' TL.y rfl rfl rfl ?hy50 ?_
    case hy50 => exact Yl.assign rfl rfl
    refine TL.nil ?_
    refine TE.next ?_
    refine TC.seq ?_
    refine TC.region ?_
    refine' TL.y rfl rfl rfl ?hy51 ?_
    case hy51 => exact Yl.move rfl rfl
    refine' TL.y rfl rfl rfl ?hy52 ?_
    case hy52 => exact Yl.move rfl rfl
    refine' TL.y rfl rfl rfl ?hy53 ?_
    case hy53 => exact Yl.val (Yl.bin rfl rfl rfl (Bin.quo _ _ _ _ (by omega))) (congrArg (Value.int .u64) (show IntKind.u64.wrap (u.tdiv y1) = u / y1 from by rw [Int.tdiv_eq_ediv_of_nonneg (by omega)]; exact u64in (by omega) (by omega)))
    refine' TL.y rfl rfl rfl ?hy54 ?_
    case hy54 => exact Yl.assign rfl rfl
    refine TL.nil ?_
    refine TE.next ?_
    refine TC.seq ?_
    refine TC.region ?_
    refine' TL.y rfl rfl rfl ?hy55 ?_
    case hy55 => exact Yl.move rfl rfl
    refine' TL.y rfl rfl rfl ?hy56 ?_
    case hy56 => exact Yl.move rfl rfl
    refine' TL.y rfl rfl rfl ?hy57 ?_
    case hy57 => exact Yl.move rfl rfl
    refine' TL.y rfl rfl rfl ?hy58 ?_
    case hy58 => first | (refine Yl.val (Yl.bin rfl rfl rfl (Bin.mul _ _ _ _)) (congrArg (Value.int .u64) (u64in ?_ ?_)) <;> omega) | exact Yl.bin rfl rfl rfl (Bin.mul _ _ _ _)
    refine' TL.y rfl rfl rfl ?hy59 ?_
    case hy59 => exact Yl.val (Yl.bin rfl rfl rfl (Bin.sub _ _ _ _)) (congrArg (Value.int .u64) (show IntKind.u64.wrap (u - IntKind.u64.wrap (u / y1 * y1)) = u - u / y1 * y1 from by simp only [u64m]; omega))
    refine' TL.y rfl rfl rfl ?hy60 ?_
    case hy60 => exact Yl.assign rfl rfl
    refine TL.nil ?_
    refine TE.next ?_
    refine TC.meet (σ := Int) (fun q => [(2, .int .u64 Y), (8, .int .u64 (s : Int)), (9, .int .u64 y1), (10, .int .u64 y0), (11, .int .u64 u), (12, .int .u64 z), (13, .int .u64 l1), (14, .int .u64 l0), (15, .int .u64 q)]) (fun q => Hp W (fun _ => False) []) (fun q => q < 4294967296 ∧ 0 ≤ q ∧ q * (y1 * 4294967296 + y0) ≤ u * 4294967296 + l1 ∧ u * 4294967296 + l1 - q * (y1 * 4294967296 + y0) < y1 * 4294967296 + y0) ?hx61 ?hy61
    case hx61 =>
      refine TC.block ?_
      refine TC.loop (σ := Int × Int) (fun x => [(2, .int .u64 Y), (8, .int .u64 (s : Int)), (9, .int .u64 y1), (10, .int .u64 y0), (11, .int .u64 u), (12, .int .u64 z), (13, .int .u64 l1), (14, .int .u64 l0), (15, .int .u64 x.1), (16, .int .u64 x.2)]) (fun x => Hp W (fun _ => False) []) (fun x => Dig u l1 y1 y0 x.1 x.2 ∧ x.2 < 4294967296) (fun x => x.1.toNat) (u / y1, u - u / y1 * y1) ?hF62 ?hs62 ?hm62 ?round62
      case hF62 => exact ⟨hp1.start.1, by have := hp1.start.2; dsimp only; omega⟩
      case hs62 => exact ⟨rfl, rfl, rfl, rfl, rfl, rfl, rfl, rfl, rfl, rfl, trivial⟩
      case hm62 => exact fun _ h => h
      case round62 =>
        rintro ⟨q, r⟩ ⟨hd, hr⟩
        dsimp only at hd hr ⊢
        have hq0 := hd.q0
        have hq1 := hd.q1
        have hr0 := hd.r0
        refine TC.seq ?_
        refine TC.seq ?_
        refine TC.region ?_
        refine' TL.y rfl rfl rfl ?hy63 ?_
        case hy63 => exact Yl.move rfl rfl
        refine' TL.y rfl rfl rfl ?hy64 ?_
        case hy64 => exact Yl.bin rfl rfl rfl (Bin.geq _ _ _ _)
        refine' TL.y rfl rfl rfl ?hy65 ?_
        case hy65 => exact Yl.move rfl rfl
        refine TL.split (i := 69) rfl (fun hs69 => ?_) (fun hs69 => ?_)
        · skip
          (try simp only [decide_eq_true_eq, decide_eq_false_iff_not, beq_iff_eq, beq_eq_false_iff_ne, bne_iff_ne, ne_eq, bne_eq_false_iff_eq, Bool.not_eq_true', Bool.not_eq_false', Int.not_lt, Int.not_le, gt_iff_lt, ge_iff_le] at hs69)
          have hst := hp1.step hd (by omega)
          refine TL.skip rfl rfl rfl ?_
          refine TL.skip rfl rfl rfl ?_
          refine TL.skip rfl rfl rfl ?_
          refine TL.skip rfl rfl rfl ?_
          refine TL.skip rfl rfl rfl ?_
          refine TL.skip rfl rfl rfl ?_
          refine TL.skip rfl rfl rfl ?_
          refine TL.skip rfl rfl rfl ?_
          refine' TL.y rfl rfl rfl ?hy66 ?_
          case hy66 => exact Yl.pickT rfl rfl rfl
          refine TL.nil ?_
          refine TE.next ?_
          refine TC.yes rfl rfl ?_
          refine TC.skip ?_
          refine TE.next ?_
          refine TC.block ?_
          refine TC.seq ?_
          refine TC.region ?_
          refine' TL.y rfl rfl rfl ?hy67 ?_
          case hy67 => exact Yl.move rfl rfl
          refine' TL.y rfl rfl rfl ?hy68 ?_
          case hy68 => first | (refine Yl.val (Yl.bin rfl rfl rfl (Bin.sub _ _ _ _)) (congrArg (Value.int .u64) (u64in ?_ ?_)) <;> omega) | exact Yl.bin rfl rfl rfl (Bin.sub _ _ _ _)
          refine' TL.y rfl rfl rfl ?hy69 ?_
          case hy69 => exact Yl.assign rfl rfl
          refine TL.nil ?_
          refine TE.next ?_
          refine TC.seq ?_
          refine TC.region ?_
          refine' TL.y rfl rfl rfl ?hy70 ?_
          case hy70 => exact Yl.move rfl rfl
          refine' TL.y rfl rfl rfl ?hy71 ?_
          case hy71 => exact Yl.move rfl rfl
          refine' TL.y rfl rfl rfl ?hy72 ?_
          case hy72 => first | (refine Yl.val (Yl.bin rfl rfl rfl (Bin.add _ _ _ _)) (congrArg (Value.int .u64) (u64in ?_ ?_)) <;> omega) | exact Yl.bin rfl rfl rfl (Bin.add _ _ _ _)
          refine' TL.y rfl rfl rfl ?hy73 ?_
          case hy73 => exact Yl.assign rfl rfl
          refine TL.nil ?_
          refine TE.next ?_
          refine TC.seq ?_
          refine TC.region ?_
          refine' TL.y rfl rfl rfl ?hy74 ?_
          case hy74 => exact Yl.move rfl rfl
          refine' TL.y rfl rfl rfl ?hy75 ?_
          case hy75 => exact Yl.bin rfl rfl rfl (Bin.geq _ _ _ _)
          refine TL.nil ?_
          refine TE.next ?_
          refine TC.cond rfl (fun hs85 => ?_) (fun hs85 => ?_)
          · skip
            (try simp only [decide_eq_true_eq, decide_eq_false_iff_not, beq_iff_eq, beq_eq_false_iff_ne, bne_iff_ne, ne_eq, bne_eq_false_iff_eq, Bool.not_eq_true', Bool.not_eq_false', Int.not_lt, Int.not_le, gt_iff_lt, ge_iff_le] at hs85)
            refine TC.exit ?_
            refine TE.inOut (by rfl) ?_
            refine TE.thenExit ?_
            refine TE.inHere ?_
            refine TE.met (q - 1) ?hF76 ?hs76 ?hm76
            case hF76 => exact ⟨(hp1.done hst.1 (.inr ⟨by omega, by omega⟩)).1, hst.1.q0, (hp1.done hst.1 (.inr ⟨by omega, by omega⟩)).2⟩
            case hs76 => exact ⟨rfl, rfl, rfl, rfl, rfl, rfl, rfl, rfl, rfl, trivial⟩
            case hm76 => exact fun _ h => h
          · skip
            (try simp only [decide_eq_true_eq, decide_eq_false_iff_not, beq_iff_eq, beq_eq_false_iff_ne, bne_iff_ne, ne_eq, bne_eq_false_iff_eq, Bool.not_eq_true', Bool.not_eq_false', Int.not_lt, Int.not_le, gt_iff_lt, ge_iff_le] at hs85)
            refine TC.skip ?_
            refine TE.inNormal ?_
            refine TE.round (q - 1, r + y1) ?hF77 ?hlt77 ?hs77 ?hm77
            case hF77 => exact ⟨hst.1, by dsimp only; omega⟩
            case hlt77 => dsimp only; omega
            case hs77 => exact ⟨rfl, rfl, rfl, rfl, rfl, rfl, rfl, rfl, rfl, rfl, trivial⟩
            case hm77 => exact fun _ h => h
        · skip
          (try simp only [decide_eq_true_eq, decide_eq_false_iff_not, beq_iff_eq, beq_eq_false_iff_ne, bne_iff_ne, ne_eq, bne_eq_false_iff_eq, Bool.not_eq_true', Bool.not_eq_false', Int.not_lt, Int.not_le, gt_iff_lt, ge_iff_le] at hs69)
          have hb := mul_bd (a := q) (b := y0) (A := 4294967295) (B := 4294967295) hq0 (by omega) (by omega) (by omega)
          refine' TL.y rfl rfl rfl ?hy78 ?_
          case hy78 => exact Yl.move rfl rfl
          refine' TL.y rfl rfl rfl ?hy79 ?_
          case hy79 => exact Yl.move rfl rfl
          refine' TL.y rfl rfl rfl ?hy80 ?_
          case hy80 => first | (refine Yl.val (Yl.bin rfl rfl rfl (Bin.mul _ _ _ _)) (congrArg (Value.int .u64) (u64in ?_ ?_)) <;> omega) | exact Yl.bin rfl rfl rfl (Bin.mul _ _ _ _)
          refine' TL.y rfl rfl rfl ?hy81 ?_
          case hy81 => exact Yl.move rfl rfl
          refine' TL.y rfl rfl rfl ?hy82 ?_
          case hy82 => first | (refine Yl.val (Yl.bin rfl rfl rfl (Bin.mul _ _ _ _)) (congrArg (Value.int .u64) (u64in ?_ ?_)) <;> omega) | exact Yl.bin rfl rfl rfl (Bin.mul _ _ _ _)
          refine' TL.y rfl rfl rfl ?hy83 ?_
          case hy83 => exact Yl.move rfl rfl
          refine' TL.y rfl rfl rfl ?hy84 ?_
          case hy84 => first | (refine Yl.val (Yl.bin rfl rfl rfl (Bin.add _ _ _ _)) (congrArg (Value.int .u64) (u64in ?_ ?_)) <;> omega) | exact Yl.bin rfl rfl rfl (Bin.add _ _ _ _)
          refine' TL.y rfl rfl rfl ?hy85 ?_
          case hy85 => exact Yl.bin rfl rfl rfl (Bin.gtr _ _ _ _)
          refine' TL.y rfl rfl rfl ?hy86 ?_
          case hy86 => exact Yl.pickF rfl rfl rfl
          refine TL.nil ?_
          refine TE.next ?_
          refine TC.cond rfl (fun hs78 => ?_) (fun hs78 => ?_)
          · skip
            (try simp only [decide_eq_true_eq, decide_eq_false_iff_not, beq_iff_eq, beq_eq_false_iff_ne, bne_iff_ne, ne_eq, bne_eq_false_iff_eq, Bool.not_eq_true', Bool.not_eq_false', Int.not_lt, Int.not_le, gt_iff_lt, ge_iff_le] at hs78)
            have hst := hp1.step hd (by omega)
            refine TC.skip ?_
            refine TE.next ?_
            refine TC.block ?_
            refine TC.seq ?_
            refine TC.region ?_
            refine' TL.y rfl rfl rfl ?hy87 ?_
            case hy87 => exact Yl.move rfl rfl
            refine' TL.y rfl rfl rfl ?hy88 ?_
            case hy88 => first | (refine Yl.val (Yl.bin rfl rfl rfl (Bin.sub _ _ _ _)) (congrArg (Value.int .u64) (u64in ?_ ?_)) <;> omega) | exact Yl.bin rfl rfl rfl (Bin.sub _ _ _ _)
            refine' TL.y rfl rfl rfl ?hy89 ?_
            case hy89 => exact Yl.assign rfl rfl
            refine TL.nil ?_
            refine TE.next ?_
            refine TC.seq ?_
            refine TC.region ?_
            refine' TL.y rfl rfl rfl ?hy90 ?_
            case hy90 => exact Yl.move rfl rfl
            refine' TL.y rfl rfl rfl ?hy91 ?_
            case hy91 => exact Yl.move rfl rfl
            refine' TL.y rfl rfl rfl ?hy92 ?_
            case hy92 => first | (refine Yl.val (Yl.bin rfl rfl rfl (Bin.add _ _ _ _)) (congrArg (Value.int .u64) (u64in ?_ ?_)) <;> omega) | exact Yl.bin rfl rfl rfl (Bin.add _ _ _ _)
            refine' TL.y rfl rfl rfl ?hy93 ?_
            case hy93 => exact Yl.assign rfl rfl
            refine TL.nil ?_
            refine TE.next ?_
            refine TC.seq ?_
            refine TC.region ?_
            refine' TL.y rfl rfl rfl ?hy94 ?_
            case hy94 => exact Yl.move rfl rfl
            refine' TL.y rfl rfl rfl ?hy95 ?_
            case hy95 => exact Yl.bin rfl rfl rfl (Bin.geq _ _ _ _)
            refine TL.nil ?_
            refine TE.next ?_
            refine TC.cond rfl (fun hs85 => ?_) (fun hs85 => ?_)
            · skip
              (try simp only [decide_eq_true_eq, decide_eq_false_iff_not, beq_iff_eq, beq_eq_false_iff_ne, bne_iff_ne, ne_eq, bne_eq_false_iff_eq, Bool.not_eq_true', Bool.not_eq_false', Int.not_lt, Int.not_le, gt_iff_lt, ge_iff_le] at hs85)
              refine TC.exit ?_
              refine TE.inOut (by rfl) ?_
              refine TE.thenExit ?_
              refine TE.inHere ?_
              refine TE.met (q - 1) ?hF96 ?hs96 ?hm96
              case hF96 => exact ⟨(hp1.done hst.1 (.inr ⟨by omega, by omega⟩)).1, hst.1.q0, (hp1.done hst.1 (.inr ⟨by omega, by omega⟩)).2⟩
              case hs96 => exact ⟨rfl, rfl, rfl, rfl, rfl, rfl, rfl, rfl, rfl, trivial⟩
              case hm96 => exact fun _ h => h
            · skip
              (try simp only [decide_eq_true_eq, decide_eq_false_iff_not, beq_iff_eq, beq_eq_false_iff_ne, bne_iff_ne, ne_eq, bne_eq_false_iff_eq, Bool.not_eq_true', Bool.not_eq_false', Int.not_lt, Int.not_le, gt_iff_lt, ge_iff_le] at hs85)
              refine TC.skip ?_
              refine TE.inNormal ?_
              refine TE.round (q - 1, r + y1) ?hF97 ?hlt97 ?hs97 ?hm97
              case hF97 => exact ⟨hst.1, by dsimp only; omega⟩
              case hlt97 => dsimp only; omega
              case hs97 => exact ⟨rfl, rfl, rfl, rfl, rfl, rfl, rfl, rfl, rfl, rfl, trivial⟩
              case hm97 => exact fun _ h => h
          · skip
            (try simp only [decide_eq_true_eq, decide_eq_false_iff_not, beq_iff_eq, beq_eq_false_iff_ne, bne_iff_ne, ne_eq, bne_eq_false_iff_eq, Bool.not_eq_true', Bool.not_eq_false', Int.not_lt, Int.not_le, gt_iff_lt, ge_iff_le] at hs78)
            refine TC.exit ?_
            refine TE.thenExit ?_
            refine TE.thenExit ?_
            refine TE.inHere ?_
            refine TE.met q ?hF98 ?hs98 ?hm98
            case hF98 => exact ⟨(hp1.done hd (.inl ⟨by omega, by omega⟩)).1, hq0, (hp1.done hd (.inl ⟨by omega, by omega⟩)).2⟩
            case hs98 => exact ⟨rfl, rfl, rfl, rfl, rfl, rfl, rfl, rfl, rfl, trivial⟩
            case hm98 => exact fun _ h => h
    case hy61 =>
      rintro q1 ⟨g1, g0, g2, g3⟩
      rw [hYe] at g2 g3
      obtain ⟨v, hv⟩ : ∃ v, u * 4294967296 + l1 - q1 * Y = v := ⟨_, rfl⟩
      have hp2 : DigP v l0 y1 y0 := ⟨by omega, by omega, by omega, by omega, by omega, by omega, by omega, by omega⟩
      have hv1 := hp2.start
      have hv2 : 0 ≤ v / y1 := hv1.1.q0
      have hv3 := hv1.1.r0
      have hv4 := hv1.1.q1
      have hv5 := hv1.2
      refine TC.seq ?_
      refine TC.region ?_
      refine' TL.y rfl rfl rfl ?hy99 ?_
      case hy99 => exact Yl.move rfl rfl
      refine' TL.y rfl rfl rfl ?hy100 ?_
      case hy100 => first | (refine Yl.val (Yl.bin rfl rfl rfl (Bin.mul _ _ _ _)) (congrArg (Value.int .u64) (u64in ?_ ?_)) <;> omega) | exact Yl.bin rfl rfl rfl (Bin.mul _ _ _ _)
      refine' TL.y rfl rfl rfl ?hy101 ?_
      case hy101 => exact Yl.move rfl rfl
      refine' TL.y rfl rfl rfl ?hy102 ?_
      case hy102 => first | (refine Yl.val (Yl.bin rfl rfl rfl (Bin.add _ _ _ _)) (congrArg (Value.int .u64) (u64in ?_ ?_)) <;> omega) | exact Yl.bin rfl rfl rfl (Bin.add _ _ _ _)
      refine' TL.y rfl rfl rfl ?hy103 ?_
      case hy103 => exact Yl.move rfl rfl
      refine' TL.y rfl rfl rfl ?hy104 ?_
      case hy104 => exact Yl.move rfl rfl
      refine' TL.y rfl rfl rfl ?hy105 ?_
      case hy105 => first | (refine Yl.val (Yl.bin rfl rfl rfl (Bin.mul _ _ _ _)) (congrArg (Value.int .u64) (u64in ?_ ?_)) <;> omega) | exact Yl.bin rfl rfl rfl (Bin.mul _ _ _ _)
      refine' TL.y rfl rfl rfl ?hy106 ?_
      case hy106 => exact Yl.val (Yl.bin rfl rfl rfl (Bin.sub _ _ _ _)) (congrArg (Value.int .u64) (show IntKind.u64.wrap (IntKind.u64.wrap (IntKind.u64.wrap (u * 4294967296) + l1) - IntKind.u64.wrap (q1 * Y)) = v from by simp only [u64m]; omega))
      refine' TL.y rfl rfl rfl ?hy107 ?_
      case hy107 => exact Yl.assign rfl rfl
      refine TL.nil ?_
      refine TE.next ?_
      refine TC.seq ?_
      refine TC.region ?_
      refine' TL.y rfl rfl rfl ?hy108 ?_
      case hy108 => exact Yl.move rfl rfl
      refine' TL.y rfl rfl rfl ?hy109 ?_
      case hy109 => exact Yl.move rfl rfl
      refine' TL.y rfl rfl rfl ?hy110 ?_
      case hy110 => exact Yl.val (Yl.bin rfl rfl rfl (Bin.quo _ _ _ _ (by omega))) (congrArg (Value.int .u64) (show IntKind.u64.wrap (v.tdiv y1) = v / y1 from by rw [Int.tdiv_eq_ediv_of_nonneg (by omega)]; exact u64in (by omega) (by omega)))
      refine' TL.y rfl rfl rfl ?hy111 ?_
      case hy111 => exact Yl.assign rfl rfl
      refine TL.nil ?_
      refine TE.next ?_
      refine TC.seq ?_
      refine TC.region ?_
      refine' TL.y rfl rfl rfl ?hy112 ?_
      case hy112 => exact Yl.move rfl rfl
      refine' TL.y rfl rfl rfl ?hy113 ?_
      case hy113 => exact Yl.move rfl rfl
      refine' TL.y rfl rfl rfl ?hy114 ?_
      case hy114 => exact Yl.move rfl rfl
      refine' TL.y rfl rfl rfl ?hy115 ?_
      case hy115 => first | (refine Yl.val (Yl.bin rfl rfl rfl (Bin.mul _ _ _ _)) (congrArg (Value.int .u64) (u64in ?_ ?_)) <;> omega) | exact Yl.bin rfl rfl rfl (Bin.mul _ _ _ _)
      refine' TL.y rfl rfl rfl ?hy116 ?_
      case hy116 => exact Yl.val (Yl.bin rfl rfl rfl (Bin.sub _ _ _ _)) (congrArg (Value.int .u64) (show IntKind.u64.wrap (v - IntKind.u64.wrap (v / y1 * y1)) = v - v / y1 * y1 from by simp only [u64m]; omega))
      refine' TL.y rfl rfl rfl ?hy117 ?_
      case hy117 => exact Yl.assign rfl rfl
      refine TL.nil ?_
      refine TE.next ?_
      refine TC.meet (σ := Int) (fun q => [(2, .int .u64 Y), (8, .int .u64 (s : Int)), (9, .int .u64 y1), (10, .int .u64 y0), (11, .int .u64 u), (12, .int .u64 z), (13, .int .u64 l1), (14, .int .u64 l0), (15, .int .u64 q1), (17, .int .u64 v), (18, .int .u64 q)]) (fun q => Hp W (fun _ => False) []) (fun q => q < 4294967296 ∧ 0 ≤ q ∧ q * (y1 * 4294967296 + y0) ≤ v * 4294967296 + l0 ∧ v * 4294967296 + l0 - q * (y1 * 4294967296 + y0) < y1 * 4294967296 + y0) ?hx118 ?hy118
      case hx118 =>
        refine TC.block ?_
        refine TC.loop (σ := Int × Int) (fun x => [(2, .int .u64 Y), (8, .int .u64 (s : Int)), (9, .int .u64 y1), (10, .int .u64 y0), (11, .int .u64 u), (12, .int .u64 z), (13, .int .u64 l1), (14, .int .u64 l0), (15, .int .u64 q1), (17, .int .u64 v), (18, .int .u64 x.1), (16, .int .u64 x.2)]) (fun x => Hp W (fun _ => False) []) (fun x => Dig v l0 y1 y0 x.1 x.2 ∧ x.2 < 4294967296) (fun x => x.1.toNat) (v / y1, v - v / y1 * y1) ?hF119 ?hs119 ?hm119 ?round119
        case hF119 => exact ⟨hp2.start.1, by have := hp2.start.2; dsimp only; omega⟩
        case hs119 => exact ⟨rfl, rfl, rfl, rfl, rfl, rfl, rfl, rfl, rfl, rfl, rfl, rfl, trivial⟩
        case hm119 => exact fun _ h => h
        case round119 =>
          rintro ⟨q, r⟩ ⟨hd, hr⟩
          dsimp only at hd hr ⊢
          have hq0 := hd.q0
          have hq1 := hd.q1
          have hr0 := hd.r0
          refine TC.seq ?_
          refine TC.seq ?_
          refine TC.region ?_
          refine' TL.y rfl rfl rfl ?hy120 ?_
          case hy120 => exact Yl.move rfl rfl
          refine' TL.y rfl rfl rfl ?hy121 ?_
          case hy121 => exact Yl.bin rfl rfl rfl (Bin.geq _ _ _ _)
          refine' TL.y rfl rfl rfl ?hy122 ?_
          case hy122 => exact Yl.move rfl rfl
          refine TL.split (i := 104) rfl (fun hs104 => ?_) (fun hs104 => ?_)
          · skip
            (try simp only [decide_eq_true_eq, decide_eq_false_iff_not, beq_iff_eq, beq_eq_false_iff_ne, bne_iff_ne, ne_eq, bne_eq_false_iff_eq, Bool.not_eq_true', Bool.not_eq_false', Int.not_lt, Int.not_le, gt_iff_lt, ge_iff_le] at hs104)
            have hst := hp2.step hd (by omega)
            refine TL.skip rfl rfl rfl ?_
            refine TL.skip rfl rfl rfl ?_
            refine TL.skip rfl rfl rfl ?_
            refine TL.skip rfl rfl rfl ?_
            refine TL.skip rfl rfl rfl ?_
            refine TL.skip rfl rfl rfl ?_
            refine TL.skip rfl rfl rfl ?_
            refine TL.skip rfl rfl rfl ?_
            refine' TL.y rfl rfl rfl ?hy123 ?_
            case hy123 => exact Yl.pickT rfl rfl rfl
            refine TL.nil ?_
            refine TE.next ?_
            refine TC.yes rfl rfl ?_
            refine TC.skip ?_
            refine TE.next ?_
            refine TC.block ?_
            refine TC.seq ?_
            refine TC.region ?_
            refine' TL.y rfl rfl rfl ?hy124 ?_
            case hy124 => exact Yl.move rfl rfl
            refine' TL.y rfl rfl rfl ?hy125 ?_
            case hy125 => first | (refine Yl.val (Yl.bin rfl rfl rfl (Bin.sub _ _ _ _)) (congrArg (Value.int .u64) (u64in ?_ ?_)) <;> omega) | exact Yl.bin rfl rfl rfl (Bin.sub _ _ _ _)
            refine' TL.y rfl rfl rfl ?hy126 ?_
            case hy126 => exact Yl.assign rfl rfl
            refine TL.nil ?_
            refine TE.next ?_
            refine TC.seq ?_
            refine TC.region ?_
            refine' TL.y rfl rfl rfl ?hy127 ?_
            case hy127 => exact Yl.move rfl rfl
            refine' TL.y rfl rfl rfl ?hy128 ?_
            case hy128 => exact Yl.move rfl rfl
            refine' TL.y rfl rfl rfl ?hy129 ?_
            case hy129 => first | (refine Yl.val (Yl.bin rfl rfl rfl (Bin.add _ _ _ _)) (congrArg (Value.int .u64) (u64in ?_ ?_)) <;> omega) | exact Yl.bin rfl rfl rfl (Bin.add _ _ _ _)
            refine' TL.y rfl rfl rfl ?hy130 ?_
            case hy130 => exact Yl.assign rfl rfl
            refine TL.nil ?_
            refine TE.next ?_
            refine TC.seq ?_
            refine TC.region ?_
            refine' TL.y rfl rfl rfl ?hy131 ?_
            case hy131 => exact Yl.move rfl rfl
            refine' TL.y rfl rfl rfl ?hy132 ?_
            case hy132 => exact Yl.bin rfl rfl rfl (Bin.geq _ _ _ _)
            refine TL.nil ?_
            refine TE.next ?_
            refine TC.cond rfl (fun hs120 => ?_) (fun hs120 => ?_)
            · skip
              (try simp only [decide_eq_true_eq, decide_eq_false_iff_not, beq_iff_eq, beq_eq_false_iff_ne, bne_iff_ne, ne_eq, bne_eq_false_iff_eq, Bool.not_eq_true', Bool.not_eq_false', Int.not_lt, Int.not_le, gt_iff_lt, ge_iff_le] at hs120)
              refine TC.exit ?_
              refine TE.inOut (by rfl) ?_
              refine TE.thenExit ?_
              refine TE.inHere ?_
              refine TE.met (q - 1) ?hF133 ?hs133 ?hm133
              case hF133 => exact ⟨(hp2.done hst.1 (.inr ⟨by omega, by omega⟩)).1, hst.1.q0, (hp2.done hst.1 (.inr ⟨by omega, by omega⟩)).2⟩
              case hs133 => exact ⟨rfl, rfl, rfl, rfl, rfl, rfl, rfl, rfl, rfl, rfl, rfl, trivial⟩
              case hm133 => exact fun _ h => h
            · skip
              (try simp only [decide_eq_true_eq, decide_eq_false_iff_not, beq_iff_eq, beq_eq_false_iff_ne, bne_iff_ne, ne_eq, bne_eq_false_iff_eq, Bool.not_eq_true', Bool.not_eq_false', Int.not_lt, Int.not_le, gt_iff_lt, ge_iff_le] at hs120)
              refine TC.skip ?_
              refine TE.inNormal ?_
              refine TE.round (q - 1, r + y1) ?hF134 ?hlt134 ?hs134 ?hm134
              case hF134 => exact ⟨hst.1, by dsimp only; omega⟩
              case hlt134 => dsimp only; omega
              case hs134 => exact ⟨rfl, rfl, rfl, rfl, rfl, rfl, rfl, rfl, rfl, rfl, rfl, rfl, trivial⟩
              case hm134 => exact fun _ h => h
          · skip
            (try simp only [decide_eq_true_eq, decide_eq_false_iff_not, beq_iff_eq, beq_eq_false_iff_ne, bne_iff_ne, ne_eq, bne_eq_false_iff_eq, Bool.not_eq_true', Bool.not_eq_false', Int.not_lt, Int.not_le, gt_iff_lt, ge_iff_le] at hs104)
            have hb := mul_bd (a := q) (b := y0) (A := 4294967295) (B := 4294967295) hq0 (by omega) (by omega) (by omega)
            refine' TL.y rfl rfl rfl ?hy135 ?_
            case hy135 => exact Yl.move rfl rfl
            refine' TL.y rfl rfl rfl ?hy136 ?_
            case hy136 => exact Yl.move rfl rfl
            refine' TL.y rfl rfl rfl ?hy137 ?_
            case hy137 => first | (refine Yl.val (Yl.bin rfl rfl rfl (Bin.mul _ _ _ _)) (congrArg (Value.int .u64) (u64in ?_ ?_)) <;> omega) | exact Yl.bin rfl rfl rfl (Bin.mul _ _ _ _)
            refine' TL.y rfl rfl rfl ?hy138 ?_
            case hy138 => exact Yl.move rfl rfl
            refine' TL.y rfl rfl rfl ?hy139 ?_
            case hy139 => first | (refine Yl.val (Yl.bin rfl rfl rfl (Bin.mul _ _ _ _)) (congrArg (Value.int .u64) (u64in ?_ ?_)) <;> omega) | exact Yl.bin rfl rfl rfl (Bin.mul _ _ _ _)
            refine' TL.y rfl rfl rfl ?hy140 ?_
            case hy140 => exact Yl.move rfl rfl
            refine' TL.y rfl rfl rfl ?hy141 ?_
            case hy141 => first | (refine Yl.val (Yl.bin rfl rfl rfl (Bin.add _ _ _ _)) (congrArg (Value.int .u64) (u64in ?_ ?_)) <;> omega) | exact Yl.bin rfl rfl rfl (Bin.add _ _ _ _)
            refine' TL.y rfl rfl rfl ?hy142 ?_
            case hy142 => exact Yl.bin rfl rfl rfl (Bin.gtr _ _ _ _)
            refine' TL.y rfl rfl rfl ?hy143 ?_
            case hy143 => exact Yl.pickF rfl rfl rfl
            refine TL.nil ?_
            refine TE.next ?_
            refine TC.cond rfl (fun hs113 => ?_) (fun hs113 => ?_)
            · skip
              (try simp only [decide_eq_true_eq, decide_eq_false_iff_not, beq_iff_eq, beq_eq_false_iff_ne, bne_iff_ne, ne_eq, bne_eq_false_iff_eq, Bool.not_eq_true', Bool.not_eq_false', Int.not_lt, Int.not_le, gt_iff_lt, ge_iff_le] at hs113)
              have hst := hp2.step hd (by omega)
              refine TC.skip ?_
              refine TE.next ?_
              refine TC.block ?_
              refine TC.seq ?_
              refine TC.region ?_
              refine' TL.y rfl rfl rfl ?hy144 ?_
              case hy144 => exact Yl.move rfl rfl
              refine' TL.y rfl rfl rfl ?hy145 ?_
              case hy145 => first | (refine Yl.val (Yl.bin rfl rfl rfl (Bin.sub _ _ _ _)) (congrArg (Value.int .u64) (u64in ?_ ?_)) <;> omega) | exact Yl.bin rfl rfl rfl (Bin.sub _ _ _ _)
              refine' TL.y rfl rfl rfl ?hy146 ?_
              case hy146 => exact Yl.assign rfl rfl
              refine TL.nil ?_
              refine TE.next ?_
              refine TC.seq ?_
              refine TC.region ?_
              refine' TL.y rfl rfl rfl ?hy147 ?_
              case hy147 => exact Yl.move rfl rfl
              refine' TL.y rfl rfl rfl ?hy148 ?_
              case hy148 => exact Yl.move rfl rfl
              refine' TL.y rfl rfl rfl ?hy149 ?_
              case hy149 => first | (refine Yl.val (Yl.bin rfl rfl rfl (Bin.add _ _ _ _)) (congrArg (Value.int .u64) (u64in ?_ ?_)) <;> omega) | exact Yl.bin rfl rfl rfl (Bin.add _ _ _ _)
              refine' TL.y rfl rfl rfl ?hy150 ?_
              case hy150 => exact Yl.assign rfl rfl
              refine TL.nil ?_
              refine TE.next ?_
              refine TC.seq ?_
              refine TC.region ?_
              refine' TL.y rfl rfl rfl ?hy151 ?_
              case hy151 => exact Yl.move rfl rfl
              refine' TL.y rfl rfl rfl ?hy152 ?_
              case hy152 => exact Yl.bin rfl rfl rfl (Bin.geq _ _ _ _)
              refine TL.nil ?_
              refine TE.next ?_
              refine TC.cond rfl (fun hs120 => ?_) (fun hs120 => ?_)
              · skip
                (try simp only [decide_eq_true_eq, decide_eq_false_iff_not, beq_iff_eq, beq_eq_false_iff_ne, bne_iff_ne, ne_eq, bne_eq_false_iff_eq, Bool.not_eq_true', Bool.not_eq_false', Int.not_lt, Int.not_le, gt_iff_lt, ge_iff_le] at hs120)
                refine TC.exit ?_
                refine TE.inOut (by rfl) ?_
                refine TE.thenExit ?_
                refine TE.inHere ?_
                refine TE.met (q - 1) ?hF153 ?hs153 ?hm153
                case hF153 => exact ⟨(hp2.done hst.1 (.inr ⟨by omega, by omega⟩)).1, hst.1.q0, (hp2.done hst.1 (.inr ⟨by omega, by omega⟩)).2⟩
                case hs153 => exact ⟨rfl, rfl, rfl, rfl, rfl, rfl, rfl, rfl, rfl, rfl, rfl, trivial⟩
                case hm153 => exact fun _ h => h
              · skip
                (try simp only [decide_eq_true_eq, decide_eq_false_iff_not, beq_iff_eq, beq_eq_false_iff_ne, bne_iff_ne, ne_eq, bne_eq_false_iff_eq, Bool.not_eq_true', Bool.not_eq_false', Int.not_lt, Int.not_le, gt_iff_lt, ge_iff_le] at hs120)
                refine TC.skip ?_
                refine TE.inNormal ?_
                refine TE.round (q - 1, r + y1) ?hF154 ?hlt154 ?hs154 ?hm154
                case hF154 => exact ⟨hst.1, by dsimp only; omega⟩
                case hlt154 => dsimp only; omega
                case hs154 => exact ⟨rfl, rfl, rfl, rfl, rfl, rfl, rfl, rfl, rfl, rfl, rfl, rfl, trivial⟩
                case hm154 => exact fun _ h => h
            · skip
              (try simp only [decide_eq_true_eq, decide_eq_false_iff_not, beq_iff_eq, beq_eq_false_iff_ne, bne_iff_ne, ne_eq, bne_eq_false_iff_eq, Bool.not_eq_true', Bool.not_eq_false', Int.not_lt, Int.not_le, gt_iff_lt, ge_iff_le] at hs113)
              refine TC.exit ?_
              refine TE.thenExit ?_
              refine TE.thenExit ?_
              refine TE.inHere ?_
              refine TE.met q ?hF155 ?hs155 ?hm155
              case hF155 => exact ⟨(hp2.done hd (.inl ⟨by omega, by omega⟩)).1, hq0, (hp2.done hd (.inl ⟨by omega, by omega⟩)).2⟩
              case hs155 => exact ⟨rfl, rfl, rfl, rfl, rfl, rfl, rfl, rfl, rfl, rfl, rfl, trivial⟩
              case hm155 => exact fun _ h => h
      case hy118 =>
        rintro q0 ⟨e1, e0, e2, e3⟩
        rw [hYe] at e2 e3
        refine TC.seq ?_
        refine TC.region ?_
        refine' TL.y rfl rfl rfl ?hy156 ?_
        case hy156 => exact Yl.move rfl rfl
        refine' TL.y rfl rfl rfl ?hy157 ?_
        case hy157 => first | (refine Yl.val (Yl.bin rfl rfl rfl (Bin.mul _ _ _ _)) (congrArg (Value.int .u64) (u64in ?_ ?_)) <;> omega) | exact Yl.bin rfl rfl rfl (Bin.mul _ _ _ _)
        refine' TL.y rfl rfl rfl ?hy158 ?_
        case hy158 => exact Yl.move rfl rfl
        refine' TL.y rfl rfl rfl ?hy159 ?_
        case hy159 => first | (refine Yl.val (Yl.bin rfl rfl rfl (Bin.add _ _ _ _)) (congrArg (Value.int .u64) (u64in ?_ ?_)) <;> omega) | exact Yl.bin rfl rfl rfl (Bin.add _ _ _ _)
        refine' TL.y rfl rfl rfl ?hy160 ?_
        case hy160 => exact Yl.move rfl rfl
        refine' TL.y rfl rfl rfl ?hy161 ?_
        case hy161 => first | (refine Yl.val (Yl.bin rfl rfl rfl (Bin.mul _ _ _ _)) (congrArg (Value.int .u64) (u64in ?_ ?_)) <;> omega) | exact Yl.bin rfl rfl rfl (Bin.mul _ _ _ _)
        refine' TL.y rfl rfl rfl ?hy162 ?_
        case hy162 => exact Yl.move rfl rfl
        refine' TL.y rfl rfl rfl ?hy163 ?_
        case hy163 => first | (refine Yl.val (Yl.bin rfl rfl rfl (Bin.add _ _ _ _)) (congrArg (Value.int .u64) (u64in ?_ ?_)) <;> omega) | exact Yl.bin rfl rfl rfl (Bin.add _ _ _ _)
        refine' TL.y rfl rfl rfl ?hy164 ?_
        case hy164 => exact Yl.move rfl rfl
        refine' TL.y rfl rfl rfl ?hy165 ?_
        case hy165 => exact Yl.move rfl rfl
        refine' TL.y rfl rfl rfl ?hy166 ?_
        case hy166 => first | (refine Yl.val (Yl.bin rfl rfl rfl (Bin.mul _ _ _ _)) (congrArg (Value.int .u64) (u64in ?_ ?_)) <;> omega) | exact Yl.bin rfl rfl rfl (Bin.mul _ _ _ _)
        refine' TL.y rfl rfl rfl ?hy167 ?_
        case hy167 => first | (refine Yl.val (Yl.bin rfl rfl rfl (Bin.sub _ _ _ _)) (congrArg (Value.int .u64) (u64in ?_ ?_)) <;> omega) | exact Yl.bin rfl rfl rfl (Bin.sub _ _ _ _)
        refine' TL.y rfl rfl rfl ?hy168 ?_
        case hy168 => exact Yl.move rfl rfl
        refine' TL.y rfl rfl rfl ?hy169 ?_
        case hy169 => exact Yl.bin rfl rfl rfl (Bin.shr _ _ _ _ _ (by omega))
        refine' TL.y rfl rfl rfl ?hy170 ?_
        case hy170 => exact Yl.assign rfl rfl
        refine' TL.y rfl rfl rfl ?hy171 ?_
        case hy171 => exact Yl.assign rfl rfl
        refine TL.nil ?_
        refine TE.next ?_
        refine TC.ret ?_
        refine TE.ret2 rfl rfl rfl ?_
        have hfin : (hi * 18446744073709551616 + lo) / y = q1 * 4294967296 + q0 := by
          rw [← shift_div (x := hi * 18446744073709551616 + lo) (y := y) hK0, ← n9, hY, show u * 18446744073709551616 + z = u * 18446744073709551616 + l1 * 4294967296 + l0 by omega]
          exact two_dig (u2 := v) (by omega) hv.symm (by omega) (by omega)
        exact fun w h => ⟨_, by rw [hfin], h.below⟩
end Go.Proofs.Ytipdpmmjmlimhaa.Pk
