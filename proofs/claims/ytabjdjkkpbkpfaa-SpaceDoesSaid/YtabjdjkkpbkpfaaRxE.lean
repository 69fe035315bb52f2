/- How many nodes; all pages. -/
import Derived.Test.YtabjdjkkpbkpfaaRxD
import Derived.Test.YtabjdjkkpbkpfaaProg
import Derived.RowKit3
namespace Go.Proofs.Ytabjdjkkpbkpfaa.Pk
open Go Go.RowKit Go.Proofs.Ytabjdjkkpbkpfaa.HL Go.Proofs.Ytabjdjkkpbkpfaa.Ev Go.Proofs.YtabjdjkkpbkpfaaW.PrintWords Go.Proofs.RxP
set_option linter.unusedVariables false
set_option linter.unusedSimpArgs false
theorem Hp.re {W0 w : World} {T : Nat → Prop} {H H' : List Res} {r r' : Res} (hf : Foc H r H' r') (hh : r.holds w → r'.holds w) (ff : ∀ k, r'.foot k → r.foot k) (h : Hp W0 T H w) : Hp W0 T H' w :=
  h.turn hf (Chg.refl _ _) (hh (h.all _ hf.mem)) (fun k hk => .inl (ff k hk))
attribute [local irreducible] btw rowA
theorem rk_skip {S : Sf} {a : Nat} : ∀ m, (∀ q, a ≤ q → q < a + m → S q = none) → rk S (a + m) = rk S a
  | 0, _ => rfl
  | m + 1, h => by rw [← Nat.add_assoc, rk_no (h _ (by omega) (by omega)), rk_skip m (fun q h1 h2 => h q h1 (by omega))]
theorem pfx_div {k n : Nat} (h : k + n = 4) (q : Nat) : pfx q k = q / 16 ^ n := by
  rcases (by omega : k = 0 ∧ n = 4 ∨ k = 1 ∧ n = 3 ∨ k = 2 ∧ n = 2 ∨ k = 3 ∧ n = 1 ∨ k = 4 ∧ n = 0) with ⟨rfl, rfl⟩ | ⟨rfl, rfl⟩ | ⟨rfl, rfl⟩ | ⟨rfl, rfl⟩ | ⟨rfl, rfl⟩ <;> simp [pfx]
def bitF (st : St) (S : Sf) (k p d : Nat) : Bool := if k < 3 then st.ex (k + 1) (16 * p + d) else (S (16 * p + d)).isSome
theorem bitF_hs {st : St} {S : Sf} {k p : Nat} (hT : Tree st S) (he : st.ex k p = true) : st.hs k p = btw (bitF st S k p) := by
  have h3 := (hT.rng k p he).1
  unfold bitF
  by_cases hk : k < 3
  · rw [hT.hsk k p he hk]; simp only [hk, if_true]
  · obtain rfl : k = 3 := by omega
    rw [hT.hs3 p he]; simp only [Nat.lt_irrefl, if_false]
/-- Where the bit is off there is no page. -/
theorem bit_off {st : St} {S : Sf} {k n p d : Nat} (hT : Tree st S) (hk : k + n = 3) (hd : d < 16) (h : bitF st S k p d = false) : rk S ((16 * p + (d + 1)) * 16 ^ n) = rk S ((16 * p + d) * 16 ^ n) := by
  rw [show (16 * p + (d + 1)) * 16 ^ n = (16 * p + d) * 16 ^ n + 16 ^ n by rw [← Nat.add_assoc, Nat.succ_mul]]
  apply rk_skip
  intro q h1 h2
  have hq : q / 16 ^ n = 16 * p + d := Nat.div_eq_of_lt_le h1 (by rw [Nat.succ_mul]; exact h2)
  cases e : S q with
  | none => rfl
  | some x =>
    exfalso
    unfold bitF at h
    by_cases hk3 : k < 3
    · have h3 := hT.path (q := q) (by rw [e]; rfl) (k := k + 1) (by omega)
      rw [pfx_div (n := n) (by omega), hq] at h3
      rw [if_pos hk3, h3] at h; cases h
    · obtain rfl : n = 0 := by omega
      rw [if_neg hk3] at h
      rw [Nat.pow_zero, Nat.div_one] at hq
      rw [← hq, e] at h; cases h
theorem e16 (p n : Nat) : (16 * p + 0) * 16 ^ n = p * 16 ^ (n + 1) := by rw [Nat.add_zero, Nat.pow_succ, Nat.mul_comm 16 p, Nat.mul_assoc, Nat.mul_comm 16]
theorem e17 (p n : Nat) : (16 * p + 16) * 16 ^ n = (p + 1) * 16 ^ (n + 1) := by rw [show 16 * p + 16 = 16 * (p + 1) + 0 by omega, e16]
theorem shl4 {p : Nat} (h : p < 65536) : IntKind.i64.wrap ((p : Int) * 2 ^ min (4 : Int).toNat IntKind.i64.bits) = 16 * (p : Int) := by
  show IntKind.i64.wrap ((p : Int) * 16) = _
  rw [i64in (by omega) (by omega)]; omega
theorem pow4096 {k : Nat} (h : k ≤ 3) {p : Nat} (hp : p < 16 ^ k) : p < 4096 := Nat.lt_of_lt_of_le hp (Nat.le_trans (Nat.pow_le_pow_right (by decide) h) (by decide))
attribute [local irreducible] bitF
def PagesC (W0 : World) (st : St) (S : Sf) (l : Nat) (τ : Type) (H : Nat → τ → List Res) (X : World → Prop) (n k : Nat) : Prop := ∀ p, st.ex k p = true → ∀ s W, Hp W0 (fun _ => False) (H (rk S (p * 16 ^ (n + 1))) s) W → Calls Try.prog 89 #[.pointer (some ⟨st.ad k p, 0, none⟩), .int .i64 (k : Int), .int .i64 (p : Int), .func (.yield l) #[] #[]] W fun e w' => ∃ o : Option τ, e = .returned (.bool o.isSome) ∧ (match o with | some s' => Hp W0 (fun _ => False) (H (rk S ((p + 1) * 16 ^ (n + 1))) s') w' | none => X w')
set_option maxRecDepth 100000 in
set_option maxHeartbeats 2000000 in
theorem pages_step {W0 : World} {st : St} {S : Sf} (hR : Rep W0 st) (hT : Tree st S) {l : Nat} {τ : Type} {H : Nat → τ → List Res} {X : World → Prop} (hY : ∀ i, i < rk S 65536 → ∀ s W, Hp W0 (fun _ => False) (H i s) W → YieldAt (Gr none) 0 Try.prog l [.int .i64 (nth S i).1].toArray W fun e w' => ∃ o : Option τ, e = .returned (.bool o.isSome) ∧ (match o with | some s' => Hp W0 (fun _ => False) (H (i + 1) s') w' | none => X w')) {n k : Nat} (hk : k + n = 3) (ih : ∀ n', n = n' + 1 → PagesC W0 st S l τ H X n' (k + 1)) : PagesC W0 st S l τ H X n k := by
  intro p hex s W hW
  have hp : p < 4096 := pow4096 (hT.rng k p hex).1 (hT.rng k p hex).2
  refine RC.enter (n := 49) Try.func89 rfl rfl rfl hW ?_
  refine RC.seq ?_
  refine RC.region ?_
  refine' RL.y rfl rfl rfl ?hy1 ?_
  case hy1 => exact Yl.assign rfl rfl
  refine RL.nil ?_
  refine RE.next ?_
  refine RC.seq ?_
  refine RC.seq ?_
  refine RC.region ?_
  refine' RL.y rfl rfl rfl ?hy2 ?_
  case hy2 => exact Yl.move rfl rfl
  refine RL.nil ?_
  refine RE.next ?_
  refine RC.block ?_
  refine RC.loop (σ := Nat × τ) (fun s => [(0, .pointer (some ⟨st.ad k p, 0, none⟩)), (1, .int .i64 (k : Int)), (2, .int .i64 (p : Int)), (3, .func (.yield l) #[] #[]), (11, .int .i64 (s.1 : Int))]) (fun s => Hp W0 (fun _ => False) (H (rk S ((16 * p + s.1) * 16 ^ n)) s.2)) (fun s => s.1 ≤ 16) (fun s => 16 - s.1) (0, s) ?hF3 ?hs3 ?hm3 ?round3
  case hF3 => dsimp only; omega
  case hs3 => exact ⟨rfl, rfl, rfl, rfl, rfl, trivial⟩
  case hm3 => exact fun w h => by dsimp only; rw [e16]; exact h
  case round3 =>
    rintro ⟨d, s⟩ hd
    dsimp only at hd ⊢
    refine RC.seq ?_
    refine RC.region ?_
    refine' RL.y rfl rfl rfl ?hy4 ?_
    case hy4 => exact Yl.bin rfl rfl rfl (Bin.lss _ _ _ _)
    refine RL.nil ?_
    refine RE.next ?_
    refine RC.seq ?_
    refine RC.cond rfl (fun hs12 => ?_) (fun hs12 => ?_)
    · skip
      (try simp only [nrm] at hs12)
      have hd16 : d < 16 := by omega
      refine RC.skip ?_
      refine RE.next ?_
      refine RC.seq ?_
      refine RC.block ?_
      refine RC.seq ?_
      refine RC.region ?_
      refine' RL.y rfl rfl rfl ?hy5 ?_
      case hy5 => exact Yl.move rfl rfl
      refine' RL.y rfl rfl rfl ?hy6 ?_
      case hy6 => exact Yl.assign rfl rfl
      refine RL.nil ?_
      refine RE.next ?_
      refine RC.seq ?_
      refine RC.region ?_
      refine' RL.y rfl rfl rfl ?hy7 ?_
      case hy7 => exact Yl.move rfl rfl
      refine' RL.y rfl rfl rfl ?hy8 ?_
      case hy8 => exact Yl.val (Yl.bin rfl rfl rfl (Bin.shl _ _ _ _ _ (by omega))) (congrArg (Value.int .i64) (shl4 (by omega)))
      refine' RL.y rfl rfl rfl ?hy9 ?_
      case hy9 => exact Yl.move rfl rfl
      refine' RL.y rfl rfl rfl ?hy10 ?_
      case hy10 => exact Yl.val (Yl.bin rfl rfl rfl (Bin.or _ _ _ _)) (congrArg (Value.int .i64) (orI (by omega) hd16))
      refine' RL.y rfl rfl rfl ?hy11 ?_
      case hy11 => exact Yl.assign rfl rfl
      refine RL.nil ?_
      refine RE.next ?_
      refine RC.block ?_
      refine RC.seq ?_
      refine RC.region ?_
      refine' RL.y rfl rfl rfl ?hy12 ?_
      case hy12 => exact Yl.move rfl rfl
      refine' RL.y rfl rfl rfl ?hy13 ?_
      case hy13 => exact Yl.nilCheck rfl rfl
      refine' RL.y rfl rfl rfl ?hy14 ?_
      case hy14 => first | exact Yl.field0 (k := 0) 32 rfl rfl Try.underlying91 rfl (by kernel_rfl) rfl | exact Yl.field (k := 0) 32 rfl rfl Try.underlying91 rfl (by kernel_rfl) rfl
      refine' RL.y rfl rfl rfl ?hy15 ?_
      case hy15 => exact Yl.load rfl rfl (by kernel_rfl) (Rep.cell hR hex (by omega) (gN_has st k p) (fun _ h => h))
      refine RL.re (i := 22) (v' := .int .u16 (btw (bitF st S k p))) rfl (congrArg (Value.int .u16) (bitF_hs hT hex)) ?_
      refine' RL.y rfl rfl rfl ?hy16 ?_
      case hy16 => exact Yl.move rfl rfl
      refine' RL.y rfl rfl rfl ?hy17 ?_
      case hy17 => exact Yl.val (Yl.conv rfl rfl (by kernel_rfl) Try.underlying100) (congrArg (Value.int .u64) (cv16 hd16))
      refine' RL.y rfl rfl rfl ?hy18 ?_
      case hy18 => exact Yl.bin rfl rfl rfl (Bin.shr _ _ _ _ _ (by omega))
      refine' RL.y rfl rfl rfl ?hy19 ?_
      case hy19 => exact Yl.val (Yl.bin rfl rfl rfl (Bin.and _ _ _ _)) (congrArg (Value.int .u16) (and16 _ hd16))
      refine' RL.y rfl rfl rfl ?hy20 ?_
      case hy20 => exact Yl.bin rfl rfl rfl (Bin.eql _ _ _ _)
      refine' RL.y rfl rfl rfl ?hy21 ?_
      case hy21 => exact Yl.assign rfl rfl
      refine RL.nil ?_
      refine RE.next ?_
      refine RC.cond rfl (fun hs18 => ?_) (fun hs18 => ?_)
      · skip
        (try simp only [nrm] at hs18)
        have hoff : bitF st S k p d = false := by cases e : bitF st S k p d; rfl; rw [e] at hs18; simp at hs18
        refine RC.skip ?_
        refine RE.inNormal ?_
        refine RE.inNormal ?_
        refine RE.next ?_
        refine RC.region ?_
        refine' RL.y rfl rfl rfl ?hy22 ?_
        case hy22 => first | (refine Yl.val (Yl.bin rfl rfl rfl (Bin.add _ _ _ _)) (congrArg (Value.int .i64) (i64in ?_ ?_)) <;> omega) | exact Yl.bin rfl rfl rfl (Bin.add _ _ _ _)
        refine' RL.y rfl rfl rfl ?hy23 ?_
        case hy23 => exact Yl.move rfl rfl
        refine RL.nil ?_
        refine RE.round (d + 1, s) ?hF24 ?hlt24 ?hs24 ?hm24
        case hF24 => dsimp only; omega
        case hlt24 => dsimp only; omega
        case hs24 => exact ⟨rfl, rfl, rfl, rfl, rfl, trivial⟩
        case hm24 => exact fun w h => by dsimp only; rw [bit_off hT hk hd16 hoff]; exact h
      · skip
        (try simp only [nrm] at hs18)
        have hon : bitF st S k p d = true := by cases e : bitF st S k p d; rw [e] at hs18; simp at hs18; rfl
        refine RC.seq ?_
        refine RC.region ?_
        refine' RL.y rfl rfl rfl ?hy25 ?_
        case hy25 => exact Yl.move rfl rfl
        refine' RL.y rfl rfl rfl ?hy26 ?_
        case hy26 => exact Yl.bin rfl rfl rfl (Bin.lss _ _ _ _)
        refine' RL.y rfl rfl rfl ?hy27 ?_
        case hy27 => exact Yl.assign rfl rfl
        refine RL.nil ?_
        refine RE.next ?_
        refine RC.cond rfl (fun hs28 => ?_) (fun hs28 => ?_)
        · skip
          (try simp only [nrm] at hs28)
          have hk3 : k < 3 := by omega
          obtain ⟨n', rfl⟩ : ∃ n', n = n' + 1 := ⟨n - 1, by omega⟩
          have hx : st.ex (k + 1) (16 * p + d) = true := by unfold bitF at hon; rwa [if_pos hk3] at hon
          refine RC.seq ?_
          refine RC.region ?_
          refine' RL.y rfl rfl rfl ?hy28 ?_
          case hy28 => exact Yl.move rfl rfl
          refine' RL.y rfl rfl rfl ?hy29 ?_
          case hy29 => exact Yl.move rfl rfl
          refine' RL.y rfl rfl rfl ?hy30 ?_
          case hy30 => exact Yl.nilCheck rfl rfl
          refine' RL.y rfl rfl rfl ?hy31 ?_
          case hy31 => first | exact Yl.field0 (k := 15) 0 rfl rfl Try.underlying91 rfl (by kernel_rfl) rfl | exact Yl.field (k := 15) 0 rfl rfl Try.underlying91 rfl (by kernel_rfl) rfl
          refine' RL.y rfl rfl rfl ?hy32 ?_
          case hy32 => exact Yl.arr0 rfl rfl rfl Try.underlying87 (by kernel_rfl) hd16
          refine' RL.y rfl rfl rfl ?hy33 ?_
          case hy33 => exact Yl.load rfl rfl (by kernel_rfl) (Rep.cell hR hex (by omega) (gN_kid st k p hd16) (fun _ h => h))
          refine RL.re (i := 36) (v' := .pointer (some ⟨st.ad (k + 1) (16 * p + d), 0, none⟩)) rfl (congrArg Value.pointer (kidV_yes hk3 hx)) ?_
          refine' RL.y rfl rfl rfl ?hy34 ?_
          case hy34 => exact Yl.move rfl rfl
          refine' RL.y rfl rfl rfl ?hy35 ?_
          case hy35 => first | (refine Yl.val (Yl.bin rfl rfl rfl (Bin.add _ _ _ _)) (congrArg (Value.int .i64) (i64in ?_ ?_)) <;> omega) | exact Yl.bin rfl rfl rfl (Bin.add _ _ _ _)
          refine RL.re (i := 38) (v' := .int .i64 ((k + 1 : Nat) : Int)) rfl (congrArg (Value.int .i64) (by omega)) ?_
          refine' RL.y rfl rfl rfl ?hy36 ?_
          case hy36 => exact Yl.move rfl rfl
          refine' RL.y rfl rfl rfl ?hy37 ?_
          case hy37 => exact Yl.move rfl rfl
          refine' RL.c rfl rfl rfl ?hy38 ?_
          case hy38 => exact Yc.call rfl Try.func89 (by kernel_rfl) rfl rfl (fun w h => ih n' rfl _ hx s w h)
          intro o
          rcases o with _ | s2
          · skip
            dsimp only [Option.isSome]
            refine' RL.y rfl rfl rfl ?hy39 ?_
            case hy39 => exact Yl.not rfl rfl
            refine RL.nil ?_
            refine RE.next ?_
            refine RC.yes rfl rfl ?_
            refine RC.seq ?_
            refine RC.region ?_
            refine' RL.y rfl rfl rfl ?hy40 ?_
            case hy40 => exact Yl.assign rfl rfl
            refine RL.nil ?_
            refine RE.next ?_
            refine RC.ret ?_
            refine RE.inRet ?_
            refine RE.inRet ?_
            refine RE.thenRet ?_
            refine RE.thenRet ?_
            refine RE.inRet ?_
            refine RE.thenRet ?_
            refine RE.ret1 rfl rfl ?_
            exact fun w h => ⟨none, rfl, h⟩
          · skip
            dsimp only [Option.isSome]
            refine' RL.y rfl rfl rfl ?hy41 ?_
            case hy41 => exact Yl.not rfl rfl
            refine RL.nil ?_
            refine RE.next ?_
            refine RC.no rfl rfl ?_
            refine RC.skip ?_
            refine RE.inNormal ?_
            refine RE.inNormal ?_
            refine RE.next ?_
            refine RC.region ?_
            refine' RL.y rfl rfl rfl ?hy42 ?_
            case hy42 => first | (refine Yl.val (Yl.bin rfl rfl rfl (Bin.add _ _ _ _)) (congrArg (Value.int .i64) (i64in ?_ ?_)) <;> omega) | exact Yl.bin rfl rfl rfl (Bin.add _ _ _ _)
            refine' RL.y rfl rfl rfl ?hy43 ?_
            case hy43 => exact Yl.move rfl rfl
            refine RL.nil ?_
            refine RE.round (d + 1, s2) ?hF44 ?hlt44 ?hs44 ?hm44
            case hF44 => dsimp only; omega
            case hlt44 => dsimp only; omega
            case hs44 => exact ⟨rfl, rfl, rfl, rfl, rfl, trivial⟩
            case hm44 => exact fun w h => h
        · skip
          (try simp only [nrm] at hs28)
          obtain rfl : n = 0 := by omega
          obtain rfl : k = 3 := by omega
          obtain ⟨x, hx⟩ : ∃ x, S (16 * p + d) = some x := by unfold bitF at hon; rw [if_neg (by omega)] at hon; exact Option.isSome_iff_exists.1 hon
          refine RC.seq ?_
          refine RC.region ?_
          refine' RL.y rfl rfl rfl ?hy45 ?_
          case hy45 => exact Yl.move rfl rfl
          refine' RL.y rfl rfl rfl ?hy46 ?_
          case hy46 => exact Yl.move rfl rfl
          refine RL.yield rfl rfl rfl rfl rfl rfl (fun w h => by
                have h2 := hY (rk S (16 * p + d)) (rk_lt hx (by omega)) s w (by rw [Nat.pow_zero, Nat.mul_one] at h; exact h)
                rw [nth_at hx (by omega)] at h2
                exact h2) ?_
          intro o
          rcases o with _ | s2
          · skip
            dsimp only [Option.isSome]
            refine' RL.y rfl rfl rfl ?hy47 ?_
            case hy47 => exact Yl.not rfl rfl
            refine' RL.y rfl rfl rfl ?hy48 ?_
            case hy48 => exact Yl.assign rfl rfl
            refine RL.nil ?_
            refine RE.next ?_
            refine RC.yes rfl rfl ?_
            refine RC.seq ?_
            refine RC.region ?_
            refine' RL.y rfl rfl rfl ?hy49 ?_
            case hy49 => exact Yl.assign rfl rfl
            refine RL.nil ?_
            refine RE.next ?_
            refine RC.ret ?_
            refine RE.inRet ?_
            refine RE.inRet ?_
            refine RE.thenRet ?_
            refine RE.thenRet ?_
            refine RE.inRet ?_
            refine RE.thenRet ?_
            refine RE.ret1 rfl rfl ?_
            exact fun w h => ⟨none, rfl, h⟩
          · skip
            dsimp only [Option.isSome]
            refine' RL.y rfl rfl rfl ?hy50 ?_
            case hy50 => exact Yl.not rfl rfl
            refine' RL.y rfl rfl rfl ?hy51 ?_
            case hy51 => exact Yl.assign rfl rfl
            refine RL.nil ?_
            refine RE.next ?_
            refine RC.no rfl rfl ?_
            refine RC.skip ?_
            refine RE.inNormal ?_
            refine RE.inNormal ?_
            refine RE.next ?_
            refine RC.region ?_
            refine' RL.y rfl rfl rfl ?hy52 ?_
            case hy52 => first | (refine Yl.val (Yl.bin rfl rfl rfl (Bin.add _ _ _ _)) (congrArg (Value.int .i64) (i64in ?_ ?_)) <;> omega) | exact Yl.bin rfl rfl rfl (Bin.add _ _ _ _)
            refine' RL.y rfl rfl rfl ?hy53 ?_
            case hy53 => exact Yl.move rfl rfl
            refine RL.nil ?_
            refine RE.round (d + 1, s2) ?hF54 ?hlt54 ?hs54 ?hm54
            case hF54 => dsimp only; omega
            case hlt54 => dsimp only; omega
            case hs54 => exact ⟨rfl, rfl, rfl, rfl, rfl, trivial⟩
            case hm54 => exact fun w h => by dsimp only; rw [Nat.pow_zero, Nat.mul_one, show 16 * p + (d + 1) = (16 * p + d) + 1 from rfl, rk_yes hx]; exact h
    · skip
      (try simp only [nrm] at hs12)
      refine RC.exit ?_
      refine RE.thenExit ?_
      refine RE.thenExit ?_
      refine RE.inHere ?_
      refine RE.next ?_
      refine RC.seq ?_
      refine RC.region ?_
      refine' RL.y rfl rfl rfl ?hy55 ?_
      case hy55 => exact Yl.assign rfl rfl
      refine RL.nil ?_
      refine RE.next ?_
      refine RC.ret ?_
      refine RE.ret1 rfl rfl ?_
      obtain rfl : d = 16 := by omega
      exact fun w h => ⟨some s, rfl, by rw [e17] at h; exact h⟩
set_option maxRecDepth 100000 in
set_option maxHeartbeats 2000000 in
theorem it_all {W0 : World} {st : St} {S : Sf} (hR : Rep W0 st) (hT : Tree st S) : IterS Try.prog 72 #[.pointer (some ⟨st.ad 0 0, 0, none⟩)] #[] (rk S 65536) (fun i => [.int .i64 (nth S i).1]) W0 (fun _ => False) := by
  intro l τ H X hY s W hW
  have hp : PagesC W0 st S l τ H X 3 0 := pages_step hR hT hY rfl (fun _ h => by cases h; exact pages_step hR hT hY rfl (fun _ h => by cases h; exact pages_step hR hT hY rfl (fun _ h => by cases h; exact pages_step hR hT hY (n := 0) rfl (fun _ h => by cases h))))
  rw [show (#[.pointer (some ⟨st.ad 0 0, 0, none⟩)] ++ #[.func (.yield l) #[] #[]] ++ #[] : Array Value) = [.pointer (some ⟨st.ad 0 0, 0, none⟩), .func (.yield l) #[] #[]].toArray by simp]
  refine TC.enter (n := 9) Try.func72 rfl rfl rfl hW ?_
  refine TC.region ?_
  refine' TL.y rfl rfl rfl ?hy1 ?_
  case hy1 => exact Yl.move rfl rfl
  refine' TL.y rfl rfl rfl ?hy2 ?_
  case hy2 => exact Yl.nilCheck rfl rfl
  refine' TL.y rfl rfl rfl ?hy3 ?_
  case hy3 => first | exact Yl.field0 (k := 32) 0 rfl rfl Try.underlying93 rfl (by kernel_rfl) rfl | exact Yl.field (k := 32) 0 rfl rfl Try.underlying93 rfl (by kernel_rfl) rfl
  refine' TL.y rfl rfl rfl ?hy4 ?_
  case hy4 => exact Yl.move rfl rfl
  refine' TL.c rfl rfl rfl ?hy5 ?_
  case hy5 => exact Yc.call rfl Try.func89 (by kernel_rfl) rfl rfl (fun w h => hp 0 hT.root s w (by rw [Nat.zero_mul]; exact h))
  intro o
  refine TL.nil ?_
  refine TE.end0 rfl ?_
  exact fun w h => ⟨⟨_, rfl⟩, by rcases o with _ | s2; exact .inr h; exact .inl ⟨s2, h⟩⟩
end Go.Proofs.Ytabjdjkkpbkpfaa.Pk
