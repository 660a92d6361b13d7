/- What capabilities' functions give, in plain words, for chapter 2. No condition. -/
import Derived.Test.YtafpkpalkaphkaaDoorKCapThroughPx8
import Derived.Test.YtafpkpalkaphkaaDoorKCapThroughPx9
import Derived.Test.YtafpkpalkaphkaaDoorKCapThroughPOk
import Derived.DataShut
namespace Go.Proofs.YtafpkpalkaphkaaDoor.Pure
open Go.RowKit Go.Proofs.YtafpkpalkaphkaaDoor.P Go.Proofs.YtafpkpalkaphkaaDoorW.PrintWords Go.Proofs.YtafpkpalkaphkaaDoorW.PrintLast
set_option linter.unusedVariables false
set_option linter.unusedSimpArgs false

theorem u64_range {n : Int} (h : (Lit.int .u64 n).wf = true) : 0 ≤ n ∧ n ≤ 18446744073709551615 := by
  have := (Lit.wf_int_iff .u64 n).1 h
  simpa [IntKind.min, IntKind.max, IntKind.signed, IntKind.bits] using this
theorem wrap_in {n : Int} (h0 : -9223372036854775808 ≤ n) (h1 : n ≤ 9223372036854775807) : wrap64 n = n := by unfold wrap64; omega
theorem wrapi_in {n : Int} (h0 : -9223372036854775808 ≤ n) (h1 : n ≤ 9223372036854775807) : IntKind.i64.wrap n = n := by rw [IntKind.wrap_i64]; omega
theorem wrapu_mod (n : Int) : IntKind.u64.wrap n = n % 18446744073709551616 := IntKind.wrap_u64 n

def low (q : Int) : Nat := (q % 256).toNat
theorem and64 (a b : Nat) (ha : a < 256) (hb : b < 9223372036854775808) : Go.bits .and .i64 (a : Int) (b : Int) = ((a &&& b : Nat) : Int) := by
  unfold Go.bits
  show IntKind.i64.wrap _ = _
  have hl : a &&& b ≤ a := Nat.and_le_left
  have hx : (BitVec.ofInt 64 (a : Int) &&& BitVec.ofInt 64 (b : Int)).toNat = a &&& b := by
    rw [BitVec.toNat_and, BitVec.ofInt_natCast, BitVec.ofInt_natCast, BitVec.toNat_ofNat, BitVec.toNat_ofNat, Nat.mod_eq_of_lt (by omega), Nat.mod_eq_of_lt (by omega)]
  show IntKind.i64.wrap ((BitVec.ofInt 64 (a : Int) &&& BitVec.ofInt 64 (b : Int)).toNat : Int) = _
  rw [hx]
  exact wrapi_in (by omega) (by omega)
theorem and64_any (a : Nat) (q : Int) (ha : a < 256) : Go.bits .and .i64 (a : Int) q = ((a &&& low q : Nat) : Int) := by
  unfold Go.bits
  have hl : a &&& low q ≤ a := Nat.and_le_left
  have hq : low q < 256 := by unfold low; omega
  have hx : (BitVec.ofInt 64 (a : Int) &&& BitVec.ofInt 64 q).toNat = a &&& low q := by
    rw [BitVec.toNat_and, BitVec.ofInt_natCast, BitVec.toNat_ofNat, Nat.mod_eq_of_lt (by omega), BitVec.toNat_ofInt]
    apply Nat.eq_of_testBit_eq
    intro i
    rw [Nat.testBit_and, Nat.testBit_and]
    by_cases hi : i < 8
    · have e : low q = (q % 18446744073709551616).toNat % 2 ^ 8 := by unfold low; omega
      rw [e, Nat.testBit_mod_two_pow]
      have e2 : (q % ((2 ^ 64 : Nat) : Int)).toNat = (q % 18446744073709551616).toNat := by rfl
      rw [e2]
      simp [hi]
    · rw [Nat.testBit_lt_two_pow (x := a) (i := i) (Nat.lt_of_lt_of_le ha (Nat.pow_le_pow_right (n := 2) (i := 8) (by omega) (by omega)))]
      simp
  show IntKind.i64.wrap ((BitVec.ofInt 64 (a : Int) &&& BitVec.ofInt 64 q).toNat : Int) = _
  rw [hx]
  exact wrapi_in (by omega) (by omega)
theorem low_of (b : Nat) (hb : b < 256) : low (b : Int) = b := by unfold low; omega
/-- Nothing of a number is beside another one: it is within it. -/
theorem andNot64 (a b : Nat) (ha : a < 256) (hb : b < 256) : (Go.bits .andNot .i64 (a : Int) (b : Int) = 0) ↔ a &&& b = a := by
  unfold Go.bits
  have hx : (BitVec.ofInt 64 (a : Int) &&& ~~~ BitVec.ofInt 64 (b : Int)).toNat ≤ a := by
    rw [BitVec.toNat_and, BitVec.ofInt_natCast, BitVec.toNat_ofNat, Nat.mod_eq_of_lt (by omega)]
    exact Nat.and_le_left
  show (IntKind.i64.wrap ((BitVec.ofInt 64 (a : Int) &&& ~~~ BitVec.ofInt 64 (b : Int)).toNat : Int) = 0) ↔ _
  rw [show IntKind.i64.wrap ((BitVec.ofInt 64 (a : Int) &&& ~~~ BitVec.ofInt 64 (b : Int)).toNat : Int) = ((BitVec.ofInt 64 (a : Int) &&& ~~~ BitVec.ofInt 64 (b : Int)).toNat : Int) from wrapi_in (by omega) (by omega)]
  have key : (BitVec.ofInt 64 (a : Int) &&& ~~~ BitVec.ofInt 64 (b : Int)).toNat = 0 ↔ a &&& b = a := by
    rw [BitVec.ofInt_natCast, BitVec.ofInt_natCast]
    constructor
    · intro h
      apply Nat.eq_of_testBit_eq
      intro i
      rw [Nat.testBit_and]
      have hz : BitVec.ofNat 64 a &&& ~~~ BitVec.ofNat 64 b = 0#64 := BitVec.eq_of_toNat_eq (by simpa using h)
      by_cases hi : i < 64
      · have hb_ := congrArg (fun v => BitVec.getLsbD v i) hz
        simp only [BitVec.getLsbD_and, BitVec.getLsbD_not, BitVec.getLsbD_ofNat, hi, decide_true, Bool.true_and, BitVec.getLsbD_zero] at hb_
        cases ht : a.testBit i
        · rfl
        · rw [ht] at hb_; simpa using hb_
      · rw [Nat.testBit_lt_two_pow (x := a) (i := i) (Nat.lt_of_lt_of_le ha (Nat.pow_le_pow_right (n := 2) (i := 8) (by omega) (by omega)))]
        simp
    · intro h
      have hz : BitVec.ofNat 64 a &&& ~~~ BitVec.ofNat 64 b = 0#64 := by
        apply BitVec.eq_of_getLsbD_eq
        intro i hi
        have ht : (a &&& b).testBit i = a.testBit i := by rw [h]
        rw [Nat.testBit_and] at ht
        simp only [BitVec.getLsbD_and, BitVec.getLsbD_not, BitVec.getLsbD_ofNat, hi, decide_true, Bool.true_and, BitVec.getLsbD_zero]
        cases h1 : a.testBit i
        · simp
        · rw [h1] at ht; simpa using ht
      rw [hz]; rfl
  constructor
  · intro h; exact key.1 (by exact_mod_cast h)
  · intro h; exact_mod_cast key.2 h
theorem right_is (b t a p y : Int) (g : Bool) : curtilageref02_Right.f b t a p y g = some (decide (0 ≤ p ∧ p ≤ 255 ∧ -1 ≤ y ∧ y ≤ 63)) := by
  unfold curtilageref02_Right.f
  by_cases h1 : p ≥ 0
  · by_cases h2 : p ≤ 255
    · by_cases h3 : y ≥ -1
      · rw [if_pos h1, if_pos h2, if_pos h3]; congr 1; apply decide_eq_decide.2; omega
      · rw [if_pos h1, if_pos h2, if_neg h3]; congr 1; symm; apply decide_eq_false; omega
    · rw [if_pos h1, if_neg h2]; congr 1; symm; apply decide_eq_false; omega
  · rw [if_neg h1]; congr 1; symm; apply decide_eq_false; omega
theorem sealed_is (b t a p y : Int) (g : Bool) : cap_sealed.f b t a p y g = some (decide (y ≥ 0)) := rfl
theorem open_is (b t a p y : Int) (g : Bool) : cap_open.f b t a p y g = some (b, t, a, p, y, g && !decide (y ≥ 0)) := by
  unfold cap_open.f; rw [sealed_is]; cases g <;> simp
theorem move_is (b t a p y : Int) (g : Bool) (a1 : Int) : cap_Move.f b t a p y g a1 = some (b, t, a1, p, y, g && !decide (y ≥ 0)) := by
  unfold cap_Move.f; rw [open_is]; rfl
theorem fits_is (b t a p y : Int) (g : Bool) (n : Int) (ha : 0 ≤ a ∧ a ≤ 18446744073709551615) (ht : 0 ≤ t ∧ t ≤ 18446744073709551615) (hn : 0 ≤ n ∧ n ≤ 18446744073709551615) :
    cap_fits.f b t a p y g n = some (decide (b ≤ a ∧ a + n ≤ t)) := by
  unfold cap_fits.f
  rw [wrapu_mod]
  by_cases h1 : a ≥ b
  · by_cases h2 : (a + n) % 18446744073709551616 ≥ a
    · rw [if_pos h1, if_pos h2]; congr 1; apply decide_eq_decide.2; omega
    · rw [if_pos h1, if_neg h2]; congr 1; symm; apply decide_eq_false; omega
  · rw [if_neg h1]; congr 1; symm; apply decide_eq_false; omega
theorem check_is (b t a : Int) (p : Nat) (y : Int) (g : Bool) (n q : Int) (hp : p < 256) (ha : 0 ≤ a ∧ a ≤ 18446744073709551615) (ht : 0 ≤ t ∧ t ≤ 18446744073709551615) (hn : 0 ≤ n ∧ n ≤ 18446744073709551615) :
    cap_Check.f b t a (p : Int) y g n q = some (if g = true then (if y < 0 then (if ((p &&& low q : Nat) : Int) = q then (if b ≤ a ∧ a + n ≤ t then 0 else 23) else 22) else 21) else 20) := by
  unfold cap_Check.f
  rw [sealed_is, and64_any p q hp, fits_is b t a p y g n ha ht hn]
  cases g
  · simp
  · by_cases hy : y ≥ 0
    · have h2 : ¬ y < 0 := by omega
      simp [hy, h2]
    · have h2 : y < 0 := by omega
      by_cases hq : ((p &&& low q : Nat) : Int) = q
      · by_cases hf : b ≤ a ∧ a + n ≤ t <;> simp [hy, h2, hq, hf]
      · simp [hy, h2, hq]
end Go.Proofs.YtafpkpalkaphkaaDoor.Pure
