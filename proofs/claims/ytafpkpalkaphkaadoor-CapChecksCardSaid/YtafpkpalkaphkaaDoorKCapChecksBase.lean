/- What capabilities' functions give, in plain words, for chapter 2. No condition. -/
import Derived.Test.YtafpkpalkaphkaaDoorKCapChecksPx8
import Derived.Test.YtafpkpalkaphkaaDoorKCapChecksPx9
import Derived.Test.YtafpkpalkaphkaaDoorKCapChecksPOk
import Derived.DataShut
namespace Go.Proofs.YtafpkpalkaphkaaDoor.Pure
open Go.RowKit Go.Proofs.YtafpkpalkaphkaaDoor.P Go.Proofs.YtafpkpalkaphkaaDoorW.PrintWords Go.Proofs.YtafpkpalkaphkaaDoorW.PrintLast
set_option linter.unusedVariables false
set_option linter.unusedSimpArgs false

theorem u64_range {n : Int} (h : (Lit.int .u64 n).wf = true) : 0 ≤ n ∧ n ≤ 18446744073709551615 := by
  have := (Lit.wf_int_iff .u64 n).1 h
  simpa [IntKind.min, IntKind.max, IntKind.signed, IntKind.bits] using this
theorem wrap_in {n : Int} (h0 : -9223372036854775808 ≤ n) (h1 : n ≤ 9223372036854775807) : wrap64 n = n := by unfold wrap64; omega
theorem wrapi_in {n : Int} (h0 : -9223372036854775808 ≤ n) (h1 : n ≤ 9223372036854775807) : IntKind.i64.wrap n = n := by rw [IntKind.wrap_i64]; omega
theorem wrapu_in {n : Int} (h0 : 0 ≤ n) (h1 : n ≤ 18446744073709551615) : IntKind.u64.wrap n = n := by rw [IntKind.wrap_u64]; omega
theorem wrapu_mod (n : Int) : IntKind.u64.wrap n = n % 18446744073709551616 := IntKind.wrap_u64 n

def low (q : Int) : Nat := (q % 256).toNat
theorem and64 (a b : Nat) (ha : a < 256) (hb : b < 9223372036854775808) : Go.bits .and .i64 (a : Int) (b : Int) = ((a &&& b : Nat) : Int) := by
  unfold Go.bits
  show IntKind.i64.wrap _ = _
  have hl : a &&& b ≤ a := Nat.and_le_left
  have hx : (BitVec.ofInt 64 (a : Int) &&& BitVec.ofInt 64 (b : Int)).toNat = a &&& b := by
    rw [BitVec.toNat_and, BitVec.ofInt_natCast, BitVec.ofInt_natCast, BitVec.toNat_ofNat, BitVec.toNat_ofNat, Nat.mod_eq_of_lt (by omega), Nat.mod_eq_of_lt (by omega)]
  show IntKind.i64.wrap ((BitVec.ofInt 64 (a : Int) &&& BitVec.ofInt 64 (b : Int)).toNat : Int) = _
  rw [hx]
  exact wrapi_in (by omega) (by omega)
theorem and64_any (a : Nat) (q : Int) (ha : a < 256) : Go.bits .and .i64 (a : Int) q = ((a &&& low q : Nat) : Int) := by
  unfold Go.bits
  have hl : a &&& low q ≤ a := Nat.and_le_left
  have hq : low q < 256 := by unfold low; omega
  have hx : (BitVec.ofInt 64 (a : Int) &&& BitVec.ofInt 64 q).toNat = a &&& low q := by
    rw [BitVec.toNat_and, BitVec.ofInt_natCast, BitVec.toNat_ofNat, Nat.mod_eq_of_lt (by omega), BitVec.toNat_ofInt]
    apply Nat.eq_of_testBit_eq
    intro i
    rw [Nat.testBit_and, Nat.testBit_and]
    by_cases hi : i < 8
    · have e : low q = (q % 18446744073709551616).toNat % 2 ^ 8 := by unfold low; omega
      rw [e, Nat.testBit_mod_two_pow]
      have e2 : (q % ((2 ^ 64 : Nat) : Int)).toNat = (q % 18446744073709551616).toNat := by rfl
      rw [e2]
      simp [hi]
    · rw [Nat.testBit_lt_two_pow (x := a) (i := i) (Nat.lt_of_lt_of_le ha (Nat.pow_le_pow_right (n := 2) (i := 8) (by omega) (by omega)))]
      simp
  show IntKind.i64.wrap ((BitVec.ofInt 64 (a : Int) &&& BitVec.ofInt 64 q).toNat : Int) = _
  rw [hx]
  exact wrapi_in (by omega) (by omega)
/-- Nothing of a number is beside another one: it is within it. -/
theorem andNot64 (a b : Nat) (ha : a < 256) (hb : b < 256) : (Go.bits .andNot .i64 (a : Int) (b : Int) = 0) ↔ a &&& b = a := by
  unfold Go.bits
  have hx : (BitVec.ofInt 64 (a : Int) &&& ~~~ BitVec.ofInt 64 (b : Int)).toNat ≤ a := by
    rw [BitVec.toNat_and, BitVec.ofInt_natCast, BitVec.toNat_ofNat, Nat.mod_eq_of_lt (by omega)]
    exact Nat.and_le_left
  show (IntKind.i64.wrap ((BitVec.ofInt 64 (a : Int) &&& ~~~ BitVec.ofInt 64 (b : Int)).toNat : Int) = 0) ↔ _
  rw [show IntKind.i64.wrap ((BitVec.ofInt 64 (a : Int) &&& ~~~ BitVec.ofInt 64 (b : Int)).toNat : Int) = ((BitVec.ofInt 64 (a : Int) &&& ~~~ BitVec.ofInt 64 (b : Int)).toNat : Int) from wrapi_in (by omega) (by omega)]
  have key : (BitVec.ofInt 64 (a : Int) &&& ~~~ BitVec.ofInt 64 (b : Int)).toNat = 0 ↔ a &&& b = a := by
    rw [BitVec.ofInt_natCast, BitVec.ofInt_natCast]
    constructor
    · intro h
      apply Nat.eq_of_testBit_eq
      intro i
      rw [Nat.testBit_and]
      have hz : BitVec.ofNat 64 a &&& ~~~ BitVec.ofNat 64 b = 0#64 := BitVec.eq_of_toNat_eq (by simpa using h)
      by_cases hi : i < 64
      · have hb_ := congrArg (fun v => BitVec.getLsbD v i) hz
        simp only [BitVec.getLsbD_and, BitVec.getLsbD_not, BitVec.getLsbD_ofNat, hi, decide_true, Bool.true_and, BitVec.getLsbD_zero] at hb_
        cases ht : a.testBit i
        · rfl
        · rw [ht] at hb_; simpa using hb_
      · rw [Nat.testBit_lt_two_pow (x := a) (i := i) (Nat.lt_of_lt_of_le ha (Nat.pow_le_pow_right (n := 2) (i := 8) (by omega) (by omega)))]
        simp
    · intro h
      have hz : BitVec.ofNat 64 a &&& ~~~ BitVec.ofNat 64 b = 0#64 := by
        apply BitVec.eq_of_getLsbD_eq
        intro i hi
        have ht : (a &&& b).testBit i = a.testBit i := by rw [h]
        rw [Nat.testBit_and] at ht
        simp only [BitVec.getLsbD_and, BitVec.getLsbD_not, BitVec.getLsbD_ofNat, hi, decide_true, Bool.true_and, BitVec.getLsbD_zero]
        cases h1 : a.testBit i
        · simp
        · rw [h1] at ht; simpa using ht
      rw [hz]; rfl
  constructor
  · intro h; exact key.1 (by exact_mod_cast h)
  · intro h; exact_mod_cast key.2 h
theorem land_step (p q : Nat) : p &&& q = 2 * (p / 2 &&& q / 2) + (if p % 2 = 1 ∧ q % 2 = 1 then 1 else 0) := by
  have h1 : (p &&& q) / 2 = p / 2 &&& q / 2 := Nat.and_div_two
  have h2 : (p &&& q) % 2 = 1 ↔ p % 2 = 1 ∧ q % 2 = 1 := Nat.and_mod_two_eq_one
  split
  · rename_i h; have := h2.2 h; omega
  · rename_i h
    have : ¬ (p &&& q) % 2 = 1 := fun e => h (h2.1 e)
    omega
theorem both_go (p q : Nat) (hp : p < 256) (hq : q < 256) : ∀ (j i : Nat), i + j = 8 → ∀ (k : Nat) (acc : Nat), acc < 2 ^ i → curtilageref02_both.l0 (k + j + 1) (p : Int) (q : Int) (acc : Int) ((2 ^ i : Nat) : Int) = some ((acc + 2 ^ i * (p / 2 ^ i &&& q / 2 ^ i) : Nat) : Int) := by
  intro j
  induction j with
  | zero =>
    intro i hi k acc ha
    obtain rfl : i = 8 := by omega
    rw [curtilageref02_both.l0, if_neg (by omega)]
    have : p / 2 ^ 8 = 0 := by omega
    rw [this]; simp
  | succ j ih =>
    intro i hi k acc ha
    have hpow : ∃ m : Nat, 2 ^ i = m ∧ 1 ≤ m ∧ m ≤ 128 := ⟨_, rfl, Nat.one_le_pow _ _ (by omega), by
      have : (2 : Nat) ^ i ≤ 2 ^ 7 := Nat.pow_le_pow_right (by omega) (by omega)
      simpa using this⟩
    obtain ⟨m, hm, hm1, hm2⟩ := hpow
    have hs : 2 ^ (i + 1) = 2 * m := by rw [Nat.pow_succ, hm]; omega
    have hP : ∀ x : Nat, x / 2 ^ (i + 1) = x / 2 ^ i / 2 := fun x => by rw [Nat.pow_succ, ← Nat.div_div_eq_div_mul]
    have L := land_step (p / 2 ^ i) (q / 2 ^ i)
    rw [← hP, ← hP] at L
    rw [show k + (j + 1) + 1 = (k + j + 1) + 1 by omega, curtilageref02_both.l0, hm]
    rw [if_pos (by omega), if_neg (by omega)]
    have e1 : ∀ x : Nat, x < 256 → Int.tmod (wrap64 (Int.tdiv (x : Int) (m : Int))) 2 = ((x / m % 2 : Nat) : Int) := by
      intro x hx
      have h1 : Int.tdiv (x : Int) (m : Int) = ((x / m : Nat) : Int) := by rw [Int.tdiv_eq_ediv_of_nonneg (by omega)]; simp
      have h2 : x / m ≤ x := Nat.div_le_self _ _
      generalize x / m = z at *
      rw [h1, wrap_in (by omega) (by omega), Int.tmod_eq_emod_of_nonneg (by omega)]; simp
    have e2 : wrap64 ((m : Int) * 2) = ((2 ^ (i + 1) : Nat) : Int) := by rw [hs, wrap_in (by omega) (by omega)]; omega
    rw [e1 p hp, e1 q hq, e2]
    rw [hm] at L
    have hle : p / m &&& q / m ≤ p / m := Nat.and_le_left
    by_cases h1 : p / m % 2 = 1
    · rw [if_pos (by omega)]
      by_cases h2 : q / m % 2 = 1
      · rw [if_pos (by omega), wrap_in (by omega) (by omega)]
        rw [if_pos ⟨h1, h2⟩] at L
        rw [show ((acc : Int) + (m : Int)) = ((acc + m : Nat) : Int) by omega, ih (i + 1) (by omega) k (acc + m) (by omega), L, hs]
        congr 1
        have : m * (2 * (p / 2 ^ (i + 1) &&& q / 2 ^ (i + 1)) + 1) = 2 * m * (p / 2 ^ (i + 1) &&& q / 2 ^ (i + 1)) + m := by rw [Nat.mul_add, Nat.mul_one, ← Nat.mul_assoc, Nat.mul_comm m 2]
        rw [hs] at this
        omega
      · rw [if_neg (by omega), ih (i + 1) (by omega) k acc (by omega), L, if_neg (fun h => h2 h.2), hs]
        congr 1
        have : m * (2 * (p / 2 ^ (i + 1) &&& q / 2 ^ (i + 1)) + 0) = 2 * m * (p / 2 ^ (i + 1) &&& q / 2 ^ (i + 1)) := by rw [Nat.add_zero, ← Nat.mul_assoc, Nat.mul_comm m 2]
        rw [hs] at this
        omega
    · rw [if_neg (by omega), ih (i + 1) (by omega) k acc (by omega), L, if_neg (fun h => h1 h.1), hs]
      congr 1
      have : m * (2 * (p / 2 ^ (i + 1) &&& q / 2 ^ (i + 1)) + 0) = 2 * m * (p / 2 ^ (i + 1) &&& q / 2 ^ (i + 1)) := by rw [Nat.add_zero, ← Nat.mul_assoc, Nat.mul_comm m 2]
      rw [hs] at this
      omega
theorem both_is (k p q : Nat) (hp : p < 256) (hq : q < 256) : curtilageref02_both.f (k + 9) (p : Int) (q : Int) = some ((p &&& q : Nat) : Int) := by
  have := both_go p q hp hq 8 0 rfl k 0 (by omega)
  simpa [curtilageref02_both.f] using this

theorem awake_is : curtilagelaw02_awake.f (60 + 1) = some true := by kernel_rfl
theorem right_is (b t a p y : Int) (g : Bool) : curtilageref02_Right.f b t a p y g = some (decide (0 ≤ p ∧ p ≤ 255 ∧ -1 ≤ y ∧ y ≤ 63)) := by
  unfold curtilageref02_Right.f
  by_cases h1 : p ≥ 0
  · by_cases h2 : p ≤ 255
    · by_cases h3 : y ≥ -1
      · rw [if_pos h1, if_pos h2, if_pos h3]; congr 1; apply decide_eq_decide.2; omega
      · rw [if_pos h1, if_pos h2, if_neg h3]; congr 1; symm; apply decide_eq_false; omega
    · rw [if_pos h1, if_neg h2]; congr 1; symm; apply decide_eq_false; omega
  · rw [if_neg h1]; congr 1; symm; apply decide_eq_false; omega
theorem sealed_is (b t a p y : Int) (g : Bool) : cap_sealed.f b t a p y g = some (decide (y ≥ 0)) := rfl
theorem fits_is (b t a p y : Int) (g : Bool) (n : Int) (ha : 0 ≤ a ∧ a ≤ 18446744073709551615) (ht : 0 ≤ t ∧ t ≤ 18446744073709551615) (hn : 0 ≤ n ∧ n ≤ 18446744073709551615) :
    cap_fits.f b t a p y g n = some (decide (b ≤ a ∧ a + n ≤ t)) := by
  unfold cap_fits.f
  rw [wrapu_mod]
  by_cases h1 : a ≥ b
  · by_cases h2 : (a + n) % 18446744073709551616 ≥ a
    · rw [if_pos h1, if_pos h2]; congr 1; apply decide_eq_decide.2; omega
    · rw [if_pos h1, if_neg h2]; congr 1; symm; apply decide_eq_false; omega
  · rw [if_neg h1]; congr 1; symm; apply decide_eq_false; omega
theorem check_is (b t a : Int) (p : Nat) (y : Int) (g : Bool) (n q : Int) (hp : p < 256) (ha : 0 ≤ a ∧ a ≤ 18446744073709551615) (ht : 0 ≤ t ∧ t ≤ 18446744073709551615) (hn : 0 ≤ n ∧ n ≤ 18446744073709551615) :
    cap_Check.f b t a (p : Int) y g n q = some (if g = true then (if y < 0 then (if ((p &&& low q : Nat) : Int) = q then (if b ≤ a ∧ a + n ≤ t then 0 else 23) else 22) else 21) else 20) := by
  unfold cap_Check.f
  rw [sealed_is, and64_any p q hp, fits_is b t a p y g n ha ht hn]
  cases g
  · simp
  · by_cases hy : y ≥ 0
    · have h2 : ¬ y < 0 := by omega
      simp [hy, h2]
    · have h2 : y < 0 := by omega
      by_cases hq : ((p &&& low q : Nat) : Int) = q
      · by_cases hf : b ≤ a ∧ a + n ≤ t <;> simp [hy, h2, hq, hf]
      · simp [hy, h2, hq]
end Go.Proofs.YtafpkpalkaphkaaDoor.Pure
