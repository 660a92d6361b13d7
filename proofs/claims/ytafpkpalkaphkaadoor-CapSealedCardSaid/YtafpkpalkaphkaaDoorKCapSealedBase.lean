/- What capabilities' functions give, in plain words, for chapter 2. No condition. -/
import Derived.Test.YtafpkpalkaphkaaDoorKCapSealedPx8
import Derived.Test.YtafpkpalkaphkaaDoorKCapSealedPx9
import Derived.Test.YtafpkpalkaphkaaDoorKCapSealedPOk
import Derived.DataShut
namespace Go.Proofs.YtafpkpalkaphkaaDoor.Pure
open Go.RowKit Go.Proofs.YtafpkpalkaphkaaDoor.P Go.Proofs.YtafpkpalkaphkaaDoorW.PrintWords Go.Proofs.YtafpkpalkaphkaaDoorW.PrintLast
set_option linter.unusedVariables false
set_option linter.unusedSimpArgs false

theorem u64_range {n : Int} (h : (Lit.int .u64 n).wf = true) : 0 ≤ n ∧ n ≤ 18446744073709551615 := by
  have := (Lit.wf_int_iff .u64 n).1 h
  simpa [IntKind.min, IntKind.max, IntKind.signed, IntKind.bits] using this
theorem wrap_in {n : Int} (h0 : -9223372036854775808 ≤ n) (h1 : n ≤ 9223372036854775807) : wrap64 n = n := by unfold wrap64; omega
theorem wrapi_in {n : Int} (h0 : -9223372036854775808 ≤ n) (h1 : n ≤ 9223372036854775807) : IntKind.i64.wrap n = n := by rw [IntKind.wrap_i64]; omega
theorem wrapu_in {n : Int} (h0 : 0 ≤ n) (h1 : n ≤ 18446744073709551615) : IntKind.u64.wrap n = n := by rw [IntKind.wrap_u64]; omega
theorem wrapu_mod (n : Int) : IntKind.u64.wrap n = n % 18446744073709551616 := IntKind.wrap_u64 n

def low (q : Int) : Nat := (q % 256).toNat
theorem and64 (a b : Nat) (ha : a < 256) (hb : b < 9223372036854775808) : Go.bits .and .i64 (a : Int) (b : Int) = ((a &&& b : Nat) : Int) := by
  unfold Go.bits
  show IntKind.i64.wrap _ = _
  have hl : a &&& b ≤ a := Nat.and_le_left
  have hx : (BitVec.ofInt 64 (a : Int) &&& BitVec.ofInt 64 (b : Int)).toNat = a &&& b := by
    rw [BitVec.toNat_and, BitVec.ofInt_natCast, BitVec.ofInt_natCast, BitVec.toNat_ofNat, BitVec.toNat_ofNat, Nat.mod_eq_of_lt (by omega), Nat.mod_eq_of_lt (by omega)]
  show IntKind.i64.wrap ((BitVec.ofInt 64 (a : Int) &&& BitVec.ofInt 64 (b : Int)).toNat : Int) = _
  rw [hx]
  exact wrapi_in (by omega) (by omega)
theorem and64_any (a : Nat) (q : Int) (ha : a < 256) : Go.bits .and .i64 (a : Int) q = ((a &&& low q : Nat) : Int) := by
  unfold Go.bits
  have hl : a &&& low q ≤ a := Nat.and_le_left
  have hq : low q < 256 := by unfold low; omega
  have hx : (BitVec.ofInt 64 (a : Int) &&& BitVec.ofInt 64 q).toNat = a &&& low q := by
    rw [BitVec.toNat_and, BitVec.ofInt_natCast, BitVec.toNat_ofNat, Nat.mod_eq_of_lt (by omega), BitVec.toNat_ofInt]
    apply Nat.eq_of_testBit_eq
    intro i
    rw [Nat.testBit_and, Nat.testBit_and]
    by_cases hi : i < 8
    · have e : low q = (q % 18446744073709551616).toNat % 2 ^ 8 := by unfold low; omega
      rw [e, Nat.testBit_mod_two_pow]
      have e2 : (q % ((2 ^ 64 : Nat) : Int)).toNat = (q % 18446744073709551616).toNat := by rfl
      rw [e2]
      simp [hi]
    · rw [Nat.testBit_lt_two_pow (x := a) (i := i) (Nat.lt_of_lt_of_le ha (Nat.pow_le_pow_right (n := 2) (i := 8) (by omega) (by omega)))]
      simp
  show IntKind.i64.wrap ((BitVec.ofInt 64 (a : Int) &&& BitVec.ofInt 64 q).toNat : Int) = _
  rw [hx]
  exact wrapi_in (by omega) (by omega)
theorem awake_is : curtilagelaw02_awake.f (60 + 1) = some true := by kernel_rfl
theorem right_is (b t a p y : Int) (g : Bool) : curtilageref02_Right.f b t a p y g = some (decide (0 ≤ p ∧ p ≤ 255 ∧ -1 ≤ y ∧ y ≤ 63)) := by
  unfold curtilageref02_Right.f
  by_cases h1 : p ≥ 0
  · by_cases h2 : p ≤ 255
    · by_cases h3 : y ≥ -1
      · rw [if_pos h1, if_pos h2, if_pos h3]; congr 1; apply decide_eq_decide.2; omega
      · rw [if_pos h1, if_pos h2, if_neg h3]; congr 1; symm; apply decide_eq_false; omega
    · rw [if_pos h1, if_neg h2]; congr 1; symm; apply decide_eq_false; omega
  · rw [if_neg h1]; congr 1; symm; apply decide_eq_false; omega
theorem sealed_is (b t a p y : Int) (g : Bool) : cap_sealed.f b t a p y g = some (decide (y ≥ 0)) := rfl
theorem clear_is (b t a p y : Int) (g : Bool) : cap_Clear.f b t a p y g = some (b, t, a, p, y, false) := rfl
theorem open_is (b t a p y : Int) (g : Bool) : cap_open.f b t a p y g = some (b, t, a, p, y, g && !decide (y ≥ 0)) := by
  unfold cap_open.f; rw [sealed_is]; cases g <;> simp
theorem move_is (b t a p y : Int) (g : Bool) (a1 : Int) : cap_Move.f b t a p y g a1 = some (b, t, a1, p, y, g && !decide (y ≥ 0)) := by
  unfold cap_Move.f; rw [open_is]; rfl
theorem fits_is (b t a p y : Int) (g : Bool) (n : Int) (ha : 0 ≤ a ∧ a ≤ 18446744073709551615) (ht : 0 ≤ t ∧ t ≤ 18446744073709551615) (hn : 0 ≤ n ∧ n ≤ 18446744073709551615) :
    cap_fits.f b t a p y g n = some (decide (b ≤ a ∧ a + n ≤ t)) := by
  unfold cap_fits.f
  rw [wrapu_mod]
  by_cases h1 : a ≥ b
  · by_cases h2 : (a + n) % 18446744073709551616 ≥ a
    · rw [if_pos h1, if_pos h2]; congr 1; apply decide_eq_decide.2; omega
    · rw [if_pos h1, if_neg h2]; congr 1; symm; apply decide_eq_false; omega
  · rw [if_neg h1]; congr 1; symm; apply decide_eq_false; omega
theorem bound_is (b t a p y : Int) (g : Bool) (n : Int) (ha : 0 ≤ a ∧ a ≤ 18446744073709551615) (ht : 0 ≤ t ∧ t ≤ 18446744073709551615) (hn : 0 ≤ n ∧ n ≤ 18446744073709551615) :
    cap_Bound.f b t a p y g n = some (if g = true ∧ y < 0 ∧ b ≤ a ∧ a + n ≤ t then (a, a + n, a, p, y, true) else (b, t, a, p, y, false)) := by
  unfold cap_Bound.f
  rw [open_is, fits_is b t a p y g n ha ht hn, clear_is]
  cases g
  · simp
  · by_cases hy : y ≥ 0
    · have h2 : ¬ y < 0 := by omega
      simp [hy, h2]
    · have h2 : y < 0 := by omega
      by_cases hf : b ≤ a ∧ a + n ≤ t
      · have e : IntKind.u64.wrap (a + n) = a + n := wrapu_in (by omega) (by omega)
        simp [hy, h2, hf, e]
      · simp [hy, h2, hf]
def keyB (b t a : Int) (p : Nat) (y : Int) (g : Bool) (m : Nat) : Bool := g && decide (y < 0) && decide (p &&& m ≠ 0) && decide (b ≤ a ∧ a < t ∧ a < 64)
theorem key_is (b t a : Int) (p : Nat) (y : Int) (g : Bool) (m : Nat) (hp : p < 256) (hm : m < 256) : cap_key.f b t a (p : Int) y g (m : Int) = some (keyB b t a p y g m) := by
  unfold cap_key.f keyB
  rw [sealed_is, and64 p m hp (by omega)]
  cases g
  · simp
  · by_cases hy : y ≥ 0
    · have h2 : ¬ y < 0 := by omega
      simp [hy, h2]
    · have h2 : y < 0 := by omega
      by_cases h3 : p &&& m = 0
      · simp [hy, h2, h3]
      · have h4 : ¬ (((p &&& m : Nat) : Int) = 0) := by omega
        by_cases h5 : a ≥ b
        · have h5' : b ≤ a := h5
          by_cases h6 : a < t
          · simp [hy, h2, h3, h4, h5, h6]
          · simp [hy, h2, h3, h4, h5, h6]
        · have h5' : ¬ b ≤ a := h5
          simp [hy, h2, h3, h4, h5']
theorem seal_is (b t a p y : Int) (g : Bool) (b' t' a' : Int) (p' : Nat) (y' : Int) (g' : Bool) (hp' : p' < 256) :
    cap_Seal.f b t a p y g b' t' a' (p' : Int) y' g' = some (if g = true ∧ y < 0 ∧ keyB b' t' a' p' y' g' 32 = true then (b, t, a, p, wrap64 a', true) else (b, t, a, p, y, false)) := by
  unfold cap_Seal.f
  rw [sealed_is, show (32 : Int) = ((32 : Nat) : Int) from rfl, key_is b' t' a' p' y' g' 32 hp' (by omega), clear_is]
  cases g
  · simp
  · by_cases hy : y ≥ 0
    · have h2 : ¬ y < 0 := by omega
      simp [hy, h2]
    · have h2 : y < 0 := by omega
      cases hk : keyB b' t' a' p' y' g' 32 <;> simp [hy, h2]
theorem unseal_is (b t a p y : Int) (g : Bool) (b' t' a' : Int) (p' : Nat) (y' : Int) (g' : Bool) (hp' : p' < 256) (hy : -1 ≤ y) (hy1 : y ≤ 63) :
    cap_Unseal.f b t a p y g b' t' a' (p' : Int) y' g' = some (if g = true ∧ 0 ≤ y ∧ keyB b' t' a' p' y' g' 64 = true ∧ a' = y then (b, t, a, p, -1, true) else (b, t, a, p, y, false)) := by
  unfold cap_Unseal.f
  rw [sealed_is, show (64 : Int) = ((64 : Nat) : Int) from rfl, key_is b' t' a' p' y' g' 64 hp' (by omega), clear_is]
  cases g
  · simp
  · by_cases hy : y ≥ 0
    · have h2 : 0 ≤ y := hy
      rw [wrapu_in (n := y) (by omega) (by omega)]
      cases hk : keyB b' t' a' p' y' g' 64
      · simp [hy]
      · by_cases he : a' = y <;> simp [hy, he]
    · have h2 : ¬ 0 ≤ y := by omega
      simp [hy]
theorem check_is (b t a : Int) (p : Nat) (y : Int) (g : Bool) (n q : Int) (hp : p < 256) (ha : 0 ≤ a ∧ a ≤ 18446744073709551615) (ht : 0 ≤ t ∧ t ≤ 18446744073709551615) (hn : 0 ≤ n ∧ n ≤ 18446744073709551615) :
    cap_Check.f b t a (p : Int) y g n q = some (if g = true then (if y < 0 then (if ((p &&& low q : Nat) : Int) = q then (if b ≤ a ∧ a + n ≤ t then 0 else 23) else 22) else 21) else 20) := by
  unfold cap_Check.f
  rw [sealed_is, and64_any p q hp, fits_is b t a p y g n ha ht hn]
  cases g
  · simp
  · by_cases hy : y ≥ 0
    · have h2 : ¬ y < 0 := by omega
      simp [hy, h2]
    · have h2 : y < 0 := by omega
      by_cases hq : ((p &&& low q : Nat) : Int) = q
      · by_cases hf : b ≤ a ∧ a + n ≤ t <;> simp [hy, h2, hq, hf]
      · simp [hy, h2, hq]
end Go.Proofs.YtafpkpalkaphkaaDoor.Pure
