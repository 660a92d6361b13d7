/- What capabilities' functions give, in plain words, for chapter 2. No condition. -/
import Derived.Test.YtafpkpalkaphkaaDoorKCapSealsPx8
import Derived.Test.YtafpkpalkaphkaaDoorKCapSealsPx9
import Derived.Test.YtafpkpalkaphkaaDoorKCapSealsPOk
import Derived.DataShut
namespace Go.Proofs.YtafpkpalkaphkaaDoor.Pure
open Go.RowKit Go.Proofs.YtafpkpalkaphkaaDoor.P Go.Proofs.YtafpkpalkaphkaaDoorW.PrintWords Go.Proofs.YtafpkpalkaphkaaDoorW.PrintLast
set_option linter.unusedVariables false
set_option linter.unusedSimpArgs false

theorem u64_range {n : Int} (h : (Lit.int .u64 n).wf = true) : 0 ≤ n ∧ n ≤ 18446744073709551615 := by
  have := (Lit.wf_int_iff .u64 n).1 h
  simpa [IntKind.min, IntKind.max, IntKind.signed, IntKind.bits] using this
theorem wrap_in {n : Int} (h0 : -9223372036854775808 ≤ n) (h1 : n ≤ 9223372036854775807) : wrap64 n = n := by unfold wrap64; omega
theorem wrapi_in {n : Int} (h0 : -9223372036854775808 ≤ n) (h1 : n ≤ 9223372036854775807) : IntKind.i64.wrap n = n := by rw [IntKind.wrap_i64]; omega
theorem wrapu_in {n : Int} (h0 : 0 ≤ n) (h1 : n ≤ 18446744073709551615) : IntKind.u64.wrap n = n := by rw [IntKind.wrap_u64]; omega
theorem and64 (a b : Nat) (ha : a < 256) (hb : b < 9223372036854775808) : Go.bits .and .i64 (a : Int) (b : Int) = ((a &&& b : Nat) : Int) := by
  unfold Go.bits
  show IntKind.i64.wrap _ = _
  have hl : a &&& b ≤ a := Nat.and_le_left
  have hx : (BitVec.ofInt 64 (a : Int) &&& BitVec.ofInt 64 (b : Int)).toNat = a &&& b := by
    rw [BitVec.toNat_and, BitVec.ofInt_natCast, BitVec.ofInt_natCast, BitVec.toNat_ofNat, BitVec.toNat_ofNat, Nat.mod_eq_of_lt (by omega), Nat.mod_eq_of_lt (by omega)]
  show IntKind.i64.wrap ((BitVec.ofInt 64 (a : Int) &&& BitVec.ofInt 64 (b : Int)).toNat : Int) = _
  rw [hx]
  exact wrapi_in (by omega) (by omega)
theorem land_step (p q : Nat) : p &&& q = 2 * (p / 2 &&& q / 2) + (if p % 2 = 1 ∧ q % 2 = 1 then 1 else 0) := by
  have h1 : (p &&& q) / 2 = p / 2 &&& q / 2 := Nat.and_div_two
  have h2 : (p &&& q) % 2 = 1 ↔ p % 2 = 1 ∧ q % 2 = 1 := Nat.and_mod_two_eq_one
  split
  · rename_i h; have := h2.2 h; omega
  · rename_i h
    have : ¬ (p &&& q) % 2 = 1 := fun e => h (h2.1 e)
    omega
theorem both_go (p q : Nat) (hp : p < 256) (hq : q < 256) : ∀ (j i : Nat), i + j = 8 → ∀ (k : Nat) (acc : Nat), acc < 2 ^ i → curtilageref02_both.l0 (k + j + 1) (p : Int) (q : Int) (acc : Int) ((2 ^ i : Nat) : Int) = some ((acc + 2 ^ i * (p / 2 ^ i &&& q / 2 ^ i) : Nat) : Int) := by
  intro j
  induction j with
  | zero =>
    intro i hi k acc ha
    obtain rfl : i = 8 := by omega
    rw [curtilageref02_both.l0, if_neg (by omega)]
    have : p / 2 ^ 8 = 0 := by omega
    rw [this]; simp
  | succ j ih =>
    intro i hi k acc ha
    have hpow : ∃ m : Nat, 2 ^ i = m ∧ 1 ≤ m ∧ m ≤ 128 := ⟨_, rfl, Nat.one_le_pow _ _ (by omega), by
      have : (2 : Nat) ^ i ≤ 2 ^ 7 := Nat.pow_le_pow_right (by omega) (by omega)
      simpa using this⟩
    obtain ⟨m, hm, hm1, hm2⟩ := hpow
    have hs : 2 ^ (i + 1) = 2 * m := by rw [Nat.pow_succ, hm]; omega
    have hP : ∀ x : Nat, x / 2 ^ (i + 1) = x / 2 ^ i / 2 := fun x => by rw [Nat.pow_succ, ← Nat.div_div_eq_div_mul]
    have L := land_step (p / 2 ^ i) (q / 2 ^ i)
    rw [← hP, ← hP] at L
    rw [show k + (j + 1) + 1 = (k + j + 1) + 1 by omega, curtilageref02_both.l0, hm]
    rw [if_pos (by omega), if_neg (by omega)]
    have e1 : ∀ x : Nat, x < 256 → Int.tmod (wrap64 (Int.tdiv (x : Int) (m : Int))) 2 = ((x / m % 2 : Nat) : Int) := by
      intro x hx
      have h1 : Int.tdiv (x : Int) (m : Int) = ((x / m : Nat) : Int) := by rw [Int.tdiv_eq_ediv_of_nonneg (by omega)]; simp
      have h2 : x / m ≤ x := Nat.div_le_self _ _
      generalize x / m = z at *
      rw [h1, wrap_in (by omega) (by omega), Int.tmod_eq_emod_of_nonneg (by omega)]; simp
    have e2 : wrap64 ((m : Int) * 2) = ((2 ^ (i + 1) : Nat) : Int) := by rw [hs, wrap_in (by omega) (by omega)]; omega
    rw [e1 p hp, e1 q hq, e2]
    rw [hm] at L
    have hle : p / m &&& q / m ≤ p / m := Nat.and_le_left
    by_cases h1 : p / m % 2 = 1
    · rw [if_pos (by omega)]
      by_cases h2 : q / m % 2 = 1
      · rw [if_pos (by omega), wrap_in (by omega) (by omega)]
        rw [if_pos ⟨h1, h2⟩] at L
        rw [show ((acc : Int) + (m : Int)) = ((acc + m : Nat) : Int) by omega, ih (i + 1) (by omega) k (acc + m) (by omega), L, hs]
        congr 1
        have : m * (2 * (p / 2 ^ (i + 1) &&& q / 2 ^ (i + 1)) + 1) = 2 * m * (p / 2 ^ (i + 1) &&& q / 2 ^ (i + 1)) + m := by rw [Nat.mul_add, Nat.mul_one, ← Nat.mul_assoc, Nat.mul_comm m 2]
        rw [hs] at this
        omega
      · rw [if_neg (by omega), ih (i + 1) (by omega) k acc (by omega), L, if_neg (fun h => h2 h.2), hs]
        congr 1
        have : m * (2 * (p / 2 ^ (i + 1) &&& q / 2 ^ (i + 1)) + 0) = 2 * m * (p / 2 ^ (i + 1) &&& q / 2 ^ (i + 1)) := by rw [Nat.add_zero, ← Nat.mul_assoc, Nat.mul_comm m 2]
        rw [hs] at this
        omega
    · rw [if_neg (by omega), ih (i + 1) (by omega) k acc (by omega), L, if_neg (fun h => h1 h.1), hs]
      congr 1
      have : m * (2 * (p / 2 ^ (i + 1) &&& q / 2 ^ (i + 1)) + 0) = 2 * m * (p / 2 ^ (i + 1) &&& q / 2 ^ (i + 1)) := by rw [Nat.add_zero, ← Nat.mul_assoc, Nat.mul_comm m 2]
      rw [hs] at this
      omega
theorem both_is (k p q : Nat) (hp : p < 256) (hq : q < 256) : curtilageref02_both.f (k + 9) (p : Int) (q : Int) = some ((p &&& q : Nat) : Int) := by
  have := both_go p q hp hq 8 0 rfl k 0 (by omega)
  simpa [curtilageref02_both.f] using this

theorem awake_is : curtilagelaw02_awake.f (60 + 1) = some true := by kernel_rfl
theorem right_is (b t a p y : Int) (g : Bool) : curtilageref02_Right.f b t a p y g = some (decide (0 ≤ p ∧ p ≤ 255 ∧ -1 ≤ y ∧ y ≤ 63)) := by
  unfold curtilageref02_Right.f
  by_cases h1 : p ≥ 0
  · by_cases h2 : p ≤ 255
    · by_cases h3 : y ≥ -1
      · rw [if_pos h1, if_pos h2, if_pos h3]; congr 1; apply decide_eq_decide.2; omega
      · rw [if_pos h1, if_pos h2, if_neg h3]; congr 1; symm; apply decide_eq_false; omega
    · rw [if_pos h1, if_neg h2]; congr 1; symm; apply decide_eq_false; omega
  · rw [if_neg h1]; congr 1; symm; apply decide_eq_false; omega
theorem sealed_is (b t a p y : Int) (g : Bool) : cap_sealed.f b t a p y g = some (decide (y ≥ 0)) := rfl
theorem clear_is (b t a p y : Int) (g : Bool) : cap_Clear.f b t a p y g = some (b, t, a, p, y, false) := rfl
theorem rclear_is (b t a p y : Int) (g : Bool) : curtilageref02_Clear.f b t a p y g = some (b, t, a, p, y, false) := rfl
def keyB (b t a : Int) (p : Nat) (y : Int) (g : Bool) (m : Nat) : Bool := g && decide (y < 0) && decide (p &&& m ≠ 0) && decide (b ≤ a ∧ a < t ∧ a < 64)
theorem key_is (b t a : Int) (p : Nat) (y : Int) (g : Bool) (m : Nat) (hp : p < 256) (hm : m < 256) : cap_key.f b t a (p : Int) y g (m : Int) = some (keyB b t a p y g m) := by
  unfold cap_key.f keyB
  rw [sealed_is, and64 p m hp (by omega)]
  cases g
  · simp
  · by_cases hy : y ≥ 0
    · have h2 : ¬ y < 0 := by omega
      simp [hy, h2]
    · have h2 : y < 0 := by omega
      by_cases h3 : p &&& m = 0
      · simp [hy, h2, h3]
      · have h4 : ¬ (((p &&& m : Nat) : Int) = 0) := by omega
        by_cases h5 : a ≥ b
        · have h5' : b ≤ a := h5
          by_cases h6 : a < t
          · simp [hy, h2, h3, h4, h5, h6]
          · simp [hy, h2, h3, h4, h5, h6]
        · have h5' : ¬ b ≤ a := h5
          simp [hy, h2, h3, h4, h5']
theorem rkey_is (k : Nat) (b t a : Int) (p : Nat) (y : Int) (g : Bool) (m : Nat) (hp : p < 256) (hm : m < 256) (hy1 : -1 ≤ y) : curtilageref02_key.f (k + 9) b t a (p : Int) y g (m : Int) = some (keyB b t a p y g m) := by
  unfold curtilageref02_key.f keyB
  rw [both_is k p m hp hm]
  cases g
  · simp
  · by_cases hy : y = -1
    · have h2 : y < 0 := by omega
      by_cases h3 : p &&& m = 0
      · simp [hy, h3]
      · have h4 : ¬ (((p &&& m : Nat) : Int) = 0) := by omega
        by_cases h5 : a ≥ b
        · have h5' : b ≤ a := h5
          by_cases h6 : a < t
          · simp [hy, h3, h4, h5, h6]
          · simp [hy, h3, h4, h5, h6]
        · have h5' : ¬ b ≤ a := h5
          simp [hy, h3, h4, h5']
    · have h2 : ¬ y < 0 := by omega
      simp [hy, h2]
theorem seal_is (b t a p y : Int) (g : Bool) (b' t' a' : Int) (p' : Nat) (y' : Int) (g' : Bool) (hp' : p' < 256) :
    cap_Seal.f b t a p y g b' t' a' (p' : Int) y' g' = some (if g = true ∧ y < 0 ∧ keyB b' t' a' p' y' g' 32 = true then (b, t, a, p, wrap64 a', true) else (b, t, a, p, y, false)) := by
  unfold cap_Seal.f
  rw [sealed_is, show (32 : Int) = ((32 : Nat) : Int) from rfl, key_is b' t' a' p' y' g' 32 hp' (by omega), clear_is]
  cases g
  · simp
  · by_cases hy : y ≥ 0
    · have h2 : ¬ y < 0 := by omega
      simp [hy, h2]
    · have h2 : y < 0 := by omega
      cases hk : keyB b' t' a' p' y' g' 32 <;> simp [hy, h2]
theorem rseal_is (k : Nat) (b t a p y : Int) (g : Bool) (b' t' a' : Int) (p' : Nat) (y' : Int) (g' : Bool) (hp' : p' < 256) (hy : -1 ≤ y) (hy' : -1 ≤ y') :
    curtilageref02_Seal.f (k + 9) b t a p y g b' t' a' (p' : Int) y' g' = some (if g = true ∧ y < 0 ∧ keyB b' t' a' p' y' g' 32 = true then (b, t, a, p, wrap64 a', true) else (b, t, a, p, y, false)) := by
  unfold curtilageref02_Seal.f
  rw [show (32 : Int) = ((32 : Nat) : Int) from rfl, rkey_is k b' t' a' p' y' g' 32 hp' (by omega) hy', rclear_is]
  cases g
  · simp
  · by_cases hy : y = -1
    · cases hk : keyB b' t' a' p' y' g' 32 <;> simp [hy, hk]
    · have h2 : ¬ y < 0 := by omega
      simp [hy, h2]
theorem key_at {b t a : Int} {p : Nat} {y : Int} {g : Bool} {m : Nat} (h : keyB b t a p y g m = true) : a < 64 := by
  unfold keyB at h
  simp at h
  omega
theorem unseal_is (b t a p y : Int) (g : Bool) (b' t' a' : Int) (p' : Nat) (y' : Int) (g' : Bool) (hp' : p' < 256) (hy : -1 ≤ y) (hy1 : y ≤ 63) :
    cap_Unseal.f b t a p y g b' t' a' (p' : Int) y' g' = some (if g = true ∧ 0 ≤ y ∧ keyB b' t' a' p' y' g' 64 = true ∧ a' = y then (b, t, a, p, -1, true) else (b, t, a, p, y, false)) := by
  unfold cap_Unseal.f
  rw [sealed_is, show (64 : Int) = ((64 : Nat) : Int) from rfl, key_is b' t' a' p' y' g' 64 hp' (by omega), clear_is]
  cases g
  · simp
  · by_cases hy : y ≥ 0
    · have h2 : 0 ≤ y := hy
      rw [wrapu_in (n := y) (by omega) (by omega)]
      cases hk : keyB b' t' a' p' y' g' 64
      · simp [hy]
      · by_cases he : a' = y <;> simp [hy, he]
    · have h2 : ¬ 0 ≤ y := by omega
      simp [hy]
theorem runseal_is (k : Nat) (b t a p y : Int) (g : Bool) (b' t' a' : Int) (p' : Nat) (y' : Int) (g' : Bool) (hp' : p' < 256) (hy : -1 ≤ y) (hy1 : y ≤ 63) (hy' : -1 ≤ y') (ha' : 0 ≤ a') :
    curtilageref02_Unseal.f (k + 9) b t a p y g b' t' a' (p' : Int) y' g' = some (if g = true ∧ 0 ≤ y ∧ keyB b' t' a' p' y' g' 64 = true ∧ a' = y then (b, t, a, p, -1, true) else (b, t, a, p, y, false)) := by
  unfold curtilageref02_Unseal.f
  rw [show (64 : Int) = ((64 : Nat) : Int) from rfl, rkey_is k b' t' a' p' y' g' 64 hp' (by omega) hy', rclear_is]
  cases g
  · simp
  · by_cases hy2 : y = -1
    · simp [hy2]
    · have h2 : 0 ≤ y := by omega
      cases hk : keyB b' t' a' p' y' g' 64
      · simp [hy2]
      · have := key_at hk
        rw [wrap_in (n := a') (by omega) (by omega)]
        by_cases he : a' = y
        · simp [hy2, he, h2]
        · simp [hy2, he]
end Go.Proofs.YtafpkpalkaphkaaDoor.Pure
