/- What the hash and its table are, in plain words, . No condition. -/
import Derived.Test.YtoakeildgpeffaaKPlanWholePx10
import Derived.Test.YtoakeildgpeffaaKPlanWholePx11
import Derived.Test.YtoakeildgpeffaaKPlanWholePx12
import Derived.Test.YtoakeildgpeffaaKPlanWholePx13
import Derived.Test.YtoakeildgpeffaaKPlanWholePx14
import Derived.Test.YtoakeildgpeffaaKPlanWholePx2
import Derived.Test.YtoakeildgpeffaaKPlanWholePx3
import Derived.Test.YtoakeildgpeffaaKPlanWholePx4
import Derived.Test.YtoakeildgpeffaaKPlanWholePx5
import Derived.Test.YtoakeildgpeffaaKPlanWholePx6
import Derived.Test.YtoakeildgpeffaaKPlanWholePx9
import Derived.Test.YtoakeildgpeffaaKPlanWholePOk
namespace Go.Proofs.Ytoakeildgpeffaa.Pure
open Go.RowKit Go.Proofs.Ytoakeildgpeffaa.P Go.Proofs.YtoakeildgpeffaaW.PrintWords Go.Proofs.YtoakeildgpeffaaW.PrintLast
set_option linter.unusedVariables false
set_option linter.unusedSimpArgs false

def Ev (P : Nat → Prop) : Prop := ∃ K, ∀ k, K ≤ k → P k
theorem Ev.all {P : Nat → Prop} (h : ∀ k, P k) : Ev P := ⟨0, fun k _ => h k⟩
theorem Ev.map {P Q : Nat → Prop} (h : Ev P) (f : ∀ k, P k → Q k) : Ev Q := let ⟨K, hK⟩ := h; ⟨K, fun k hk => f k (hK k hk)⟩
theorem Ev.and {P Q : Nat → Prop} (h : Ev P) (g : Ev Q) : Ev fun k => P k ∧ Q k :=
  let ⟨K, hK⟩ := h; let ⟨L, hL⟩ := g; ⟨K + L, fun k hk => ⟨hK k (by omega), hL k (by omega)⟩⟩
theorem Ev.step {P Q : Nat → Prop} (h : Ev P) (f : ∀ k, P k → Q (k + 1)) : Ev Q := by
  obtain ⟨K, hK⟩ := h
  refine ⟨K + 1, fun k hk => ?_⟩
  cases k with
  | zero => omega
  | succ k => exact f k (hK k (by omega))
theorem Ev.ex {P : Nat → Prop} (h : Ev P) : ∃ k, P k := let ⟨K, hK⟩ := h; ⟨K, hK K (Nat.le_refl _)⟩
theorem and32 (a b : Nat) (ha : a < 4294967296) (hb : b < 4294967296) : Go.bits .and .u32 (a : Int) (b : Int) = ((a &&& b : Nat) : Int) := by
  unfold Go.bits
  show IntKind.u32.wrap _ = _
  rw [IntKind.wrap_u32]
  have hx : (BitVec.ofInt 32 (a : Int) &&& BitVec.ofInt 32 (b : Int)).toNat = a &&& b := by
    rw [BitVec.toNat_and, BitVec.ofInt_natCast, BitVec.ofInt_natCast, BitVec.toNat_ofNat, BitVec.toNat_ofNat, Nat.mod_eq_of_lt (by simpa using ha), Nat.mod_eq_of_lt (by simpa using hb)]
  have hl : a &&& b < 4294967296 := Nat.lt_of_le_of_lt Nat.and_le_left ha
  show ((BitVec.ofInt 32 (a : Int) &&& BitVec.ofInt 32 (b : Int)).toNat : Int) % 4294967296 = _
  rw [hx]; omega
theorem xor32 (a b : Nat) (ha : a < 4294967296) (hb : b < 4294967296) : Go.bits .xor .u32 (a : Int) (b : Int) = ((a ^^^ b : Nat) : Int) := by
  unfold Go.bits
  show IntKind.u32.wrap _ = _
  rw [IntKind.wrap_u32]
  have hx : (BitVec.ofInt 32 (a : Int) ^^^ BitVec.ofInt 32 (b : Int)).toNat = a ^^^ b := by
    rw [BitVec.toNat_xor, BitVec.ofInt_natCast, BitVec.ofInt_natCast, BitVec.toNat_ofNat, BitVec.toNat_ofNat, Nat.mod_eq_of_lt (by simpa using ha), Nat.mod_eq_of_lt (by simpa using hb)]
  have hl : a ^^^ b < 2 ^ 32 := Nat.xor_lt_two_pow (by simpa using ha) (by simpa using hb)
  show ((BitVec.ofInt 32 (a : Int) ^^^ BitVec.ofInt 32 (b : Int)).toNat : Int) % 4294967296 = _
  rw [hx]; omega
theorem andNot32 (a b : Nat) (ha : a < 4294967296) (hb : b < 4294967296) : Go.bits .andNot .u32 (a : Int) (b : Int) = ((BitVec.ofNat 32 a &&& ~~~ (BitVec.ofNat 32 b)).toNat : Int) := by
  unfold Go.bits
  show IntKind.u32.wrap _ = _
  rw [IntKind.wrap_u32]
  show ((BitVec.ofInt 32 (a : Int) &&& ~~~ BitVec.ofInt 32 (b : Int)).toNat : Int) % 4294967296 = _
  rw [BitVec.ofInt_natCast, BitVec.ofInt_natCast]
  have := (BitVec.ofNat 32 a &&& ~~~ (BitVec.ofNat 32 b)).isLt
  omega
def fixN (u : Nat) : Nat := (u ^^^ (u / 268435456 * 16)) % 268435456
theorem mask_bit (j : Nat) : Nat.testBit 4026531840 j = (decide (28 ≤ j) && decide (j < 32)) := by
  have e : (4026531840 : Nat) = (2 ^ 4 - 1) <<< 28 := by decide
  rw [e, Nat.testBit_shiftLeft, Nat.testBit_two_pow_sub_one]
  by_cases h : 28 ≤ j <;> simp [h]; omega
theorem fix_is (u : Nat) (hu : u < 4294967296) : hash_fix (u : Int) = (fixN u : Int) := by
  have h1 : u &&& 4026531840 < 4294967296 := Nat.lt_of_le_of_lt Nat.and_le_left hu
  unfold hash_fix
  rw [show (4026531840 : Int) = ((4026531840 : Nat) : Int) from rfl, and32 u _ hu (by omega)]
  rw [show (((u &&& 4026531840 : Nat) : Int) / 16777216) = (((u &&& 4026531840) / 16777216 : Nat) : Int) by omega]
  have h2 : (u &&& 4026531840) / 16777216 < 4294967296 := by omega
  rw [xor32 u _ hu h2]
  have h3 : u ^^^ ((u &&& 4026531840) / 16777216) < 4294967296 := by
    have : u ^^^ ((u &&& 4026531840) / 16777216) < 2 ^ 32 := Nat.xor_lt_two_pow (by simpa using hu) (by simpa using h2)
    simpa using this
  rw [andNot32 _ _ h3 h1]
  congr 1
  apply Nat.eq_of_testBit_eq
  intro i
  unfold fixN
  rw [BitVec.testBit_toNat, show (268435456 : Nat) = 2 ^ 28 by decide, show (16777216 : Nat) = 2 ^ 24 by decide, show (16 : Nat) = 2 ^ 4 by decide, Nat.testBit_mod_two_pow, ← Nat.shiftRight_eq_div_pow, ← Nat.shiftRight_eq_div_pow, ← Nat.shiftLeft_eq]
  simp only [BitVec.getLsbD_and, BitVec.getLsbD_not, BitVec.getLsbD_ofNat, Nat.testBit_xor, Nat.testBit_shiftRight, Nat.testBit_shiftLeft, Nat.testBit_and, mask_bit]
  by_cases h32 : i < 32
  · by_cases h28 : i < 28
    · have a1 : ¬ (28 ≤ i) := by omega
      by_cases h4 : 4 ≤ i
      · have e : 28 + (i - 4) = 24 + i := by omega
        rw [e]
        by_cases h8 : 24 + i < 32
        · simp [h32, h28, a1, h4, h8, show 28 ≤ 24 + i by omega]
        · have hb : u.testBit (24 + i) = false := Nat.testBit_lt_two_pow (Nat.lt_of_lt_of_le hu (by have := Nat.pow_le_pow_right (n := 2) (by omega) (show 32 ≤ 24 + i by omega); simpa using this))
          simp [h32, h28, a1, h4, hb]
      · have a2 : ¬ (28 ≤ 24 + i) := by omega
        simp [h32, h28, a1, h4, a2]
    · have a1 : 28 ≤ i := by omega
      have hb : u.testBit (24 + i) = false := Nat.testBit_lt_two_pow (Nat.lt_of_lt_of_le hu (by have := Nat.pow_le_pow_right (n := 2) (by omega) (show 32 ≤ 24 + i by omega); simpa using this))
      simp [h32, h28, a1, hb]
  · have : ¬ i < 28 := by omega
    simp [h32, this]
theorem fixN_lt (u : Nat) : fixN u < 268435456 := Nat.mod_lt _ (by omega)
theorem step_nat (h c : Nat) (hh : h < 268435456) (hc : c < 256) : hash_step (h : Int) (c : Int) = (fixN ((h * 16 + c) % 4294967296) : Int) := by
  unfold hash_step
  rw [show ((h : Int) * 16 + c) % 4294967296 = (((h * 16 + c) % 4294967296 : Nat) : Int) by omega]
  exact fix_is _ (by omega)
theorem fold_nat : ∀ (l : List Int) (h : Nat), h < 268435456 → (∀ c ∈ l, 0 ≤ c ∧ c ≤ 255) → ∃ r : Nat, r < 268435456 ∧ l.foldl hash_step (h : Int) = (r : Int)
  | [], h, hh, _ => ⟨h, hh, rfl⟩
  | c :: l, h, hh, hl => by
    obtain ⟨c0, c1⟩ := hl c (List.mem_cons_self)
    obtain ⟨c, rfl⟩ := Int.eq_ofNat_of_zero_le c0
    rw [List.foldl_cons]
    show ∃ r : Nat, r < 268435456 ∧ l.foldl hash_step (hash_step (h : Int) (c : Int)) = r
    rw [step_nat h c hh (by omega)]
    exact fold_nat l _ (fixN_lt _) fun x hx => hl x (List.mem_cons_of_mem _ hx)
theorem byte_range (a : ByteArray) : ∀ c ∈ bytesOf a, 0 ≤ c ∧ c ≤ 255 := by
  intro c hc
  unfold bytesOf at hc
  obtain ⟨b, _, rfl⟩ := List.mem_map.1 hc
  have := b.toNat_lt
  omega
theorem hashOf_nat (a : ByteArray) : ∃ r : Nat, r < 268435456 ∧ hashOf a = (r : Int) := fold_nat (bytesOf a) 0 (by omega) (byte_range a)
theorem Of_is (a : ByteArray) (h : a.size ≤ 9223372036854775807) : hash_Of.f a = some (hashOf a) := by unfold hash_Of.f; rw [if_pos h]; rfl

end Go.Proofs.Ytoakeildgpeffaa.Pure
