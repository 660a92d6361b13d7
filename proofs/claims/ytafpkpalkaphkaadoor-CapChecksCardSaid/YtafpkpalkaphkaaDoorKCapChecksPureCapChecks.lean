/- The pure statement of the law CapChecks. No condition. -/
import Derived.Test.YtafpkpalkaphkaaDoorKCapChecksPStCapChecks
import Derived.Test.YtafpkpalkaphkaaDoorKCapChecksMore
import Derived.Test.YtafpkpalkaphkaaDoorKCapChecksTexts
namespace Go.Proofs.YtafpkpalkaphkaaDoor.Pure
open Go.RowKit Go.Proofs.YtafpkpalkaphkaaDoor.P Go.Proofs.YtafpkpalkaphkaaDoorW.PrintWords Go.Proofs.YtafpkpalkaphkaaDoorW.PrintLast
set_option linter.unusedVariables false
set_option linter.unusedSimpArgs false

theorem number_is (u : Nat) : u < 18446744073709551616 → ∀ k, Lib.nDigits u ≤ k → curtilageref02_number.f k (u : Int) = some (num (u : Int)) := by
  induction u using Nat.strongRecOn with
  | _ u ih =>
    intro hu k hk
    have hpos := Lib.nDigits_pos u
    obtain ⟨k, rfl⟩ : ∃ m, k = m + 1 := ⟨k - 1, by omega⟩
    have en : ∀ n : Nat, num (n : Int) = ⟨(Lib.decDigits n).toArray⟩ := fun n => by unfold num; rw [Lib.itoa_nonneg]
    rw [curtilageref02_number.f]
    by_cases h : u < 10
    · rw [if_pos (by omega), wrapu_in (by omega) (by omega), en, Lib.decDigits_one h]
      have e : (48 + (u : Int)) % 256 = ((48 + u : Nat) : Int) := by omega
      rw [e]
      unfold strOfNums
      congr 2
    · rw [if_neg (by omega)]
      have e1 : Int.tdiv (u : Int) 10 = ((u / 10 : Nat) : Int) := by rw [Int.tdiv_eq_ediv_of_nonneg (by omega)]; simp
      have e2 : Int.tmod (u : Int) 10 = ((u % 10 : Nat) : Int) := by rw [Int.tmod_eq_emod_of_nonneg (by omega)]; simp
      rw [e1, e2, wrapu_in (by omega) (by omega)]
      have hd := Lib.nDigits_big h
      have hk1 : Lib.nDigits (u % 10) ≤ k := by
        rw [Lib.nDigits_small (by omega)]; have := Lib.nDigits_pos (u / 10); omega
      rw [ih (u / 10) (by omega) (by omega) k (by omega), ih (u % 10) (by omega) (by omega) k hk1]
      simp only [Option.bind_some]
      have s1 := num_size ((u / 10 : Nat) : Int) (by omega) (by omega)
      have s2 := num_size ((u % 10 : Nat) : Int) (by omega) (by omega)
      rw [if_pos (by omega), en, en, en, Lib.decDigits.eq_1 u, dif_neg h, Lib.decDigits_one (i := u % 10) (by omega)]
      congr 1
theorem number_of (n : Int) (h0 : 0 ≤ n) (h1 : n ≤ 18446744073709551615) (k : Nat) : curtilageref02_number.f (k + 20) n = some (num n) := by
  obtain ⟨u, rfl⟩ := Int.eq_ofNat_of_zero_le h0
  exact number_is u (by omega) _ (by have := Lib.nDigits_le20 u (by omega); omega)
theorem rtext_is (k : Nat) (b t a p y : Int) (g : Bool) (hb : 0 ≤ b ∧ b ≤ 18446744073709551615) (ht : 0 ≤ t ∧ t ≤ 18446744073709551615) (ha : 0 ≤ a ∧ a ≤ 18446744073709551615) (hp : 0 ≤ p ∧ p ≤ 255) (hy : -1 ≤ y ∧ y ≤ 63) :
    curtilageref02_Text.f (k + 20) b t a p y g = some (tx (sign g) b t a p y) := by
  have sb := num_size b hb.1 hb.2
  have st := num_size t ht.1 ht.2
  have sa := num_size a ha.1 ha.2
  have sp := num_size p hp.1 (by omega)
  unfold curtilageref02_Text.f
  rw [number_of b hb.1 hb.2, number_of t ht.1 ht.2, number_of a ha.1 ha.2, wrapu_in (n := p) hp.1 (by omega), number_of p hp.1 (by omega)]
  simp only [Option.bind_some]
  rw [if_pos (by omega), if_pos (by simp only [ByteArray.size_append, lit1, lit2]; omega), if_pos (by simp only [ByteArray.size_append, lit1, lit2]; omega), if_pos (by simp only [ByteArray.size_append, lit1, lit2]; omega), if_pos (by simp only [ByteArray.size_append, lit1, lit2]; omega), if_pos (by simp only [ByteArray.size_append, lit1, lit2]; omega)]
  unfold tx body sign
  by_cases h : y ≥ 0
  · have sy := num_size y h (by omega)
    rw [if_pos h, if_pos (by simp only [ByteArray.size_append, lit1, lit2]; omega), wrapu_in (n := y) h (by omega), number_of y h (by omega)]
    simp only [Option.bind_some]
    rw [if_pos (by simp only [ByteArray.size_append, lit1, lit2]; omega), if_pos h]
    cases g <;> simp only [Bool.false_eq_true, if_false, if_true] <;> rw [if_pos (by simp only [ByteArray.size_append, lit1, lit2]; omega)] <;> congr 1 <;> apply ByteArray.ext <;> simp [ByteArray.data_append]
  · rw [if_neg h, if_neg h]
    cases g <;> simp only [Bool.false_eq_true, if_false, if_true] <;> rw [if_pos (by simp only [ByteArray.size_append, lit1, lit2]; omega)]
theorem CapChecks : curtilagelaw02_CapChecks.Pure := by
  rintro ⟨b, t, a, p, y, g⟩ ⟨b', t', a', p', y', g'⟩ n q ⟨h0, h1, h2, h3, h4, _⟩ ⟨h0', h1', h2', h3', h4', _⟩ hn hq
  simp only at h0 h1 h2 h3 h4 h0' h1' h2' h3' h4' ⊢
  have h0 := u64_range h0; have h1 := u64_range h1; have h2 := u64_range h2; have hn := u64_range hn
  refine ⟨60 + 1, ?_⟩
  unfold curtilagelaw02_CapChecks.f
  rw [awake_is, right_is, right_is]
  simp only [Option.bind_some]
  by_cases r1 : 0 ≤ p ∧ p ≤ 255 ∧ -1 ≤ y ∧ y ≤ 63
  · by_cases r2 : 0 ≤ p' ∧ p' ≤ 255 ∧ -1 ≤ y' ∧ y' ≤ 63
    · rw [if_pos (decide_eq_true r1), if_pos (decide_eq_true r2)]
      by_cases hq0 : q < 0
      · rw [if_pos hq0, curtilagelaw02_CapChecks.j0]; simp
      · rw [if_neg hq0, curtilagelaw02_CapChecks.j0]
        by_cases hq1 : q > 255
        · simp [hq1]
        · obtain ⟨m, rfl⟩ := Int.eq_ofNat_of_zero_le r1.1
          obtain ⟨m', rfl⟩ := Int.eq_ofNat_of_zero_le r2.1
          rw [check_is b t a m y g n q (by omega) h2 h1 hn, within_is b t a m y g b' t' a' m' y' g' (by omega) (by omega), rcheck_is b t a m y g n q (by omega) h2 h1 hn (by omega)]
          rw [show (60 : Nat) = 51 + 9 from rfl, rwithin_is 51 b t a m y g b' t' a' m' y' g' (by omega) (by omega)]
          rw [show (51 + 9 : Nat) = 59 + 1 from rfl, text_is 59 b t a m y g h0 h1 h2 ⟨r1.1, r1.2.1⟩ r1.2.2]
          rw [show (59 + 1 : Nat) = 40 + 20 from rfl, rtext_is 40 b t a m y g h0 h1 h2 ⟨r1.1, r1.2.1⟩ r1.2.2]
          simp [hq1]
    · rw [if_pos (decide_eq_true r1), if_neg (by simp [r2]), curtilagelaw02_CapChecks.j0]; simp
  · rw [if_neg (by simp [r1]), curtilagelaw02_CapChecks.j0]; simp
end Go.Proofs.YtafpkpalkaphkaaDoor.Pure
