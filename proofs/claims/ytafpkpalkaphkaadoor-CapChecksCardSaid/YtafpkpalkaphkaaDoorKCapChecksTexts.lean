/- What a capability's text is, in plain words, for chapter 2. No condition. -/
import Derived.Test.YtafpkpalkaphkaaDoorKCapChecksBase
import Derived.Lib.ItoaLen
namespace Go.Proofs.YtafpkpalkaphkaaDoor.Pure
open Go.RowKit Go.Proofs.YtafpkpalkaphkaaDoor.P Go.Proofs.YtafpkpalkaphkaaDoorW.PrintWords Go.Proofs.YtafpkpalkaphkaaDoorW.PrintLast
set_option linter.unusedVariables false
set_option linter.unusedSimpArgs false

def num (n : Int) : ByteArray := ⟨(Lib.itoa n).toArray⟩
theorem num_size (n : Int) (h0 : 0 ≤ n) (h1 : n ≤ 18446744073709551615) : (num n).size ≤ 20 := by
  obtain ⟨u, rfl⟩ := Int.eq_ofNat_of_zero_le h0
  show (Lib.itoa (u : Int)).toArray.size ≤ 20
  rw [Lib.itoa_nonneg, List.size_toArray, Lib.decDigits_length]
  exact Lib.nDigits_le20 u (by omega)
theorem one_is (n : Int) (h0 : 0 ≤ n) (h1 : n ≤ 18446744073709551615) : cap_Text_1.f n = some (num n) := by
  unfold cap_Text_1.f; rw [if_pos ⟨h0, by omega⟩]; rfl
theorem itoa_is (n : Int) (h0 : 0 ≤ n) (h1 : n ≤ 255) : strconv_Itoa.f n = some (num n) := by
  unfold strconv_Itoa.f; rw [if_pos ⟨by omega, by omega⟩]; rfl
def body (b t a p : Int) : ByteArray := (((((num b ++ (⟨#[46, 46]⟩ : ByteArray)) ++ num t) ++ (⟨#[64]⟩ : ByteArray)) ++ num a) ++ (⟨#[58]⟩ : ByteArray)) ++ num p
def tx (pre : ByteArray) (b t a p y : Int) : ByteArray := if y ≥ 0 then (pre ++ body b t a p) ++ ((⟨#[33]⟩ : ByteArray) ++ num y) else pre ++ body b t a p
def sign (g : Bool) : ByteArray := if g = true then ⟨#[43]⟩ else ⟨#[45]⟩
theorem lit2 : (⟨#[46, 46]⟩ : ByteArray).size = 2 := rfl
theorem lit1 (c : UInt8) : (⟨#[c]⟩ : ByteArray).size = 1 := rfl
theorem text_is (k : Nat) (b t a p y : Int) (g : Bool) (hb : 0 ≤ b ∧ b ≤ 18446744073709551615) (ht : 0 ≤ t ∧ t ≤ 18446744073709551615) (ha : 0 ≤ a ∧ a ≤ 18446744073709551615) (hp : 0 ≤ p ∧ p ≤ 255) (hy : -1 ≤ y ∧ y ≤ 63) :
    cap_Text.f (k + 1) b t a p y g = some (tx (sign g) b t a p y) := by
  have sb := num_size b hb.1 hb.2
  have st := num_size t ht.1 ht.2
  have sa := num_size a ha.1 ha.2
  have sp := num_size p hp.1 (by omega)
  have go : ∀ pre : ByteArray, pre.size = 1 → cap_Text.j0 (k + 1) pre b t a p y g = some (tx pre b t a p y) := by
    intro pre hpre
    rw [cap_Text.j0, one_is b hb.1 hb.2, one_is t ht.1 ht.2, one_is a ha.1 ha.2, itoa_is p hp.1 hp.2, sealed_is]
    simp only [Option.bind_some]
    rw [if_pos (by omega), if_pos (by simp only [ByteArray.size_append, lit1, lit2]; omega), if_pos (by simp only [ByteArray.size_append, lit1, lit2]; omega), if_pos (by simp only [ByteArray.size_append, lit1, lit2]; omega), if_pos (by simp only [ByteArray.size_append, lit1, lit2]; omega), if_pos (by simp only [ByteArray.size_append, lit1, lit2]; omega), if_pos (by simp only [ByteArray.size_append, lit1, lit2]; omega)]
    unfold tx body
    by_cases h : y ≥ 0
    · have sy := num_size y h (by omega)
      rw [if_pos (decide_eq_true h), itoa_is y h (by omega)]
      simp only [Option.bind_some]
      rw [if_pos (by omega), if_pos (by simp only [ByteArray.size_append, lit1, lit2]; omega), if_pos h]
    · rw [if_neg (by simp [h]), if_neg h]
  unfold cap_Text.f sign
  cases g
  · simp only [Bool.false_eq_true, if_false]; exact go _ rfl
  · simp only [if_true]; exact go _ rfl
end Go.Proofs.YtafpkpalkaphkaaDoor.Pure
