/- A word out of its bytes. No condition. -/
import Derived.Test.YtccndffoljjadaaKAbiTextsMe0
import Derived.Test.YtccndffoljjadaaKAbiTextsMd0
import Derived.Laws.BitsAllLaws
namespace Go.Proofs.Ytccndffoljjadaa.P
open Go.RowKit Go.Proofs.YtccndffoljjadaaW.PrintWords Go.Proofs.YtccndffoljjadaaW.PrintLast Go.Proofs.YtccndffoljjadaaW.PrintMore
set_option linter.unusedVariables false
set_option linter.unusedSimpArgs false
/-- The number of some bytes, the least first. -/
def leval : List Int → Int
  | [] => 0
  | b :: r => b + 256 * leval r
theorem leval_app (a b : List Int) : leval (a ++ b) = leval a + 256 ^ a.length * leval b := by
  induction a with
  | nil => simp [leval]
  | cons x r ih =>
    simp only [List.cons_append, leval, ih, List.length_cons, Int.pow_succ]
    generalize (256 : Int) ^ r.length = p
    rw [Int.mul_add, Int.add_assoc, ← Int.mul_assoc, Int.mul_comm 256 p]
theorem leval_range : ∀ {l : List Int}, (∀ b ∈ l, 0 ≤ b ∧ b < 256) → 0 ≤ leval l ∧ leval l < 256 ^ l.length
  | [], _ => by simp [leval]
  | b :: r, h => by
    have ih := leval_range (l := r) (fun c hc => h c (List.mem_cons_of_mem _ hc))
    have hb := h b List.mem_cons_self
    simp only [leval, List.length_cons, Int.pow_succ]
    generalize (256 : Int) ^ r.length = p at ih
    omega
theorem or_step (acc b : Nat) (i : Nat) (hi : i < 8) (ha : acc < 256 ^ i) (hb : b < 256) : Go.bits .or .u64 (acc : Int) (shl .u64 (IntKind.u64.wrap (b : Int)) (wrap64 (8 * (i : Int)))) = ((acc + b * 256 ^ i : Nat) : Int) := by
  have e1 : IntKind.u64.wrap (b : Int) = b := by rw [IntKind.wrap_u64]; omega
  have e2 : wrap64 (8 * (i : Int)) = ((8 * i : Nat) : Int) := by unfold wrap64; omega
  have e3 : (256 : Nat) ^ i = 2 ^ (8 * i) := by rw [Nat.pow_mul]
  have hp : 256 ^ i ≤ 256 ^ 7 := Nat.pow_le_pow_right (by omega) (by omega)
  have hpos : 0 < 256 ^ i := Nat.pow_pos (by omega)
  have hlt : b * 256 ^ i < 18446744073709551616 := by
    have : b * 256 ^ i ≤ 255 * 256 ^ 7 := Nat.mul_le_mul (by omega) hp
    omega
  have e4 : shl .u64 (b : Int) ((8 * i : Nat) : Int) = ((b * 256 ^ i : Nat) : Int) := by
    unfold shl
    have hm : min ((8 * i : Nat) : Int).toNat IntKind.u64.bits = 8 * i := by
      rw [Int.toNat_natCast]
      exact Nat.min_eq_left (by show 8 * i ≤ 64; omega)
    rw [hm]
    have : (b : Int) * 2 ^ (8 * i) = ((b * 256 ^ i : Nat) : Int) := by rw [e3]; simp
    rw [this, IntKind.wrap_u64]
    omega
  rw [e1, e2, e4, Go.u64_or_nat acc (b * 256 ^ i) (by omega) hlt]
  congr 1
  rw [e3, Nat.or_comm, ← Nat.shiftLeft_eq, ← Nat.shiftLeft_add_eq_or_of_lt (by rw [← e3]; exact ha)]
  omega
theorem of_go (l : List Int) (hl : l.length ≤ 8) (hb : ∀ b ∈ l, 0 ≤ b ∧ b < 256) (e : Nat) : ∀ d i : Nat, d + i = l.length → word_Of.l0 (d + 1 + e) l (leval (l.take i)) (l.length : Int) (i : Int) = some (leval l)
  | 0, i, hi => by
    rw [show 0 + 1 + e = e + 1 by omega]
    unfold word_Of.l0
    rw [if_neg (by omega), List.take_of_length_le (by omega)]
  | d + 1, i, hi => by
    have hlt : i < l.length := by omega
    have ih := of_go l hl hb e d (i + 1) (by omega)
    rw [show d + 1 + 1 + e = (d + 1 + e) + 1 by omega]
    unfold word_Of.l0
    have W1 : wrap64 (8 * (i : Int)) = 8 * (i : Int) := by unfold wrap64; omega
    have W2 : wrap64 ((i : Int) + 1) = ((i + 1 : Nat) : Int) := by unfold wrap64; omega
    rw [if_pos (by omega), if_pos (by omega), if_pos (by omega), if_pos (by rw [W1]; omega), W2]
    have hx := hb l[i] (List.getElem_mem hlt)
    have hr : rd l (i : Int) = l[i] := by simp [rd, List.getElem?_eq_getElem hlt]
    obtain ⟨h0, h1⟩ := leval_range (l := l.take i) (fun b hb2 => hb b (List.mem_of_mem_take hb2))
    rw [List.length_take, Nat.min_eq_left (by omega)] at h1
    obtain ⟨A, hA⟩ := Int.eq_ofNat_of_zero_le h0
    obtain ⟨B, hB⟩ := Int.eq_ofNat_of_zero_le hx.1
    have e256 : ((256 ^ i : Nat) : Int) = (256 : Int) ^ i := by rw [Int.natCast_pow]; rfl
    have hA2 : A < 256 ^ i := by rw [hA, ← e256] at h1; exact Int.ofNat_lt.1 h1
    have st := or_step A B i (by omega) hA2 (by omega)
    rw [hr, hA, hB, st]
    have es : ((A + B * 256 ^ i : Nat) : Int) = leval (l.take (i + 1)) := by
      rw [List.take_succ_eq_append_getElem hlt, leval_app, hA, List.length_take, Nat.min_eq_left (by omega)]
      simp only [leval, hB]
      rw [Int.natCast_add, Int.natCast_mul, e256, Int.mul_zero, Int.add_zero, Int.mul_comm]
    rw [es]
    exact ih
theorem of_val (l : List Int) (hl : l.length ≤ 8) (hb : ∀ b ∈ l, 0 ≤ b ∧ b < 256) : word_Of.f 20 l = some (leval l) := by
  have h := of_go l hl hb (19 - l.length) l.length 0 rfl
  unfold word_Of.f
  have e : mn (l.length : Int) 8 = l.length := by unfold mn; omega
  rw [e]
  rw [show l.length + 1 + (19 - l.length) = 20 by omega] at h
  exact h
/-- A word's bytes, in lengths. -/
def leb (c : Int) : List Int := [c % 256, c / 256 % 256, c / 65536 % 256, c / 16777216 % 256, c / 4294967296 % 256, c / 1099511627776 % 256, c / 281474976710656 % 256, c / 72057594037927936 % 256]
theorem leb_range (c : Int) : ∀ b ∈ leb c, 0 ≤ b ∧ b < 256 := by
  intro b hb
  simp only [leb, List.mem_cons, List.not_mem_nil, or_false] at hb
  rcases hb with rfl | rfl | rfl | rfl | rfl | rfl | rfl | rfl <;> omega
theorem leval_leb {c : Int} (h0 : 0 ≤ c) (h1 : c ≤ 18446744073709551615) : leval (leb c) = c := by
  simp only [leb, leval]
  omega
theorem little_eight (c : Int) : word_Little.f 20 c 8 = some (leb c) := by
  have w : ∀ n : Int, 0 ≤ n → n ≤ 1000 → wrap64 n = n := fun n h0 h1 => by unfold wrap64; omega
  simp [word_Little.f, word_Little.j0, word_Little.l0, w, leb, shr, IntKind.bits]
end Go.Proofs.Ytccndffoljjadaa.P
