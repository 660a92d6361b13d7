/- Texts of one proof, one behind the other. No condition. -/
import Derived.Test.YtkppgepljjgjhaaKTagmemEitherMe0
import Derived.Test.YtkppgepljjgjhaaKTagmemEitherMd0
import Derived.Laws.BitsAllLaws
import Derived.Test.YtkppgepljjgjhaaKTagmemEitherPx9
namespace Go.Proofs.Ytkppgepljjgjhaa.P
open Go.RowKit Go.Proofs.YtkppgepljjgjhaaW.PrintWords Go.Proofs.YtkppgepljjgjhaaW.PrintLast Go.Proofs.YtkppgepljjgjhaaW.PrintMore
set_option linter.unusedVariables false
set_option linter.unusedSimpArgs false
/-- The number of some bytes, the least first. -/
def leval : List Int → Int
  | [] => 0
  | b :: r => b + 256 * leval r
theorem leval_app (a b : List Int) : leval (a ++ b) = leval a + 256 ^ a.length * leval b := by
  induction a with
  | nil => simp [leval]
  | cons x r ih =>
    simp only [List.cons_append, leval, ih, List.length_cons, Int.pow_succ]
    generalize (256 : Int) ^ r.length = p
    rw [Int.mul_add, Int.add_assoc, ← Int.mul_assoc, Int.mul_comm 256 p]
theorem leval_range : ∀ {l : List Int}, (∀ b ∈ l, 0 ≤ b ∧ b < 256) → 0 ≤ leval l ∧ leval l < 256 ^ l.length
  | [], _ => by simp [leval]
  | b :: r, h => by
    have ih := leval_range (l := r) (fun c hc => h c (List.mem_cons_of_mem _ hc))
    have hb := h b List.mem_cons_self
    simp only [leval, List.length_cons, Int.pow_succ]
    generalize (256 : Int) ^ r.length = p at ih
    omega
theorem or_step (acc b : Nat) (i : Nat) (hi : i < 8) (ha : acc < 256 ^ i) (hb : b < 256) : Go.bits .or .u64 (acc : Int) (shl .u64 (IntKind.u64.wrap (b : Int)) (wrap64 (8 * (i : Int)))) = ((acc + b * 256 ^ i : Nat) : Int) := by
  have e1 : IntKind.u64.wrap (b : Int) = b := by rw [IntKind.wrap_u64]; omega
  have e2 : wrap64 (8 * (i : Int)) = ((8 * i : Nat) : Int) := by unfold wrap64; omega
  have e3 : (256 : Nat) ^ i = 2 ^ (8 * i) := by rw [Nat.pow_mul]
  have hp : 256 ^ i ≤ 256 ^ 7 := Nat.pow_le_pow_right (by omega) (by omega)
  have hpos : 0 < 256 ^ i := Nat.pow_pos (by omega)
  have hlt : b * 256 ^ i < 18446744073709551616 := by
    have : b * 256 ^ i ≤ 255 * 256 ^ 7 := Nat.mul_le_mul (by omega) hp
    omega
  have e4 : shl .u64 (b : Int) ((8 * i : Nat) : Int) = ((b * 256 ^ i : Nat) : Int) := by
    unfold shl
    have hm : min ((8 * i : Nat) : Int).toNat IntKind.u64.bits = 8 * i := by
      rw [Int.toNat_natCast]
      exact Nat.min_eq_left (by show 8 * i ≤ 64; omega)
    rw [hm]
    have : (b : Int) * 2 ^ (8 * i) = ((b * 256 ^ i : Nat) : Int) := by rw [e3]; simp
    rw [this, IntKind.wrap_u64]
    omega
  rw [e1, e2, e4, Go.u64_or_nat acc (b * 256 ^ i) (by omega) hlt]
  congr 1
  rw [e3, Nat.or_comm, ← Nat.shiftLeft_eq, ← Nat.shiftLeft_add_eq_or_of_lt (by rw [← e3]; exact ha)]
  omega
theorem of_go (l : List Int) (hl : l.length ≤ 8) (hb : ∀ b ∈ l, 0 ≤ b ∧ b < 256) (e : Nat) : ∀ d i : Nat, d + i = l.length → word_Of.l0 (d + 1 + e) l (leval (l.take i)) (l.length : Int) (i : Int) = some (leval l)
  | 0, i, hi => by
    rw [show 0 + 1 + e = e + 1 by omega]
    unfold word_Of.l0
    rw [if_neg (by omega), List.take_of_length_le (by omega)]
  | d + 1, i, hi => by
    have hlt : i < l.length := by omega
    have ih := of_go l hl hb e d (i + 1) (by omega)
    rw [show d + 1 + 1 + e = (d + 1 + e) + 1 by omega]
    unfold word_Of.l0
    have W1 : wrap64 (8 * (i : Int)) = 8 * (i : Int) := by unfold wrap64; omega
    have W2 : wrap64 ((i : Int) + 1) = ((i + 1 : Nat) : Int) := by unfold wrap64; omega
    rw [if_pos (by omega), if_pos (by omega), if_pos (by omega), if_pos (by rw [W1]; omega), W2]
    have hx := hb l[i] (List.getElem_mem hlt)
    have hr : rd l (i : Int) = l[i] := by simp [rd, List.getElem?_eq_getElem hlt]
    obtain ⟨h0, h1⟩ := leval_range (l := l.take i) (fun b hb2 => hb b (List.mem_of_mem_take hb2))
    rw [List.length_take, Nat.min_eq_left (by omega)] at h1
    obtain ⟨A, hA⟩ := Int.eq_ofNat_of_zero_le h0
    obtain ⟨B, hB⟩ := Int.eq_ofNat_of_zero_le hx.1
    have e256 : ((256 ^ i : Nat) : Int) = (256 : Int) ^ i := by rw [Int.natCast_pow]; rfl
    have hA2 : A < 256 ^ i := by rw [hA, ← e256] at h1; exact Int.ofNat_lt.1 h1
    have st := or_step A B i (by omega) hA2 (by omega)
    rw [hr, hA, hB, st]
    have es : ((A + B * 256 ^ i : Nat) : Int) = leval (l.take (i + 1)) := by
      rw [List.take_succ_eq_append_getElem hlt, leval_app, hA, List.length_take, Nat.min_eq_left (by omega)]
      simp only [leval, hB]
      rw [Int.natCast_add, Int.natCast_mul, e256, Int.mul_zero, Int.add_zero, Int.mul_comm]
    rw [es]
    exact ih
theorem of_val (l : List Int) (hl : l.length ≤ 8) (hb : ∀ b ∈ l, 0 ≤ b ∧ b < 256) : word_Of.f 20 l = some (leval l) := by
  have h := of_go l hl hb (19 - l.length) l.length 0 rfl
  unfold word_Of.f
  have e : mn (l.length : Int) 8 = l.length := by unfold mn; omega
  rw [e]
  rw [show l.length + 1 + (19 - l.length) = 20 by omega] at h
  exact h
/-- A word's bytes, in lengths. -/
def leb (c : Int) : List Int := [c % 256, c / 256 % 256, c / 65536 % 256, c / 16777216 % 256, c / 4294967296 % 256, c / 1099511627776 % 256, c / 281474976710656 % 256, c / 72057594037927936 % 256]
theorem leb_range (c : Int) : ∀ b ∈ leb c, 0 ≤ b ∧ b < 256 := by
  intro b hb
  simp only [leb, List.mem_cons, List.not_mem_nil, or_false] at hb
  rcases hb with rfl | rfl | rfl | rfl | rfl | rfl | rfl | rfl <;> omega
theorem little_eight (c : Int) : word_Little.f 20 c 8 = some (leb c) := by
  have w : ∀ n : Int, 0 ≤ n → n ≤ 1000 → wrap64 n = n := fun n h0 h1 => by unfold wrap64; omega
  simp [word_Little.f, word_Little.j0, word_Little.l0, w, leb, shr, IntKind.bits]
end Go.Proofs.Ytkppgepljjgjhaa.P

namespace Go.Proofs.Ytkppgepljjgjhaa.P
open Go.RowKit Go.Proofs.YtkppgepljjgjhaaW.PrintWords Go.Proofs.YtkppgepljjgjhaaW.PrintLast Go.Proofs.YtkppgepljjgjhaaW.PrintMore
set_option linter.unusedVariables false
set_option linter.unusedSimpArgs false
theorem bit_is (x i : Nat) (hx : x < 18446744073709551616) (hi : i < 64) : curtilageref01_bit.f (x : Int) (i : Int) = some (((x / 2 ^ i % 2 : Nat)) : Int) := by
  unfold curtilageref01_bit.f
  rw [if_pos (by omega)]
  have e1 : shr .u64 (x : Int) (i : Int) = ((x / 2 ^ i : Nat) : Int) := by
    unfold shr
    have hm : min ((i : Nat) : Int).toNat IntKind.u64.bits = i := by
      rw [Int.toNat_natCast]
      exact Nat.min_eq_left (by show i ≤ 64; omega)
    simp only [hm]
    rw [Int.natCast_ediv, Int.natCast_pow]
    rfl
  have h2 : x / 2 ^ i < 18446744073709551616 := Nat.lt_of_le_of_lt (Nat.div_le_self _ _) hx
  rw [e1, show (1 : Int) = ((1 : Nat) : Int) from rfl, Go.u64_and_nat (x / 2 ^ i) 1 h2 (by omega), Nat.and_one_is_mod]
theorem or_bit (acc b i : Nat) (hi : i < 8) (ha : acc < 2 ^ i) (hb : b < 2) : Go.bits .or .u64 (acc : Int) (shl .u64 (b : Int) (i : Int)) = ((acc + b * 2 ^ i : Nat) : Int) := by
  have hp : 2 ^ i ≤ 2 ^ 7 := Nat.pow_le_pow_right (by omega) (by omega)
  have hlt : b * 2 ^ i < 18446744073709551616 := by
    have : b * 2 ^ i ≤ 1 * 2 ^ 7 := Nat.mul_le_mul (by omega) hp
    omega
  have e4 : shl .u64 (b : Int) ((i : Nat) : Int) = ((b * 2 ^ i : Nat) : Int) := by
    unfold shl
    have hm : min ((i : Nat) : Int).toNat IntKind.u64.bits = i := by
      rw [Int.toNat_natCast]
      exact Nat.min_eq_left (by show i ≤ 64; omega)
    rw [hm]
    have : (b : Int) * 2 ^ i = ((b * 2 ^ i : Nat) : Int) := by simp
    rw [this, IntKind.wrap_u64]
    omega
  rw [e4, Go.u64_or_nat acc (b * 2 ^ i) (by omega) hlt]
  congr 1
  rw [Nat.or_comm, ← Nat.shiftLeft_eq, ← Nat.shiftLeft_add_eq_or_of_lt ha]
  omega
theorem bits_go (x f : Nat) (hx : x < 18446744073709551616) (hf : f + 8 ≤ 64) (e : Nat) : ∀ d i : Nat, d + i = 8 → curtilageref01_Bits.l0 (d + 1 + e) (x : Int) (f : Int) 8 ((x / 2 ^ f % 2 ^ i : Nat) : Int) (i : Int) = some ((x / 2 ^ f % 256 : Nat) : Int)
  | 0, i, hi => by
    rw [show 0 + 1 + e = e + 1 by omega]
    unfold curtilageref01_Bits.l0
    rw [if_neg (by omega)]
    obtain rfl : i = 8 := by omega
    rfl
  | d + 1, i, hi => by
    have ih := bits_go x f hx hf e d (i + 1) (by omega)
    rw [show d + 1 + 1 + e = (d + 1 + e) + 1 by omega]
    unfold curtilageref01_Bits.l0
    have W1 : wrap64 ((f : Int) + (i : Int)) = ((f + i : Nat) : Int) := by unfold wrap64; omega
    have W2 : wrap64 ((i : Int) + 1) = ((i + 1 : Nat) : Int) := by unfold wrap64; omega
    rw [if_pos (by omega), W1, bit_is x (f + i) hx (by omega), Option.bind_some, if_pos (by omega), W2, or_bit _ _ i (by omega) (Nat.mod_lt _ (Nat.pow_pos (by omega))) (Nat.mod_lt _ (by omega))]
    have es : x / 2 ^ f % 2 ^ i + x / 2 ^ (f + i) % 2 * 2 ^ i = x / 2 ^ f % 2 ^ (i + 1) := by
      rw [Nat.pow_add 2 f i, ← Nat.div_div_eq_div_mul, Nat.mod_pow_succ, Nat.mul_comm]
    rw [es]
    exact ih
theorem bits_is (k : Nat) (hk : 11 ≤ k) (x f : Nat) (hx : x < 18446744073709551616) (hf : f + 8 ≤ 64) : curtilageref01_Bits.f k (x : Int) (f : Int) 8 = some ((x / 2 ^ f % 256 : Nat) : Int) := by
  have h := bits_go x f hx hf (k - 10) 8 0 rfl
  unfold curtilageref01_Bits.f
  rw [if_neg (by omega), if_neg (by omega), if_neg (by omega)]
  have W : wrap64 (64 - (f : Int)) = 64 - (f : Int) := by unfold wrap64; omega
  rw [W, decide_eq_false (by omega)]
  obtain ⟨k1, rfl⟩ : ∃ k1, k = k1 + 1 := ⟨k - 1, by omega⟩
  rw [curtilageref01_Bits.j0, if_neg (by simp)]
  rw [show 8 + 1 + (k1 + 1 - 10) = k1 by omega] at h
  have e0 : ((x / 2 ^ f % 2 ^ 0 : Nat) : Int) = 0 := by rw [Nat.pow_zero, Nat.mod_one]; rfl
  rw [e0] at h
  exact h
theorem ref_little (w : Int) (h0 : 0 ≤ w) (h1 : w ≤ 18446744073709551615) (n : Int) (hn : n = 1 ∨ n = 2 ∨ n = 4 ∨ n = 8) : curtilageref01_Little.f 30 w n = some ((leb w).take n.toNat) := by
  obtain ⟨x, rfl⟩ := Int.eq_ofNat_of_zero_le h0
  have B : ∀ k f : Nat, 11 ≤ k → f + 8 ≤ 64 → curtilageref01_Bits.f k (x : Int) (f : Int) 8 = some ((x / 2 ^ f % 256 : Nat) : Int) := fun k f hk hf => bits_is k hk x f (by omega) hf
  have w0 : ∀ n : Int, 0 ≤ n → n ≤ 1000 → wrap64 n = n := fun n h0 h1 => by unfold wrap64; omega
  have b0 : ∀ k : Nat, 11 ≤ k → curtilageref01_Bits.f k (x : Int) 0 8 = some ((x : Int) % 256) := fun k hk => (B k 0 hk (by omega)).trans (congrArg some (by omega))
  have b1 : ∀ k : Nat, 11 ≤ k → curtilageref01_Bits.f k (x : Int) 8 8 = some ((x : Int) / 256 % 256) := fun k hk => (B k 8 hk (by omega)).trans (congrArg some (by omega))
  have b2 : ∀ k : Nat, 11 ≤ k → curtilageref01_Bits.f k (x : Int) 16 8 = some ((x : Int) / 65536 % 256) := fun k hk => (B k 16 hk (by omega)).trans (congrArg some (by omega))
  have b3 : ∀ k : Nat, 11 ≤ k → curtilageref01_Bits.f k (x : Int) 24 8 = some ((x : Int) / 16777216 % 256) := fun k hk => (B k 24 hk (by omega)).trans (congrArg some (by omega))
  have b4 : ∀ k : Nat, 11 ≤ k → curtilageref01_Bits.f k (x : Int) 32 8 = some ((x : Int) / 4294967296 % 256) := fun k hk => (B k 32 hk (by omega)).trans (congrArg some (by omega))
  have b5 : ∀ k : Nat, 11 ≤ k → curtilageref01_Bits.f k (x : Int) 40 8 = some ((x : Int) / 1099511627776 % 256) := fun k hk => (B k 40 hk (by omega)).trans (congrArg some (by omega))
  have b6 : ∀ k : Nat, 11 ≤ k → curtilageref01_Bits.f k (x : Int) 48 8 = some ((x : Int) / 281474976710656 % 256) := fun k hk => (B k 48 hk (by omega)).trans (congrArg some (by omega))
  have b7 : ∀ k : Nat, 11 ≤ k → curtilageref01_Bits.f k (x : Int) 56 8 = some ((x : Int) / 72057594037927936 % 256) := fun k hk => (B k 56 hk (by omega)).trans (congrArg some (by omega))
  rcases hn with rfl | rfl | rfl | rfl <;> simp [curtilageref01_Little.f, curtilageref01_Little.l0, w0, leb, b0, b1, b2, b3, b4, b5, b6, b7]
theorem little_is (w : Int) (h0 : 0 ≤ w) (h1 : w ≤ 18446744073709551615) (n : Int) (hn : n = 1 ∨ n = 2 ∨ n = 4 ∨ n = 8) : word_Little.f 20 w n = some ((leb w).take n.toNat) := by
  have w0 : ∀ n : Int, 0 ≤ n → n ≤ 1000 → wrap64 n = n := fun n h0 h1 => by unfold wrap64; omega
  rcases hn with rfl | rfl | rfl | rfl <;> simp [word_Little.f, word_Little.j0, word_Little.l0, w0, leb, shr, IntKind.bits]
theorem refof_go (l : List Int) (hl : l.length ≤ 8) (hb : ∀ b ∈ l, 0 ≤ b ∧ b < 256) (e : Nat) : ∀ d i : Nat, d + i = l.length → curtilageref01_Of.l0 (d + 1 + e) l (leval (l.take i)) (IntKind.u64.wrap (256 ^ i : Int)) (i : Int) = some (leval l)
  | 0, i, hi => by
    rw [show 0 + 1 + e = e + 1 by omega]
    unfold curtilageref01_Of.l0
    rw [if_neg (by omega), List.take_of_length_le (by omega)]
  | d + 1, i, hi => by
    have hlt : i < l.length := by omega
    have ih := refof_go l hl hb e d (i + 1) (by omega)
    rw [show d + 1 + 1 + e = (d + 1 + e) + 1 by omega]
    unfold curtilageref01_Of.l0
    have W2 : wrap64 ((i : Int) + 1) = ((i + 1 : Nat) : Int) := by unfold wrap64; omega
    rw [if_pos (by omega), if_pos (by omega), if_pos (by omega), W2]
    have hx := hb l[i] (List.getElem_mem hlt)
    have hr : rd l (i : Int) = l[i] := by simp [rd, List.getElem?_eq_getElem hlt]
    obtain ⟨h0, h1⟩ := leval_range (l := l.take i) (fun b hb2 => hb b (List.mem_of_mem_take hb2))
    rw [List.length_take, Nat.min_eq_left (by omega)] at h1
    have hp7 : (256 : Int) ^ i ≤ 256 ^ 7 := by
      have : (256 : Nat) ^ i ≤ 256 ^ 7 := Nat.pow_le_pow_right (by omega) (by omega)
      have h2 : ((256 ^ i : Nat) : Int) ≤ ((256 ^ 7 : Nat) : Int) := Int.ofNat_le.2 this
      rw [Int.natCast_pow, Int.natCast_pow] at h2
      exact h2
    have hp0 : 0 < (256 : Int) ^ i := Int.pow_pos (by omega)
    have ev : leval (l.take (i + 1)) = leval (l.take i) + 256 ^ i * l[i] := by
      rw [List.take_succ_eq_append_getElem hlt, leval_app, List.length_take, Nat.min_eq_left (by omega)]
      simp only [leval, Int.mul_zero, Int.add_zero]
    have hm : (256 : Int) ^ i * l[i] ≤ 256 ^ i * 255 := Int.mul_le_mul_of_nonneg_left (by omega) (by omega)
    have hm0 : 0 ≤ (256 : Int) ^ i * l[i] := Int.mul_nonneg (by omega) hx.1
    have w1 : IntKind.u64.wrap l[i] = l[i] := by rw [IntKind.wrap_u64]; omega
    have w2 : IntKind.u64.wrap ((256 : Int) ^ i) = 256 ^ i := by rw [IntKind.wrap_u64]; omega
    have w3 : IntKind.u64.wrap (l[i] * (256 : Int) ^ i) = 256 ^ i * l[i] := by rw [Int.mul_comm, IntKind.wrap_u64]; omega
    have w4 : IntKind.u64.wrap (leval (l.take i) + 256 ^ i * l[i]) = leval (l.take (i + 1)) := by rw [ev, IntKind.wrap_u64]; omega
    rw [hr, w1, w2, w3, w4, show (256 : Int) ^ i * 256 = 256 ^ (i + 1) from (Int.pow_succ 256 i).symm]
    exact ih
theorem refof_val (l : List Int) (hl : l.length ≤ 8) (hb : ∀ b ∈ l, 0 ≤ b ∧ b < 256) : curtilageref01_Of.f 20 l = some (leval l) := by
  have h := refof_go l hl hb (19 - l.length) l.length 0 rfl
  unfold curtilageref01_Of.f
  rw [show l.length + 1 + (19 - l.length) = 20 by omega] at h
  have w1 : IntKind.u64.wrap ((256 : Int) ^ 0) = 1 := by decide
  rw [w1] at h
  exact h
end Go.Proofs.Ytkppgepljjgjhaa.P
