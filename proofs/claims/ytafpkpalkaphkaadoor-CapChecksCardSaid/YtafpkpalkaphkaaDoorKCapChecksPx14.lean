/- What functions of the program, and of its laws, give, each proved of its code by a walk; no condition. -/
import Derived.Test.YtafpkpalkaphkaaDoorKCapChecksPx0
import Derived.Test.YtafpkpalkaphkaaDoorKCapChecksPx13
namespace Go.Proofs.YtafpkpalkaphkaaDoor.P
open Go.RowKit Go.Proofs.YtafpkpalkaphkaaDoorW.PrintWords Go.Proofs.YtafpkpalkaphkaaDoorW.PrintLast Go.Proofs.YtafpkpalkaphkaaDoorW.PrintMore
attribute [local go_sem] max2_int min2_int max_two min_two max_three min_three max_four min_four   -- for this text's walks alone
set_option linter.unusedVariables false
set_option linter.unusedSimpArgs false

def curtilageref02_Text.f (k : Nat) (a0_0 : Int) (a0_1 : Int) (a0_2 : Int) (a0_3 : Int) (a0_4 : Int) (a0_5 : Bool) : Option (ByteArray) := (curtilageref02_number.f k a0_0).bind fun t579 => (if t579.size + 2 ≤ 9223372036854775807 then ((curtilageref02_number.f k a0_1).bind fun t580 => (if (t579 ++ (⟨#[46, 46]⟩ : ByteArray)).size + t580.size ≤ 9223372036854775807 then (if ((t579 ++ (⟨#[46, 46]⟩ : ByteArray)) ++ t580).size + 1 ≤ 9223372036854775807 then ((curtilageref02_number.f k a0_2).bind fun t581 => (if (((t579 ++ (⟨#[46, 46]⟩ : ByteArray)) ++ t580) ++ (⟨#[64]⟩ : ByteArray)).size + t581.size ≤ 9223372036854775807 then (if ((((t579 ++ (⟨#[46, 46]⟩ : ByteArray)) ++ t580) ++ (⟨#[64]⟩ : ByteArray)) ++ t581).size + 1 ≤ 9223372036854775807 then ((curtilageref02_number.f k (IntKind.u64.wrap (a0_3))).bind fun t582 => (if (((((t579 ++ (⟨#[46, 46]⟩ : ByteArray)) ++ t580) ++ (⟨#[64]⟩ : ByteArray)) ++ t581) ++ (⟨#[58]⟩ : ByteArray)).size + t582.size ≤ 9223372036854775807 then (if a0_4 ≥ 0 then (if ((((((t579 ++ (⟨#[46, 46]⟩ : ByteArray)) ++ t580) ++ (⟨#[64]⟩ : ByteArray)) ++ t581) ++ (⟨#[58]⟩ : ByteArray)) ++ t582).size + 1 ≤ 9223372036854775807 then ((curtilageref02_number.f k (IntKind.u64.wrap (a0_4))).bind fun t583 => (if (((((((t579 ++ (⟨#[46, 46]⟩ : ByteArray)) ++ t580) ++ (⟨#[64]⟩ : ByteArray)) ++ t581) ++ (⟨#[58]⟩ : ByteArray)) ++ t582) ++ (⟨#[33]⟩ : ByteArray)).size + t583.size ≤ 9223372036854775807 then (if a0_5 = true then (if 1 + ((((((((t579 ++ (⟨#[46, 46]⟩ : ByteArray)) ++ t580) ++ (⟨#[64]⟩ : ByteArray)) ++ t581) ++ (⟨#[58]⟩ : ByteArray)) ++ t582) ++ (⟨#[33]⟩ : ByteArray)) ++ t583).size ≤ 9223372036854775807 then (some ((⟨#[43]⟩ : ByteArray) ++ ((((((((t579 ++ (⟨#[46, 46]⟩ : ByteArray)) ++ t580) ++ (⟨#[64]⟩ : ByteArray)) ++ t581) ++ (⟨#[58]⟩ : ByteArray)) ++ t582) ++ (⟨#[33]⟩ : ByteArray)) ++ t583))) else (none)) else (if 1 + ((((((((t579 ++ (⟨#[46, 46]⟩ : ByteArray)) ++ t580) ++ (⟨#[64]⟩ : ByteArray)) ++ t581) ++ (⟨#[58]⟩ : ByteArray)) ++ t582) ++ (⟨#[33]⟩ : ByteArray)) ++ t583).size ≤ 9223372036854775807 then (some ((⟨#[45]⟩ : ByteArray) ++ ((((((((t579 ++ (⟨#[46, 46]⟩ : ByteArray)) ++ t580) ++ (⟨#[64]⟩ : ByteArray)) ++ t581) ++ (⟨#[58]⟩ : ByteArray)) ++ t582) ++ (⟨#[33]⟩ : ByteArray)) ++ t583))) else (none))) else (none))) else (none)) else (if a0_5 = true then (if 1 + ((((((t579 ++ (⟨#[46, 46]⟩ : ByteArray)) ++ t580) ++ (⟨#[64]⟩ : ByteArray)) ++ t581) ++ (⟨#[58]⟩ : ByteArray)) ++ t582).size ≤ 9223372036854775807 then (some ((⟨#[43]⟩ : ByteArray) ++ ((((((t579 ++ (⟨#[46, 46]⟩ : ByteArray)) ++ t580) ++ (⟨#[64]⟩ : ByteArray)) ++ t581) ++ (⟨#[58]⟩ : ByteArray)) ++ t582))) else (none)) else (if 1 + ((((((t579 ++ (⟨#[46, 46]⟩ : ByteArray)) ++ t580) ++ (⟨#[64]⟩ : ByteArray)) ++ t581) ++ (⟨#[58]⟩ : ByteArray)) ++ t582).size ≤ 9223372036854775807 then (some ((⟨#[45]⟩ : ByteArray) ++ ((((((t579 ++ (⟨#[46, 46]⟩ : ByteArray)) ++ t580) ++ (⟨#[64]⟩ : ByteArray)) ++ t581) ++ (⟨#[58]⟩ : ByteArray)) ++ t582))) else (none)))) else (none))) else (none)) else (none))) else (none)) else (none))) else (none))
theorem curtilageref02_Text.mono : ∀ a0 a1 a2 a3 a4 a5 k, LeO (curtilageref02_Text.f k a0 a1 a2 a3 a4 a5) (curtilageref02_Text.f (k + 1) a0 a1 a2 a3 a4 a5) := by
  intro a0 a1 a2 a3 a4 a5 k
  unfold curtilageref02_Text.f
  repeat' first
      | (with_reducible exact curtilageref02_number.mono _ _)
      | (with_reducible exact LeO.refl _)
      | (with_reducible exact LeO.none _)
      | (with_reducible refine LeO.ite ?_ ?_)
      | (with_reducible refine LeO.bind ?_ (fun _ => ?_))
      | exact curtilageref02_number.mono _ _
      | exact LeO.none _
      | refine LeO.ite ?_ ?_
      | refine LeO.bind ?_ (fun _ => ?_)
def curtilageref02_Text.T1 : Bool × List (List Nat × List Nat) := (true, [([], []), ([0], [0]), ([1], [1]), ([2], [2]), ([], []), ([4], [4]), ([5, 2], [5]), ([3, 6], [3, 6]), ([7], [7]), ([], []), ([9], [9]), ([10, 6], [10]), ([8, 11], [8, 11]), ([12], [12]), ([], []), ([14], [14]), ([15], [15]), ([16, 11], [16]), ([13, 17], [13, 17]), ([18, 17, 0, 1, 2, 3, 4, 5, 6, 7, 8, 9, 10, 11, 12, 13, 14, 15, 16, 17, 18], [18])])
def curtilageref02_Text.B1 : List Nat := [0, 1, 3, 7, 0, 16, 55, 127, 255, 0, 512, 1655, 4095, 8191, 0, 16384, 49152, 118391, 262143, 524287]
theorem curtilageref02_Text.tab1 : rtab .any (opsOf Tryd.f34 1) = curtilageref02_Text.T1 := by kernel_rfl
theorem curtilageref02_Text.bits1 : waitsOk curtilageref02_Text.T1.2 curtilageref02_Text.B1 = true := by kernel_rfl
set_option maxHeartbeats 8000000 in
set_option maxRecDepth 100000 in
theorem curtilageref02_Text.calls (k : Nat) (a0_0 : Int) (a0_1 : Int) (a0_2 : Int) (a0_3 : Int) (a0_4 : Int) (a0_5 : Bool) (r : ByteArray) (w : World) (h : curtilageref02_Text.f k a0_0 a0_1 a0_2 a0_3 a0_4 a0_5 = some r) :
    Calls Tryd.prog 34 #[.agg #[.int .u64 a0_0, .int .u64 a0_1, .int .u64 a0_2, .int .i64 a0_3, .int .i64 a0_4, .bool a0_5]] w fun e w' => e = .returned (.string r) ∧ Below w.heap.size w w' := by
  have hu24 := Tryd.underlying24
  have HB := Aside0.mk (Below.refl w.heap.size w)
  have H : ((curtilageref02_number.f k a0_0).bind fun t579 => (if t579.size + 2 ≤ 9223372036854775807 then ((curtilageref02_number.f k a0_1).bind fun t580 => (if (t579 ++ (⟨#[46, 46]⟩ : ByteArray)).size + t580.size ≤ 9223372036854775807 then (if ((t579 ++ (⟨#[46, 46]⟩ : ByteArray)) ++ t580).size + 1 ≤ 9223372036854775807 then ((curtilageref02_number.f k a0_2).bind fun t581 => (if (((t579 ++ (⟨#[46, 46]⟩ : ByteArray)) ++ t580) ++ (⟨#[64]⟩ : ByteArray)).size + t581.size ≤ 9223372036854775807 then (if ((((t579 ++ (⟨#[46, 46]⟩ : ByteArray)) ++ t580) ++ (⟨#[64]⟩ : ByteArray)) ++ t581).size + 1 ≤ 9223372036854775807 then ((curtilageref02_number.f k (IntKind.u64.wrap (a0_3))).bind fun t582 => (if (((((t579 ++ (⟨#[46, 46]⟩ : ByteArray)) ++ t580) ++ (⟨#[64]⟩ : ByteArray)) ++ t581) ++ (⟨#[58]⟩ : ByteArray)).size + t582.size ≤ 9223372036854775807 then (if a0_4 ≥ 0 then (if ((((((t579 ++ (⟨#[46, 46]⟩ : ByteArray)) ++ t580) ++ (⟨#[64]⟩ : ByteArray)) ++ t581) ++ (⟨#[58]⟩ : ByteArray)) ++ t582).size + 1 ≤ 9223372036854775807 then ((curtilageref02_number.f k (IntKind.u64.wrap (a0_4))).bind fun t583 => (if (((((((t579 ++ (⟨#[46, 46]⟩ : ByteArray)) ++ t580) ++ (⟨#[64]⟩ : ByteArray)) ++ t581) ++ (⟨#[58]⟩ : ByteArray)) ++ t582) ++ (⟨#[33]⟩ : ByteArray)).size + t583.size ≤ 9223372036854775807 then (if a0_5 = true then (if 1 + ((((((((t579 ++ (⟨#[46, 46]⟩ : ByteArray)) ++ t580) ++ (⟨#[64]⟩ : ByteArray)) ++ t581) ++ (⟨#[58]⟩ : ByteArray)) ++ t582) ++ (⟨#[33]⟩ : ByteArray)) ++ t583).size ≤ 9223372036854775807 then (some ((⟨#[43]⟩ : ByteArray) ++ ((((((((t579 ++ (⟨#[46, 46]⟩ : ByteArray)) ++ t580) ++ (⟨#[64]⟩ : ByteArray)) ++ t581) ++ (⟨#[58]⟩ : ByteArray)) ++ t582) ++ (⟨#[33]⟩ : ByteArray)) ++ t583))) else (none)) else (if 1 + ((((((((t579 ++ (⟨#[46, 46]⟩ : ByteArray)) ++ t580) ++ (⟨#[64]⟩ : ByteArray)) ++ t581) ++ (⟨#[58]⟩ : ByteArray)) ++ t582) ++ (⟨#[33]⟩ : ByteArray)) ++ t583).size ≤ 9223372036854775807 then (some ((⟨#[45]⟩ : ByteArray) ++ ((((((((t579 ++ (⟨#[46, 46]⟩ : ByteArray)) ++ t580) ++ (⟨#[64]⟩ : ByteArray)) ++ t581) ++ (⟨#[58]⟩ : ByteArray)) ++ t582) ++ (⟨#[33]⟩ : ByteArray)) ++ t583))) else (none))) else (none))) else (none)) else (if a0_5 = true then (if 1 + ((((((t579 ++ (⟨#[46, 46]⟩ : ByteArray)) ++ t580) ++ (⟨#[64]⟩ : ByteArray)) ++ t581) ++ (⟨#[58]⟩ : ByteArray)) ++ t582).size ≤ 9223372036854775807 then (some ((⟨#[43]⟩ : ByteArray) ++ ((((((t579 ++ (⟨#[46, 46]⟩ : ByteArray)) ++ t580) ++ (⟨#[64]⟩ : ByteArray)) ++ t581) ++ (⟨#[58]⟩ : ByteArray)) ++ t582))) else (none)) else (if 1 + ((((((t579 ++ (⟨#[46, 46]⟩ : ByteArray)) ++ t580) ++ (⟨#[64]⟩ : ByteArray)) ++ t581) ++ (⟨#[58]⟩ : ByteArray)) ++ t582).size ≤ 9223372036854775807 then (some ((⟨#[45]⟩ : ByteArray) ++ ((((((t579 ++ (⟨#[46, 46]⟩ : ByteArray)) ++ t580) ++ (⟨#[64]⟩ : ByteArray)) ++ t581) ++ (⟨#[58]⟩ : ByteArray)) ++ t582))) else (none)))) else (none))) else (none)) else (none))) else (none)) else (none))) else (none))) = some r := h
  clear h
  replace H := Option.bind_eq_some_iff.mp H
  obtain ⟨t579, A20, H⟩ := H
  replace H : (if t579.size + 2 ≤ 9223372036854775807 then ((curtilageref02_number.f k a0_1).bind fun t580 => (if (t579 ++ (⟨#[46, 46]⟩ : ByteArray)).size + t580.size ≤ 9223372036854775807 then (if ((t579 ++ (⟨#[46, 46]⟩ : ByteArray)) ++ t580).size + 1 ≤ 9223372036854775807 then ((curtilageref02_number.f k a0_2).bind fun t581 => (if (((t579 ++ (⟨#[46, 46]⟩ : ByteArray)) ++ t580) ++ (⟨#[64]⟩ : ByteArray)).size + t581.size ≤ 9223372036854775807 then (if ((((t579 ++ (⟨#[46, 46]⟩ : ByteArray)) ++ t580) ++ (⟨#[64]⟩ : ByteArray)) ++ t581).size + 1 ≤ 9223372036854775807 then ((curtilageref02_number.f k (IntKind.u64.wrap (a0_3))).bind fun t582 => (if (((((t579 ++ (⟨#[46, 46]⟩ : ByteArray)) ++ t580) ++ (⟨#[64]⟩ : ByteArray)) ++ t581) ++ (⟨#[58]⟩ : ByteArray)).size + t582.size ≤ 9223372036854775807 then (if a0_4 ≥ 0 then (if ((((((t579 ++ (⟨#[46, 46]⟩ : ByteArray)) ++ t580) ++ (⟨#[64]⟩ : ByteArray)) ++ t581) ++ (⟨#[58]⟩ : ByteArray)) ++ t582).size + 1 ≤ 9223372036854775807 then ((curtilageref02_number.f k (IntKind.u64.wrap (a0_4))).bind fun t583 => (if (((((((t579 ++ (⟨#[46, 46]⟩ : ByteArray)) ++ t580) ++ (⟨#[64]⟩ : ByteArray)) ++ t581) ++ (⟨#[58]⟩ : ByteArray)) ++ t582) ++ (⟨#[33]⟩ : ByteArray)).size + t583.size ≤ 9223372036854775807 then (if a0_5 = true then (if 1 + ((((((((t579 ++ (⟨#[46, 46]⟩ : ByteArray)) ++ t580) ++ (⟨#[64]⟩ : ByteArray)) ++ t581) ++ (⟨#[58]⟩ : ByteArray)) ++ t582) ++ (⟨#[33]⟩ : ByteArray)) ++ t583).size ≤ 9223372036854775807 then (some ((⟨#[43]⟩ : ByteArray) ++ ((((((((t579 ++ (⟨#[46, 46]⟩ : ByteArray)) ++ t580) ++ (⟨#[64]⟩ : ByteArray)) ++ t581) ++ (⟨#[58]⟩ : ByteArray)) ++ t582) ++ (⟨#[33]⟩ : ByteArray)) ++ t583))) else (none)) else (if 1 + ((((((((t579 ++ (⟨#[46, 46]⟩ : ByteArray)) ++ t580) ++ (⟨#[64]⟩ : ByteArray)) ++ t581) ++ (⟨#[58]⟩ : ByteArray)) ++ t582) ++ (⟨#[33]⟩ : ByteArray)) ++ t583).size ≤ 9223372036854775807 then (some ((⟨#[45]⟩ : ByteArray) ++ ((((((((t579 ++ (⟨#[46, 46]⟩ : ByteArray)) ++ t580) ++ (⟨#[64]⟩ : ByteArray)) ++ t581) ++ (⟨#[58]⟩ : ByteArray)) ++ t582) ++ (⟨#[33]⟩ : ByteArray)) ++ t583))) else (none))) else (none))) else (none)) else (if a0_5 = true then (if 1 + ((((((t579 ++ (⟨#[46, 46]⟩ : ByteArray)) ++ t580) ++ (⟨#[64]⟩ : ByteArray)) ++ t581) ++ (⟨#[58]⟩ : ByteArray)) ++ t582).size ≤ 9223372036854775807 then (some ((⟨#[43]⟩ : ByteArray) ++ ((((((t579 ++ (⟨#[46, 46]⟩ : ByteArray)) ++ t580) ++ (⟨#[64]⟩ : ByteArray)) ++ t581) ++ (⟨#[58]⟩ : ByteArray)) ++ t582))) else (none)) else (if 1 + ((((((t579 ++ (⟨#[46, 46]⟩ : ByteArray)) ++ t580) ++ (⟨#[64]⟩ : ByteArray)) ++ t581) ++ (⟨#[58]⟩ : ByteArray)) ++ t582).size ≤ 9223372036854775807 then (some ((⟨#[45]⟩ : ByteArray) ++ ((((((t579 ++ (⟨#[46, 46]⟩ : ByteArray)) ++ t580) ++ (⟨#[64]⟩ : ByteArray)) ++ t581) ++ (⟨#[58]⟩ : ByteArray)) ++ t582))) else (none)))) else (none))) else (none)) else (none))) else (none)) else (none))) else (none)) = some r := H
  have A2 := Aside0.mk A20
  clear A20
  by_cases c3 : t579.size + 2 ≤ 9223372036854775807
  · rw [if_pos c3] at H
    have c3b0 := eq_true c3
    have c3b1 : decide (t579.size + 2 ≤ 9223372036854775807) = true := decide_eq_true c3
    try have c3b2 : (9223372036854775807 < t579.size + 2) = False := eq_false (Nat.not_lt.2 c3)
    replace H := Option.bind_eq_some_iff.mp H
    obtain ⟨t580, A40, H⟩ := H
    replace H : (if (t579 ++ (⟨#[46, 46]⟩ : ByteArray)).size + t580.size ≤ 9223372036854775807 then (if ((t579 ++ (⟨#[46, 46]⟩ : ByteArray)) ++ t580).size + 1 ≤ 9223372036854775807 then ((curtilageref02_number.f k a0_2).bind fun t581 => (if (((t579 ++ (⟨#[46, 46]⟩ : ByteArray)) ++ t580) ++ (⟨#[64]⟩ : ByteArray)).size + t581.size ≤ 9223372036854775807 then (if ((((t579 ++ (⟨#[46, 46]⟩ : ByteArray)) ++ t580) ++ (⟨#[64]⟩ : ByteArray)) ++ t581).size + 1 ≤ 9223372036854775807 then ((curtilageref02_number.f k (IntKind.u64.wrap (a0_3))).bind fun t582 => (if (((((t579 ++ (⟨#[46, 46]⟩ : ByteArray)) ++ t580) ++ (⟨#[64]⟩ : ByteArray)) ++ t581) ++ (⟨#[58]⟩ : ByteArray)).size + t582.size ≤ 9223372036854775807 then (if a0_4 ≥ 0 then (if ((((((t579 ++ (⟨#[46, 46]⟩ : ByteArray)) ++ t580) ++ (⟨#[64]⟩ : ByteArray)) ++ t581) ++ (⟨#[58]⟩ : ByteArray)) ++ t582).size + 1 ≤ 9223372036854775807 then ((curtilageref02_number.f k (IntKind.u64.wrap (a0_4))).bind fun t583 => (if (((((((t579 ++ (⟨#[46, 46]⟩ : ByteArray)) ++ t580) ++ (⟨#[64]⟩ : ByteArray)) ++ t581) ++ (⟨#[58]⟩ : ByteArray)) ++ t582) ++ (⟨#[33]⟩ : ByteArray)).size + t583.size ≤ 9223372036854775807 then (if a0_5 = true then (if 1 + ((((((((t579 ++ (⟨#[46, 46]⟩ : ByteArray)) ++ t580) ++ (⟨#[64]⟩ : ByteArray)) ++ t581) ++ (⟨#[58]⟩ : ByteArray)) ++ t582) ++ (⟨#[33]⟩ : ByteArray)) ++ t583).size ≤ 9223372036854775807 then (some ((⟨#[43]⟩ : ByteArray) ++ ((((((((t579 ++ (⟨#[46, 46]⟩ : ByteArray)) ++ t580) ++ (⟨#[64]⟩ : ByteArray)) ++ t581) ++ (⟨#[58]⟩ : ByteArray)) ++ t582) ++ (⟨#[33]⟩ : ByteArray)) ++ t583))) else (none)) else (if 1 + ((((((((t579 ++ (⟨#[46, 46]⟩ : ByteArray)) ++ t580) ++ (⟨#[64]⟩ : ByteArray)) ++ t581) ++ (⟨#[58]⟩ : ByteArray)) ++ t582) ++ (⟨#[33]⟩ : ByteArray)) ++ t583).size ≤ 9223372036854775807 then (some ((⟨#[45]⟩ : ByteArray) ++ ((((((((t579 ++ (⟨#[46, 46]⟩ : ByteArray)) ++ t580) ++ (⟨#[64]⟩ : ByteArray)) ++ t581) ++ (⟨#[58]⟩ : ByteArray)) ++ t582) ++ (⟨#[33]⟩ : ByteArray)) ++ t583))) else (none))) else (none))) else (none)) else (if a0_5 = true then (if 1 + ((((((t579 ++ (⟨#[46, 46]⟩ : ByteArray)) ++ t580) ++ (⟨#[64]⟩ : ByteArray)) ++ t581) ++ (⟨#[58]⟩ : ByteArray)) ++ t582).size ≤ 9223372036854775807 then (some ((⟨#[43]⟩ : ByteArray) ++ ((((((t579 ++ (⟨#[46, 46]⟩ : ByteArray)) ++ t580) ++ (⟨#[64]⟩ : ByteArray)) ++ t581) ++ (⟨#[58]⟩ : ByteArray)) ++ t582))) else (none)) else (if 1 + ((((((t579 ++ (⟨#[46, 46]⟩ : ByteArray)) ++ t580) ++ (⟨#[64]⟩ : ByteArray)) ++ t581) ++ (⟨#[58]⟩ : ByteArray)) ++ t582).size ≤ 9223372036854775807 then (some ((⟨#[45]⟩ : ByteArray) ++ ((((((t579 ++ (⟨#[46, 46]⟩ : ByteArray)) ++ t580) ++ (⟨#[64]⟩ : ByteArray)) ++ t581) ++ (⟨#[58]⟩ : ByteArray)) ++ t582))) else (none)))) else (none))) else (none)) else (none))) else (none)) else (none)) = some r := H
    have A4 := Aside0.mk A40
    clear A40
    by_cases c5 : (t579 ++ (⟨#[46, 46]⟩ : ByteArray)).size + t580.size ≤ 9223372036854775807
    · rw [if_pos c5] at H
      have c5b0 := eq_true c5
      have c5b1 : decide ((t579 ++ (⟨#[46, 46]⟩ : ByteArray)).size + t580.size ≤ 9223372036854775807) = true := decide_eq_true c5
      try have c5b2 : (9223372036854775807 < (t579 ++ (⟨#[46, 46]⟩ : ByteArray)).size + t580.size) = False := eq_false (Nat.not_lt.2 c5)
      have c5b3 : (9223372036854775807 < t579.size + 2 + t580.size) = False := by
        have h_ := c5b2
        simp only [ByteArray.size_append] at h_
        exact h_
      by_cases c6 : ((t579 ++ (⟨#[46, 46]⟩ : ByteArray)) ++ t580).size + 1 ≤ 9223372036854775807
      · rw [if_pos c6] at H
        have c6b0 := eq_true c6
        have c6b1 : decide (((t579 ++ (⟨#[46, 46]⟩ : ByteArray)) ++ t580).size + 1 ≤ 9223372036854775807) = true := decide_eq_true c6
        try have c6b2 : (9223372036854775807 < ((t579 ++ (⟨#[46, 46]⟩ : ByteArray)) ++ t580).size + 1) = False := eq_false (Nat.not_lt.2 c6)
        have c6b3 : (9223372036854775807 < t579.size + 2 + t580.size + 1) = False := by
          have h_ := c6b2
          simp only [ByteArray.size_append] at h_
          exact h_
        replace H := Option.bind_eq_some_iff.mp H
        obtain ⟨t581, A70, H⟩ := H
        replace H : (if (((t579 ++ (⟨#[46, 46]⟩ : ByteArray)) ++ t580) ++ (⟨#[64]⟩ : ByteArray)).size + t581.size ≤ 9223372036854775807 then (if ((((t579 ++ (⟨#[46, 46]⟩ : ByteArray)) ++ t580) ++ (⟨#[64]⟩ : ByteArray)) ++ t581).size + 1 ≤ 9223372036854775807 then ((curtilageref02_number.f k (IntKind.u64.wrap (a0_3))).bind fun t582 => (if (((((t579 ++ (⟨#[46, 46]⟩ : ByteArray)) ++ t580) ++ (⟨#[64]⟩ : ByteArray)) ++ t581) ++ (⟨#[58]⟩ : ByteArray)).size + t582.size ≤ 9223372036854775807 then (if a0_4 ≥ 0 then (if ((((((t579 ++ (⟨#[46, 46]⟩ : ByteArray)) ++ t580) ++ (⟨#[64]⟩ : ByteArray)) ++ t581) ++ (⟨#[58]⟩ : ByteArray)) ++ t582).size + 1 ≤ 9223372036854775807 then ((curtilageref02_number.f k (IntKind.u64.wrap (a0_4))).bind fun t583 => (if (((((((t579 ++ (⟨#[46, 46]⟩ : ByteArray)) ++ t580) ++ (⟨#[64]⟩ : ByteArray)) ++ t581) ++ (⟨#[58]⟩ : ByteArray)) ++ t582) ++ (⟨#[33]⟩ : ByteArray)).size + t583.size ≤ 9223372036854775807 then (if a0_5 = true then (if 1 + ((((((((t579 ++ (⟨#[46, 46]⟩ : ByteArray)) ++ t580) ++ (⟨#[64]⟩ : ByteArray)) ++ t581) ++ (⟨#[58]⟩ : ByteArray)) ++ t582) ++ (⟨#[33]⟩ : ByteArray)) ++ t583).size ≤ 9223372036854775807 then (some ((⟨#[43]⟩ : ByteArray) ++ ((((((((t579 ++ (⟨#[46, 46]⟩ : ByteArray)) ++ t580) ++ (⟨#[64]⟩ : ByteArray)) ++ t581) ++ (⟨#[58]⟩ : ByteArray)) ++ t582) ++ (⟨#[33]⟩ : ByteArray)) ++ t583))) else (none)) else (if 1 + ((((((((t579 ++ (⟨#[46, 46]⟩ : ByteArray)) ++ t580) ++ (⟨#[64]⟩ : ByteArray)) ++ t581) ++ (⟨#[58]⟩ : ByteArray)) ++ t582) ++ (⟨#[33]⟩ : ByteArray)) ++ t583).size ≤ 9223372036854775807 then (some ((⟨#[45]⟩ : ByteArray) ++ ((((((((t579 ++ (⟨#[46, 46]⟩ : ByteArray)) ++ t580) ++ (⟨#[64]⟩ : ByteArray)) ++ t581) ++ (⟨#[58]⟩ : ByteArray)) ++ t582) ++ (⟨#[33]⟩ : ByteArray)) ++ t583))) else (none))) else (none))) else (none)) else (if a0_5 = true then (if 1 + ((((((t579 ++ (⟨#[46, 46]⟩ : ByteArray)) ++ t580) ++ (⟨#[64]⟩ : ByteArray)) ++ t581) ++ (⟨#[58]⟩ : ByteArray)) ++ t582).size ≤ 9223372036854775807 then (some ((⟨#[43]⟩ : ByteArray) ++ ((((((t579 ++ (⟨#[46, 46]⟩ : ByteArray)) ++ t580) ++ (⟨#[64]⟩ : ByteArray)) ++ t581) ++ (⟨#[58]⟩ : ByteArray)) ++ t582))) else (none)) else (if 1 + ((((((t579 ++ (⟨#[46, 46]⟩ : ByteArray)) ++ t580) ++ (⟨#[64]⟩ : ByteArray)) ++ t581) ++ (⟨#[58]⟩ : ByteArray)) ++ t582).size ≤ 9223372036854775807 then (some ((⟨#[45]⟩ : ByteArray) ++ ((((((t579 ++ (⟨#[46, 46]⟩ : ByteArray)) ++ t580) ++ (⟨#[64]⟩ : ByteArray)) ++ t581) ++ (⟨#[58]⟩ : ByteArray)) ++ t582))) else (none)))) else (none))) else (none)) else (none)) = some r := H
        have A7 := Aside0.mk A70
        clear A70
        by_cases c8 : (((t579 ++ (⟨#[46, 46]⟩ : ByteArray)) ++ t580) ++ (⟨#[64]⟩ : ByteArray)).size + t581.size ≤ 9223372036854775807
        · rw [if_pos c8] at H
          have c8b0 := eq_true c8
          have c8b1 : decide ((((t579 ++ (⟨#[46, 46]⟩ : ByteArray)) ++ t580) ++ (⟨#[64]⟩ : ByteArray)).size + t581.size ≤ 9223372036854775807) = true := decide_eq_true c8
          try have c8b2 : (9223372036854775807 < (((t579 ++ (⟨#[46, 46]⟩ : ByteArray)) ++ t580) ++ (⟨#[64]⟩ : ByteArray)).size + t581.size) = False := eq_false (Nat.not_lt.2 c8)
          have c8b3 : (9223372036854775807 < t579.size + 2 + t580.size + 1 + t581.size) = False := by
            have h_ := c8b2
            simp only [ByteArray.size_append] at h_
            exact h_
          by_cases c9 : ((((t579 ++ (⟨#[46, 46]⟩ : ByteArray)) ++ t580) ++ (⟨#[64]⟩ : ByteArray)) ++ t581).size + 1 ≤ 9223372036854775807
          · rw [if_pos c9] at H
            have c9b0 := eq_true c9
            have c9b1 : decide (((((t579 ++ (⟨#[46, 46]⟩ : ByteArray)) ++ t580) ++ (⟨#[64]⟩ : ByteArray)) ++ t581).size + 1 ≤ 9223372036854775807) = true := decide_eq_true c9
            try have c9b2 : (9223372036854775807 < ((((t579 ++ (⟨#[46, 46]⟩ : ByteArray)) ++ t580) ++ (⟨#[64]⟩ : ByteArray)) ++ t581).size + 1) = False := eq_false (Nat.not_lt.2 c9)
            have c9b3 : (9223372036854775807 < t579.size + 2 + t580.size + 1 + t581.size + 1) = False := by
              have h_ := c9b2
              simp only [ByteArray.size_append] at h_
              exact h_
            replace H := Option.bind_eq_some_iff.mp H
            obtain ⟨t582, A100, H⟩ := H
            replace H : (if (((((t579 ++ (⟨#[46, 46]⟩ : ByteArray)) ++ t580) ++ (⟨#[64]⟩ : ByteArray)) ++ t581) ++ (⟨#[58]⟩ : ByteArray)).size + t582.size ≤ 9223372036854775807 then (if a0_4 ≥ 0 then (if ((((((t579 ++ (⟨#[46, 46]⟩ : ByteArray)) ++ t580) ++ (⟨#[64]⟩ : ByteArray)) ++ t581) ++ (⟨#[58]⟩ : ByteArray)) ++ t582).size + 1 ≤ 9223372036854775807 then ((curtilageref02_number.f k (IntKind.u64.wrap (a0_4))).bind fun t583 => (if (((((((t579 ++ (⟨#[46, 46]⟩ : ByteArray)) ++ t580) ++ (⟨#[64]⟩ : ByteArray)) ++ t581) ++ (⟨#[58]⟩ : ByteArray)) ++ t582) ++ (⟨#[33]⟩ : ByteArray)).size + t583.size ≤ 9223372036854775807 then (if a0_5 = true then (if 1 + ((((((((t579 ++ (⟨#[46, 46]⟩ : ByteArray)) ++ t580) ++ (⟨#[64]⟩ : ByteArray)) ++ t581) ++ (⟨#[58]⟩ : ByteArray)) ++ t582) ++ (⟨#[33]⟩ : ByteArray)) ++ t583).size ≤ 9223372036854775807 then (some ((⟨#[43]⟩ : ByteArray) ++ ((((((((t579 ++ (⟨#[46, 46]⟩ : ByteArray)) ++ t580) ++ (⟨#[64]⟩ : ByteArray)) ++ t581) ++ (⟨#[58]⟩ : ByteArray)) ++ t582) ++ (⟨#[33]⟩ : ByteArray)) ++ t583))) else (none)) else (if 1 + ((((((((t579 ++ (⟨#[46, 46]⟩ : ByteArray)) ++ t580) ++ (⟨#[64]⟩ : ByteArray)) ++ t581) ++ (⟨#[58]⟩ : ByteArray)) ++ t582) ++ (⟨#[33]⟩ : ByteArray)) ++ t583).size ≤ 9223372036854775807 then (some ((⟨#[45]⟩ : ByteArray) ++ ((((((((t579 ++ (⟨#[46, 46]⟩ : ByteArray)) ++ t580) ++ (⟨#[64]⟩ : ByteArray)) ++ t581) ++ (⟨#[58]⟩ : ByteArray)) ++ t582) ++ (⟨#[33]⟩ : ByteArray)) ++ t583))) else (none))) else (none))) else (none)) else (if a0_5 = true then (if 1 + ((((((t579 ++ (⟨#[46, 46]⟩ : ByteArray)) ++ t580) ++ (⟨#[64]⟩ : ByteArray)) ++ t581) ++ (⟨#[58]⟩ : ByteArray)) ++ t582).size ≤ 9223372036854775807 then (some ((⟨#[43]⟩ : ByteArray) ++ ((((((t579 ++ (⟨#[46, 46]⟩ : ByteArray)) ++ t580) ++ (⟨#[64]⟩ : ByteArray)) ++ t581) ++ (⟨#[58]⟩ : ByteArray)) ++ t582))) else (none)) else (if 1 + ((((((t579 ++ (⟨#[46, 46]⟩ : ByteArray)) ++ t580) ++ (⟨#[64]⟩ : ByteArray)) ++ t581) ++ (⟨#[58]⟩ : ByteArray)) ++ t582).size ≤ 9223372036854775807 then (some ((⟨#[45]⟩ : ByteArray) ++ ((((((t579 ++ (⟨#[46, 46]⟩ : ByteArray)) ++ t580) ++ (⟨#[64]⟩ : ByteArray)) ++ t581) ++ (⟨#[58]⟩ : ByteArray)) ++ t582))) else (none)))) else (none)) = some r := H
            have A10 := Aside0.mk A100
            clear A100
            by_cases c11 : (((((t579 ++ (⟨#[46, 46]⟩ : ByteArray)) ++ t580) ++ (⟨#[64]⟩ : ByteArray)) ++ t581) ++ (⟨#[58]⟩ : ByteArray)).size + t582.size ≤ 9223372036854775807
            · rw [if_pos c11] at H
              have c11b0 := eq_true c11
              have c11b1 : decide ((((((t579 ++ (⟨#[46, 46]⟩ : ByteArray)) ++ t580) ++ (⟨#[64]⟩ : ByteArray)) ++ t581) ++ (⟨#[58]⟩ : ByteArray)).size + t582.size ≤ 9223372036854775807) = true := decide_eq_true c11
              try have c11b2 : (9223372036854775807 < (((((t579 ++ (⟨#[46, 46]⟩ : ByteArray)) ++ t580) ++ (⟨#[64]⟩ : ByteArray)) ++ t581) ++ (⟨#[58]⟩ : ByteArray)).size + t582.size) = False := eq_false (Nat.not_lt.2 c11)
              have c11b3 : (9223372036854775807 < t579.size + 2 + t580.size + 1 + t581.size + 1 + t582.size) = False := by
                have h_ := c11b2
                simp only [ByteArray.size_append] at h_
                exact h_
              by_cases c12 : a0_4 ≥ 0
              · rw [if_pos c12] at H
                have c12b0 : decide (0 ≤ a0_4) = true := decide_eq_true c12
                clear c12
                by_cases c13 : ((((((t579 ++ (⟨#[46, 46]⟩ : ByteArray)) ++ t580) ++ (⟨#[64]⟩ : ByteArray)) ++ t581) ++ (⟨#[58]⟩ : ByteArray)) ++ t582).size + 1 ≤ 9223372036854775807
                · rw [if_pos c13] at H
                  have c13b0 := eq_true c13
                  have c13b1 : decide (((((((t579 ++ (⟨#[46, 46]⟩ : ByteArray)) ++ t580) ++ (⟨#[64]⟩ : ByteArray)) ++ t581) ++ (⟨#[58]⟩ : ByteArray)) ++ t582).size + 1 ≤ 9223372036854775807) = true := decide_eq_true c13
                  try have c13b2 : (9223372036854775807 < ((((((t579 ++ (⟨#[46, 46]⟩ : ByteArray)) ++ t580) ++ (⟨#[64]⟩ : ByteArray)) ++ t581) ++ (⟨#[58]⟩ : ByteArray)) ++ t582).size + 1) = False := eq_false (Nat.not_lt.2 c13)
                  have c13b3 : (9223372036854775807 < t579.size + 2 + t580.size + 1 + t581.size + 1 + t582.size + 1) = False := by
                    have h_ := c13b2
                    simp only [ByteArray.size_append] at h_
                    exact h_
                  replace H := Option.bind_eq_some_iff.mp H
                  obtain ⟨t583, A140, H⟩ := H
                  replace H : (if (((((((t579 ++ (⟨#[46, 46]⟩ : ByteArray)) ++ t580) ++ (⟨#[64]⟩ : ByteArray)) ++ t581) ++ (⟨#[58]⟩ : ByteArray)) ++ t582) ++ (⟨#[33]⟩ : ByteArray)).size + t583.size ≤ 9223372036854775807 then (if a0_5 = true then (if 1 + ((((((((t579 ++ (⟨#[46, 46]⟩ : ByteArray)) ++ t580) ++ (⟨#[64]⟩ : ByteArray)) ++ t581) ++ (⟨#[58]⟩ : ByteArray)) ++ t582) ++ (⟨#[33]⟩ : ByteArray)) ++ t583).size ≤ 9223372036854775807 then (some ((⟨#[43]⟩ : ByteArray) ++ ((((((((t579 ++ (⟨#[46, 46]⟩ : ByteArray)) ++ t580) ++ (⟨#[64]⟩ : ByteArray)) ++ t581) ++ (⟨#[58]⟩ : ByteArray)) ++ t582) ++ (⟨#[33]⟩ : ByteArray)) ++ t583))) else (none)) else (if 1 + ((((((((t579 ++ (⟨#[46, 46]⟩ : ByteArray)) ++ t580) ++ (⟨#[64]⟩ : ByteArray)) ++ t581) ++ (⟨#[58]⟩ : ByteArray)) ++ t582) ++ (⟨#[33]⟩ : ByteArray)) ++ t583).size ≤ 9223372036854775807 then (some ((⟨#[45]⟩ : ByteArray) ++ ((((((((t579 ++ (⟨#[46, 46]⟩ : ByteArray)) ++ t580) ++ (⟨#[64]⟩ : ByteArray)) ++ t581) ++ (⟨#[58]⟩ : ByteArray)) ++ t582) ++ (⟨#[33]⟩ : ByteArray)) ++ t583))) else (none))) else (none)) = some r := H
                  have A14 := Aside0.mk A140
                  clear A140
                  by_cases c15 : (((((((t579 ++ (⟨#[46, 46]⟩ : ByteArray)) ++ t580) ++ (⟨#[64]⟩ : ByteArray)) ++ t581) ++ (⟨#[58]⟩ : ByteArray)) ++ t582) ++ (⟨#[33]⟩ : ByteArray)).size + t583.size ≤ 9223372036854775807
                  · rw [if_pos c15] at H
                    have c15b0 := eq_true c15
                    have c15b1 : decide ((((((((t579 ++ (⟨#[46, 46]⟩ : ByteArray)) ++ t580) ++ (⟨#[64]⟩ : ByteArray)) ++ t581) ++ (⟨#[58]⟩ : ByteArray)) ++ t582) ++ (⟨#[33]⟩ : ByteArray)).size + t583.size ≤ 9223372036854775807) = true := decide_eq_true c15
                    try have c15b2 : (9223372036854775807 < (((((((t579 ++ (⟨#[46, 46]⟩ : ByteArray)) ++ t580) ++ (⟨#[64]⟩ : ByteArray)) ++ t581) ++ (⟨#[58]⟩ : ByteArray)) ++ t582) ++ (⟨#[33]⟩ : ByteArray)).size + t583.size) = False := eq_false (Nat.not_lt.2 c15)
                    have c15b3 : (9223372036854775807 < t579.size + 2 + t580.size + 1 + t581.size + 1 + t582.size + 1 + t583.size) = False := by
                      have h_ := c15b2
                      simp only [ByteArray.size_append] at h_
                      exact h_
                    by_cases c16 : a0_5 = true
                    · subst c16
                      have H1 : (if 1 + ((((((((t579 ++ (⟨#[46, 46]⟩ : ByteArray)) ++ t580) ++ (⟨#[64]⟩ : ByteArray)) ++ t581) ++ (⟨#[58]⟩ : ByteArray)) ++ t582) ++ (⟨#[33]⟩ : ByteArray)) ++ t583).size ≤ 9223372036854775807 then (some ((⟨#[43]⟩ : ByteArray) ++ ((((((((t579 ++ (⟨#[46, 46]⟩ : ByteArray)) ++ t580) ++ (⟨#[64]⟩ : ByteArray)) ++ t581) ++ (⟨#[58]⟩ : ByteArray)) ++ t582) ++ (⟨#[33]⟩ : ByteArray)) ++ t583))) else (none)) = some r := by rw [if_pos rfl] at H; exact H
                      clear H
                      have H := H1
                      clear H1
                      by_cases c17 : 1 + ((((((((t579 ++ (⟨#[46, 46]⟩ : ByteArray)) ++ t580) ++ (⟨#[64]⟩ : ByteArray)) ++ t581) ++ (⟨#[58]⟩ : ByteArray)) ++ t582) ++ (⟨#[33]⟩ : ByteArray)) ++ t583).size ≤ 9223372036854775807
                      · rw [if_pos c17] at H
                        have c17b0 := eq_true c17
                        have c17b1 : decide (1 + ((((((((t579 ++ (⟨#[46, 46]⟩ : ByteArray)) ++ t580) ++ (⟨#[64]⟩ : ByteArray)) ++ t581) ++ (⟨#[58]⟩ : ByteArray)) ++ t582) ++ (⟨#[33]⟩ : ByteArray)) ++ t583).size ≤ 9223372036854775807) = true := decide_eq_true c17
                        try have c17b2 : (9223372036854775807 < 1 + ((((((((t579 ++ (⟨#[46, 46]⟩ : ByteArray)) ++ t580) ++ (⟨#[64]⟩ : ByteArray)) ++ t581) ++ (⟨#[58]⟩ : ByteArray)) ++ t582) ++ (⟨#[33]⟩ : ByteArray)) ++ t583).size) = False := eq_false (Nat.not_lt.2 c17)
                        have c17b3 : (9223372036854775807 < 1 + (t579.size + 2 + t580.size + 1 + t581.size + 1 + t582.size + 1 + t583.size)) = False := by
                          have h_ := c17b2
                          simp only [ByteArray.size_append] at h_
                          exact h_
                        obtain rfl := Option.some.inj H
                        go_enter Tryd.func34, Tryd.ntmps34
                        try go_wp2_with (first | ((with_reducible refine gate_dst (N := 1) rfl ?_); refine box_event ?hg (N := 1) ?hd (cs := #[.int .u64 a0_0, .int .u64 a0_1, .int .u64 a0_2, .int .i64 a0_3, .int .i64 a0_4, .bool true]) (t := 24) ?hr ?_; (case hd => rfl); (case hg => rfl); (case hr => first | (go_simp; done) | (go_simp; rfl)); intro gb578 hg w18 hbox hb; have n0_ := Aside0.mk (below_step (by repeat (first | (with_reducible first | exact HB.out | apply below_alloc | apply pw_below_drewN | apply below_drew1) | exact HB.out)) hb); have n1_ := Aside0.mk (hbox); have n2_ := Aside0.mk ((by rw [hg]; exact (below_size (by repeat (first | (with_reducible first | exact HB.out | apply below_alloc | apply pw_below_drewN | apply below_drew1) | exact HB.out))) : w.heap.size ≤ gb578)); have n3_ := Aside0.mk ((by rw [hg]; exact (below_size (by repeat (first | (with_reducible first | exact HB.out | apply below_alloc | apply pw_below_drewN | apply below_drew1) | exact HB.out))) : w.heap.size ≤ gb578)); clear HB; have HB := n0_; have BK578 := n1_; have GW578 := n2_; have GE578 := n3_; clear n0_ n1_ n2_ n3_; clear hb hbox hg))
                        have n0_ := Aside0.mk (blk_drew BK578.out)
                        have n1_ := Aside0.mk (below_drew1 HB.out)
                        clear BK578
                        clear HB
                        have BK578 := n0_
                        have HB := n1_
                        clear n0_ n1_
                        refine start_ (n := 20) (S := fun w' => w'.cell? ⟨gb578, 0, none⟩ = some (.int .u64 a0_0) ∧ w'.cell? ⟨gb578, 1, none⟩ = some (.int .u64 a0_1) ∧ w'.cell? ⟨gb578, 2, none⟩ = some (.int .u64 a0_2) ∧ w'.cell? ⟨gb578, 3, none⟩ = some (.int .i64 a0_3) ∧ w'.cell? ⟨gb578, 4, none⟩ = some (.int .i64 a0_4) ∧ w'.cell? ⟨gb578, 5, none⟩ = some (.bool true)) (ds := []) #[false, false, false, false, false, false, false, false, false, false, false, false, false, false, false, false, false, false, false, false] (by kernel_rfl) rfl rfl ⟨(blk_cell BK578.out 0).trans rfl, (blk_cell BK578.out 1).trans rfl, (blk_cell BK578.out 2).trans rfl, (blk_cell BK578.out 3).trans rfl, (blk_cell BK578.out 4).trans rfl, (blk_cell BK578.out 5).trans rfl⟩ (fun hHeld => ?_); refine with_tabW curtilageref02_Text.tab1 curtilageref02_Text.bits1 (fun HT_ HW_ => ?_)
                        generalize w18.drew = w19 at BK578 HB hHeld ⊢
                        refine pure_ (i := 0) (N := some 4) (v := ?_) (a' := ?_) #[true, false, false, false, false, false, false, false, false, false, false, false, false, false, false, false, false, false, false, false] rfl rfl (any_of HT_.out (by kernel_rfl)) (fun _ _ _ h => h) (Or.inl ⟨by rfl, ?_⟩) ?_ ?_
                        rotate_left
                        · intro w'
                          go_simp
                          with_reducible rfl
                        rotate_left
                        · simp only [Act.put, List.setIfInBounds_toArray, List.set_cons_zero, List.set_cons_succ, i64_w, i32_w]
                          rfl
                        refine pure_ (i := 4) (N := some 8) (v := ?_) (a' := ?_) #[true, false, false, false, true, false, false, false, false, false, false, false, false, false, false, false, false, false, false, false] rfl rfl (any_of HT_.out (by kernel_rfl)) (fun _ _ _ h => h) (Or.inl ⟨by rfl, ?_⟩) ?_ ?_
                        rotate_left
                        · intro w'
                          go_simp
                          with_reducible rfl
                        rotate_left
                        · simp only [Act.put, List.setIfInBounds_toArray, List.set_cons_zero, List.set_cons_succ, i64_w, i32_w]
                          rfl
                        refine pure_ (i := 9) (N := some 13) (v := ?_) (a' := ?_) #[true, false, false, false, true, false, false, false, false, true, false, false, false, false, false, false, false, false, false, false] rfl rfl (any_of HT_.out (by kernel_rfl)) (fun _ _ _ h => h) (Or.inl ⟨by rfl, ?_⟩) ?_ ?_
                        rotate_left
                        · intro w'
                          go_simp
                          with_reducible rfl
                        rotate_left
                        · simp only [Act.put, List.setIfInBounds_toArray, List.set_cons_zero, List.set_cons_succ, i64_w, i32_w]
                          rfl
                        refine pure_ (i := 14) (N := some 18) (v := ?_) (a' := ?_) #[true, false, false, false, true, false, false, false, false, true, false, false, false, false, true, false, false, false, false, false] rfl rfl (any_of HT_.out (by kernel_rfl)) (fun _ _ _ h => h) (Or.inl ⟨by rfl, ?_⟩) ?_ ?_
                        rotate_left
                        · intro w'
                          go_simp
                          with_reducible rfl
                        rotate_left
                        · simp only [Act.put, List.setIfInBounds_toArray, List.set_cons_zero, List.set_cons_succ, i64_w, i32_w]
                          rfl
                        refine take_ (i := 1) (N := some 5) (v := ?_) (a' := ?_) #[true, true, false, false, true, false, false, false, false, true, false, false, false, false, true, false, false, false, false, false] rfl rfl (take_ofW HT_.out HW_.out (by kernel_rfl)) (fun _ _ _ h => h) (Or.inl ⟨by rfl, ?_⟩) hHeld ?_ ?_
                        rotate_left
                        · rintro w' ⟨s0, s1, s2, s3, s4, s5⟩
                          go_simp
                          with_reducible rfl
                        rotate_left
                        · simp only [Act.put, List.setIfInBounds_toArray, List.set_cons_zero, List.set_cons_succ, i64_w, i32_w]
                          rfl
                        refine take_ (i := 5) (N := some 9) (v := ?_) (a' := ?_) #[true, true, false, false, true, true, false, false, false, true, false, false, false, false, true, false, false, false, false, false] rfl rfl (take_ofW HT_.out HW_.out (by kernel_rfl)) (fun _ _ _ h => h) (Or.inl ⟨by rfl, ?_⟩) hHeld ?_ ?_
                        rotate_left
                        · rintro w' ⟨s0, s1, s2, s3, s4, s5⟩
                          go_simp
                          with_reducible rfl
                        rotate_left
                        · simp only [Act.put, List.setIfInBounds_toArray, List.set_cons_zero, List.set_cons_succ, i64_w, i32_w]
                          rfl
                        refine take_ (i := 10) (N := some 14) (v := ?_) (a' := ?_) #[true, true, false, false, true, true, false, false, false, true, true, false, false, false, true, false, false, false, false, false] rfl rfl (take_ofW HT_.out HW_.out (by kernel_rfl)) (fun _ _ _ h => h) (Or.inl ⟨by rfl, ?_⟩) hHeld ?_ ?_
                        rotate_left
                        · rintro w' ⟨s0, s1, s2, s3, s4, s5⟩
                          go_simp
                          with_reducible rfl
                        rotate_left
                        · simp only [Act.put, List.setIfInBounds_toArray, List.set_cons_zero, List.set_cons_succ, i64_w, i32_w]
                          rfl
                        refine take_ (i := 15) (N := some 19) (v := ?_) (a' := ?_) #[true, true, false, false, true, true, false, false, false, true, true, false, false, false, true, true, false, false, false, false] rfl rfl (take_ofW HT_.out HW_.out (by kernel_rfl)) (fun _ _ _ h => h) (Or.inl ⟨by rfl, ?_⟩) hHeld ?_ ?_
                        rotate_left
                        · rintro w' ⟨s0, s1, s2, s3, s4, s5⟩
                          go_simp
                          with_reducible rfl
                        rotate_left
                        · simp only [Act.put, List.setIfInBounds_toArray, List.set_cons_zero, List.set_cons_succ, i64_w, i32_w]
                          rfl
                        refine pure_ (i := 16) (N := some 20) (v := ?_) (a' := ?_) #[true, true, false, false, true, true, false, false, false, true, true, false, false, false, true, true, true, false, false, false] rfl rfl (any_of HT_.out (by kernel_rfl)) (fun _ _ _ h => h) (Or.inl ⟨by rfl, ?_⟩) ?_ ?_
                        rotate_left
                        · intro w'
                          go_simp
                          with_reducible rfl
                        rotate_left
                        · simp only [Act.put, List.setIfInBounds_toArray, List.set_cons_zero, List.set_cons_succ, i64_w, i32_w]
                          rfl
                        refine one_ (i := 2) (N := some 6) #[true, true, true, false, true, true, false, false, false, true, true, false, false, false, true, true, true, false, false, false] rfl rfl (one_of HT_.out (by kernel_rfl)) (by decide) (fun K hK => ?_)
                        refine goes_ Tryd.func45 (by kernel_rfl) rfl #[.int .u64 a0_0] (by rfl) rfl rfl (by (try simp only [List.map_toArray, List.map_cons, List.map_nil]); first | done | rfl | (simp only [List.length_drop, List.length_take]; rfl)) ?_
                        with_reducible refine (curtilageref02_number.calls k a0_0 t579 _ A2.out).mono ?_
                        rintro e w20 ⟨rfl, hb⟩
                        refine ⟨_, rfl, ?_⟩
                        have n0_ := Aside0.mk (blk_below (g := gb578) (o := .cells #[.int .u64 a0_0, .int .u64 a0_1, .int .u64 a0_2, .int .i64 a0_3, .int .i64 a0_4, .bool true] 24 (0, 0)) (by (with_reducible repeat (first | refine blk_drewN ?_ _ | refine blk_drew ?_ | refine blk_alloc ?_ _)); exact BK578.out) hb)
                        have n1_ := Aside0.mk (below_step (by repeat (first | (with_reducible first | exact HB.out | apply below_alloc | apply pw_below_drewN | apply below_drew1 | refine below_set ?_ GE578.out) | exact HB.out)) hb)
                        clear BK578
                        clear HB
                        have BK578 := n0_
                        have HB := n1_
                        clear n0_ n1_
                        (try clear hb)
                        (try clear hb2)
                        (try clear hk)
                        (try clear hi)
                        refine hK.out _ _ ⟨(blk_cell BK578.out 0).trans rfl, (blk_cell BK578.out 1).trans rfl, (blk_cell BK578.out 2).trans rfl, (blk_cell BK578.out 3).trans rfl, (blk_cell BK578.out 4).trans rfl, (blk_cell BK578.out 5).trans rfl⟩ (fun hHeld => ?_)
                        clear hK K
                        refine norm_ (a' := ?_) ?_ ?_
                        rotate_left
                        · show Act.put _ (some 6) _ = _
                          simp only [Act.put, List.setIfInBounds_toArray, List.set_cons_zero, List.set_cons_succ, i64_w, i32_w]
                          rfl
                        refine pure_ (i := 3) (N := some 7) (v := ?_) (a' := ?_) #[true, true, true, true, true, true, false, false, false, true, true, false, false, false, true, true, true, false, false, false] rfl rfl (any_of HT_.out (by kernel_rfl)) (fun _ _ _ h => h) (Or.inl ⟨by rfl, ?_⟩) ?_ ?_
                        rotate_left
                        · intro w'
                          go_simp
                          with_reducible rfl
                        rotate_left
                        · simp only [Act.put, List.setIfInBounds_toArray, List.set_cons_zero, List.set_cons_succ, i64_w, i32_w]
                          rfl
                        refine one_ (i := 6) (N := some 10) #[true, true, true, true, true, true, true, false, false, true, true, false, false, false, true, true, true, false, false, false] rfl rfl (one_of HT_.out (by kernel_rfl)) (by decide) (fun K hK => ?_)
                        refine goes_ Tryd.func45 (by kernel_rfl) rfl #[.int .u64 a0_1] (by rfl) rfl rfl (by (try simp only [List.map_toArray, List.map_cons, List.map_nil]); first | done | rfl | (simp only [List.length_drop, List.length_take]; rfl)) ?_
                        with_reducible refine (curtilageref02_number.calls k a0_1 t580 _ A4.out).mono ?_
                        rintro e w21 ⟨rfl, hb⟩
                        refine ⟨_, rfl, ?_⟩
                        have n0_ := Aside0.mk (blk_below (g := gb578) (o := .cells #[.int .u64 a0_0, .int .u64 a0_1, .int .u64 a0_2, .int .i64 a0_3, .int .i64 a0_4, .bool true] 24 (0, 0)) (by (with_reducible repeat (first | refine blk_drewN ?_ _ | refine blk_drew ?_ | refine blk_alloc ?_ _)); exact BK578.out) hb)
                        have n1_ := Aside0.mk (below_step (by repeat (first | (with_reducible first | exact HB.out | apply below_alloc | apply pw_below_drewN | apply below_drew1 | refine below_set ?_ GE578.out) | exact HB.out)) hb)
                        clear BK578
                        clear HB
                        have BK578 := n0_
                        have HB := n1_
                        clear n0_ n1_
                        (try clear hb)
                        (try clear hb2)
                        (try clear hk)
                        (try clear hi)
                        refine hK.out _ _ ⟨(blk_cell BK578.out 0).trans rfl, (blk_cell BK578.out 1).trans rfl, (blk_cell BK578.out 2).trans rfl, (blk_cell BK578.out 3).trans rfl, (blk_cell BK578.out 4).trans rfl, (blk_cell BK578.out 5).trans rfl⟩ (fun hHeld => ?_)
                        clear hK K
                        refine norm_ (a' := ?_) ?_ ?_
                        rotate_left
                        · show Act.put _ (some 10) _ = _
                          simp only [Act.put, List.setIfInBounds_toArray, List.set_cons_zero, List.set_cons_succ, i64_w, i32_w]
                          rfl
                        refine pure_ (i := 7) (N := some 11) (v := ?_) (a' := ?_) #[true, true, true, true, true, true, true, true, false, true, true, false, false, false, true, true, true, false, false, false] rfl rfl (any_of HT_.out (by kernel_rfl)) (fun _ _ _ h => h) (Or.inl ⟨by rfl, ?_⟩) ?_ ?_
                        rotate_left
                        · intro w'
                          go_simp
                          with_reducible rfl
                        rotate_left
                        · simp only [Act.put, List.setIfInBounds_toArray, List.set_cons_zero, List.set_cons_succ, i64_w, i32_w]
                          rfl
                        refine pure_ (i := 8) (N := some 12) (v := ?_) (a' := ?_) #[true, true, true, true, true, true, true, true, true, true, true, false, false, false, true, true, true, false, false, false] rfl rfl (any_of HT_.out (by kernel_rfl)) (fun _ _ _ h => h) (Or.inl ⟨by rfl, ?_⟩) ?_ ?_
                        rotate_left
                        · intro w'
                          go_simp
                          with_reducible rfl
                        rotate_left
                        · simp only [Act.put, List.setIfInBounds_toArray, List.set_cons_zero, List.set_cons_succ, i64_w, i32_w]
                          rfl
                        refine one_ (i := 11) (N := some 15) #[true, true, true, true, true, true, true, true, true, true, true, true, false, false, true, true, true, false, false, false] rfl rfl (one_of HT_.out (by kernel_rfl)) (by decide) (fun K hK => ?_)
                        refine goes_ Tryd.func45 (by kernel_rfl) rfl #[.int .u64 a0_2] (by rfl) rfl rfl (by (try simp only [List.map_toArray, List.map_cons, List.map_nil]); first | done | rfl | (simp only [List.length_drop, List.length_take]; rfl)) ?_
                        with_reducible refine (curtilageref02_number.calls k a0_2 t581 _ A7.out).mono ?_
                        rintro e w22 ⟨rfl, hb⟩
                        refine ⟨_, rfl, ?_⟩
                        have n0_ := Aside0.mk (blk_below (g := gb578) (o := .cells #[.int .u64 a0_0, .int .u64 a0_1, .int .u64 a0_2, .int .i64 a0_3, .int .i64 a0_4, .bool true] 24 (0, 0)) (by (with_reducible repeat (first | refine blk_drewN ?_ _ | refine blk_drew ?_ | refine blk_alloc ?_ _)); exact BK578.out) hb)
                        have n1_ := Aside0.mk (below_step (by repeat (first | (with_reducible first | exact HB.out | apply below_alloc | apply pw_below_drewN | apply below_drew1 | refine below_set ?_ GE578.out) | exact HB.out)) hb)
                        clear BK578
                        clear HB
                        have BK578 := n0_
                        have HB := n1_
                        clear n0_ n1_
                        (try clear hb)
                        (try clear hb2)
                        (try clear hk)
                        (try clear hi)
                        refine hK.out _ _ ⟨(blk_cell BK578.out 0).trans rfl, (blk_cell BK578.out 1).trans rfl, (blk_cell BK578.out 2).trans rfl, (blk_cell BK578.out 3).trans rfl, (blk_cell BK578.out 4).trans rfl, (blk_cell BK578.out 5).trans rfl⟩ (fun hHeld => ?_)
                        clear hK K
                        refine norm_ (a' := ?_) ?_ ?_
                        rotate_left
                        · show Act.put _ (some 15) _ = _
                          simp only [Act.put, List.setIfInBounds_toArray, List.set_cons_zero, List.set_cons_succ, i64_w, i32_w]
                          rfl
                        refine pure_ (i := 12) (N := some 16) (v := ?_) (a' := ?_) #[true, true, true, true, true, true, true, true, true, true, true, true, true, false, true, true, true, false, false, false] rfl rfl (any_of HT_.out (by kernel_rfl)) (fun _ _ _ h => h) (Or.inl ⟨by rfl, ?_⟩) ?_ ?_
                        rotate_left
                        · intro w'
                          go_simp
                          with_reducible rfl
                        rotate_left
                        · simp only [Act.put, List.setIfInBounds_toArray, List.set_cons_zero, List.set_cons_succ, i64_w, i32_w]
                          rfl
                        refine pure_ (i := 13) (N := some 17) (v := ?_) (a' := ?_) #[true, true, true, true, true, true, true, true, true, true, true, true, true, true, true, true, true, false, false, false] rfl rfl (any_of HT_.out (by kernel_rfl)) (fun _ _ _ h => h) (Or.inl ⟨by rfl, ?_⟩) ?_ ?_
                        rotate_left
                        · intro w'
                          go_simp
                          with_reducible rfl
                        rotate_left
                        · simp only [Act.put, List.setIfInBounds_toArray, List.set_cons_zero, List.set_cons_succ, i64_w, i32_w]
                          rfl
                        refine one_ (i := 17) (N := some 21) #[true, true, true, true, true, true, true, true, true, true, true, true, true, true, true, true, true, true, false, false] rfl rfl (one_of HT_.out (by kernel_rfl)) (by decide) (fun K hK => ?_)
                        refine goes_ Tryd.func45 (by kernel_rfl) rfl #[.int .u64 (IntKind.u64.wrap (a0_3))] (by rfl) rfl rfl (by (try simp only [List.map_toArray, List.map_cons, List.map_nil]); first | done | rfl | (simp only [List.length_drop, List.length_take]; rfl)) ?_
                        with_reducible refine (curtilageref02_number.calls k (IntKind.u64.wrap (a0_3)) t582 _ A10.out).mono ?_
                        rintro e w23 ⟨rfl, hb⟩
                        refine ⟨_, rfl, ?_⟩
                        have n0_ := Aside0.mk (blk_below (g := gb578) (o := .cells #[.int .u64 a0_0, .int .u64 a0_1, .int .u64 a0_2, .int .i64 a0_3, .int .i64 a0_4, .bool true] 24 (0, 0)) (by (with_reducible repeat (first | refine blk_drewN ?_ _ | refine blk_drew ?_ | refine blk_alloc ?_ _)); exact BK578.out) hb)
                        have n1_ := Aside0.mk (below_step (by repeat (first | (with_reducible first | exact HB.out | apply below_alloc | apply pw_below_drewN | apply below_drew1 | refine below_set ?_ GE578.out) | exact HB.out)) hb)
                        clear BK578
                        clear HB
                        have BK578 := n0_
                        have HB := n1_
                        clear n0_ n1_
                        (try clear hb)
                        (try clear hb2)
                        (try clear hk)
                        (try clear hi)
                        refine hK.out _ _ ⟨(blk_cell BK578.out 0).trans rfl, (blk_cell BK578.out 1).trans rfl, (blk_cell BK578.out 2).trans rfl, (blk_cell BK578.out 3).trans rfl, (blk_cell BK578.out 4).trans rfl, (blk_cell BK578.out 5).trans rfl⟩ (fun hHeld => ?_)
                        clear hK K
                        refine norm_ (a' := ?_) ?_ ?_
                        rotate_left
                        · show Act.put _ (some 21) _ = _
                          simp only [Act.put, List.setIfInBounds_toArray, List.set_cons_zero, List.set_cons_succ, i64_w, i32_w]
                          rfl
                        refine pure_ (i := 18) (N := some 22) (v := ?_) (a' := ?_) #[true, true, true, true, true, true, true, true, true, true, true, true, true, true, true, true, true, true, true, false] rfl rfl (any_of HT_.out (by kernel_rfl)) (fun _ _ _ h => h) (Or.inl ⟨by rfl, ?_⟩) ?_ ?_
                        rotate_left
                        · intro w'
                          go_simp
                          with_reducible rfl
                        rotate_left
                        · simp only [Act.put, List.setIfInBounds_toArray, List.set_cons_zero, List.set_cons_succ, i64_w, i32_w]
                          rfl
                        refine pure_ (i := 19) (N := some 3) (v := ?_) (a' := ?_) #[true, true, true, true, true, true, true, true, true, true, true, true, true, true, true, true, true, true, true, true] rfl rfl (any_of HT_.out (by kernel_rfl)) (fun _ _ _ h => h) (Or.inl ⟨by rfl, ?_⟩) ?_ ?_
                        rotate_left
                        · intro w'
                          go_simp
                          with_reducible rfl
                        rotate_left
                        · simp only [Act.put, List.setIfInBounds_toArray, List.set_cons_zero, List.set_cons_succ, i64_w, i32_w]
                          rfl
                        refine done_ (done_of HT_.out (by kernel_rfl)) ?_
                        have hcz24_0 : w23.cell? ⟨gb578, 0, none⟩ = some (.int .u64 a0_0) := (blk_cell BK578.out 0).trans rfl
                        have hcz24_1 : w23.cell? ⟨gb578, 1, none⟩ = some (.int .u64 a0_1) := (blk_cell BK578.out 1).trans rfl
                        have hcz24_2 : w23.cell? ⟨gb578, 2, none⟩ = some (.int .u64 a0_2) := (blk_cell BK578.out 2).trans rfl
                        have hcz24_3 : w23.cell? ⟨gb578, 3, none⟩ = some (.int .i64 a0_3) := (blk_cell BK578.out 3).trans rfl
                        have hcz24_4 : w23.cell? ⟨gb578, 4, none⟩ = some (.int .i64 a0_4) := (blk_cell BK578.out 4).trans rfl
                        have hcz24_5 : w23.cell? ⟨gb578, 5, none⟩ = some (.bool true) := (blk_cell BK578.out 5).trans rfl
                        have hfz24_0 := blk_frozen BK578.out 0
                        have hfz24_1 := blk_frozen BK578.out 1
                        have hfz24_2 := blk_frozen BK578.out 2
                        have hfz24_3 := blk_frozen BK578.out 3
                        have hfz24_4 := blk_frozen BK578.out 4
                        have hfz24_5 := blk_frozen BK578.out 5
                        try go_wp2_with (first | ((with_reducible refine gate_dst (N := 31) rfl ?_); (with_reducible refine gate_callee (f := 45) rfl ?_); refine goesL_ (some 31) rfl rfl Tryd.func45 (by kernel_rfl) rfl #[.int .u64 (IntKind.u64.wrap (a0_4))] rfl (by (try simp only [List.map_toArray, List.map_cons, List.map_nil]); first | done | rfl | (simp only [List.length_drop, List.length_take]; rfl)) ?_; (with_reducible refine (curtilageref02_number.calls k (IntKind.u64.wrap (a0_4)) t583 _ A14.out).mono ?_); rintro e w25 ⟨rfl, hb⟩; refine ⟨_, rfl, ?_⟩; have n0_ := Aside0.mk (blk_below (g := gb578) (o := .cells #[.int .u64 a0_0, .int .u64 a0_1, .int .u64 a0_2, .int .i64 a0_3, .int .i64 a0_4, .bool true] 24 (0, 0)) (by (with_reducible repeat (first | refine blk_drewN ?_ _ | refine blk_drew ?_ | refine blk_alloc ?_ _)); exact BK578.out) hb); have n1_ := Aside0.mk (below_step (by repeat (first | (with_reducible first | exact HB.out | apply below_alloc | apply pw_below_drewN | apply below_drew1 | refine below_set ?_ GE578.out) | exact HB.out)) hb); clear BK578; clear HB; have BK578 := n0_; have HB := n1_; clear n0_ n1_; (try clear hb); (try clear hb2); (try clear hk); (try clear hi); obtain ⟨hcz26_0, hcz26_1, hcz26_2, hcz26_3, hcz26_4, hcz26_5, hfz26_0, hfz26_1, hfz26_2, hfz26_3, hfz26_4, hfz26_5⟩ := cells6 BK578.out))
                        go_ret
                        exact ⟨by first | rfl | (simp [errW_none, errW_some] <;> rfl) | (simp [*, errW_none, errW_some] <;> rfl), by repeat (first | (with_reducible first | exact HB.out | apply below_alloc | apply pw_below_drewN | apply below_drew1 | refine below_set ?_ GE578.out) | exact HB.out)⟩
                      · rw [if_neg c17] at H
                        exact absurd H (by simp)
                    · replace c16 := Bool.eq_false_iff.mpr c16
                      subst c16
                      have H1 : (if 1 + ((((((((t579 ++ (⟨#[46, 46]⟩ : ByteArray)) ++ t580) ++ (⟨#[64]⟩ : ByteArray)) ++ t581) ++ (⟨#[58]⟩ : ByteArray)) ++ t582) ++ (⟨#[33]⟩ : ByteArray)) ++ t583).size ≤ 9223372036854775807 then (some ((⟨#[45]⟩ : ByteArray) ++ ((((((((t579 ++ (⟨#[46, 46]⟩ : ByteArray)) ++ t580) ++ (⟨#[64]⟩ : ByteArray)) ++ t581) ++ (⟨#[58]⟩ : ByteArray)) ++ t582) ++ (⟨#[33]⟩ : ByteArray)) ++ t583))) else (none)) = some r := by rw [if_neg (show ¬ (false = true) by decide)] at H; exact H
                      clear H
                      have H := H1
                      clear H1
                      by_cases c27 : 1 + ((((((((t579 ++ (⟨#[46, 46]⟩ : ByteArray)) ++ t580) ++ (⟨#[64]⟩ : ByteArray)) ++ t581) ++ (⟨#[58]⟩ : ByteArray)) ++ t582) ++ (⟨#[33]⟩ : ByteArray)) ++ t583).size ≤ 9223372036854775807
                      · rw [if_pos c27] at H
                        have c27b0 := eq_true c27
                        have c27b1 : decide (1 + ((((((((t579 ++ (⟨#[46, 46]⟩ : ByteArray)) ++ t580) ++ (⟨#[64]⟩ : ByteArray)) ++ t581) ++ (⟨#[58]⟩ : ByteArray)) ++ t582) ++ (⟨#[33]⟩ : ByteArray)) ++ t583).size ≤ 9223372036854775807) = true := decide_eq_true c27
                        try have c27b2 : (9223372036854775807 < 1 + ((((((((t579 ++ (⟨#[46, 46]⟩ : ByteArray)) ++ t580) ++ (⟨#[64]⟩ : ByteArray)) ++ t581) ++ (⟨#[58]⟩ : ByteArray)) ++ t582) ++ (⟨#[33]⟩ : ByteArray)) ++ t583).size) = False := eq_false (Nat.not_lt.2 c27)
                        have c27b3 : (9223372036854775807 < 1 + (t579.size + 2 + t580.size + 1 + t581.size + 1 + t582.size + 1 + t583.size)) = False := by
                          have h_ := c27b2
                          simp only [ByteArray.size_append] at h_
                          exact h_
                        obtain rfl := Option.some.inj H
                        go_enter Tryd.func34, Tryd.ntmps34
                        try go_wp2_with (first | ((with_reducible refine gate_dst (N := 1) rfl ?_); refine box_event ?hg (N := 1) ?hd (cs := #[.int .u64 a0_0, .int .u64 a0_1, .int .u64 a0_2, .int .i64 a0_3, .int .i64 a0_4, .bool false]) (t := 24) ?hr ?_; (case hd => rfl); (case hg => rfl); (case hr => first | (go_simp; done) | (go_simp; rfl)); intro gb578 hg w28 hbox hb; have n0_ := Aside0.mk (below_step (by repeat (first | (with_reducible first | exact HB.out | apply below_alloc | apply pw_below_drewN | apply below_drew1) | exact HB.out)) hb); have n1_ := Aside0.mk (hbox); have n2_ := Aside0.mk ((by rw [hg]; exact (below_size (by repeat (first | (with_reducible first | exact HB.out | apply below_alloc | apply pw_below_drewN | apply below_drew1) | exact HB.out))) : w.heap.size ≤ gb578)); have n3_ := Aside0.mk ((by rw [hg]; exact (below_size (by repeat (first | (with_reducible first | exact HB.out | apply below_alloc | apply pw_below_drewN | apply below_drew1) | exact HB.out))) : w.heap.size ≤ gb578)); clear HB; have HB := n0_; have BK578 := n1_; have GW578 := n2_; have GE578 := n3_; clear n0_ n1_ n2_ n3_; clear hb hbox hg))
                        have n0_ := Aside0.mk (blk_drew BK578.out)
                        have n1_ := Aside0.mk (below_drew1 HB.out)
                        clear BK578
                        clear HB
                        have BK578 := n0_
                        have HB := n1_
                        clear n0_ n1_
                        refine start_ (n := 20) (S := fun w' => w'.cell? ⟨gb578, 0, none⟩ = some (.int .u64 a0_0) ∧ w'.cell? ⟨gb578, 1, none⟩ = some (.int .u64 a0_1) ∧ w'.cell? ⟨gb578, 2, none⟩ = some (.int .u64 a0_2) ∧ w'.cell? ⟨gb578, 3, none⟩ = some (.int .i64 a0_3) ∧ w'.cell? ⟨gb578, 4, none⟩ = some (.int .i64 a0_4) ∧ w'.cell? ⟨gb578, 5, none⟩ = some (.bool false)) (ds := []) #[false, false, false, false, false, false, false, false, false, false, false, false, false, false, false, false, false, false, false, false] (by kernel_rfl) rfl rfl ⟨(blk_cell BK578.out 0).trans rfl, (blk_cell BK578.out 1).trans rfl, (blk_cell BK578.out 2).trans rfl, (blk_cell BK578.out 3).trans rfl, (blk_cell BK578.out 4).trans rfl, (blk_cell BK578.out 5).trans rfl⟩ (fun hHeld => ?_); refine with_tabW curtilageref02_Text.tab1 curtilageref02_Text.bits1 (fun HT_ HW_ => ?_)
                        generalize w28.drew = w29 at BK578 HB hHeld ⊢
                        refine pure_ (i := 0) (N := some 4) (v := ?_) (a' := ?_) #[true, false, false, false, false, false, false, false, false, false, false, false, false, false, false, false, false, false, false, false] rfl rfl (any_of HT_.out (by kernel_rfl)) (fun _ _ _ h => h) (Or.inl ⟨by rfl, ?_⟩) ?_ ?_
                        rotate_left
                        · intro w'
                          go_simp
                          with_reducible rfl
                        rotate_left
                        · simp only [Act.put, List.setIfInBounds_toArray, List.set_cons_zero, List.set_cons_succ, i64_w, i32_w]
                          rfl
                        refine pure_ (i := 4) (N := some 8) (v := ?_) (a' := ?_) #[true, false, false, false, true, false, false, false, false, false, false, false, false, false, false, false, false, false, false, false] rfl rfl (any_of HT_.out (by kernel_rfl)) (fun _ _ _ h => h) (Or.inl ⟨by rfl, ?_⟩) ?_ ?_
                        rotate_left
                        · intro w'
                          go_simp
                          with_reducible rfl
                        rotate_left
                        · simp only [Act.put, List.setIfInBounds_toArray, List.set_cons_zero, List.set_cons_succ, i64_w, i32_w]
                          rfl
                        refine pure_ (i := 9) (N := some 13) (v := ?_) (a' := ?_) #[true, false, false, false, true, false, false, false, false, true, false, false, false, false, false, false, false, false, false, false] rfl rfl (any_of HT_.out (by kernel_rfl)) (fun _ _ _ h => h) (Or.inl ⟨by rfl, ?_⟩) ?_ ?_
                        rotate_left
                        · intro w'
                          go_simp
                          with_reducible rfl
                        rotate_left
                        · simp only [Act.put, List.setIfInBounds_toArray, List.set_cons_zero, List.set_cons_succ, i64_w, i32_w]
                          rfl
                        refine pure_ (i := 14) (N := some 18) (v := ?_) (a' := ?_) #[true, false, false, false, true, false, false, false, false, true, false, false, false, false, true, false, false, false, false, false] rfl rfl (any_of HT_.out (by kernel_rfl)) (fun _ _ _ h => h) (Or.inl ⟨by rfl, ?_⟩) ?_ ?_
                        rotate_left
                        · intro w'
                          go_simp
                          with_reducible rfl
                        rotate_left
                        · simp only [Act.put, List.setIfInBounds_toArray, List.set_cons_zero, List.set_cons_succ, i64_w, i32_w]
                          rfl
                        refine take_ (i := 1) (N := some 5) (v := ?_) (a' := ?_) #[true, true, false, false, true, false, false, false, false, true, false, false, false, false, true, false, false, false, false, false] rfl rfl (take_ofW HT_.out HW_.out (by kernel_rfl)) (fun _ _ _ h => h) (Or.inl ⟨by rfl, ?_⟩) hHeld ?_ ?_
                        rotate_left
                        · rintro w' ⟨s0, s1, s2, s3, s4, s5⟩
                          go_simp
                          with_reducible rfl
                        rotate_left
                        · simp only [Act.put, List.setIfInBounds_toArray, List.set_cons_zero, List.set_cons_succ, i64_w, i32_w]
                          rfl
                        refine take_ (i := 5) (N := some 9) (v := ?_) (a' := ?_) #[true, true, false, false, true, true, false, false, false, true, false, false, false, false, true, false, false, false, false, false] rfl rfl (take_ofW HT_.out HW_.out (by kernel_rfl)) (fun _ _ _ h => h) (Or.inl ⟨by rfl, ?_⟩) hHeld ?_ ?_
                        rotate_left
                        · rintro w' ⟨s0, s1, s2, s3, s4, s5⟩
                          go_simp
                          with_reducible rfl
                        rotate_left
                        · simp only [Act.put, List.setIfInBounds_toArray, List.set_cons_zero, List.set_cons_succ, i64_w, i32_w]
                          rfl
                        refine take_ (i := 10) (N := some 14) (v := ?_) (a' := ?_) #[true, true, false, false, true, true, false, false, false, true, true, false, false, false, true, false, false, false, false, false] rfl rfl (take_ofW HT_.out HW_.out (by kernel_rfl)) (fun _ _ _ h => h) (Or.inl ⟨by rfl, ?_⟩) hHeld ?_ ?_
                        rotate_left
                        · rintro w' ⟨s0, s1, s2, s3, s4, s5⟩
                          go_simp
                          with_reducible rfl
                        rotate_left
                        · simp only [Act.put, List.setIfInBounds_toArray, List.set_cons_zero, List.set_cons_succ, i64_w, i32_w]
                          rfl
                        refine take_ (i := 15) (N := some 19) (v := ?_) (a' := ?_) #[true, true, false, false, true, true, false, false, false, true, true, false, false, false, true, true, false, false, false, false] rfl rfl (take_ofW HT_.out HW_.out (by kernel_rfl)) (fun _ _ _ h => h) (Or.inl ⟨by rfl, ?_⟩) hHeld ?_ ?_
                        rotate_left
                        · rintro w' ⟨s0, s1, s2, s3, s4, s5⟩
                          go_simp
                          with_reducible rfl
                        rotate_left
                        · simp only [Act.put, List.setIfInBounds_toArray, List.set_cons_zero, List.set_cons_succ, i64_w, i32_w]
                          rfl
                        refine pure_ (i := 16) (N := some 20) (v := ?_) (a' := ?_) #[true, true, false, false, true, true, false, false, false, true, true, false, false, false, true, true, true, false, false, false] rfl rfl (any_of HT_.out (by kernel_rfl)) (fun _ _ _ h => h) (Or.inl ⟨by rfl, ?_⟩) ?_ ?_
                        rotate_left
                        · intro w'
                          go_simp
                          with_reducible rfl
                        rotate_left
                        · simp only [Act.put, List.setIfInBounds_toArray, List.set_cons_zero, List.set_cons_succ, i64_w, i32_w]
                          rfl
                        refine one_ (i := 2) (N := some 6) #[true, true, true, false, true, true, false, false, false, true, true, false, false, false, true, true, true, false, false, false] rfl rfl (one_of HT_.out (by kernel_rfl)) (by decide) (fun K hK => ?_)
                        refine goes_ Tryd.func45 (by kernel_rfl) rfl #[.int .u64 a0_0] (by rfl) rfl rfl (by (try simp only [List.map_toArray, List.map_cons, List.map_nil]); first | done | rfl | (simp only [List.length_drop, List.length_take]; rfl)) ?_
                        with_reducible refine (curtilageref02_number.calls k a0_0 t579 _ A2.out).mono ?_
                        rintro e w30 ⟨rfl, hb⟩
                        refine ⟨_, rfl, ?_⟩
                        have n0_ := Aside0.mk (blk_below (g := gb578) (o := .cells #[.int .u64 a0_0, .int .u64 a0_1, .int .u64 a0_2, .int .i64 a0_3, .int .i64 a0_4, .bool false] 24 (0, 0)) (by (with_reducible repeat (first | refine blk_drewN ?_ _ | refine blk_drew ?_ | refine blk_alloc ?_ _)); exact BK578.out) hb)
                        have n1_ := Aside0.mk (below_step (by repeat (first | (with_reducible first | exact HB.out | apply below_alloc | apply pw_below_drewN | apply below_drew1 | refine below_set ?_ GE578.out) | exact HB.out)) hb)
                        clear BK578
                        clear HB
                        have BK578 := n0_
                        have HB := n1_
                        clear n0_ n1_
                        (try clear hb)
                        (try clear hb2)
                        (try clear hk)
                        (try clear hi)
                        refine hK.out _ _ ⟨(blk_cell BK578.out 0).trans rfl, (blk_cell BK578.out 1).trans rfl, (blk_cell BK578.out 2).trans rfl, (blk_cell BK578.out 3).trans rfl, (blk_cell BK578.out 4).trans rfl, (blk_cell BK578.out 5).trans rfl⟩ (fun hHeld => ?_)
                        clear hK K
                        refine norm_ (a' := ?_) ?_ ?_
                        rotate_left
                        · show Act.put _ (some 6) _ = _
                          simp only [Act.put, List.setIfInBounds_toArray, List.set_cons_zero, List.set_cons_succ, i64_w, i32_w]
                          rfl
                        refine pure_ (i := 3) (N := some 7) (v := ?_) (a' := ?_) #[true, true, true, true, true, true, false, false, false, true, true, false, false, false, true, true, true, false, false, false] rfl rfl (any_of HT_.out (by kernel_rfl)) (fun _ _ _ h => h) (Or.inl ⟨by rfl, ?_⟩) ?_ ?_
                        rotate_left
                        · intro w'
                          go_simp
                          with_reducible rfl
                        rotate_left
                        · simp only [Act.put, List.setIfInBounds_toArray, List.set_cons_zero, List.set_cons_succ, i64_w, i32_w]
                          rfl
                        refine one_ (i := 6) (N := some 10) #[true, true, true, true, true, true, true, false, false, true, true, false, false, false, true, true, true, false, false, false] rfl rfl (one_of HT_.out (by kernel_rfl)) (by decide) (fun K hK => ?_)
                        refine goes_ Tryd.func45 (by kernel_rfl) rfl #[.int .u64 a0_1] (by rfl) rfl rfl (by (try simp only [List.map_toArray, List.map_cons, List.map_nil]); first | done | rfl | (simp only [List.length_drop, List.length_take]; rfl)) ?_
                        with_reducible refine (curtilageref02_number.calls k a0_1 t580 _ A4.out).mono ?_
                        rintro e w31 ⟨rfl, hb⟩
                        refine ⟨_, rfl, ?_⟩
                        have n0_ := Aside0.mk (blk_below (g := gb578) (o := .cells #[.int .u64 a0_0, .int .u64 a0_1, .int .u64 a0_2, .int .i64 a0_3, .int .i64 a0_4, .bool false] 24 (0, 0)) (by (with_reducible repeat (first | refine blk_drewN ?_ _ | refine blk_drew ?_ | refine blk_alloc ?_ _)); exact BK578.out) hb)
                        have n1_ := Aside0.mk (below_step (by repeat (first | (with_reducible first | exact HB.out | apply below_alloc | apply pw_below_drewN | apply below_drew1 | refine below_set ?_ GE578.out) | exact HB.out)) hb)
                        clear BK578
                        clear HB
                        have BK578 := n0_
                        have HB := n1_
                        clear n0_ n1_
                        (try clear hb)
                        (try clear hb2)
                        (try clear hk)
                        (try clear hi)
                        refine hK.out _ _ ⟨(blk_cell BK578.out 0).trans rfl, (blk_cell BK578.out 1).trans rfl, (blk_cell BK578.out 2).trans rfl, (blk_cell BK578.out 3).trans rfl, (blk_cell BK578.out 4).trans rfl, (blk_cell BK578.out 5).trans rfl⟩ (fun hHeld => ?_)
                        clear hK K
                        refine norm_ (a' := ?_) ?_ ?_
                        rotate_left
                        · show Act.put _ (some 10) _ = _
                          simp only [Act.put, List.setIfInBounds_toArray, List.set_cons_zero, List.set_cons_succ, i64_w, i32_w]
                          rfl
                        refine pure_ (i := 7) (N := some 11) (v := ?_) (a' := ?_) #[true, true, true, true, true, true, true, true, false, true, true, false, false, false, true, true, true, false, false, false] rfl rfl (any_of HT_.out (by kernel_rfl)) (fun _ _ _ h => h) (Or.inl ⟨by rfl, ?_⟩) ?_ ?_
                        rotate_left
                        · intro w'
                          go_simp
                          with_reducible rfl
                        rotate_left
                        · simp only [Act.put, List.setIfInBounds_toArray, List.set_cons_zero, List.set_cons_succ, i64_w, i32_w]
                          rfl
                        refine pure_ (i := 8) (N := some 12) (v := ?_) (a' := ?_) #[true, true, true, true, true, true, true, true, true, true, true, false, false, false, true, true, true, false, false, false] rfl rfl (any_of HT_.out (by kernel_rfl)) (fun _ _ _ h => h) (Or.inl ⟨by rfl, ?_⟩) ?_ ?_
                        rotate_left
                        · intro w'
                          go_simp
                          with_reducible rfl
                        rotate_left
                        · simp only [Act.put, List.setIfInBounds_toArray, List.set_cons_zero, List.set_cons_succ, i64_w, i32_w]
                          rfl
                        refine one_ (i := 11) (N := some 15) #[true, true, true, true, true, true, true, true, true, true, true, true, false, false, true, true, true, false, false, false] rfl rfl (one_of HT_.out (by kernel_rfl)) (by decide) (fun K hK => ?_)
                        refine goes_ Tryd.func45 (by kernel_rfl) rfl #[.int .u64 a0_2] (by rfl) rfl rfl (by (try simp only [List.map_toArray, List.map_cons, List.map_nil]); first | done | rfl | (simp only [List.length_drop, List.length_take]; rfl)) ?_
                        with_reducible refine (curtilageref02_number.calls k a0_2 t581 _ A7.out).mono ?_
                        rintro e w32 ⟨rfl, hb⟩
                        refine ⟨_, rfl, ?_⟩
                        have n0_ := Aside0.mk (blk_below (g := gb578) (o := .cells #[.int .u64 a0_0, .int .u64 a0_1, .int .u64 a0_2, .int .i64 a0_3, .int .i64 a0_4, .bool false] 24 (0, 0)) (by (with_reducible repeat (first | refine blk_drewN ?_ _ | refine blk_drew ?_ | refine blk_alloc ?_ _)); exact BK578.out) hb)
                        have n1_ := Aside0.mk (below_step (by repeat (first | (with_reducible first | exact HB.out | apply below_alloc | apply pw_below_drewN | apply below_drew1 | refine below_set ?_ GE578.out) | exact HB.out)) hb)
                        clear BK578
                        clear HB
                        have BK578 := n0_
                        have HB := n1_
                        clear n0_ n1_
                        (try clear hb)
                        (try clear hb2)
                        (try clear hk)
                        (try clear hi)
                        refine hK.out _ _ ⟨(blk_cell BK578.out 0).trans rfl, (blk_cell BK578.out 1).trans rfl, (blk_cell BK578.out 2).trans rfl, (blk_cell BK578.out 3).trans rfl, (blk_cell BK578.out 4).trans rfl, (blk_cell BK578.out 5).trans rfl⟩ (fun hHeld => ?_)
                        clear hK K
                        refine norm_ (a' := ?_) ?_ ?_
                        rotate_left
                        · show Act.put _ (some 15) _ = _
                          simp only [Act.put, List.setIfInBounds_toArray, List.set_cons_zero, List.set_cons_succ, i64_w, i32_w]
                          rfl
                        refine pure_ (i := 12) (N := some 16) (v := ?_) (a' := ?_) #[true, true, true, true, true, true, true, true, true, true, true, true, true, false, true, true, true, false, false, false] rfl rfl (any_of HT_.out (by kernel_rfl)) (fun _ _ _ h => h) (Or.inl ⟨by rfl, ?_⟩) ?_ ?_
                        rotate_left
                        · intro w'
                          go_simp
                          with_reducible rfl
                        rotate_left
                        · simp only [Act.put, List.setIfInBounds_toArray, List.set_cons_zero, List.set_cons_succ, i64_w, i32_w]
                          rfl
                        refine pure_ (i := 13) (N := some 17) (v := ?_) (a' := ?_) #[true, true, true, true, true, true, true, true, true, true, true, true, true, true, true, true, true, false, false, false] rfl rfl (any_of HT_.out (by kernel_rfl)) (fun _ _ _ h => h) (Or.inl ⟨by rfl, ?_⟩) ?_ ?_
                        rotate_left
                        · intro w'
                          go_simp
                          with_reducible rfl
                        rotate_left
                        · simp only [Act.put, List.setIfInBounds_toArray, List.set_cons_zero, List.set_cons_succ, i64_w, i32_w]
                          rfl
                        refine one_ (i := 17) (N := some 21) #[true, true, true, true, true, true, true, true, true, true, true, true, true, true, true, true, true, true, false, false] rfl rfl (one_of HT_.out (by kernel_rfl)) (by decide) (fun K hK => ?_)
                        refine goes_ Tryd.func45 (by kernel_rfl) rfl #[.int .u64 (IntKind.u64.wrap (a0_3))] (by rfl) rfl rfl (by (try simp only [List.map_toArray, List.map_cons, List.map_nil]); first | done | rfl | (simp only [List.length_drop, List.length_take]; rfl)) ?_
                        with_reducible refine (curtilageref02_number.calls k (IntKind.u64.wrap (a0_3)) t582 _ A10.out).mono ?_
                        rintro e w33 ⟨rfl, hb⟩
                        refine ⟨_, rfl, ?_⟩
                        have n0_ := Aside0.mk (blk_below (g := gb578) (o := .cells #[.int .u64 a0_0, .int .u64 a0_1, .int .u64 a0_2, .int .i64 a0_3, .int .i64 a0_4, .bool false] 24 (0, 0)) (by (with_reducible repeat (first | refine blk_drewN ?_ _ | refine blk_drew ?_ | refine blk_alloc ?_ _)); exact BK578.out) hb)
                        have n1_ := Aside0.mk (below_step (by repeat (first | (with_reducible first | exact HB.out | apply below_alloc | apply pw_below_drewN | apply below_drew1 | refine below_set ?_ GE578.out) | exact HB.out)) hb)
                        clear BK578
                        clear HB
                        have BK578 := n0_
                        have HB := n1_
                        clear n0_ n1_
                        (try clear hb)
                        (try clear hb2)
                        (try clear hk)
                        (try clear hi)
                        refine hK.out _ _ ⟨(blk_cell BK578.out 0).trans rfl, (blk_cell BK578.out 1).trans rfl, (blk_cell BK578.out 2).trans rfl, (blk_cell BK578.out 3).trans rfl, (blk_cell BK578.out 4).trans rfl, (blk_cell BK578.out 5).trans rfl⟩ (fun hHeld => ?_)
                        clear hK K
                        refine norm_ (a' := ?_) ?_ ?_
                        rotate_left
                        · show Act.put _ (some 21) _ = _
                          simp only [Act.put, List.setIfInBounds_toArray, List.set_cons_zero, List.set_cons_succ, i64_w, i32_w]
                          rfl
                        refine pure_ (i := 18) (N := some 22) (v := ?_) (a' := ?_) #[true, true, true, true, true, true, true, true, true, true, true, true, true, true, true, true, true, true, true, false] rfl rfl (any_of HT_.out (by kernel_rfl)) (fun _ _ _ h => h) (Or.inl ⟨by rfl, ?_⟩) ?_ ?_
                        rotate_left
                        · intro w'
                          go_simp
                          with_reducible rfl
                        rotate_left
                        · simp only [Act.put, List.setIfInBounds_toArray, List.set_cons_zero, List.set_cons_succ, i64_w, i32_w]
                          rfl
                        refine pure_ (i := 19) (N := some 3) (v := ?_) (a' := ?_) #[true, true, true, true, true, true, true, true, true, true, true, true, true, true, true, true, true, true, true, true] rfl rfl (any_of HT_.out (by kernel_rfl)) (fun _ _ _ h => h) (Or.inl ⟨by rfl, ?_⟩) ?_ ?_
                        rotate_left
                        · intro w'
                          go_simp
                          with_reducible rfl
                        rotate_left
                        · simp only [Act.put, List.setIfInBounds_toArray, List.set_cons_zero, List.set_cons_succ, i64_w, i32_w]
                          rfl
                        refine done_ (done_of HT_.out (by kernel_rfl)) ?_
                        have hcz34_0 : w33.cell? ⟨gb578, 0, none⟩ = some (.int .u64 a0_0) := (blk_cell BK578.out 0).trans rfl
                        have hcz34_1 : w33.cell? ⟨gb578, 1, none⟩ = some (.int .u64 a0_1) := (blk_cell BK578.out 1).trans rfl
                        have hcz34_2 : w33.cell? ⟨gb578, 2, none⟩ = some (.int .u64 a0_2) := (blk_cell BK578.out 2).trans rfl
                        have hcz34_3 : w33.cell? ⟨gb578, 3, none⟩ = some (.int .i64 a0_3) := (blk_cell BK578.out 3).trans rfl
                        have hcz34_4 : w33.cell? ⟨gb578, 4, none⟩ = some (.int .i64 a0_4) := (blk_cell BK578.out 4).trans rfl
                        have hcz34_5 : w33.cell? ⟨gb578, 5, none⟩ = some (.bool false) := (blk_cell BK578.out 5).trans rfl
                        have hfz34_0 := blk_frozen BK578.out 0
                        have hfz34_1 := blk_frozen BK578.out 1
                        have hfz34_2 := blk_frozen BK578.out 2
                        have hfz34_3 := blk_frozen BK578.out 3
                        have hfz34_4 := blk_frozen BK578.out 4
                        have hfz34_5 := blk_frozen BK578.out 5
                        try go_wp2_with (first | ((with_reducible refine gate_dst (N := 31) rfl ?_); (with_reducible refine gate_callee (f := 45) rfl ?_); refine goesL_ (some 31) rfl rfl Tryd.func45 (by kernel_rfl) rfl #[.int .u64 (IntKind.u64.wrap (a0_4))] rfl (by (try simp only [List.map_toArray, List.map_cons, List.map_nil]); first | done | rfl | (simp only [List.length_drop, List.length_take]; rfl)) ?_; (with_reducible refine (curtilageref02_number.calls k (IntKind.u64.wrap (a0_4)) t583 _ A14.out).mono ?_); rintro e w35 ⟨rfl, hb⟩; refine ⟨_, rfl, ?_⟩; have n0_ := Aside0.mk (blk_below (g := gb578) (o := .cells #[.int .u64 a0_0, .int .u64 a0_1, .int .u64 a0_2, .int .i64 a0_3, .int .i64 a0_4, .bool false] 24 (0, 0)) (by (with_reducible repeat (first | refine blk_drewN ?_ _ | refine blk_drew ?_ | refine blk_alloc ?_ _)); exact BK578.out) hb); have n1_ := Aside0.mk (below_step (by repeat (first | (with_reducible first | exact HB.out | apply below_alloc | apply pw_below_drewN | apply below_drew1 | refine below_set ?_ GE578.out) | exact HB.out)) hb); clear BK578; clear HB; have BK578 := n0_; have HB := n1_; clear n0_ n1_; (try clear hb); (try clear hb2); (try clear hk); (try clear hi); obtain ⟨hcz36_0, hcz36_1, hcz36_2, hcz36_3, hcz36_4, hcz36_5, hfz36_0, hfz36_1, hfz36_2, hfz36_3, hfz36_4, hfz36_5⟩ := cells6 BK578.out))
                        go_ret
                        exact ⟨by first | rfl | (simp [errW_none, errW_some] <;> rfl) | (simp [*, errW_none, errW_some] <;> rfl), by repeat (first | (with_reducible first | exact HB.out | apply below_alloc | apply pw_below_drewN | apply below_drew1 | refine below_set ?_ GE578.out) | exact HB.out)⟩
                      · rw [if_neg c27] at H
                        exact absurd H (by simp)
                  · rw [if_neg c15] at H
                    exact absurd H (by simp)
                · rw [if_neg c13] at H
                  exact absurd H (by simp)
              · rw [if_neg c12] at H
                have c12b0 : decide (0 ≤ a0_4) = false := decide_eq_false c12
                clear c12
                by_cases c37 : a0_5 = true
                · subst c37
                  have H1 : (if 1 + ((((((t579 ++ (⟨#[46, 46]⟩ : ByteArray)) ++ t580) ++ (⟨#[64]⟩ : ByteArray)) ++ t581) ++ (⟨#[58]⟩ : ByteArray)) ++ t582).size ≤ 9223372036854775807 then (some ((⟨#[43]⟩ : ByteArray) ++ ((((((t579 ++ (⟨#[46, 46]⟩ : ByteArray)) ++ t580) ++ (⟨#[64]⟩ : ByteArray)) ++ t581) ++ (⟨#[58]⟩ : ByteArray)) ++ t582))) else (none)) = some r := by rw [if_pos rfl] at H; exact H
                  clear H
                  have H := H1
                  clear H1
                  by_cases c38 : 1 + ((((((t579 ++ (⟨#[46, 46]⟩ : ByteArray)) ++ t580) ++ (⟨#[64]⟩ : ByteArray)) ++ t581) ++ (⟨#[58]⟩ : ByteArray)) ++ t582).size ≤ 9223372036854775807
                  · rw [if_pos c38] at H
                    have c38b0 := eq_true c38
                    have c38b1 : decide (1 + ((((((t579 ++ (⟨#[46, 46]⟩ : ByteArray)) ++ t580) ++ (⟨#[64]⟩ : ByteArray)) ++ t581) ++ (⟨#[58]⟩ : ByteArray)) ++ t582).size ≤ 9223372036854775807) = true := decide_eq_true c38
                    try have c38b2 : (9223372036854775807 < 1 + ((((((t579 ++ (⟨#[46, 46]⟩ : ByteArray)) ++ t580) ++ (⟨#[64]⟩ : ByteArray)) ++ t581) ++ (⟨#[58]⟩ : ByteArray)) ++ t582).size) = False := eq_false (Nat.not_lt.2 c38)
                    have c38b3 : (9223372036854775807 < 1 + (t579.size + 2 + t580.size + 1 + t581.size + 1 + t582.size)) = False := by
                      have h_ := c38b2
                      simp only [ByteArray.size_append] at h_
                      exact h_
                    obtain rfl := Option.some.inj H
                    go_enter Tryd.func34, Tryd.ntmps34
                    try go_wp2_with (first | ((with_reducible refine gate_dst (N := 1) rfl ?_); refine box_event ?hg (N := 1) ?hd (cs := #[.int .u64 a0_0, .int .u64 a0_1, .int .u64 a0_2, .int .i64 a0_3, .int .i64 a0_4, .bool true]) (t := 24) ?hr ?_; (case hd => rfl); (case hg => rfl); (case hr => first | (go_simp; done) | (go_simp; rfl)); intro gb578 hg w39 hbox hb; have n0_ := Aside0.mk (below_step (by repeat (first | (with_reducible first | exact HB.out | apply below_alloc | apply pw_below_drewN | apply below_drew1) | exact HB.out)) hb); have n1_ := Aside0.mk (hbox); have n2_ := Aside0.mk ((by rw [hg]; exact (below_size (by repeat (first | (with_reducible first | exact HB.out | apply below_alloc | apply pw_below_drewN | apply below_drew1) | exact HB.out))) : w.heap.size ≤ gb578)); have n3_ := Aside0.mk ((by rw [hg]; exact (below_size (by repeat (first | (with_reducible first | exact HB.out | apply below_alloc | apply pw_below_drewN | apply below_drew1) | exact HB.out))) : w.heap.size ≤ gb578)); clear HB; have HB := n0_; have BK578 := n1_; have GW578 := n2_; have GE578 := n3_; clear n0_ n1_ n2_ n3_; clear hb hbox hg))
                    have n0_ := Aside0.mk (blk_drew BK578.out)
                    have n1_ := Aside0.mk (below_drew1 HB.out)
                    clear BK578
                    clear HB
                    have BK578 := n0_
                    have HB := n1_
                    clear n0_ n1_
                    refine start_ (n := 20) (S := fun w' => w'.cell? ⟨gb578, 0, none⟩ = some (.int .u64 a0_0) ∧ w'.cell? ⟨gb578, 1, none⟩ = some (.int .u64 a0_1) ∧ w'.cell? ⟨gb578, 2, none⟩ = some (.int .u64 a0_2) ∧ w'.cell? ⟨gb578, 3, none⟩ = some (.int .i64 a0_3) ∧ w'.cell? ⟨gb578, 4, none⟩ = some (.int .i64 a0_4) ∧ w'.cell? ⟨gb578, 5, none⟩ = some (.bool true)) (ds := []) #[false, false, false, false, false, false, false, false, false, false, false, false, false, false, false, false, false, false, false, false] (by kernel_rfl) rfl rfl ⟨(blk_cell BK578.out 0).trans rfl, (blk_cell BK578.out 1).trans rfl, (blk_cell BK578.out 2).trans rfl, (blk_cell BK578.out 3).trans rfl, (blk_cell BK578.out 4).trans rfl, (blk_cell BK578.out 5).trans rfl⟩ (fun hHeld => ?_); refine with_tabW curtilageref02_Text.tab1 curtilageref02_Text.bits1 (fun HT_ HW_ => ?_)
                    generalize w39.drew = w40 at BK578 HB hHeld ⊢
                    refine pure_ (i := 0) (N := some 4) (v := ?_) (a' := ?_) #[true, false, false, false, false, false, false, false, false, false, false, false, false, false, false, false, false, false, false, false] rfl rfl (any_of HT_.out (by kernel_rfl)) (fun _ _ _ h => h) (Or.inl ⟨by rfl, ?_⟩) ?_ ?_
                    rotate_left
                    · intro w'
                      go_simp
                      with_reducible rfl
                    rotate_left
                    · simp only [Act.put, List.setIfInBounds_toArray, List.set_cons_zero, List.set_cons_succ, i64_w, i32_w]
                      rfl
                    refine pure_ (i := 4) (N := some 8) (v := ?_) (a' := ?_) #[true, false, false, false, true, false, false, false, false, false, false, false, false, false, false, false, false, false, false, false] rfl rfl (any_of HT_.out (by kernel_rfl)) (fun _ _ _ h => h) (Or.inl ⟨by rfl, ?_⟩) ?_ ?_
                    rotate_left
                    · intro w'
                      go_simp
                      with_reducible rfl
                    rotate_left
                    · simp only [Act.put, List.setIfInBounds_toArray, List.set_cons_zero, List.set_cons_succ, i64_w, i32_w]
                      rfl
                    refine pure_ (i := 9) (N := some 13) (v := ?_) (a' := ?_) #[true, false, false, false, true, false, false, false, false, true, false, false, false, false, false, false, false, false, false, false] rfl rfl (any_of HT_.out (by kernel_rfl)) (fun _ _ _ h => h) (Or.inl ⟨by rfl, ?_⟩) ?_ ?_
                    rotate_left
                    · intro w'
                      go_simp
                      with_reducible rfl
                    rotate_left
                    · simp only [Act.put, List.setIfInBounds_toArray, List.set_cons_zero, List.set_cons_succ, i64_w, i32_w]
                      rfl
                    refine pure_ (i := 14) (N := some 18) (v := ?_) (a' := ?_) #[true, false, false, false, true, false, false, false, false, true, false, false, false, false, true, false, false, false, false, false] rfl rfl (any_of HT_.out (by kernel_rfl)) (fun _ _ _ h => h) (Or.inl ⟨by rfl, ?_⟩) ?_ ?_
                    rotate_left
                    · intro w'
                      go_simp
                      with_reducible rfl
                    rotate_left
                    · simp only [Act.put, List.setIfInBounds_toArray, List.set_cons_zero, List.set_cons_succ, i64_w, i32_w]
                      rfl
                    refine take_ (i := 1) (N := some 5) (v := ?_) (a' := ?_) #[true, true, false, false, true, false, false, false, false, true, false, false, false, false, true, false, false, false, false, false] rfl rfl (take_ofW HT_.out HW_.out (by kernel_rfl)) (fun _ _ _ h => h) (Or.inl ⟨by rfl, ?_⟩) hHeld ?_ ?_
                    rotate_left
                    · rintro w' ⟨s0, s1, s2, s3, s4, s5⟩
                      go_simp
                      with_reducible rfl
                    rotate_left
                    · simp only [Act.put, List.setIfInBounds_toArray, List.set_cons_zero, List.set_cons_succ, i64_w, i32_w]
                      rfl
                    refine take_ (i := 5) (N := some 9) (v := ?_) (a' := ?_) #[true, true, false, false, true, true, false, false, false, true, false, false, false, false, true, false, false, false, false, false] rfl rfl (take_ofW HT_.out HW_.out (by kernel_rfl)) (fun _ _ _ h => h) (Or.inl ⟨by rfl, ?_⟩) hHeld ?_ ?_
                    rotate_left
                    · rintro w' ⟨s0, s1, s2, s3, s4, s5⟩
                      go_simp
                      with_reducible rfl
                    rotate_left
                    · simp only [Act.put, List.setIfInBounds_toArray, List.set_cons_zero, List.set_cons_succ, i64_w, i32_w]
                      rfl
                    refine take_ (i := 10) (N := some 14) (v := ?_) (a' := ?_) #[true, true, false, false, true, true, false, false, false, true, true, false, false, false, true, false, false, false, false, false] rfl rfl (take_ofW HT_.out HW_.out (by kernel_rfl)) (fun _ _ _ h => h) (Or.inl ⟨by rfl, ?_⟩) hHeld ?_ ?_
                    rotate_left
                    · rintro w' ⟨s0, s1, s2, s3, s4, s5⟩
                      go_simp
                      with_reducible rfl
                    rotate_left
                    · simp only [Act.put, List.setIfInBounds_toArray, List.set_cons_zero, List.set_cons_succ, i64_w, i32_w]
                      rfl
                    refine take_ (i := 15) (N := some 19) (v := ?_) (a' := ?_) #[true, true, false, false, true, true, false, false, false, true, true, false, false, false, true, true, false, false, false, false] rfl rfl (take_ofW HT_.out HW_.out (by kernel_rfl)) (fun _ _ _ h => h) (Or.inl ⟨by rfl, ?_⟩) hHeld ?_ ?_
                    rotate_left
                    · rintro w' ⟨s0, s1, s2, s3, s4, s5⟩
                      go_simp
                      with_reducible rfl
                    rotate_left
                    · simp only [Act.put, List.setIfInBounds_toArray, List.set_cons_zero, List.set_cons_succ, i64_w, i32_w]
                      rfl
                    refine pure_ (i := 16) (N := some 20) (v := ?_) (a' := ?_) #[true, true, false, false, true, true, false, false, false, true, true, false, false, false, true, true, true, false, false, false] rfl rfl (any_of HT_.out (by kernel_rfl)) (fun _ _ _ h => h) (Or.inl ⟨by rfl, ?_⟩) ?_ ?_
                    rotate_left
                    · intro w'
                      go_simp
                      with_reducible rfl
                    rotate_left
                    · simp only [Act.put, List.setIfInBounds_toArray, List.set_cons_zero, List.set_cons_succ, i64_w, i32_w]
                      rfl
                    refine one_ (i := 2) (N := some 6) #[true, true, true, false, true, true, false, false, false, true, true, false, false, false, true, true, true, false, false, false] rfl rfl (one_of HT_.out (by kernel_rfl)) (by decide) (fun K hK => ?_)
                    refine goes_ Tryd.func45 (by kernel_rfl) rfl #[.int .u64 a0_0] (by rfl) rfl rfl (by (try simp only [List.map_toArray, List.map_cons, List.map_nil]); first | done | rfl | (simp only [List.length_drop, List.length_take]; rfl)) ?_
                    with_reducible refine (curtilageref02_number.calls k a0_0 t579 _ A2.out).mono ?_
                    rintro e w41 ⟨rfl, hb⟩
                    refine ⟨_, rfl, ?_⟩
                    have n0_ := Aside0.mk (blk_below (g := gb578) (o := .cells #[.int .u64 a0_0, .int .u64 a0_1, .int .u64 a0_2, .int .i64 a0_3, .int .i64 a0_4, .bool true] 24 (0, 0)) (by (with_reducible repeat (first | refine blk_drewN ?_ _ | refine blk_drew ?_ | refine blk_alloc ?_ _)); exact BK578.out) hb)
                    have n1_ := Aside0.mk (below_step (by repeat (first | (with_reducible first | exact HB.out | apply below_alloc | apply pw_below_drewN | apply below_drew1 | refine below_set ?_ GE578.out) | exact HB.out)) hb)
                    clear BK578
                    clear HB
                    have BK578 := n0_
                    have HB := n1_
                    clear n0_ n1_
                    (try clear hb)
                    (try clear hb2)
                    (try clear hk)
                    (try clear hi)
                    refine hK.out _ _ ⟨(blk_cell BK578.out 0).trans rfl, (blk_cell BK578.out 1).trans rfl, (blk_cell BK578.out 2).trans rfl, (blk_cell BK578.out 3).trans rfl, (blk_cell BK578.out 4).trans rfl, (blk_cell BK578.out 5).trans rfl⟩ (fun hHeld => ?_)
                    clear hK K
                    refine norm_ (a' := ?_) ?_ ?_
                    rotate_left
                    · show Act.put _ (some 6) _ = _
                      simp only [Act.put, List.setIfInBounds_toArray, List.set_cons_zero, List.set_cons_succ, i64_w, i32_w]
                      rfl
                    refine pure_ (i := 3) (N := some 7) (v := ?_) (a' := ?_) #[true, true, true, true, true, true, false, false, false, true, true, false, false, false, true, true, true, false, false, false] rfl rfl (any_of HT_.out (by kernel_rfl)) (fun _ _ _ h => h) (Or.inl ⟨by rfl, ?_⟩) ?_ ?_
                    rotate_left
                    · intro w'
                      go_simp
                      with_reducible rfl
                    rotate_left
                    · simp only [Act.put, List.setIfInBounds_toArray, List.set_cons_zero, List.set_cons_succ, i64_w, i32_w]
                      rfl
                    refine one_ (i := 6) (N := some 10) #[true, true, true, true, true, true, true, false, false, true, true, false, false, false, true, true, true, false, false, false] rfl rfl (one_of HT_.out (by kernel_rfl)) (by decide) (fun K hK => ?_)
                    refine goes_ Tryd.func45 (by kernel_rfl) rfl #[.int .u64 a0_1] (by rfl) rfl rfl (by (try simp only [List.map_toArray, List.map_cons, List.map_nil]); first | done | rfl | (simp only [List.length_drop, List.length_take]; rfl)) ?_
                    with_reducible refine (curtilageref02_number.calls k a0_1 t580 _ A4.out).mono ?_
                    rintro e w42 ⟨rfl, hb⟩
                    refine ⟨_, rfl, ?_⟩
                    have n0_ := Aside0.mk (blk_below (g := gb578) (o := .cells #[.int .u64 a0_0, .int .u64 a0_1, .int .u64 a0_2, .int .i64 a0_3, .int .i64 a0_4, .bool true] 24 (0, 0)) (by (with_reducible repeat (first | refine blk_drewN ?_ _ | refine blk_drew ?_ | refine blk_alloc ?_ _)); exact BK578.out) hb)
                    have n1_ := Aside0.mk (below_step (by repeat (first | (with_reducible first | exact HB.out | apply below_alloc | apply pw_below_drewN | apply below_drew1 | refine below_set ?_ GE578.out) | exact HB.out)) hb)
                    clear BK578
                    clear HB
                    have BK578 := n0_
                    have HB := n1_
                    clear n0_ n1_
                    (try clear hb)
                    (try clear hb2)
                    (try clear hk)
                    (try clear hi)
                    refine hK.out _ _ ⟨(blk_cell BK578.out 0).trans rfl, (blk_cell BK578.out 1).trans rfl, (blk_cell BK578.out 2).trans rfl, (blk_cell BK578.out 3).trans rfl, (blk_cell BK578.out 4).trans rfl, (blk_cell BK578.out 5).trans rfl⟩ (fun hHeld => ?_)
                    clear hK K
                    refine norm_ (a' := ?_) ?_ ?_
                    rotate_left
                    · show Act.put _ (some 10) _ = _
                      simp only [Act.put, List.setIfInBounds_toArray, List.set_cons_zero, List.set_cons_succ, i64_w, i32_w]
                      rfl
                    refine pure_ (i := 7) (N := some 11) (v := ?_) (a' := ?_) #[true, true, true, true, true, true, true, true, false, true, true, false, false, false, true, true, true, false, false, false] rfl rfl (any_of HT_.out (by kernel_rfl)) (fun _ _ _ h => h) (Or.inl ⟨by rfl, ?_⟩) ?_ ?_
                    rotate_left
                    · intro w'
                      go_simp
                      with_reducible rfl
                    rotate_left
                    · simp only [Act.put, List.setIfInBounds_toArray, List.set_cons_zero, List.set_cons_succ, i64_w, i32_w]
                      rfl
                    refine pure_ (i := 8) (N := some 12) (v := ?_) (a' := ?_) #[true, true, true, true, true, true, true, true, true, true, true, false, false, false, true, true, true, false, false, false] rfl rfl (any_of HT_.out (by kernel_rfl)) (fun _ _ _ h => h) (Or.inl ⟨by rfl, ?_⟩) ?_ ?_
                    rotate_left
                    · intro w'
                      go_simp
                      with_reducible rfl
                    rotate_left
                    · simp only [Act.put, List.setIfInBounds_toArray, List.set_cons_zero, List.set_cons_succ, i64_w, i32_w]
                      rfl
                    refine one_ (i := 11) (N := some 15) #[true, true, true, true, true, true, true, true, true, true, true, true, false, false, true, true, true, false, false, false] rfl rfl (one_of HT_.out (by kernel_rfl)) (by decide) (fun K hK => ?_)
                    refine goes_ Tryd.func45 (by kernel_rfl) rfl #[.int .u64 a0_2] (by rfl) rfl rfl (by (try simp only [List.map_toArray, List.map_cons, List.map_nil]); first | done | rfl | (simp only [List.length_drop, List.length_take]; rfl)) ?_
                    with_reducible refine (curtilageref02_number.calls k a0_2 t581 _ A7.out).mono ?_
                    rintro e w43 ⟨rfl, hb⟩
                    refine ⟨_, rfl, ?_⟩
                    have n0_ := Aside0.mk (blk_below (g := gb578) (o := .cells #[.int .u64 a0_0, .int .u64 a0_1, .int .u64 a0_2, .int .i64 a0_3, .int .i64 a0_4, .bool true] 24 (0, 0)) (by (with_reducible repeat (first | refine blk_drewN ?_ _ | refine blk_drew ?_ | refine blk_alloc ?_ _)); exact BK578.out) hb)
                    have n1_ := Aside0.mk (below_step (by repeat (first | (with_reducible first | exact HB.out | apply below_alloc | apply pw_below_drewN | apply below_drew1 | refine below_set ?_ GE578.out) | exact HB.out)) hb)
                    clear BK578
                    clear HB
                    have BK578 := n0_
                    have HB := n1_
                    clear n0_ n1_
                    (try clear hb)
                    (try clear hb2)
                    (try clear hk)
                    (try clear hi)
                    refine hK.out _ _ ⟨(blk_cell BK578.out 0).trans rfl, (blk_cell BK578.out 1).trans rfl, (blk_cell BK578.out 2).trans rfl, (blk_cell BK578.out 3).trans rfl, (blk_cell BK578.out 4).trans rfl, (blk_cell BK578.out 5).trans rfl⟩ (fun hHeld => ?_)
                    clear hK K
                    refine norm_ (a' := ?_) ?_ ?_
                    rotate_left
                    · show Act.put _ (some 15) _ = _
                      simp only [Act.put, List.setIfInBounds_toArray, List.set_cons_zero, List.set_cons_succ, i64_w, i32_w]
                      rfl
                    refine pure_ (i := 12) (N := some 16) (v := ?_) (a' := ?_) #[true, true, true, true, true, true, true, true, true, true, true, true, true, false, true, true, true, false, false, false] rfl rfl (any_of HT_.out (by kernel_rfl)) (fun _ _ _ h => h) (Or.inl ⟨by rfl, ?_⟩) ?_ ?_
                    rotate_left
                    · intro w'
                      go_simp
                      with_reducible rfl
                    rotate_left
                    · simp only [Act.put, List.setIfInBounds_toArray, List.set_cons_zero, List.set_cons_succ, i64_w, i32_w]
                      rfl
                    refine pure_ (i := 13) (N := some 17) (v := ?_) (a' := ?_) #[true, true, true, true, true, true, true, true, true, true, true, true, true, true, true, true, true, false, false, false] rfl rfl (any_of HT_.out (by kernel_rfl)) (fun _ _ _ h => h) (Or.inl ⟨by rfl, ?_⟩) ?_ ?_
                    rotate_left
                    · intro w'
                      go_simp
                      with_reducible rfl
                    rotate_left
                    · simp only [Act.put, List.setIfInBounds_toArray, List.set_cons_zero, List.set_cons_succ, i64_w, i32_w]
                      rfl
                    refine one_ (i := 17) (N := some 21) #[true, true, true, true, true, true, true, true, true, true, true, true, true, true, true, true, true, true, false, false] rfl rfl (one_of HT_.out (by kernel_rfl)) (by decide) (fun K hK => ?_)
                    refine goes_ Tryd.func45 (by kernel_rfl) rfl #[.int .u64 (IntKind.u64.wrap (a0_3))] (by rfl) rfl rfl (by (try simp only [List.map_toArray, List.map_cons, List.map_nil]); first | done | rfl | (simp only [List.length_drop, List.length_take]; rfl)) ?_
                    with_reducible refine (curtilageref02_number.calls k (IntKind.u64.wrap (a0_3)) t582 _ A10.out).mono ?_
                    rintro e w44 ⟨rfl, hb⟩
                    refine ⟨_, rfl, ?_⟩
                    have n0_ := Aside0.mk (blk_below (g := gb578) (o := .cells #[.int .u64 a0_0, .int .u64 a0_1, .int .u64 a0_2, .int .i64 a0_3, .int .i64 a0_4, .bool true] 24 (0, 0)) (by (with_reducible repeat (first | refine blk_drewN ?_ _ | refine blk_drew ?_ | refine blk_alloc ?_ _)); exact BK578.out) hb)
                    have n1_ := Aside0.mk (below_step (by repeat (first | (with_reducible first | exact HB.out | apply below_alloc | apply pw_below_drewN | apply below_drew1 | refine below_set ?_ GE578.out) | exact HB.out)) hb)
                    clear BK578
                    clear HB
                    have BK578 := n0_
                    have HB := n1_
                    clear n0_ n1_
                    (try clear hb)
                    (try clear hb2)
                    (try clear hk)
                    (try clear hi)
                    refine hK.out _ _ ⟨(blk_cell BK578.out 0).trans rfl, (blk_cell BK578.out 1).trans rfl, (blk_cell BK578.out 2).trans rfl, (blk_cell BK578.out 3).trans rfl, (blk_cell BK578.out 4).trans rfl, (blk_cell BK578.out 5).trans rfl⟩ (fun hHeld => ?_)
                    clear hK K
                    refine norm_ (a' := ?_) ?_ ?_
                    rotate_left
                    · show Act.put _ (some 21) _ = _
                      simp only [Act.put, List.setIfInBounds_toArray, List.set_cons_zero, List.set_cons_succ, i64_w, i32_w]
                      rfl
                    refine pure_ (i := 18) (N := some 22) (v := ?_) (a' := ?_) #[true, true, true, true, true, true, true, true, true, true, true, true, true, true, true, true, true, true, true, false] rfl rfl (any_of HT_.out (by kernel_rfl)) (fun _ _ _ h => h) (Or.inl ⟨by rfl, ?_⟩) ?_ ?_
                    rotate_left
                    · intro w'
                      go_simp
                      with_reducible rfl
                    rotate_left
                    · simp only [Act.put, List.setIfInBounds_toArray, List.set_cons_zero, List.set_cons_succ, i64_w, i32_w]
                      rfl
                    refine pure_ (i := 19) (N := some 3) (v := ?_) (a' := ?_) #[true, true, true, true, true, true, true, true, true, true, true, true, true, true, true, true, true, true, true, true] rfl rfl (any_of HT_.out (by kernel_rfl)) (fun _ _ _ h => h) (Or.inl ⟨by rfl, ?_⟩) ?_ ?_
                    rotate_left
                    · intro w'
                      go_simp
                      with_reducible rfl
                    rotate_left
                    · simp only [Act.put, List.setIfInBounds_toArray, List.set_cons_zero, List.set_cons_succ, i64_w, i32_w]
                      rfl
                    refine done_ (done_of HT_.out (by kernel_rfl)) ?_
                    have hcz45_0 : w44.cell? ⟨gb578, 0, none⟩ = some (.int .u64 a0_0) := (blk_cell BK578.out 0).trans rfl
                    have hcz45_1 : w44.cell? ⟨gb578, 1, none⟩ = some (.int .u64 a0_1) := (blk_cell BK578.out 1).trans rfl
                    have hcz45_2 : w44.cell? ⟨gb578, 2, none⟩ = some (.int .u64 a0_2) := (blk_cell BK578.out 2).trans rfl
                    have hcz45_3 : w44.cell? ⟨gb578, 3, none⟩ = some (.int .i64 a0_3) := (blk_cell BK578.out 3).trans rfl
                    have hcz45_4 : w44.cell? ⟨gb578, 4, none⟩ = some (.int .i64 a0_4) := (blk_cell BK578.out 4).trans rfl
                    have hcz45_5 : w44.cell? ⟨gb578, 5, none⟩ = some (.bool true) := (blk_cell BK578.out 5).trans rfl
                    have hfz45_0 := blk_frozen BK578.out 0
                    have hfz45_1 := blk_frozen BK578.out 1
                    have hfz45_2 := blk_frozen BK578.out 2
                    have hfz45_3 := blk_frozen BK578.out 3
                    have hfz45_4 := blk_frozen BK578.out 4
                    have hfz45_5 := blk_frozen BK578.out 5
                    try go_wp2
                    go_ret
                    exact ⟨by first | rfl | (simp [errW_none, errW_some] <;> rfl) | (simp [*, errW_none, errW_some] <;> rfl), by repeat (first | (with_reducible first | exact HB.out | apply below_alloc | apply pw_below_drewN | apply below_drew1 | refine below_set ?_ GE578.out) | exact HB.out)⟩
                  · rw [if_neg c38] at H
                    exact absurd H (by simp)
                · replace c37 := Bool.eq_false_iff.mpr c37
                  subst c37
                  have H1 : (if 1 + ((((((t579 ++ (⟨#[46, 46]⟩ : ByteArray)) ++ t580) ++ (⟨#[64]⟩ : ByteArray)) ++ t581) ++ (⟨#[58]⟩ : ByteArray)) ++ t582).size ≤ 9223372036854775807 then (some ((⟨#[45]⟩ : ByteArray) ++ ((((((t579 ++ (⟨#[46, 46]⟩ : ByteArray)) ++ t580) ++ (⟨#[64]⟩ : ByteArray)) ++ t581) ++ (⟨#[58]⟩ : ByteArray)) ++ t582))) else (none)) = some r := by rw [if_neg (show ¬ (false = true) by decide)] at H; exact H
                  clear H
                  have H := H1
                  clear H1
                  by_cases c46 : 1 + ((((((t579 ++ (⟨#[46, 46]⟩ : ByteArray)) ++ t580) ++ (⟨#[64]⟩ : ByteArray)) ++ t581) ++ (⟨#[58]⟩ : ByteArray)) ++ t582).size ≤ 9223372036854775807
                  · rw [if_pos c46] at H
                    have c46b0 := eq_true c46
                    have c46b1 : decide (1 + ((((((t579 ++ (⟨#[46, 46]⟩ : ByteArray)) ++ t580) ++ (⟨#[64]⟩ : ByteArray)) ++ t581) ++ (⟨#[58]⟩ : ByteArray)) ++ t582).size ≤ 9223372036854775807) = true := decide_eq_true c46
                    try have c46b2 : (9223372036854775807 < 1 + ((((((t579 ++ (⟨#[46, 46]⟩ : ByteArray)) ++ t580) ++ (⟨#[64]⟩ : ByteArray)) ++ t581) ++ (⟨#[58]⟩ : ByteArray)) ++ t582).size) = False := eq_false (Nat.not_lt.2 c46)
                    have c46b3 : (9223372036854775807 < 1 + (t579.size + 2 + t580.size + 1 + t581.size + 1 + t582.size)) = False := by
                      have h_ := c46b2
                      simp only [ByteArray.size_append] at h_
                      exact h_
                    obtain rfl := Option.some.inj H
                    go_enter Tryd.func34, Tryd.ntmps34
                    try go_wp2_with (first | ((with_reducible refine gate_dst (N := 1) rfl ?_); refine box_event ?hg (N := 1) ?hd (cs := #[.int .u64 a0_0, .int .u64 a0_1, .int .u64 a0_2, .int .i64 a0_3, .int .i64 a0_4, .bool false]) (t := 24) ?hr ?_; (case hd => rfl); (case hg => rfl); (case hr => first | (go_simp; done) | (go_simp; rfl)); intro gb578 hg w47 hbox hb; have n0_ := Aside0.mk (below_step (by repeat (first | (with_reducible first | exact HB.out | apply below_alloc | apply pw_below_drewN | apply below_drew1) | exact HB.out)) hb); have n1_ := Aside0.mk (hbox); have n2_ := Aside0.mk ((by rw [hg]; exact (below_size (by repeat (first | (with_reducible first | exact HB.out | apply below_alloc | apply pw_below_drewN | apply below_drew1) | exact HB.out))) : w.heap.size ≤ gb578)); have n3_ := Aside0.mk ((by rw [hg]; exact (below_size (by repeat (first | (with_reducible first | exact HB.out | apply below_alloc | apply pw_below_drewN | apply below_drew1) | exact HB.out))) : w.heap.size ≤ gb578)); clear HB; have HB := n0_; have BK578 := n1_; have GW578 := n2_; have GE578 := n3_; clear n0_ n1_ n2_ n3_; clear hb hbox hg))
                    have n0_ := Aside0.mk (blk_drew BK578.out)
                    have n1_ := Aside0.mk (below_drew1 HB.out)
                    clear BK578
                    clear HB
                    have BK578 := n0_
                    have HB := n1_
                    clear n0_ n1_
                    refine start_ (n := 20) (S := fun w' => w'.cell? ⟨gb578, 0, none⟩ = some (.int .u64 a0_0) ∧ w'.cell? ⟨gb578, 1, none⟩ = some (.int .u64 a0_1) ∧ w'.cell? ⟨gb578, 2, none⟩ = some (.int .u64 a0_2) ∧ w'.cell? ⟨gb578, 3, none⟩ = some (.int .i64 a0_3) ∧ w'.cell? ⟨gb578, 4, none⟩ = some (.int .i64 a0_4) ∧ w'.cell? ⟨gb578, 5, none⟩ = some (.bool false)) (ds := []) #[false, false, false, false, false, false, false, false, false, false, false, false, false, false, false, false, false, false, false, false] (by kernel_rfl) rfl rfl ⟨(blk_cell BK578.out 0).trans rfl, (blk_cell BK578.out 1).trans rfl, (blk_cell BK578.out 2).trans rfl, (blk_cell BK578.out 3).trans rfl, (blk_cell BK578.out 4).trans rfl, (blk_cell BK578.out 5).trans rfl⟩ (fun hHeld => ?_); refine with_tabW curtilageref02_Text.tab1 curtilageref02_Text.bits1 (fun HT_ HW_ => ?_)
                    generalize w47.drew = w48 at BK578 HB hHeld ⊢
                    refine pure_ (i := 0) (N := some 4) (v := ?_) (a' := ?_) #[true, false, false, false, false, false, false, false, false, false, false, false, false, false, false, false, false, false, false, false] rfl rfl (any_of HT_.out (by kernel_rfl)) (fun _ _ _ h => h) (Or.inl ⟨by rfl, ?_⟩) ?_ ?_
                    rotate_left
                    · intro w'
                      go_simp
                      with_reducible rfl
                    rotate_left
                    · simp only [Act.put, List.setIfInBounds_toArray, List.set_cons_zero, List.set_cons_succ, i64_w, i32_w]
                      rfl
                    refine pure_ (i := 4) (N := some 8) (v := ?_) (a' := ?_) #[true, false, false, false, true, false, false, false, false, false, false, false, false, false, false, false, false, false, false, false] rfl rfl (any_of HT_.out (by kernel_rfl)) (fun _ _ _ h => h) (Or.inl ⟨by rfl, ?_⟩) ?_ ?_
                    rotate_left
                    · intro w'
                      go_simp
                      with_reducible rfl
                    rotate_left
                    · simp only [Act.put, List.setIfInBounds_toArray, List.set_cons_zero, List.set_cons_succ, i64_w, i32_w]
                      rfl
                    refine pure_ (i := 9) (N := some 13) (v := ?_) (a' := ?_) #[true, false, false, false, true, false, false, false, false, true, false, false, false, false, false, false, false, false, false, false] rfl rfl (any_of HT_.out (by kernel_rfl)) (fun _ _ _ h => h) (Or.inl ⟨by rfl, ?_⟩) ?_ ?_
                    rotate_left
                    · intro w'
                      go_simp
                      with_reducible rfl
                    rotate_left
                    · simp only [Act.put, List.setIfInBounds_toArray, List.set_cons_zero, List.set_cons_succ, i64_w, i32_w]
                      rfl
                    refine pure_ (i := 14) (N := some 18) (v := ?_) (a' := ?_) #[true, false, false, false, true, false, false, false, false, true, false, false, false, false, true, false, false, false, false, false] rfl rfl (any_of HT_.out (by kernel_rfl)) (fun _ _ _ h => h) (Or.inl ⟨by rfl, ?_⟩) ?_ ?_
                    rotate_left
                    · intro w'
                      go_simp
                      with_reducible rfl
                    rotate_left
                    · simp only [Act.put, List.setIfInBounds_toArray, List.set_cons_zero, List.set_cons_succ, i64_w, i32_w]
                      rfl
                    refine take_ (i := 1) (N := some 5) (v := ?_) (a' := ?_) #[true, true, false, false, true, false, false, false, false, true, false, false, false, false, true, false, false, false, false, false] rfl rfl (take_ofW HT_.out HW_.out (by kernel_rfl)) (fun _ _ _ h => h) (Or.inl ⟨by rfl, ?_⟩) hHeld ?_ ?_
                    rotate_left
                    · rintro w' ⟨s0, s1, s2, s3, s4, s5⟩
                      go_simp
                      with_reducible rfl
                    rotate_left
                    · simp only [Act.put, List.setIfInBounds_toArray, List.set_cons_zero, List.set_cons_succ, i64_w, i32_w]
                      rfl
                    refine take_ (i := 5) (N := some 9) (v := ?_) (a' := ?_) #[true, true, false, false, true, true, false, false, false, true, false, false, false, false, true, false, false, false, false, false] rfl rfl (take_ofW HT_.out HW_.out (by kernel_rfl)) (fun _ _ _ h => h) (Or.inl ⟨by rfl, ?_⟩) hHeld ?_ ?_
                    rotate_left
                    · rintro w' ⟨s0, s1, s2, s3, s4, s5⟩
                      go_simp
                      with_reducible rfl
                    rotate_left
                    · simp only [Act.put, List.setIfInBounds_toArray, List.set_cons_zero, List.set_cons_succ, i64_w, i32_w]
                      rfl
                    refine take_ (i := 10) (N := some 14) (v := ?_) (a' := ?_) #[true, true, false, false, true, true, false, false, false, true, true, false, false, false, true, false, false, false, false, false] rfl rfl (take_ofW HT_.out HW_.out (by kernel_rfl)) (fun _ _ _ h => h) (Or.inl ⟨by rfl, ?_⟩) hHeld ?_ ?_
                    rotate_left
                    · rintro w' ⟨s0, s1, s2, s3, s4, s5⟩
                      go_simp
                      with_reducible rfl
                    rotate_left
                    · simp only [Act.put, List.setIfInBounds_toArray, List.set_cons_zero, List.set_cons_succ, i64_w, i32_w]
                      rfl
                    refine take_ (i := 15) (N := some 19) (v := ?_) (a' := ?_) #[true, true, false, false, true, true, false, false, false, true, true, false, false, false, true, true, false, false, false, false] rfl rfl (take_ofW HT_.out HW_.out (by kernel_rfl)) (fun _ _ _ h => h) (Or.inl ⟨by rfl, ?_⟩) hHeld ?_ ?_
                    rotate_left
                    · rintro w' ⟨s0, s1, s2, s3, s4, s5⟩
                      go_simp
                      with_reducible rfl
                    rotate_left
                    · simp only [Act.put, List.setIfInBounds_toArray, List.set_cons_zero, List.set_cons_succ, i64_w, i32_w]
                      rfl
                    refine pure_ (i := 16) (N := some 20) (v := ?_) (a' := ?_) #[true, true, false, false, true, true, false, false, false, true, true, false, false, false, true, true, true, false, false, false] rfl rfl (any_of HT_.out (by kernel_rfl)) (fun _ _ _ h => h) (Or.inl ⟨by rfl, ?_⟩) ?_ ?_
                    rotate_left
                    · intro w'
                      go_simp
                      with_reducible rfl
                    rotate_left
                    · simp only [Act.put, List.setIfInBounds_toArray, List.set_cons_zero, List.set_cons_succ, i64_w, i32_w]
                      rfl
                    refine one_ (i := 2) (N := some 6) #[true, true, true, false, true, true, false, false, false, true, true, false, false, false, true, true, true, false, false, false] rfl rfl (one_of HT_.out (by kernel_rfl)) (by decide) (fun K hK => ?_)
                    refine goes_ Tryd.func45 (by kernel_rfl) rfl #[.int .u64 a0_0] (by rfl) rfl rfl (by (try simp only [List.map_toArray, List.map_cons, List.map_nil]); first | done | rfl | (simp only [List.length_drop, List.length_take]; rfl)) ?_
                    with_reducible refine (curtilageref02_number.calls k a0_0 t579 _ A2.out).mono ?_
                    rintro e w49 ⟨rfl, hb⟩
                    refine ⟨_, rfl, ?_⟩
                    have n0_ := Aside0.mk (blk_below (g := gb578) (o := .cells #[.int .u64 a0_0, .int .u64 a0_1, .int .u64 a0_2, .int .i64 a0_3, .int .i64 a0_4, .bool false] 24 (0, 0)) (by (with_reducible repeat (first | refine blk_drewN ?_ _ | refine blk_drew ?_ | refine blk_alloc ?_ _)); exact BK578.out) hb)
                    have n1_ := Aside0.mk (below_step (by repeat (first | (with_reducible first | exact HB.out | apply below_alloc | apply pw_below_drewN | apply below_drew1 | refine below_set ?_ GE578.out) | exact HB.out)) hb)
                    clear BK578
                    clear HB
                    have BK578 := n0_
                    have HB := n1_
                    clear n0_ n1_
                    (try clear hb)
                    (try clear hb2)
                    (try clear hk)
                    (try clear hi)
                    refine hK.out _ _ ⟨(blk_cell BK578.out 0).trans rfl, (blk_cell BK578.out 1).trans rfl, (blk_cell BK578.out 2).trans rfl, (blk_cell BK578.out 3).trans rfl, (blk_cell BK578.out 4).trans rfl, (blk_cell BK578.out 5).trans rfl⟩ (fun hHeld => ?_)
                    clear hK K
                    refine norm_ (a' := ?_) ?_ ?_
                    rotate_left
                    · show Act.put _ (some 6) _ = _
                      simp only [Act.put, List.setIfInBounds_toArray, List.set_cons_zero, List.set_cons_succ, i64_w, i32_w]
                      rfl
                    refine pure_ (i := 3) (N := some 7) (v := ?_) (a' := ?_) #[true, true, true, true, true, true, false, false, false, true, true, false, false, false, true, true, true, false, false, false] rfl rfl (any_of HT_.out (by kernel_rfl)) (fun _ _ _ h => h) (Or.inl ⟨by rfl, ?_⟩) ?_ ?_
                    rotate_left
                    · intro w'
                      go_simp
                      with_reducible rfl
                    rotate_left
                    · simp only [Act.put, List.setIfInBounds_toArray, List.set_cons_zero, List.set_cons_succ, i64_w, i32_w]
                      rfl
                    refine one_ (i := 6) (N := some 10) #[true, true, true, true, true, true, true, false, false, true, true, false, false, false, true, true, true, false, false, false] rfl rfl (one_of HT_.out (by kernel_rfl)) (by decide) (fun K hK => ?_)
                    refine goes_ Tryd.func45 (by kernel_rfl) rfl #[.int .u64 a0_1] (by rfl) rfl rfl (by (try simp only [List.map_toArray, List.map_cons, List.map_nil]); first | done | rfl | (simp only [List.length_drop, List.length_take]; rfl)) ?_
                    with_reducible refine (curtilageref02_number.calls k a0_1 t580 _ A4.out).mono ?_
                    rintro e w50 ⟨rfl, hb⟩
                    refine ⟨_, rfl, ?_⟩
                    have n0_ := Aside0.mk (blk_below (g := gb578) (o := .cells #[.int .u64 a0_0, .int .u64 a0_1, .int .u64 a0_2, .int .i64 a0_3, .int .i64 a0_4, .bool false] 24 (0, 0)) (by (with_reducible repeat (first | refine blk_drewN ?_ _ | refine blk_drew ?_ | refine blk_alloc ?_ _)); exact BK578.out) hb)
                    have n1_ := Aside0.mk (below_step (by repeat (first | (with_reducible first | exact HB.out | apply below_alloc | apply pw_below_drewN | apply below_drew1 | refine below_set ?_ GE578.out) | exact HB.out)) hb)
                    clear BK578
                    clear HB
                    have BK578 := n0_
                    have HB := n1_
                    clear n0_ n1_
                    (try clear hb)
                    (try clear hb2)
                    (try clear hk)
                    (try clear hi)
                    refine hK.out _ _ ⟨(blk_cell BK578.out 0).trans rfl, (blk_cell BK578.out 1).trans rfl, (blk_cell BK578.out 2).trans rfl, (blk_cell BK578.out 3).trans rfl, (blk_cell BK578.out 4).trans rfl, (blk_cell BK578.out 5).trans rfl⟩ (fun hHeld => ?_)
                    clear hK K
                    refine norm_ (a' := ?_) ?_ ?_
                    rotate_left
                    · show Act.put _ (some 10) _ = _
                      simp only [Act.put, List.setIfInBounds_toArray, List.set_cons_zero, List.set_cons_succ, i64_w, i32_w]
                      rfl
                    refine pure_ (i := 7) (N := some 11) (v := ?_) (a' := ?_) #[true, true, true, true, true, true, true, true, false, true, true, false, false, false, true, true, true, false, false, false] rfl rfl (any_of HT_.out (by kernel_rfl)) (fun _ _ _ h => h) (Or.inl ⟨by rfl, ?_⟩) ?_ ?_
                    rotate_left
                    · intro w'
                      go_simp
                      with_reducible rfl
                    rotate_left
                    · simp only [Act.put, List.setIfInBounds_toArray, List.set_cons_zero, List.set_cons_succ, i64_w, i32_w]
                      rfl
                    refine pure_ (i := 8) (N := some 12) (v := ?_) (a' := ?_) #[true, true, true, true, true, true, true, true, true, true, true, false, false, false, true, true, true, false, false, false] rfl rfl (any_of HT_.out (by kernel_rfl)) (fun _ _ _ h => h) (Or.inl ⟨by rfl, ?_⟩) ?_ ?_
                    rotate_left
                    · intro w'
                      go_simp
                      with_reducible rfl
                    rotate_left
                    · simp only [Act.put, List.setIfInBounds_toArray, List.set_cons_zero, List.set_cons_succ, i64_w, i32_w]
                      rfl
                    refine one_ (i := 11) (N := some 15) #[true, true, true, true, true, true, true, true, true, true, true, true, false, false, true, true, true, false, false, false] rfl rfl (one_of HT_.out (by kernel_rfl)) (by decide) (fun K hK => ?_)
                    refine goes_ Tryd.func45 (by kernel_rfl) rfl #[.int .u64 a0_2] (by rfl) rfl rfl (by (try simp only [List.map_toArray, List.map_cons, List.map_nil]); first | done | rfl | (simp only [List.length_drop, List.length_take]; rfl)) ?_
                    with_reducible refine (curtilageref02_number.calls k a0_2 t581 _ A7.out).mono ?_
                    rintro e w51 ⟨rfl, hb⟩
                    refine ⟨_, rfl, ?_⟩
                    have n0_ := Aside0.mk (blk_below (g := gb578) (o := .cells #[.int .u64 a0_0, .int .u64 a0_1, .int .u64 a0_2, .int .i64 a0_3, .int .i64 a0_4, .bool false] 24 (0, 0)) (by (with_reducible repeat (first | refine blk_drewN ?_ _ | refine blk_drew ?_ | refine blk_alloc ?_ _)); exact BK578.out) hb)
                    have n1_ := Aside0.mk (below_step (by repeat (first | (with_reducible first | exact HB.out | apply below_alloc | apply pw_below_drewN | apply below_drew1 | refine below_set ?_ GE578.out) | exact HB.out)) hb)
                    clear BK578
                    clear HB
                    have BK578 := n0_
                    have HB := n1_
                    clear n0_ n1_
                    (try clear hb)
                    (try clear hb2)
                    (try clear hk)
                    (try clear hi)
                    refine hK.out _ _ ⟨(blk_cell BK578.out 0).trans rfl, (blk_cell BK578.out 1).trans rfl, (blk_cell BK578.out 2).trans rfl, (blk_cell BK578.out 3).trans rfl, (blk_cell BK578.out 4).trans rfl, (blk_cell BK578.out 5).trans rfl⟩ (fun hHeld => ?_)
                    clear hK K
                    refine norm_ (a' := ?_) ?_ ?_
                    rotate_left
                    · show Act.put _ (some 15) _ = _
                      simp only [Act.put, List.setIfInBounds_toArray, List.set_cons_zero, List.set_cons_succ, i64_w, i32_w]
                      rfl
                    refine pure_ (i := 12) (N := some 16) (v := ?_) (a' := ?_) #[true, true, true, true, true, true, true, true, true, true, true, true, true, false, true, true, true, false, false, false] rfl rfl (any_of HT_.out (by kernel_rfl)) (fun _ _ _ h => h) (Or.inl ⟨by rfl, ?_⟩) ?_ ?_
                    rotate_left
                    · intro w'
                      go_simp
                      with_reducible rfl
                    rotate_left
                    · simp only [Act.put, List.setIfInBounds_toArray, List.set_cons_zero, List.set_cons_succ, i64_w, i32_w]
                      rfl
                    refine pure_ (i := 13) (N := some 17) (v := ?_) (a' := ?_) #[true, true, true, true, true, true, true, true, true, true, true, true, true, true, true, true, true, false, false, false] rfl rfl (any_of HT_.out (by kernel_rfl)) (fun _ _ _ h => h) (Or.inl ⟨by rfl, ?_⟩) ?_ ?_
                    rotate_left
                    · intro w'
                      go_simp
                      with_reducible rfl
                    rotate_left
                    · simp only [Act.put, List.setIfInBounds_toArray, List.set_cons_zero, List.set_cons_succ, i64_w, i32_w]
                      rfl
                    refine one_ (i := 17) (N := some 21) #[true, true, true, true, true, true, true, true, true, true, true, true, true, true, true, true, true, true, false, false] rfl rfl (one_of HT_.out (by kernel_rfl)) (by decide) (fun K hK => ?_)
                    refine goes_ Tryd.func45 (by kernel_rfl) rfl #[.int .u64 (IntKind.u64.wrap (a0_3))] (by rfl) rfl rfl (by (try simp only [List.map_toArray, List.map_cons, List.map_nil]); first | done | rfl | (simp only [List.length_drop, List.length_take]; rfl)) ?_
                    with_reducible refine (curtilageref02_number.calls k (IntKind.u64.wrap (a0_3)) t582 _ A10.out).mono ?_
                    rintro e w52 ⟨rfl, hb⟩
                    refine ⟨_, rfl, ?_⟩
                    have n0_ := Aside0.mk (blk_below (g := gb578) (o := .cells #[.int .u64 a0_0, .int .u64 a0_1, .int .u64 a0_2, .int .i64 a0_3, .int .i64 a0_4, .bool false] 24 (0, 0)) (by (with_reducible repeat (first | refine blk_drewN ?_ _ | refine blk_drew ?_ | refine blk_alloc ?_ _)); exact BK578.out) hb)
                    have n1_ := Aside0.mk (below_step (by repeat (first | (with_reducible first | exact HB.out | apply below_alloc | apply pw_below_drewN | apply below_drew1 | refine below_set ?_ GE578.out) | exact HB.out)) hb)
                    clear BK578
                    clear HB
                    have BK578 := n0_
                    have HB := n1_
                    clear n0_ n1_
                    (try clear hb)
                    (try clear hb2)
                    (try clear hk)
                    (try clear hi)
                    refine hK.out _ _ ⟨(blk_cell BK578.out 0).trans rfl, (blk_cell BK578.out 1).trans rfl, (blk_cell BK578.out 2).trans rfl, (blk_cell BK578.out 3).trans rfl, (blk_cell BK578.out 4).trans rfl, (blk_cell BK578.out 5).trans rfl⟩ (fun hHeld => ?_)
                    clear hK K
                    refine norm_ (a' := ?_) ?_ ?_
                    rotate_left
                    · show Act.put _ (some 21) _ = _
                      simp only [Act.put, List.setIfInBounds_toArray, List.set_cons_zero, List.set_cons_succ, i64_w, i32_w]
                      rfl
                    refine pure_ (i := 18) (N := some 22) (v := ?_) (a' := ?_) #[true, true, true, true, true, true, true, true, true, true, true, true, true, true, true, true, true, true, true, false] rfl rfl (any_of HT_.out (by kernel_rfl)) (fun _ _ _ h => h) (Or.inl ⟨by rfl, ?_⟩) ?_ ?_
                    rotate_left
                    · intro w'
                      go_simp
                      with_reducible rfl
                    rotate_left
                    · simp only [Act.put, List.setIfInBounds_toArray, List.set_cons_zero, List.set_cons_succ, i64_w, i32_w]
                      rfl
                    refine pure_ (i := 19) (N := some 3) (v := ?_) (a' := ?_) #[true, true, true, true, true, true, true, true, true, true, true, true, true, true, true, true, true, true, true, true] rfl rfl (any_of HT_.out (by kernel_rfl)) (fun _ _ _ h => h) (Or.inl ⟨by rfl, ?_⟩) ?_ ?_
                    rotate_left
                    · intro w'
                      go_simp
                      with_reducible rfl
                    rotate_left
                    · simp only [Act.put, List.setIfInBounds_toArray, List.set_cons_zero, List.set_cons_succ, i64_w, i32_w]
                      rfl
                    refine done_ (done_of HT_.out (by kernel_rfl)) ?_
                    have hcz53_0 : w52.cell? ⟨gb578, 0, none⟩ = some (.int .u64 a0_0) := (blk_cell BK578.out 0).trans rfl
                    have hcz53_1 : w52.cell? ⟨gb578, 1, none⟩ = some (.int .u64 a0_1) := (blk_cell BK578.out 1).trans rfl
                    have hcz53_2 : w52.cell? ⟨gb578, 2, none⟩ = some (.int .u64 a0_2) := (blk_cell BK578.out 2).trans rfl
                    have hcz53_3 : w52.cell? ⟨gb578, 3, none⟩ = some (.int .i64 a0_3) := (blk_cell BK578.out 3).trans rfl
                    have hcz53_4 : w52.cell? ⟨gb578, 4, none⟩ = some (.int .i64 a0_4) := (blk_cell BK578.out 4).trans rfl
                    have hcz53_5 : w52.cell? ⟨gb578, 5, none⟩ = some (.bool false) := (blk_cell BK578.out 5).trans rfl
                    have hfz53_0 := blk_frozen BK578.out 0
                    have hfz53_1 := blk_frozen BK578.out 1
                    have hfz53_2 := blk_frozen BK578.out 2
                    have hfz53_3 := blk_frozen BK578.out 3
                    have hfz53_4 := blk_frozen BK578.out 4
                    have hfz53_5 := blk_frozen BK578.out 5
                    try go_wp2
                    go_ret
                    exact ⟨by first | rfl | (simp [errW_none, errW_some] <;> rfl) | (simp [*, errW_none, errW_some] <;> rfl), by repeat (first | (with_reducible first | exact HB.out | apply below_alloc | apply pw_below_drewN | apply below_drew1 | refine below_set ?_ GE578.out) | exact HB.out)⟩
                  · rw [if_neg c46] at H
                    exact absurd H (by simp)
            · rw [if_neg c11] at H
              exact absurd H (by simp)
          · rw [if_neg c9] at H
            exact absurd H (by simp)
        · rw [if_neg c8] at H
          exact absurd H (by simp)
      · rw [if_neg c6] at H
        exact absurd H (by simp)
    · rw [if_neg c5] at H
      exact absurd H (by simp)
  · rw [if_neg c3] at H
    exact absurd H (by simp)

end Go.Proofs.YtafpkpalkaphkaaDoor.P
