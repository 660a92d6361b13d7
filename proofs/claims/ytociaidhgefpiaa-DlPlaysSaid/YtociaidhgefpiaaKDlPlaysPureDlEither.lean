/- The pure statement of the law DlEither. No condition. -/
import Derived.Test.YtociaidhgefpiaaKDlPlaysPx18
import Derived.Test.YtociaidhgefpiaaKDlPlaysPOk
import Derived.Test.YtociaidhgefpiaaKDlPlaysShort
namespace Go.Proofs.Ytociaidhgefpiaa.Pure
open Go.RowKit Go.Proofs.Ytociaidhgefpiaa.P Go.Proofs.YtociaidhgefpiaaW.PrintWords Go.Proofs.YtociaidhgefpiaaW.PrintLast
set_option linter.unusedVariables false
set_option linter.unusedSimpArgs false

theorem count_go (y : Int) (L : List Int) (O : List Int) (hO : O.length ≤ 4294967296) : ∀ (d i c : Nat), i + d = O.length → c ≤ i → Evt fun k => dl_Count.l0 k y c O O.length i = some (((c + (O.drop i).count y : Nat) : Int)) := by
  intro d
  induction d with
  | zero =>
    intro i c hi hc
    refine (Evt.all (P := fun _ => True) (fun _ => trivial)).step fun k _ => ?_
    rw [dl_Count.l0, if_neg (by omega), List.drop_eq_nil_of_le (by omega)]
    simp
  | succ d ih =>
    intro i c hi hc
    have hlt : i < O.length := by omega
    rw [List.drop_eq_getElem_cons hlt]
    by_cases h : O[i] = y
    · refine (ih (i + 1) (c + 1) (by omega) (by omega)).step fun k hk => ?_
      rw [dl_Count.l0, if_pos (by omega), if_pos (by omega), if_pos (by omega), rdI O i hlt, if_pos h, wrap_up (by omega) (by omega), wrap_up (by omega) (by omega)]
      rw [h, List.count_cons_self, show c + ((O.drop (i + 1)).count y + 1) = c + 1 + (O.drop (i + 1)).count y by omega]
      exact hk
    · refine (ih (i + 1) c (by omega) (by omega)).step fun k hk => ?_
      rw [dl_Count.l0, if_pos (by omega), if_pos (by omega), if_pos (by omega), rdI O i hlt, if_neg h, wrap_up (by omega) (by omega)]
      rw [List.count_cons_of_ne h]
      exact hk
theorem count_ev (y : Int) (L : List Int) (O : List Int) (hO : O.length ≤ 4294967296) : Evt fun k => dl_Count.f k L O y = some ((O.count y : Nat) : Int) := by
  refine (count_go y L O hO O.length 0 0 (by omega) (by omega)).map fun k hk => ?_
  unfold dl_Count.f
  rw [List.drop_zero, Nat.zero_add] at hk
  exact hk
end Go.Proofs.Ytociaidhgefpiaa.Pure
