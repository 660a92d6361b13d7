/- What the plain functions of chapter 13 give, from some number of rounds on. No condition. -/
import Derived.Test.YtociaidhgefpiaaKDlPlaysDl
import Derived.Test.YtociaidhgefpiaaKDlPlaysPx10
namespace Go.Proofs.Ytociaidhgefpiaa.Pure
open Go.RowKit Go.Proofs.Ytociaidhgefpiaa.P Go.Proofs.YtociaidhgefpiaaW.PrintWords Go.Proofs.YtociaidhgefpiaaW.PrintLast
set_option linter.unusedVariables false
set_option linter.unusedSimpArgs false

def shortB (l : List S38) (m : Int) : Bool := decide ((l.length : Int) ≤ m ∧ ∀ o ∈ l, o.f1.length ≤ 10)
theorem short_go (l : List S38) (hl : l.length ≤ 9223372036854775807) : ∀ (d i : Nat), i + d = l.length → (∀ j (hj : j < l.length), j < i → l[j].f1.length ≤ 10) →
    Evt fun k => curtilageref13_Short.l0 k l i = some (decide (∀ o ∈ l, o.f1.length ≤ 10)) := by
  intro d
  induction d with
  | zero =>
    intro i hi hb
    refine (Evt.all (P := fun _ => True) (fun _ => trivial)).step fun k _ => ?_
    rw [curtilageref13_Short.l0, if_neg (by omega), decide_eq_true]
    intro o ho
    obtain ⟨j, hj, rfl⟩ := List.getElem_of_mem ho
    exact hb j hj (by omega)
  | succ d ih =>
    intro i hi hb
    have hlt : i < l.length := by omega
    by_cases h : l[i].f1.length ≤ 10
    · refine (ih (i + 1) (by omega) (fun j hj hji => ?_)).step fun k hk => ?_
      · by_cases e : j = i
        · subst e; exact h
        · exact hb j hj (by omega)
      · rw [curtilageref13_Short.l0, if_pos (by omega), if_pos (by omega), rdT l i hlt, if_neg (by omega), wrap_up (by omega) (by omega)]
        exact hk
    · refine (Evt.all (P := fun _ => True) (fun _ => trivial)).step fun k _ => ?_
      rw [curtilageref13_Short.l0, if_pos (by omega), if_pos (by omega), rdT l i hlt, if_pos (by omega), decide_eq_false]
      exact fun hh => h (hh _ (List.getElem_mem hlt))
theorem short_ev (l : List S38) (m : Int) (hl : l.length ≤ 9223372036854775807) : Evt fun k => curtilageref13_Short.f k l m = some (shortB l m) := by
  refine (short_go l hl l.length 0 (by omega) (fun j hj h => by omega)).map fun k hk => ?_
  unfold curtilageref13_Short.f shortB
  by_cases h : (l.length : Int) > m
  · rw [if_pos h, decide_eq_false (fun hh => by have := hh.1; omega)]
  · rw [if_neg h]
    rw [show ((0 : Int)) = ((0 : Nat) : Int) from rfl, hk]
    congr 1
    apply decide_eq_decide.2
    constructor
    · intro hh; exact ⟨by omega, hh⟩
    · intro hh; exact hh.2

theorem awake_ev : Evt fun k => curtilagelaw21_awake.f k = some true := Evt.mono_ curtilagelaw21_awake.mono (k := 40) (by kernel_rfl)
end Go.Proofs.Ytociaidhgefpiaa.Pure
