/- Short words for walks: a fact carried over steps that don't touch it. No condition. -/
import Derived.Test.YtoakeildgpeffaaKPlanWholeWWords
import Derived.Test.YtoakeildgpeffaaKPlanWholeWTab
import Derived.Test.YtoakeildgpeffaaKPlanWholeWMore
namespace Go.Proofs.Ytoakeildgpeffaa.P
open Go.RowKit Go.Proofs.YtoakeildgpeffaaW.PrintWords Go.Proofs.YtoakeildgpeffaaW.PrintLast Go.Proofs.YtoakeildgpeffaaW.PrintMore
set_option linter.unusedVariables false
theorem ua {P Q : Prop} (p : P) (h : P → Q := by intro h; (with_reducible repeat (first | apply Kd.R_alloc | apply Kd.R_drewN | apply Kd.R_drew)); exact h) : Q := h p
theorem ub {P Q : Prop} (p : P) (h : P → Q := by intro h; (with_reducible repeat (first | refine blk_drewN ?_ _ | refine blk_drew ?_ | refine blk_alloc ?_ _)); exact h) : Q := h p
theorem uc {P Q : Prop} (p : P) (h : P → Q := by intro h; repeat (first | (with_reducible first | exact h | apply below_alloc | apply pw_below_drewN | apply below_drew1 | refine below_set ?_ (Aside0.out (by assumption))) | exact h)) : Q := h p
theorem ud {p : Prop} [Decidable p] (h : decide p = true := by first | (with_reducible assumption) | assumption) : p := of_decide_eq_true h
theorem am {P : Prop} (h : P) : Aside0 P := Aside0.mk h
theorem us {P Q : Prop} (p : P) (h : P → Q := by intro h; repeat (first | exact h | (with_reducible refine Kd.C_alloc ?_ _) | (with_reducible refine Kd.C_drewN ?_ _) | (with_reducible refine Kd.C_drew ?_))) : Q := h p
theorem uf {P : Prop} (h : P := by first | rfl | (simp; done) | (simp [*]; done)) : P := h
end Go.Proofs.Ytoakeildgpeffaa.P
