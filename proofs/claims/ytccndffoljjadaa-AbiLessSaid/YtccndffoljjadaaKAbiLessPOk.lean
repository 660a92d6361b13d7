/- What is known of the laws' arguments, and that each reads as a value of its kind. No condition. -/
import Derived.Test.YtccndffoljjadaaKAbiLessPx0
import Derived.Test.YtccndffoljjadaaKAbiLessOpen
namespace Go.Proofs.Ytccndffoljjadaa.P
open Go.RowKit Go.Proofs.YtccndffoljjadaaW.PrintWords Go.Proofs.YtccndffoljjadaaW.PrintLast Go.Proofs.YtccndffoljjadaaW.PrintMore Go.Proofs.YtccndffoljjadaaW.Open
set_option linter.unusedVariables false
set_option linter.unusedSimpArgs false
def ok30 (x : S30) : Prop := (Lit.int .u64 x.f0).wf = true ∧ (Lit.int .u64 x.f1).wf = true ∧ (Lit.int .u64 x.f2).wf = true ∧ (Lit.int .i64 x.f3).wf = true ∧ (Lit.int .i64 x.f4).wf = true ∧ True
theorem opens30 : Opens Try.prog 30 k30 ok30 := (Opens.struct (f := fun x : S30 => (x.f0, x.f1, x.f2, x.f3, x.f4, x.f5)) (fun p => ⟨p.1, p.2.1, p.2.2.1, p.2.2.2.1, p.2.2.2.2.1, p.2.2.2.2.2⟩) (fun _ => rfl) Try.underlying30 (by kernel_rfl) (OpensF.cons 22 rfl rfl (by kernel_rfl) (Opens.int Try.underlying22) (OpensF.cons 22 rfl rfl (by kernel_rfl) (Opens.int Try.underlying22) (OpensF.cons 22 rfl rfl (by kernel_rfl) (Opens.int Try.underlying22) (OpensF.cons 3 rfl rfl (by kernel_rfl) (Opens.int Try.underlying3) (OpensF.cons 3 rfl rfl (by kernel_rfl) (Opens.int Try.underlying3) (OpensF.one 4 rfl rfl (by kernel_rfl) (Opens.bool Try.underlying4)))))))).imp (fun x h => h)
end Go.Proofs.Ytccndffoljjadaa.P
