/- What is known of the laws' arguments, and that each reads as a value of its kind. No condition. -/
import Derived.Test.YtchjhnflogojcaaPx0
import Derived.Test.YtchjhnflogojcaaOpen
namespace Go.Proofs.Ytchjhnflogojcaa.P
open Go.RowKit Go.Proofs.YtchjhnflogojcaaW.PrintWords Go.Proofs.YtchjhnflogojcaaW.PrintLast Go.Proofs.YtchjhnflogojcaaW.PrintMore Go.Proofs.YtchjhnflogojcaaW.Open
set_option linter.unusedVariables false
set_option linter.unusedSimpArgs false
def ok24 (x : S24) : Prop := (Lit.int .u64 x.f0).wf = true ∧ (Lit.int .u64 x.f1).wf = true ∧ (Lit.int .u64 x.f2).wf = true ∧ (Lit.int .i64 x.f3).wf = true ∧ (Lit.int .i64 x.f4).wf = true ∧ True
theorem opens24 : Opens Try.prog 24 k24 ok24 := (Opens.struct (f := fun x : S24 => (x.f0, x.f1, x.f2, x.f3, x.f4, x.f5)) (fun p => ⟨p.1, p.2.1, p.2.2.1, p.2.2.2.1, p.2.2.2.2.1, p.2.2.2.2.2⟩) (fun _ => rfl) Try.underlying24 (by kernel_rfl) (OpensF.cons 22 rfl rfl (by kernel_rfl) (Opens.int Try.underlying22) (OpensF.cons 22 rfl rfl (by kernel_rfl) (Opens.int Try.underlying22) (OpensF.cons 22 rfl rfl (by kernel_rfl) (Opens.int Try.underlying22) (OpensF.cons 3 rfl rfl (by kernel_rfl) (Opens.int Try.underlying3) (OpensF.cons 3 rfl rfl (by kernel_rfl) (Opens.int Try.underlying3) (OpensF.one 4 rfl rfl (by kernel_rfl) (Opens.bool Try.underlying4)))))))).imp (fun x h => h)
end Go.Proofs.Ytchjhnflogojcaa.P
