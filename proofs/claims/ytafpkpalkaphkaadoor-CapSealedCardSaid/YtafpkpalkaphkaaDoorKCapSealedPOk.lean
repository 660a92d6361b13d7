/- What is known of the laws' arguments, and that each reads as a value of its kind. No condition. -/
import Derived.Test.YtafpkpalkaphkaaDoorKCapSealedPx0
import Derived.Test.YtafpkpalkaphkaaDoorKCapSealedOpen
namespace Go.Proofs.YtafpkpalkaphkaaDoor.P
open Go.RowKit Go.Proofs.YtafpkpalkaphkaaDoorW.PrintWords Go.Proofs.YtafpkpalkaphkaaDoorW.PrintLast Go.Proofs.YtafpkpalkaphkaaDoorW.PrintMore Go.Proofs.YtafpkpalkaphkaaDoorW.Open
set_option linter.unusedVariables false
set_option linter.unusedSimpArgs false
def ok24 (x : S24) : Prop := (Lit.int .u64 x.f0).wf = true ∧ (Lit.int .u64 x.f1).wf = true ∧ (Lit.int .u64 x.f2).wf = true ∧ (Lit.int .i64 x.f3).wf = true ∧ (Lit.int .i64 x.f4).wf = true ∧ True
theorem opens24 : Opens Tryd.prog 24 k24 ok24 := (Opens.struct (f := fun x : S24 => (x.f0, x.f1, x.f2, x.f3, x.f4, x.f5)) (fun p => ⟨p.1, p.2.1, p.2.2.1, p.2.2.2.1, p.2.2.2.2.1, p.2.2.2.2.2⟩) (fun _ => rfl) Tryd.underlying24 (by kernel_rfl) (OpensF.cons 22 rfl rfl (by kernel_rfl) (Opens.int Tryd.underlying22) (OpensF.cons 22 rfl rfl (by kernel_rfl) (Opens.int Tryd.underlying22) (OpensF.cons 22 rfl rfl (by kernel_rfl) (Opens.int Tryd.underlying22) (OpensF.cons 3 rfl rfl (by kernel_rfl) (Opens.int Tryd.underlying3) (OpensF.cons 3 rfl rfl (by kernel_rfl) (Opens.int Tryd.underlying3) (OpensF.one 4 rfl rfl (by kernel_rfl) (Opens.bool Tryd.underlying4)))))))).imp (fun x h => h)
end Go.Proofs.YtafpkpalkaphkaaDoor.P
