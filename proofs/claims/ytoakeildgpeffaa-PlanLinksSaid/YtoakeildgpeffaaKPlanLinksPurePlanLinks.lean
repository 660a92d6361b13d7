/- The pure statement of the law PlanLinks. No condition. -/
import Derived.Test.YtoakeildgpeffaaKPlanLinksPStPlanLinks
import Derived.Test.YtoakeildgpeffaaKPlanLinksPlan
namespace Go.Proofs.Ytoakeildgpeffaa.Pure
open Go.RowKit Go.Proofs.Ytoakeildgpeffaa.P Go.Proofs.YtoakeildgpeffaaW.PrintWords Go.Proofs.YtoakeildgpeffaaW.PrintLast
set_option linter.unusedVariables false
set_option linter.unusedSimpArgs false

theorem PlanLinks : curtilagelaw15_PlanLinks.Pure := by
  intro l sc objs hl hsc ho
  obtain ⟨b, hb, hF⟩ := fine_ev l sc objs (by have := hl.2.1; omega) (by have := hsc.2.1; omega) (by have := ho.2.1; omega)
  cases b
  · refine hb.map (fun k hb => ?_) |>.ex
    unfold curtilagelaw15_PlanLinks.f
    rw [show curtilagelaw15_awake.f = some true from rfl, Option.bind_some, hb, Option.bind_some]
    rfl
  · have F := hF rfl
    have h10 := F.obl
    have hlen := linkF_len F.rel sc objs F.oIn
    refine ((hb.and (link_ev F.few F.rel F.sIn objs F.oIn (by omega))).and ((rlink_ev F.few F.rel F.sIn (by have := F.scl; omega) objs F.oIn (by omega)).and (same_ev (linkF l sc objs).1 (by omega)))).map (fun k ⟨⟨hb, e1⟩, e2, e3⟩ => ?_) |>.ex
    unfold curtilagelaw15_PlanLinks.f
    rw [show curtilagelaw15_awake.f = some true from rfl, Option.bind_some, hb, Option.bind_some, if_pos rfl, e1, Option.bind_some, e2, Option.bind_some, if_pos rfl, if_pos rfl, if_pos (by simp), e3]
    rfl
end Go.Proofs.Ytoakeildgpeffaa.Pure
