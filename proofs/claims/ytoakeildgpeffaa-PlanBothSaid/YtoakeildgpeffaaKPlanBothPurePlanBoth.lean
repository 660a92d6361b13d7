/- The pure statement of the law PlanBoth. No condition. -/
import Derived.Test.YtoakeildgpeffaaKPlanBothPStPlanBoth
import Derived.Test.YtoakeildgpeffaaKPlanBothPlan
namespace Go.Proofs.Ytoakeildgpeffaa.Pure
open Go.RowKit Go.Proofs.Ytoakeildgpeffaa.P Go.Proofs.YtoakeildgpeffaaW.PrintWords Go.Proofs.YtoakeildgpeffaaW.PrintLast
set_option linter.unusedVariables false
set_option linter.unusedSimpArgs false

theorem err_ne {l : List S39} {sc : List Int} : ∀ (o : Int) (xs : List S44) (i : Nat) (v : Int × Int × Int), (relsF l sc o i xs).2 = some v → v.2.2 ≠ 0
  | o, [], i, v, h => by simp [relsF] at h
  | o, x :: xs, i, v, h => by
    by_cases e : (bnd l sc o x).2.2 = 0
    · rw [relsF_cons0 e] at h; exact err_ne o xs (i + 1) v h
    · rw [relsF_cons1 e] at h
      obtain rfl := Option.some.inj h
      exact e
theorem errs_ne {l : List S39} {sc : List Int} : ∀ (objs : List Int) (v : Int × Int × Int), (objsF l sc objs).2 = some v → v.2.2 ≠ 0
  | [], v, h => by simp [objsF] at h
  | o :: os, v, h => by
    rw [objsF] at h
    split at h
    · exact errs_ne os v h
    · exact err_ne o _ 0 v h
theorem both_j {l : List S39} {sc a b : List Int} (c : Bool) (hc : c = false → Fine l sc a ∧ Fine l sc b) : Ev fun k => curtilagelaw15_PlanBoth.j0 k l sc a b true c = some true := by
  cases c
  · obtain ⟨FA, FB⟩ := hc rfl
    have h10 := FA.obl
    have h11 := FB.obl
    have hab : In_ l (a ++ b) := fun i hi => by
      rcases List.mem_append.1 hi with e | e
      · exact FA.oIn i e
      · exact FB.oIn i e
    have hlA := linkF_len FA.rel sc a FA.oIn
    have hlB := linkF_len FA.rel sc b FB.oIn
    have e1 := link_ev FA.few FA.rel FA.sIn a FA.oIn (by omega)
    have e2 := link_ev FA.few FA.rel FA.sIn b FB.oIn (by omega)
    have e3 := link_ev FA.few FA.rel FA.sIn (a ++ b) hab (by simp; omega)
    have hs := same_ev ((linkF l sc a).1 ++ (linkF l sc b).1) (by simp; omega)
    have hc1 : ([] : List Int).length + a.length < 17592186044416 := by simp; omega
    have hc2 : a.length + b.length < 17592186044416 := by omega
    have hc3 : ([] : List S28).length + (linkF l sc a).1.length < 4398046511104 := by simp; omega
    have hc4 : (linkF l sc a).1.length + (linkF l sc b).1.length < 4398046511104 := by omega
    have hApp := objsF_append l sc a b
    refine ((e1.and e2).and (e3.and hs)).step fun k ⟨⟨e1, e2⟩, e3, hs⟩ => ?_
    rw [curtilagelaw15_PlanBoth.j0, if_neg (by simp), e1, Option.bind_some, e2, Option.bind_some, Option.bind_some, if_pos hc1, Option.bind_some, List.nil_append, if_pos hc2, e3, Option.bind_some]
    cases hA : (objsF l sc a).2 with
    | some v =>
      have hv := errs_ne a v hA
      have hL : linkF l sc (a ++ b) = linkF l sc a := by
        unfold linkF
        rw [hApp, if_neg (by rw [hA]; simp)]
      have hZ : linkF l sc a = ([], v.1, v.2.1, 0, 0, v.2.2) := by unfold linkF outF; rw [hA]
      rw [hL, hZ, if_neg (show ¬ v.2.2 = 0 from hv), if_pos rfl, if_pos rfl, if_pos (by simp)]
      rfl
    | none =>
      have hZ : linkF l sc a = ((objsF l sc a).1, 0, 0, 0, 0, 0) := by unfold linkF outF; rw [hA]
      have hL : linkF l sc (a ++ b) = outF ((objsF l sc a).1 ++ (objsF l sc b).1, (objsF l sc b).2) := by
        unfold linkF
        rw [hApp, if_pos hA]
      cases hB : (objsF l sc b).2 with
      | some v =>
        have hv := errs_ne b v hB
        have hZB : linkF l sc b = ([], v.1, v.2.1, 0, 0, v.2.2) := by unfold linkF outF; rw [hB]
        have hL2 : linkF l sc (a ++ b) = ([], v.1, v.2.1, 0, 0, v.2.2) := by rw [hL, hB]; rfl
        rw [hL2, hZB, if_pos (show (linkF l sc a).2.2.2.2.2 = 0 by rw [hZ]), if_neg (show ¬ v.2.2 = 0 from hv), if_pos rfl, if_pos rfl, if_pos (by simp)]
        rfl
      | none =>
        have hZB : linkF l sc b = ((objsF l sc b).1, 0, 0, 0, 0, 0) := by unfold linkF outF; rw [hB]
        have hL2 : linkF l sc (a ++ b) = ((linkF l sc a).1 ++ (linkF l sc b).1, 0, 0, 0, 0, 0) := by rw [hL, hB, hZ, hZB]; rfl
        rw [hL2, if_pos (show (linkF l sc a).2.2.2.2.2 = 0 by rw [hZ]), if_pos (show (linkF l sc b).2.2.2.2.2 = 0 by rw [hZB]), if_pos rfl, if_pos rfl, Option.bind_some, if_pos hc3, Option.bind_some, List.nil_append, if_pos hc4, hs]
        rfl
  · exact Ev.one fun k => by rw [curtilagelaw15_PlanBoth.j0, if_pos rfl]
theorem PlanBoth : curtilagelaw15_PlanBoth.Pure := by
  intro l sc a b hl hsc ha hb
  obtain ⟨c, hc, hF⟩ := fine_ev l sc a (by have := hl.2.1; omega) (by have := hsc.2.1; omega) (by have := ha.2.1; omega)
  obtain ⟨d, hd, hG⟩ := fine_ev l sc b (by have := hl.2.1; omega) (by have := hsc.2.1; omega) (by have := hb.2.1; omega)
  by_cases h6 : c = true ∧ d = true
  · have hj := fun x => both_j x fun _ => ⟨hF h6.1, hG h6.2⟩
    refine ((hc.and hd).and ((hj true).and (hj (decide ((b.length : Int) > 5))))).map (fun k ⟨⟨hc, hd⟩, j1, j2⟩ => ?_) |>.ex
    unfold curtilagelaw15_PlanBoth.f
    rw [show curtilagelaw15_awake.f = some true from rfl, Option.bind_some, hc, Option.bind_some, hd, Option.bind_some, if_pos h6.1, if_pos h6.2]
    split
    · exact j1
    · exact j2
  · have hj : Ev fun k => curtilagelaw15_PlanBoth.j0 k l sc a b true true = some true := both_j true fun h => by cases h
    refine ((hc.and hd).and hj).map (fun k ⟨⟨hc, hd⟩, j1⟩ => ?_) |>.ex
    unfold curtilagelaw15_PlanBoth.f
    rw [show curtilagelaw15_awake.f = some true from rfl, Option.bind_some, hc, Option.bind_some, hd, Option.bind_some]
    by_cases q1 : c = true
    · rw [if_pos q1, if_neg (fun h => h6 ⟨q1, h⟩)]; exact j1
    · rw [if_neg q1]; exact j1
end Go.Proofs.Ytoakeildgpeffaa.Pure
