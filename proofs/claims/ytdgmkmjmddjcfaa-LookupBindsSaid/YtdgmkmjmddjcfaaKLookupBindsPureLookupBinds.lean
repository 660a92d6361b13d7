/- The pure statement of the law LookupBinds. No condition. -/
import Derived.Test.YtdgmkmjmddjcfaaKLookupBindsPStLookupBinds
import Derived.Test.YtdgmkmjmddjcfaaKLookupBindsLook
namespace Go.Proofs.Ytdgmkmjmddjcfaa.Pure
open Go.RowKit Go.Proofs.Ytdgmkmjmddjcfaa.P Go.Proofs.YtdgmkmjmddjcfaaW.PrintWords Go.Proofs.YtdgmkmjmddjcfaaW.PrintLast
set_option linter.unusedVariables false
set_option linter.unusedSimpArgs false

theorem binds_j {l : List S32} {sc : List Int} {obj sym : Int} (b : Bool) (hb : b = false → ∃ _ : Few l, In_ l sc ∧ sc.length ≤ 40 ∧ 0 ≤ obj ∧ obj < l.length ∧ 0 ≤ sym ∧ sym < (sy l obj).length) :
    Ev fun k => curtilagelaw14_LookupBinds.j0 k l sc obj sym true b = some true := by
  cases b
  · obtain ⟨F, hs, hl, h0, h1, h2, h3⟩ := hb rfl
    refine ((bind_ev F sc hs obj sym h0 h1 h2 h3).and (refBind_ev F sc hs (by omega) obj sym h0 h1 h2 h3)).step fun k ⟨ha, hr⟩ => ?_
    rw [curtilagelaw14_LookupBinds.j0, if_neg (by simp), ha, Option.bind_some, hr, Option.bind_some, if_pos rfl, if_pos rfl, if_pos rfl, beq_self_eq_true]
  · exact Ev.one fun k => by rw [curtilagelaw14_LookupBinds.j0, if_pos rfl]
theorem LookupBinds : curtilagelaw14_LookupBinds.Pure := by
  intro l sc obj sym hl hsc h2 h3
  obtain ⟨b, hb, hF⟩ := short_ev l
  have hr := right_ev sc l.length (by have := hsc.2.1; omega)
  have key : ∀ c : Bool, (b = true → rightB sc l.length = true → 0 ≤ obj → obj < l.length → 0 ≤ sym → c = decide (sym ≥ ((sy l obj).length : Int))) → (¬ (b = true ∧ rightB sc l.length = true ∧ 0 ≤ obj ∧ obj < l.length ∧ 0 ≤ sym) → c = true) →
      Ev fun k => curtilagelaw14_LookupBinds.j0 k l sc obj sym true c = some true := by
    intro c h4 h5
    refine binds_j c fun hc => ?_
    subst hc
    by_cases h6 : b = true ∧ rightB sc l.length = true ∧ 0 ≤ obj ∧ obj < l.length ∧ 0 ≤ sym
    · have h7 := h4 h6.1 h6.2.1 h6.2.2.1 h6.2.2.2.1 h6.2.2.2.2
      have h8 := of_decide_eq_false h7.symm
      exact ⟨hF h6.1, (right_of h6.2.1).1, (right_of h6.2.1).2, h6.2.2.1, h6.2.2.2.1, h6.2.2.2.2, by omega⟩
    · exact absurd (h5 h6) (by simp)
  have htrue := fun (h : ¬ (b = true ∧ rightB sc l.length = true ∧ 0 ≤ obj ∧ obj < l.length ∧ 0 ≤ sym)) => key true (fun a b' c d e => absurd ⟨a, b', c, d, e⟩ h) (fun _ => rfl)
  by_cases h6 : b = true ∧ rightB sc l.length = true ∧ 0 ≤ obj ∧ obj < l.length ∧ 0 ≤ sym
  · refine ((awake_ev.and (hb.and hr)).and (key (decide (sym ≥ ((sy l obj).length : Int))) (fun _ _ _ _ _ => rfl) (fun h => absurd h6 h))).map (fun k ⟨⟨ha, hb, hr⟩, hj⟩ => ?_) |>.ex
    unfold curtilagelaw14_LookupBinds.f
    rw [ha, hb, hr, Option.bind_some, Option.bind_some, Option.bind_some, if_pos h6.1, if_pos h6.2.1, if_neg (by omega), if_neg (by omega), if_neg (by omega), if_pos (by omega), if_pos (by omega)]
    exact hj
  · refine ((awake_ev.and (hb.and hr)).and (htrue h6)).map (fun k ⟨⟨ha, hb, hr⟩, hj⟩ => ?_) |>.ex
    unfold curtilagelaw14_LookupBinds.f
    rw [ha, hb, hr, Option.bind_some, Option.bind_some, Option.bind_some]
    by_cases q1 : b = true
    · rw [if_pos q1]
      by_cases q2 : rightB sc l.length = true
      · rw [if_pos q2]
        by_cases q3 : obj < 0
        · rw [if_pos q3]; exact hj
        rw [if_neg q3]
        by_cases q4 : obj ≥ (l.length : Int)
        · rw [if_pos q4]; exact hj
        rw [if_neg q4]
        by_cases q5 : sym < 0
        · rw [if_pos q5]; exact hj
        · exact absurd ⟨q1, q2, by omega, by omega, by omega⟩ h6
      · rw [if_neg q2]; exact hj
    · rw [if_neg q1]; exact hj
end Go.Proofs.Ytdgmkmjmddjcfaa.Pure
