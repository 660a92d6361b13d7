/- The pure statement of the law LookupMore. No condition. -/
import Derived.Test.YtdgmkmjmddjcfaaKLookupMorePStLookupMore
import Derived.Test.YtdgmkmjmddjcfaaKLookupMoreLook
namespace Go.Proofs.Ytdgmkmjmddjcfaa.Pure
open Go.RowKit Go.Proofs.Ytdgmkmjmddjcfaa.P Go.Proofs.YtdgmkmjmddjcfaaW.PrintWords Go.Proofs.YtdgmkmjmddjcfaaW.PrintLast
set_option linter.unusedVariables false
set_option linter.unusedSimpArgs false

theorem more_j {l : List S32} {sc : List Int} {m : Int} {a v : ByteArray} (ha : a.size ≤ 140737488351232) (b : Bool) (hb : b = false → ∃ _ : Few l, In_ l sc ∧ sc.length ≤ 39 ∧ 0 ≤ m ∧ m < l.length) :
    Ev fun k => curtilagelaw14_LookupMore.j0 k l sc m a v true b = some true := by
  cases b
  · obtain ⟨F, hs, hl, h0, h1⟩ := hb rfl
    have hm : In_ l [m] := fun i hi => by rw [List.mem_singleton.1 hi]; exact ⟨h0, h1⟩
    have hsm : In_ l (sc ++ [m]) := fun i hi => by
      rcases List.mem_append.1 hi with e | e
      · exact hs i e
      · exact hm i e
    refine (((in_ev F a v ha sc hs).and (in_ev F a v ha (sc ++ [m]) hsm)).and (in_ev F a v ha [m] hm)).step fun k ⟨⟨e1, e2⟩, e3⟩ => ?_
    rw [curtilagelaw14_LookupMore.j0, if_neg (by simp), e1, Option.bind_some, Option.bind_some, if_pos (by simp; omega), Option.bind_some, List.nil_append, if_pos (by omega), e2, Option.bind_some, e3, Option.bind_some, inF_append a v hs]
    by_cases q : 0 ≤ (inF l a v sc).1
    · rw [if_pos q, if_pos q, if_pos rfl, if_pos rfl, beq_self_eq_true]
    · have e := inF_neg hs q
      rw [if_neg q, if_neg q, if_pos rfl, e, if_pos rfl, if_pos rfl, beq_self_eq_true]
  · exact Ev.one fun k => by rw [curtilagelaw14_LookupMore.j0, if_pos rfl]
theorem LookupMore : curtilagelaw14_LookupMore.Pure := by
  intro l sc m a v hl hsc h2 h3 h4
  obtain ⟨b, hb, hF⟩ := short_ev l
  have hr := right_ev sc l.length (by have := hsc.2.1; omega)
  by_cases h6 : b = true ∧ rightB sc l.length = true ∧ 0 ≤ m ∧ m < l.length
  · have hj : Ev fun k => curtilagelaw14_LookupMore.j0 k l sc m a v true (decide ((sc.length : Int) > 39)) = some true :=
      more_j h3 _ fun hc => ⟨hF h6.1, (right_of h6.2.1).1, by have := of_decide_eq_false hc; omega, h6.2.2.1, h6.2.2.2⟩
    refine ((awake_ev.and (hb.and hr)).and hj).map (fun k ⟨⟨ha, hb, hr⟩, hj⟩ => ?_) |>.ex
    unfold curtilagelaw14_LookupMore.f
    rw [ha, hb, hr, Option.bind_some, Option.bind_some, Option.bind_some, if_pos h6.1, if_pos h6.2.1, if_neg (by omega), if_neg (by omega)]
    exact hj
  · have hj : Ev fun k => curtilagelaw14_LookupMore.j0 k l sc m a v true true = some true := more_j h3 true fun hc => by cases hc
    refine ((awake_ev.and (hb.and hr)).and hj).map (fun k ⟨⟨ha, hb, hr⟩, hj⟩ => ?_) |>.ex
    unfold curtilagelaw14_LookupMore.f
    rw [ha, hb, hr, Option.bind_some, Option.bind_some, Option.bind_some]
    by_cases q1 : b = true
    · rw [if_pos q1]
      by_cases q2 : rightB sc l.length = true
      · rw [if_pos q2]
        by_cases q3 : m < 0
        · rw [if_pos q3]; exact hj
        rw [if_neg q3]
        by_cases q4 : m ≥ (l.length : Int)
        · rw [if_pos q4]; exact hj
        · exact absurd ⟨q1, q2, by omega, by omega⟩ h6
      · rw [if_neg q2]; exact hj
    · rw [if_neg q1]; exact hj
end Go.Proofs.Ytdgmkmjmddjcfaa.Pure
