/- The pure statement of the law LookupTwice. No condition. -/
import Derived.Test.YtdgmkmjmddjcfaaKLookupTwicePStLookupTwice
import Derived.Test.YtdgmkmjmddjcfaaKLookupTwiceAll
namespace Go.Proofs.Ytdgmkmjmddjcfaa.Pure
open Go.RowKit Go.Proofs.Ytdgmkmjmddjcfaa.P Go.Proofs.YtdgmkmjmddjcfaaW.PrintWords Go.Proofs.YtdgmkmjmddjcfaaW.PrintLast
set_option linter.unusedVariables false
set_option linter.unusedSimpArgs false

theorem allF_len (l : List S32) (F : Few l) (sc : List Int) (hs : In_ l sc) (hl : sc.length ≤ 1000) : (allF (namesOf l sc)).length ≤ 40 * 1000 := by
  have h1 : (allF (namesOf l sc)).length ≤ (namesOf l sc).length := by
    unfold allF tidy
    rw [List.length_map]
    refine Nat.le_trans (Go.Lib.compact_length_le _) ?_
    rw [List.length_mergeSort, List.length_map]
    exact Nat.le_refl _
  have h2 : ∀ sc : List Int, In_ l sc → (namesOf l sc).length ≤ 40 * sc.length := by
    intro sc
    induction sc with
    | nil => intro _; simp [namesOf]
    | cons i is ih =>
      intro hs
      have := ih (fun j hj => hs j (List.mem_cons_of_mem _ hj))
      have hi := hs i List.mem_cons_self
      have h3 := F.syms i hi.1 hi.2
      have h4 := List.length_filter_le symShown (sy l i)
      unfold namesOf at this ⊢
      rw [List.flatMap_cons, List.length_append, List.length_map, List.length_cons]
      omega
  have := h2 sc hs
  omega
theorem twice_all (l : List S32) (sc : List Int) : allF (namesOf l (sc ++ sc)) = allF (namesOf l sc) := by
  unfold allF
  rw [tidy_eq _ ((namesOf l sc).map bsOf) fun x => by rw [names_append, List.map_append, List.mem_append]; simp]
theorem twice_j {l : List S32} {sc : List Int} {a : ByteArray} (ha : a.size ≤ 140737488351232) (b : Bool) (hb : b = false → ∃ _ : Few l, In_ l sc ∧ sc.length ≤ 20) :
    Ev fun k => curtilagelaw14_LookupTwice.j0 k l sc a true b = some true := by
  cases b
  · obtain ⟨F, hs, hl⟩ := hb rfl
    have hs2 : In_ l (sc ++ sc) := fun i hi => by
      rcases List.mem_append.1 hi with e | e
      · exact hs i e
      · exact hs i e
    have hs0 : In_ l ([] : List Int) := fun i hi => by cases hi
    have hlen := allF_len l F sc hs (by omega)
    refine ((((in_ev F a (⟨#[]⟩ : ByteArray) ha sc hs).and (in_ev F a (⟨#[]⟩ : ByteArray) ha (sc ++ sc) hs2)).and ((all_ev F sc hs (by omega)).and (all_ev F (sc ++ sc) hs2 (by simp; omega)))).and ((all_ev F [] hs0 (by simp)).and (texts_ev (allF (namesOf l sc)) (by omega)))).step fun k ⟨⟨⟨e1, e2⟩, e3, e4⟩, e5, e6⟩ => ?_
    have e7 : lookup_In.f k l ([] : List Int) a (⟨#[]⟩ : ByteArray) = some (-1, -1) := rfl
    have e8 : allF (namesOf l []) = [] := by
      have : allF (namesOf l []) = (tidy []).map ofBs := rfl
      rw [this]
      cases h : tidy [] with
      | nil => rfl
      | cons x xs => have := (tidy_mem [] x).1 (by rw [h]; exact List.mem_cons_self); cases this
    have e9 : inF l a (⟨#[]⟩ : ByteArray) (sc ++ sc) = inF l a (⟨#[]⟩ : ByteArray) sc := by rw [inF_append _ _ hs]; split <;> rfl
    have hc1 : ([] : List Int).length + sc.length < 17592186044416 := by simp; omega
    have hc2 : sc.length + sc.length < 17592186044416 := by omega
    rw [curtilagelaw14_LookupTwice.j0, if_neg (by simp), e1, Option.bind_some, Option.bind_some, if_pos hc1, Option.bind_some, List.nil_append, if_pos hc2, e2, Option.bind_some, e7, Option.bind_some, e3, Option.bind_some, Option.bind_some, if_pos hc1, Option.bind_some, List.nil_append, if_pos hc2, e4, Option.bind_some, e5, Option.bind_some, if_pos rfl, e9, if_pos rfl, if_pos rfl, if_pos rfl, if_pos rfl, twice_all, e6, Option.bind_some, if_pos rfl, e8]
    rfl
  · exact Ev.one fun k => by rw [curtilagelaw14_LookupTwice.j0, if_pos rfl]
theorem LookupTwice : curtilagelaw14_LookupTwice.Pure := by
  intro l sc a hl hsc h2
  obtain ⟨b, hb, hF⟩ := short_ev l
  have hr := right_ev sc l.length (by have := hsc.2.1; omega)
  by_cases h6 : b = true ∧ rightB sc l.length = true
  · have hj : Ev fun k => curtilagelaw14_LookupTwice.j0 k l sc a true (decide ((sc.length : Int) > 20)) = some true :=
      twice_j h2 _ fun hc => ⟨hF h6.1, (right_of h6.2).1, by have := of_decide_eq_false hc; omega⟩
    refine ((awake_ev.and (hb.and hr)).and hj).map (fun k ⟨⟨ha, hb, hr⟩, hj⟩ => ?_) |>.ex
    unfold curtilagelaw14_LookupTwice.f
    rw [ha, hb, hr, Option.bind_some, Option.bind_some, Option.bind_some, if_pos h6.1, if_pos h6.2]
    exact hj
  · have hj : Ev fun k => curtilagelaw14_LookupTwice.j0 k l sc a true true = some true := twice_j h2 true fun hc => by cases hc
    refine ((awake_ev.and (hb.and hr)).and hj).map (fun k ⟨⟨ha, hb, hr⟩, hj⟩ => ?_) |>.ex
    unfold curtilagelaw14_LookupTwice.f
    rw [ha, hb, hr, Option.bind_some, Option.bind_some, Option.bind_some]
    by_cases q1 : b = true
    · rw [if_pos q1, if_neg (fun h => h6 ⟨q1, h⟩)]; exact hj
    · rw [if_neg q1]; exact hj
end Go.Proofs.Ytdgmkmjmddjcfaa.Pure
