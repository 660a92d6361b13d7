/- The pure statement of the law LookupShown. No condition. -/
import Derived.Test.YtdgmkmjmddjcfaaKLookupShownPStLookupShown
import Derived.Test.YtdgmkmjmddjcfaaKLookupShownLook
namespace Go.Proofs.Ytdgmkmjmddjcfaa.Pure
open Go.RowKit Go.Proofs.Ytdgmkmjmddjcfaa.P Go.Proofs.YtdgmkmjmddjcfaaW.PrintWords Go.Proofs.YtdgmkmjmddjcfaaW.PrintLast
set_option linter.unusedVariables false
set_option linter.unusedSimpArgs false

/-- What a symbol means, way by way. -/
theorem bindF_spec {l : List S32} {sc : List Int} {obj sym : Int} (s : S42) :
    (bindF l sc obj sym s = (obj, sym, 0) ∧ s.f7 = true) ∨
    (∃ i ∈ sc, ∃ t : Nat, bindF l sc obj sym s = (i, (t : Int), 0) ∧ t < (sy l i).length ∧ isIt (sy l i) s.f0 s.f1 t = true) ∨
    (bindF l sc obj sym s = (-1, -1, 0) ∧ s.f7 = false ∧ s.f5 = 3) ∨
    (∃ e, bindF l sc obj sym s = (0, 0, e) ∧ e ≠ 0 ∧ s.f7 = false ∧ s.f5 ≠ 3) := by
  unfold bindF
  by_cases c1 : (s.f7 && !(symShown s)) = true
  · rw [if_pos c1]
    exact Or.inl ⟨rfl, by simp at c1; exact c1.1⟩
  rw [if_neg c1]
  rcases inF_spec (l := l) s.f0 s.f1 sc with ⟨h1, _⟩ | ⟨i, hi, t, h1, h2, h3⟩
  · rw [h1, if_neg (by decide)]
    by_cases c3 : s.f7 = true
    · rw [if_pos c3]; exact Or.inl ⟨rfl, c3⟩
    rw [if_neg c3]
    have c3 := Bool.eq_false_iff.2 c3
    by_cases c4 : s.f5 = 3
    · rw [if_pos c4]; exact Or.inr (Or.inr (Or.inl ⟨rfl, c3, c4⟩))
    rw [if_neg c4]
    refine Or.inr (Or.inr (Or.inr ?_))
    by_cases c5 : s.f1.toList = ([] : List UInt8)
    · rw [if_pos c5]; exact ⟨_, rfl, by decide, c3, c4⟩
    rw [if_neg c5]
    split
    · exact ⟨_, rfl, by decide, c3, c4⟩
    · exact ⟨_, rfl, by decide, c3, c4⟩
  · rw [h1]
    by_cases c2 : 0 ≤ i
    · rw [if_pos c2]; exact Or.inr (Or.inl ⟨i, hi, t, rfl, h2, h3⟩)
    · rw [if_neg c2]
      by_cases c3 : s.f7 = true
      · rw [if_pos c3]; exact Or.inl ⟨rfl, c3⟩
      rw [if_neg c3]
      have c3 := Bool.eq_false_iff.2 c3
      by_cases c4 : s.f5 = 3
      · rw [if_pos c4]; exact Or.inr (Or.inr (Or.inl ⟨rfl, c3, c4⟩))
      rw [if_neg c4]
      refine Or.inr (Or.inr (Or.inr ?_))
      by_cases c5 : s.f1.toList = ([] : List UInt8)
      · rw [if_pos c5]; exact ⟨_, rfl, by decide, c3, c4⟩
      rw [if_neg c5]
      split
      · exact ⟨_, rfl, by decide, c3, c4⟩
      · exact ⟨_, rfl, by decide, c3, c4⟩
theorem shown_last {l : List S32} {obj i t : Int} (s d : S42) (h0 : 0 ≤ i) (h1 : i < l.length) (h2 : 0 ≤ t) (h3 : t < (sy l i).length) (hd : rd_T42 (sy l i) t = d)
    (h7 : d.f7 = true) (hn : d.f0.toList = s.f0.toList) (hv : s.f1.toList = [] ∨ d.f1.toList = s.f1.toList) (hs : i = obj ∨ symShown d = true) (k : Nat) :
    curtilagelaw14_LookupShown.j1 (k + 1) l obj true i t (decide (t ≥ ((sy l i).length : Int))) s.f0 s.f1 s.f2 s.f3 s.f4 s.f5 s.f6 s.f7 = some true := by
  have e3 : t < (((rd_T32 l i).f3).length : Int) := h3
  have hd : rd_T42 ((rd_T32 l i).f3) t = d := hd
  rw [curtilagelaw14_LookupShown.j1, if_neg (by rw [decide_eq_true_iff]; omega), if_pos h0, if_pos h1, if_pos h2, if_pos e3, hd, shown_is, Option.bind_some]
  have hend : (if true = true then (if d.f7 = true then (if d.f0.toList = s.f0.toList then (if s.f1.toList = ([] : List UInt8) then (some true) else (some (d.f1.toList == s.f1.toList))) else (some false)) else (some false)) else (some false)) = some true := by
    rw [if_pos rfl, if_pos h7, if_pos hn]
    rcases hv with e | e
    · rw [if_pos e]
    · by_cases q : s.f1.toList = ([] : List UInt8)
      · rw [if_pos q]
      · rw [if_neg q, e, beq_self_eq_true]
  by_cases q : i = obj
  · rw [if_pos q]; exact hend
  · rw [if_neg q]
    rcases hs with e | e
    · exact absurd e q
    · rw [if_pos e]; exact hend
theorem shown_j {l : List S32} {sc : List Int} {obj sym : Int} (b : Bool) (hb : b = false → ∃ _ : Few l, In_ l sc ∧ sc.length ≤ 40 ∧ 0 ≤ obj ∧ obj < l.length ∧ 0 ≤ sym ∧ sym < (sy l obj).length) :
    Ev fun k => curtilagelaw14_LookupShown.j0 k l sc obj sym true b = some true := by
  cases b
  · obtain ⟨F, hs, hl, h0, h1, h2, h3⟩ := hb rfl
    have e3 : sym < (((rd_T32 l obj).f3).length : Int) := h3
    have hbind := bind_ev F sc hs obj sym h0 h1 h2 h3
    have hj1 : ∀ i t : Int, ∀ d : S42, 0 ≤ i → i < l.length → 0 ≤ t → t < (sy l i).length → rd_T42 (sy l i) t = d → d.f7 = true → d.f0.toList = (rd_T42 (sy l obj) sym).f0.toList → ((rd_T42 (sy l obj) sym).f1.toList = [] ∨ d.f1.toList = (rd_T42 (sy l obj) sym).f1.toList) → (i = obj ∨ symShown d = true) →
        bindF l sc obj sym (rd_T42 (sy l obj) sym) = (i, t, 0) → Ev fun k => curtilagelaw14_LookupShown.j0 k l sc obj sym true false = some true := by
      intro i t d q0 q1 q2 q3 q4 q5 q6 q7 q8 q9
      have hlast : Ev fun k => curtilagelaw14_LookupShown.j1 k l obj true i t (decide (t ≥ ((sy l i).length : Int))) (rd_T42 (sy l obj) sym).f0 (rd_T42 (sy l obj) sym).f1 (rd_T42 (sy l obj) sym).f2 (rd_T42 (sy l obj) sym).f3 (rd_T42 (sy l obj) sym).f4 (rd_T42 (sy l obj) sym).f5 (rd_T42 (sy l obj) sym).f6 (rd_T42 (sy l obj) sym).f7 = some true :=
        Ev.one fun k => shown_last (obj := obj) (rd_T42 (sy l obj) sym) d q0 q1 q2 q3 q4 q5 q6 q7 q8 k
      refine (hbind.and hlast).step fun k ⟨e1, e2⟩ => ?_
      have q3' : t < (((rd_T32 l i).f3).length : Int) := q3
      rw [curtilagelaw14_LookupShown.j0, if_neg (by simp), if_pos h0, if_pos h1, if_pos h2, if_pos e3, e1, q9, Option.bind_some]
      rw [if_pos rfl, if_neg (show ¬ i < 0 by omega), if_neg (show ¬ i ≥ (l.length : Int) by omega), if_neg (show ¬ t < 0 by omega), if_pos q0, if_pos q1]
      exact e2
    rcases bindF_spec (l := l) (sc := sc) (obj := obj) (sym := sym) (rd_T42 (sy l obj) sym) with ⟨e, h7⟩ | ⟨i, hi, t, e, ht, hit⟩ | ⟨e, h7, h5⟩ | ⟨er, e, hne, h7, h5⟩
    · exact hj1 obj sym _ h0 h1 h2 h3 rfl h7 rfl (Or.inr rfl) (Or.inl rfl) e
    · unfold isIt sh at hit
      simp only [Bool.and_eq_true, Bool.or_eq_true, decide_eq_true_eq] at hit
      have hsy : symShown (nm (sy l i) t) = true := hit.1
      refine hj1 i t (nm (sy l i) t) (hs i hi).1 (hs i hi).2 (by omega) (by omega) rfl ?_ hit.2.1 hit.2.2 (Or.inr hsy) e
      unfold symShown at hsy
      simp only [Bool.and_eq_true] at hsy
      exact hsy.1.1
    · refine hbind.step fun k e1 => ?_
      have e4 : rd_T42 ((rd_T32 l obj).f3) sym = rd_T42 (sy l obj) sym := rfl
      rw [curtilagelaw14_LookupShown.j0, if_neg (by simp), if_pos h0, if_pos h1, if_pos h2, if_pos e3, e1, e, Option.bind_some]
      rw [if_pos rfl, if_pos (by show (-1 : Int) < 0; decide), if_pos rfl, if_pos rfl, e4, if_neg (by rw [h7]; simp), h5]
      rfl
    · refine hbind.step fun k e1 => ?_
      have e4 : rd_T42 ((rd_T32 l obj).f3) sym = rd_T42 (sy l obj) sym := rfl
      rw [curtilagelaw14_LookupShown.j0, if_neg (by simp), if_pos h0, if_pos h1, if_pos h2, if_pos e3, e1, e, Option.bind_some]
      rw [if_neg (show ¬ er = 0 from hne), if_pos rfl, e4, if_neg (by rw [h7]; simp)]
      congr 1
      exact bne_iff_ne.2 h5
  · exact Ev.one fun k => by rw [curtilagelaw14_LookupShown.j0, if_pos rfl]
theorem LookupShown : curtilagelaw14_LookupShown.Pure := by
  intro l sc obj sym hl hsc h2 h3
  obtain ⟨b, hb, hF⟩ := short_ev l
  have hr := right_ev sc l.length (by have := hsc.2.1; omega)
  by_cases h6 : b = true ∧ rightB sc l.length = true ∧ 0 ≤ obj ∧ obj < l.length ∧ 0 ≤ sym
  · have hj : Ev fun k => curtilagelaw14_LookupShown.j0 k l sc obj sym true (decide (sym ≥ ((sy l obj).length : Int))) = some true :=
      shown_j _ fun hc => ⟨hF h6.1, (right_of h6.2.1).1, (right_of h6.2.1).2, h6.2.2.1, h6.2.2.2.1, h6.2.2.2.2, by have := of_decide_eq_false hc; omega⟩
    refine ((awake_ev.and (hb.and hr)).and hj).map (fun k ⟨⟨ha, hb, hr⟩, hj⟩ => ?_) |>.ex
    unfold curtilagelaw14_LookupShown.f
    rw [ha, hb, hr, Option.bind_some, Option.bind_some, Option.bind_some, if_pos h6.1, if_pos h6.2.1, if_neg (by omega), if_neg (by omega), if_neg (by omega), if_pos (by omega), if_pos (by omega)]
    exact hj
  · have hj : Ev fun k => curtilagelaw14_LookupShown.j0 k l sc obj sym true true = some true := shown_j true fun hc => by cases hc
    refine ((awake_ev.and (hb.and hr)).and hj).map (fun k ⟨⟨ha, hb, hr⟩, hj⟩ => ?_) |>.ex
    unfold curtilagelaw14_LookupShown.f
    rw [ha, hb, hr, Option.bind_some, Option.bind_some, Option.bind_some]
    by_cases q1 : b = true
    · rw [if_pos q1]
      by_cases q2 : rightB sc l.length = true
      · rw [if_pos q2]
        by_cases q3 : obj < 0
        · rw [if_pos q3]; exact hj
        rw [if_neg q3]
        by_cases q4 : obj ≥ (l.length : Int)
        · rw [if_pos q4]; exact hj
        rw [if_neg q4]
        by_cases q5 : sym < 0
        · rw [if_pos q5]; exact hj
        · exact absurd ⟨q1, q2, by omega, by omega, by omega⟩ h6
      · rw [if_neg q2]; exact hj
    · rw [if_neg q1]; exact hj
end Go.Proofs.Ytdgmkmjmddjcfaa.Pure
