/- The pure statement of the law GraphMore: an object that nobody needs, behind all others, changes nothing. No condition. -/
import Derived.Test.YtndmfjdoekdleaaKGraphMorePStGraphMore
import Derived.Test.YtndmfjdoekdleaaKGraphMoreFix
namespace Go.Proofs.Ytndmfjdoekdleaa.Pure
open Go.RowKit Go.Proofs.Ytndmfjdoekdleaa.P Go.Proofs.YtndmfjdoekdleaaW.PrintWords Go.Proofs.YtndmfjdoekdleaaW.PrintLast
set_option linter.unusedVariables false
set_option linter.unusedSimpArgs false

theorem first_more {n : ByteArray} {l : List S29} {m : S29} (h : isNm n m = false) : firstAt (isNm n) (l ++ [m]) = firstAt (isNm n) l := by
  have e : (l ++ [m]).findIdx? (isNm n) = l.findIdx? (isNm n) := by
    rw [List.findIdx?_append]
    have : [m].findIdx? (isNm n) = none := by simp [List.findIdx?_cons, h]
    rw [this]
    simp
  unfold firstAt
  rw [e]
theorem rd_more {l : List S29} {m : S29} {i : Int} (h0 : 0 ≤ i) (h : i < l.length) : rd_T29 (l ++ [m]) i = rd_T29 l i := by
  unfold rd_T29
  rw [List.getD_eq_getElem?_getD, List.getD_eq_getElem?_getD, List.getElem?_append_left (by omega)]
theorem rd_in {l : List S29} {i : Int} (h0 : 0 ≤ i) (h : i < l.length) : rd_T29 l i ∈ l := by
  obtain ⟨j, rfl⟩ : ∃ j : Nat, i = j := ⟨i.toNat, by omega⟩
  rw [rdT l j (by omega)]
  exact List.getElem_mem _
theorem clo_more (l : List S29) (m : S29) (hl : ∀ o ∈ l, ∀ n ∈ o.f1, isNm n m = false) : ∀ (k : Nat) (ns : List ByteArray) (od : List Int) (r : List Int × ByteArray × Int), (∀ n ∈ ns, isNm n m = false) → clo k l ns od = some r → clo k (l ++ [m]) ns od = some r := by
  intro k
  induction k with
  | zero => intro ns od r _ h; cases h
  | succ k ih =>
    intro ns od r hn h
    cases ns with
    | nil => exact h
    | cons n ns =>
      have hr := firstAt_range (isNm n) l
      rw [clo] at h ⊢
      rw [first_more (hn n (by simp))]
      by_cases h0 : firstAt (isNm n) l < 0
      · rw [if_pos h0] at h ⊢; exact h
      rw [if_neg h0] at h ⊢
      by_cases h1 : hasI od (firstAt (isNm n) l) = true
      · rw [if_pos h1] at h ⊢; exact ih ns od r (fun x hx => hn x (by simp [hx])) h
      rw [if_neg h1] at h ⊢
      by_cases h2 : od.length < 17592186044416
      · rw [if_pos h2] at h ⊢
        rw [rd_more (by omega) hr.1]
        by_cases h3 : ns.length + (rd_T29 l (firstAt (isNm n) l)).f1.length < 4398046511104
        · rw [if_pos h3] at h ⊢
          refine ih _ _ r (fun x hx => ?_) h
          rcases List.mem_append.1 hx with hx | hx
          · exact hn x (by simp [hx])
          · exact hl _ (rd_in (by omega) hr.1) x hx
        · rw [if_neg h3] at h; cases h
      · rw [if_neg h2] at h; cases h
theorem clo_up (l : List S29) : ∀ (k : Nat) (ns : List ByteArray) (od : List Int), LeO (clo k l ns od) (clo (k + 1) l ns od) := by
  intro k
  induction k with
  | zero => intro ns od r h; cases h
  | succ k ih =>
    intro ns od r h
    cases ns with
    | nil => exact h
    | cons n ns =>
      rw [clo] at h ⊢
      split at h
      · rename_i h0; rw [if_pos h0]; exact h
      rename_i h0; rw [if_neg h0]
      split at h
      · rename_i h1; rw [if_pos h1]; exact ih _ _ r h
      rename_i h1; rw [if_neg h1]
      split at h
      · rename_i h2; rw [if_pos h2]
        split at h
        · rename_i h3; rw [if_pos h3]; exact ih _ _ r h
        · cases h
      · cases h
theorem closure_more (l : List S29) (m : S29) (root : ByteArray) (hr : isNm root m = false) (hl : ∀ o ∈ l, ∀ n ∈ o.f1, isNm n m = false) {r : List Int × ByteArray × Int} (h : graph_Closure.f l root = some r) : graph_Closure.f (l ++ [m]) root = some r := by
  unfold graph_Closure.f at h ⊢
  have e : cloFuel (l ++ [m]) = cloFuel l + m.f1.length := by unfold cloFuel; simp; omega
  rw [e]
  exact at_rounds (g := fun k => clo k (l ++ [m]) [root] []) (fun k => clo_up _ k _ _) (Nat.le_add_right _ _) (clo_more l m hl _ _ _ r (by simpa using hr) h)
theorem foldlM_imp {α β : Type} {f g : α → β → Option α} : ∀ (ns : List β), (∀ n ∈ ns, ∀ s r, f s n = some r → g s n = some r) → ∀ (s r : α), ns.foldlM f s = some r → ns.foldlM g s = some r := by
  intro ns
  induction ns with
  | nil => intro _ s r h; exact h
  | cons n ns ih =>
    intro hfg s r h
    rw [List.foldlM_cons] at h ⊢
    obtain ⟨s1, h1, h2⟩ := Option.bind_eq_some_iff.1 h
    show (g s n).bind _ = some r
    rw [hfg n (by simp) s s1 h1]
    exact ih (fun n hn => hfg n (by simp [hn])) s1 r h2
theorem vis_more (l : List S29) (x : S29) (hl : ∀ o ∈ l, ∀ n ∈ o.f1, isNm n x = false) (ord : List Int) : ∀ (k : Nat) (i : Int) (m o : List Int) (r : List Int × List Int), vis k l ord i m o = some r → vis k (l ++ [x]) ord i m o = some r := by
  intro k
  induction k with
  | zero => intro i m o r h; cases h
  | succ k ih =>
    intro i m o r h
    rw [vis] at h ⊢
    by_cases h0 : i < 0
    · rw [if_pos h0] at h ⊢; exact h
    rw [if_neg h0] at h ⊢
    by_cases h1 : hasI ord i = false
    · rw [if_pos h1] at h ⊢; exact h
    rw [if_neg h1] at h ⊢
    by_cases h2 : hasI m i = true
    · rw [if_pos h2] at h ⊢; exact h
    rw [if_neg h2] at h ⊢
    by_cases h3 : i < (l.length : Int)
    · rw [if_pos h3] at h
      rw [if_pos (by simp; omega)]
      by_cases h4 : m.length < 17592186044416
      · rw [if_pos h4] at h ⊢
        rw [rd_more (by omega) h3]
        obtain ⟨s, h5, h6⟩ := Option.bind_eq_some_iff.1 h
        rw [foldlM_imp (g := fun (s : List Int × List Int) n => vis k (l ++ [x]) ord (firstAt (isNm n) (l ++ [x])) s.1 s.2) _ (fun n hn s r hs => by
          show vis k (l ++ [x]) ord (firstAt (isNm n) (l ++ [x])) s.1 s.2 = some r
          rw [first_more (hl _ (rd_in (by omega) h3) n hn)]
          exact ih _ _ _ r hs) _ s h5]
        exact h6
      · rw [if_neg h4] at h; cases h
    · rw [if_neg h3] at h; cases h
theorem vis_up (l : List S29) (ord : List Int) : ∀ (k : Nat) (i : Int) (m o : List Int), LeO (vis k l ord i m o) (vis (k + 1) l ord i m o) := by
  intro k
  induction k with
  | zero => intro i m o r h; cases h
  | succ k ih =>
    intro i m o r h
    rw [vis] at h ⊢
    split at h
    · rename_i h0; rw [if_pos h0]; exact h
    rename_i h0; rw [if_neg h0]
    split at h
    · rename_i h0; rw [if_pos h0]; exact h
    rename_i h0; rw [if_neg h0]
    split at h
    · rename_i h0; rw [if_pos h0]; exact h
    rename_i h0; rw [if_neg h0]
    split at h
    · rename_i h0; rw [if_pos h0]
      split at h
      · rename_i h0; rw [if_pos h0]
        obtain ⟨s, h5, h6⟩ := Option.bind_eq_some_iff.1 h
        rw [foldlM_imp (g := fun (s : List Int × List Int) n => vis (k + 1) l ord (firstAt (isNm n) l) s.1 s.2) _ (fun n hn s r hs => ih _ _ _ r hs) _ s h5]
        exact h6
      · cases h
    · cases h
theorem begs_more (l : List S29) (x : S29) (hl : ∀ o ∈ l, ∀ n ∈ o.f1, isNm n x = false) (ord : List Int) {b : List Int} (h : begs l ord = some b) : begs (l ++ [x]) ord = some b := by
  unfold begs at h ⊢
  obtain ⟨s, h1, h2⟩ := Option.bind_eq_some_iff.1 h
  rw [foldlM_imp (g := fun (s : List Int × List Int) i => vis ((l ++ [x]).length + 2) (l ++ [x]) ord i s.1 s.2) _ (fun n hn s r hs => by
    show vis ((l ++ [x]).length + 2) (l ++ [x]) ord n s.1 s.2 = some r
    have e : (l ++ [x]).length + 2 = (l.length + 2) + 1 := by simp
    rw [e]
    exact vis_up _ _ _ _ _ _ r (vis_more l x hl ord _ _ _ _ r hs)) _ s h1]
  exact h2
theorem nm_no {n : ByteArray} {m : S29} (h : ¬ n.toList = m.f0.toList) : isNm n m = false := by
  unfold isNm
  exact beq_eq_false_iff_ne.2 (fun e => h e.symm)
theorem rdB (l : List ByteArray) (i : Nat) (h : i < l.length) : rdOf ByteArray.empty l (i : Int) = l[i] := by simp [rdOf, List.getD_eq_getElem?_getD, List.getElem?_eq_getElem h]

theorem more_go (l : List S29) (root : ByteArray) (m : S29) (hl : l.length ≤ 20) (hs : ∀ o ∈ l, o.f1.length ≤ 10) (hroot : isNm root m = false) : ∀ (d i : Nat), i + d = l.length → (∀ j (hj : j < l.length), j < i → ∀ n ∈ l[j].f1, isNm n m = false) →
    Evt fun k => curtilagelaw13_GraphMore.l0 k l root true i m.f0 m.f1 m.f2 m.f3 m.f4 m.f5 m.f6 = some true := by
  intro d
  induction d with
  | zero =>
    intro i hi hb
    have hno : ∀ o ∈ l, ∀ n ∈ o.f1, isNm n m = false := by
      intro o ho
      obtain ⟨j, hj, rfl⟩ := List.getElem_of_mem ho
      exact hb j hj (by omega)
    obtain ⟨r, hr, R⟩ := closure_ok l root (by omega) hs
    have hr2 := closure_more l m root hroot hno hr
    have hord : ∀ x ∈ r.1, x < l.length := by
      rcases R with ⟨_, _, c, _⟩ | ⟨_, e⟩
      · exact fun x hx => (c.rng x hx).2
      · rw [e]; simp
    have hrl : r.1.length ≤ l.length := by
      rcases R with ⟨_, _, c, _⟩ | ⟨_, e⟩
      · exact len_le _ _ c.nd c.rng
      · rw [e]; simp
    obtain ⟨b, hb1, B⟩ := begs_ok l r.1 (by omega) hord
    have hb2 := begs_more l m hno r.1 hb1
    have hbl : b.length ≤ l.length := len_le _ _ B.nd (fun x hx => ⟨(B.rng x hx).1, (B.rng x hx).2.1⟩)
    refine ((numbers_ev r.1 r.1 (by omega)).and (numbers_ev b b (by omega))).step fun k hk => ?_
    obtain ⟨n1, n2⟩ := hk
    have e1 : graph_Begin.f l r.1 = some b := hb1
    have e2 : graph_Begin.f (l ++ [(⟨m.f0, m.f1, m.f2, m.f3, m.f4, m.f5, m.f6⟩ : S29)]) r.1 = some b := hb2
    have e3 : graph_Closure.f (l ++ [(⟨m.f0, m.f1, m.f2, m.f3, m.f4, m.f5, m.f6⟩ : S29)]) root = some r := hr2
    rw [curtilagelaw13_GraphMore.l0, if_neg (by omega), if_pos (by omega), hr, e3]
    simp only [Option.bind_some]
    rw [e1, e2]
    simp only [Option.bind_some]
    simp only [if_true]
    rw [n1, n2]
    simp only [Option.bind_some, decide_true, if_true]
    split <;> rfl
  | succ d ih =>
    intro i hi hb
    have hil : i < l.length := by omega
    have h10 := hs _ (List.getElem_mem hil)
    have inner : ∀ (c j : Nat), j + c = l[i].f1.length → (∀ q (hq : q < l[i].f1.length), q < j → isNm l[i].f1[q] m = false) →
        Evt fun k => curtilagelaw13_GraphMore.l1 k l root true i j m.f0 m.f1 m.f2 m.f3 m.f4 m.f5 m.f6 = some true := by
      intro c
      induction c with
      | zero =>
        intro j hj hq
        refine (ih (i + 1) (by omega) (fun p hp hpi n hn => ?_)).step fun k hk => ?_
        · by_cases e : p = i
          · subst e
            obtain ⟨q, hql, rfl⟩ := List.getElem_of_mem hn
            exact hq q hql (by omega)
          · exact hb p hp (by omega) n hn
        · rw [curtilagelaw13_GraphMore.l1, if_pos (by omega), if_pos (by omega), rdT l i hil, if_neg (by omega), wrap_up (by omega) (by omega)]
          exact hk
      | succ c ihc =>
        intro j hj hq
        have hjl : j < l[i].f1.length := by omega
        by_cases e : l[i].f1[j].toList = m.f0.toList
        · refine (Evt.all (P := fun _ => True) (fun _ => trivial)).step fun k _ => ?_
          rw [curtilagelaw13_GraphMore.l1, if_pos (by omega), if_pos (by omega), rdT l i hil, if_pos (by omega), if_pos (by omega), rdB _ j hjl, if_pos e]
        · refine (ihc (j + 1) (by omega) (fun q hql hqj => ?_)).step fun k hk => ?_
          · by_cases e2 : q = j
            · subst e2; exact nm_no e
            · exact hq q hql (by omega)
          · rw [curtilagelaw13_GraphMore.l1, if_pos (by omega), if_pos (by omega), rdT l i hil, if_pos (by omega), if_pos (by omega), rdB _ j hjl, if_neg e, wrap_up (by omega) (by omega)]
            exact hk
    refine (inner l[i].f1.length 0 (by omega) (fun q _ h => by omega)).step fun k hk => ?_
    rw [curtilagelaw13_GraphMore.l0, if_pos (by omega)]
    exact hk
theorem GraphMore : curtilagelaw13_GraphMore.Pure := by
  intro l root m hl ho hm
  have hl1 := hl.1
  refine Evt.ex ?_
  have A := awake_ev.and (short_ev l 20 hl1)
  have T : Evt fun k => curtilagelaw13_GraphMore.j0 k l root true true m.f0 m.f1 m.f2 m.f3 m.f4 m.f5 m.f6 = some true := (Evt.all (P := fun _ => True) (fun _ => trivial)).step fun k _ => by
    rw [curtilagelaw13_GraphMore.j0, if_pos rfl]
  unfold curtilagelaw13_GraphMore.f
  by_cases hs : shortB l 20 = true
  · have hs' := of_decide_eq_true hs
    by_cases h1 : (m.f1.length : Int) > 10
    · refine (A.and T).map fun k hk => ?_
      obtain ⟨⟨h2, h3⟩, h4⟩ := hk
      rw [h2, h3, hs]
      simp only [Option.bind_some, if_true]
      rw [if_pos h1]
      exact h4
    · by_cases h5 : m.f0.toList = root.toList
      · refine (A.and T).map fun k hk => ?_
        obtain ⟨⟨h2, h3⟩, h4⟩ := hk
        rw [h2, h3, hs]
        simp only [Option.bind_some, if_true]
        rw [if_neg h1, beq_iff_eq.2 h5]
        exact h4
      · have J : Evt fun k => curtilagelaw13_GraphMore.j0 k l root true false m.f0 m.f1 m.f2 m.f3 m.f4 m.f5 m.f6 = some true :=
          (more_go l root m (by omega) hs'.2 (nm_no (fun e => h5 e.symm)) l.length 0 (by omega) (fun j hj h => by omega)).step fun k hk => by
            rw [curtilagelaw13_GraphMore.j0, if_neg (by simp)]; exact hk
        refine (A.and J).map fun k hk => ?_
        obtain ⟨⟨h2, h3⟩, h4⟩ := hk
        rw [h2, h3, hs]
        simp only [Option.bind_some, if_true]
        rw [if_neg h1, beq_eq_false_iff_ne.2 h5]
        exact h4
  · refine (A.and T).map fun k hk => ?_
    obtain ⟨⟨h2, h3⟩, h4⟩ := hk
    rw [h2, h3]
    simp only [Option.bind_some]
    rw [if_neg hs]
    exact h4
end Go.Proofs.Ytndmfjdoekdleaa.Pure
