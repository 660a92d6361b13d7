/- The pure statement of the law PlanWhole. No condition. -/
import Derived.Test.YtoakeildgpeffaaKPlanWholePStPlanWhole
import Derived.Test.YtoakeildgpeffaaKPlanWholePlan
namespace Go.Proofs.Ytoakeildgpeffaa.Pure
open Go.RowKit Go.Proofs.Ytoakeildgpeffaa.P Go.Proofs.YtoakeildgpeffaaW.PrintWords Go.Proofs.YtoakeildgpeffaaW.PrintLast
set_option linter.unusedVariables false
set_option linter.unusedSimpArgs false
/-- What a symbol means, way by way. -/
theorem bindF_spec {l : List S39} {sc : List Int} {obj sym : Int} (s : S42) :
    (bindF l sc obj sym s = (obj, sym, 0) ∧ s.f7 = true) ∨
    (∃ i ∈ sc, ∃ t : Nat, bindF l sc obj sym s = (i, (t : Int), 0) ∧ t < (sy l i).length ∧ isIt (sy l i) s.f0 s.f1 t = true) ∨
    (bindF l sc obj sym s = (-1, -1, 0) ∧ s.f7 = false ∧ s.f5 = 3) ∨
    (∃ e, bindF l sc obj sym s = (0, 0, e) ∧ e ≠ 0 ∧ s.f7 = false ∧ s.f5 ≠ 3) := by
  unfold bindF
  by_cases c1 : (s.f7 && !(symShown s)) = true
  · rw [if_pos c1]
    exact Or.inl ⟨rfl, by simp at c1; exact c1.1⟩
  rw [if_neg c1]
  rcases inF_spec (l := l) s.f0 s.f1 sc with ⟨h1, _⟩ | ⟨i, hi, t, h1, h2, h3⟩
  · rw [h1, if_neg (by decide)]
    by_cases c3 : s.f7 = true
    · rw [if_pos c3]; exact Or.inl ⟨rfl, c3⟩
    rw [if_neg c3]
    have c3 := Bool.eq_false_iff.2 c3
    by_cases c4 : s.f5 = 3
    · rw [if_pos c4]; exact Or.inr (Or.inr (Or.inl ⟨rfl, c3, c4⟩))
    rw [if_neg c4]
    refine Or.inr (Or.inr (Or.inr ?_))
    by_cases c5 : s.f1.toList = ([] : List UInt8)
    · rw [if_pos c5]; exact ⟨_, rfl, by decide, c3, c4⟩
    rw [if_neg c5]
    split
    · exact ⟨_, rfl, by decide, c3, c4⟩
    · exact ⟨_, rfl, by decide, c3, c4⟩
  · rw [h1]
    by_cases c2 : 0 ≤ i
    · rw [if_pos c2]; exact Or.inr (Or.inl ⟨i, hi, t, rfl, h2, h3⟩)
    · rw [if_neg c2]
      by_cases c3 : s.f7 = true
      · rw [if_pos c3]; exact Or.inl ⟨rfl, c3⟩
      rw [if_neg c3]
      have c3 := Bool.eq_false_iff.2 c3
      by_cases c4 : s.f5 = 3
      · rw [if_pos c4]; exact Or.inr (Or.inr (Or.inl ⟨rfl, c3, c4⟩))
      rw [if_neg c4]
      refine Or.inr (Or.inr (Or.inr ?_))
      by_cases c5 : s.f1.toList = ([] : List UInt8)
      · rw [if_pos c5]; exact ⟨_, rfl, by decide, c3, c4⟩
      rw [if_neg c5]
      split
      · exact ⟨_, rfl, by decide, c3, c4⟩
      · exact ⟨_, rfl, by decide, c3, c4⟩
theorem err_ne {l : List S39} {sc : List Int} : ∀ (o : Int) (xs : List S44) (i : Nat) (v : Int × Int × Int), (relsF l sc o i xs).2 = some v → v.2.2 ≠ 0
  | o, [], i, v, h => by simp [relsF] at h
  | o, x :: xs, i, v, h => by
    by_cases e : (bnd l sc o x).2.2 = 0
    · rw [relsF_cons0 e] at h; exact err_ne o xs (i + 1) v h
    · rw [relsF_cons1 e] at h
      obtain rfl := Option.some.inj h
      exact e
theorem errs_ne {l : List S39} {sc : List Int} : ∀ (objs : List Int) (v : Int × Int × Int), (objsF l sc objs).2 = some v → v.2.2 ≠ 0
  | [], v, h => by simp [objsF] at h
  | o :: os, v, h => by
    rw [objsF] at h
    split at h
    · exact errs_ne os v h
    · exact err_ne o _ 0 v h
theorem err_at {l : List S39} {sc : List Int} : ∀ (o : Int) (xs : List S44) (i : Nat) (v : Int × Int × Int), (relsF l sc o i xs).2 = some v → v.1 = o ∧ (i : Int) ≤ v.2.1 ∧ v.2.1 < ((i + xs.length : Nat) : Int)
  | o, [], i, v, h => by simp [relsF] at h
  | o, x :: xs, i, v, h => by
    by_cases e : (bnd l sc o x).2.2 = 0
    · rw [relsF_cons0 e] at h
      have := err_at o xs (i + 1) v h
      simp only [List.length_cons]
      omega
    · rw [relsF_cons1 e] at h
      obtain rfl := Option.some.inj h
      simp only [List.length_cons]
      refine ⟨trivial, ?_, ?_⟩ <;> omega
theorem errs_at {l : List S39} {sc : List Int} : ∀ (objs : List Int) (v : Int × Int × Int), (objsF l sc objs).2 = some v → v.1 ∈ objs ∧ 0 ≤ v.2.1 ∧ v.2.1 < ((rl l v.1).length : Int)
  | [], v, h => by simp [objsF] at h
  | o :: os, v, h => by
    rw [objsF] at h
    split at h
    · have := errs_at os v h
      exact ⟨List.mem_cons_of_mem _ this.1, this.2⟩
    · obtain ⟨e1, e2, e3⟩ := err_at o _ 0 v h
      rw [e1]
      exact ⟨List.mem_cons_self, by omega, by omega⟩
theorem lk_get (l : List S28) (i : Nat) (h : i < l.length) : rd_T28 l (i : Int) = l[i] := by unfold rd_T28; rw [Int.toNat_natCast, List.getD_eq_getElem?_getD, List.getElem?_eq_getElem h]; rfl
theorem whole_last {l : List S39} {objs : List Int} {A : List S28} {n : Nat} {o i i' t : Int} {s d : S42} (j : Int) (hA : n < A.length) (e : rd_T28 A (n : Int) = ⟨o, i, i', t⟩) (q0 : 0 ≤ i') (q1 : i' < l.length) (q2 : 0 ≤ t) (q3 : t < (sy l i').length)
    (q4 : rd_T42 (sy l i') t = d) (q5 : d.f7 = true) (q6 : d.f0.toList = s.f0.toList) (k : Nat) :
    curtilagelaw15_PlanWhole.j3 (k + 1) l objs true A n j i false s.f0 s.f1 s.f2 s.f3 s.f4 s.f5 s.f6 s.f7 = curtilagelaw15_PlanWhole.l1 k l objs true A (wrap64 ((n : Int) + 1)) j (wrap64 (i + 1)) := by
  have q3' : t < (((rd_T39 l i').f3).length : Int) := q3
  have q4' : rd_T42 ((rd_T39 l i').f3) t = d := q4
  rw [curtilagelaw15_PlanWhole.j3, if_neg (by simp), if_pos (by omega), if_pos (by omega), e]
  dsimp only
  rw [if_pos q0, if_pos q1, if_pos q2, if_pos q3', q4', if_pos q6, if_pos q5]
theorem whole_head {l : List S39} {objs : List Int} {A : List S28} {n j i : Nat} {o i' t : Int} (hj : j < objs.length) (ho : objs[j] = o) (o0 : 0 ≤ o) (o1 : o < l.length) (h1 : (i : Int) < (((rd_T39 l o).f4).length : Int)) (hA : n < A.length)
    (e : rd_T28 A (n : Int) = ⟨o, i, i', t⟩) (k : Nat) : curtilagelaw15_PlanWhole.l1 (k + 1) l objs true A (n : Int) (j : Int) (i : Int) = curtilagelaw15_PlanWhole.j2 k l objs true A (n : Int) (j : Int) (i : Int) false := by
  have g : rd objs (j : Int) = o := by rw [rd_get _ _ hj, ho]
  have a0 : (0 : Int) ≤ (j : Int) := Int.natCast_nonneg _
  have a1 : (j : Int) < (objs.length : Int) := Int.ofNat_lt.2 hj
  have c0 : (0 : Int) ≤ (n : Int) := Int.natCast_nonneg _
  have c1 : (n : Int) < (A.length : Int) := Int.ofNat_lt.2 hA
  have c2 : ¬ (n : Int) ≥ (A.length : Int) := Int.not_le.2 c1
  rw [curtilagelaw15_PlanWhole.l1, if_pos a0, if_pos a1, g, if_pos o0, if_pos o1, if_pos h1, if_neg c2, if_pos c0, if_pos c1, e]
  dsimp only
  rw [if_pos rfl, bne_self_eq_false]
theorem whole_mid {l : List S39} {objs : List Int} {A : List S28} {n j i : Nat} {o i' t : Int} {x : S44} {s : S42} (hj : j < objs.length) (ho : objs[j] = o) (o0 : 0 ≤ o) (o1 : o < l.length) (h1 : (i : Int) < (((rd_T39 l o).f4).length : Int)) (hA : n < A.length)
    (hg : rd_T44 ((rd_T39 l o).f4) (i : Int) = x) (x0 : 0 ≤ x.f1) (h2 : x.f1 < (((rd_T39 l o).f3).length : Int)) (hs : rd_T42 ((rd_T39 l o).f3) x.f1 = s)
    (e : rd_T28 A (n : Int) = ⟨o, i, i', t⟩) (q0 : 0 ≤ i') (q1 : i' < l.length) (q2 : 0 ≤ t) (q3 : t < (((rd_T39 l i').f3).length : Int)) (k : Nat) :
    curtilagelaw15_PlanWhole.j2 (k + 1) l objs true A (n : Int) (j : Int) (i : Int) false = curtilagelaw15_PlanWhole.j3 k l objs true A n j i false s.f0 s.f1 s.f2 s.f3 s.f4 s.f5 s.f6 s.f7 := by
  have g : rd objs (j : Int) = o := by rw [rd_get _ _ hj, ho]
  have a0 : (0 : Int) ≤ (j : Int) := Int.natCast_nonneg _
  have a1 : (j : Int) < (objs.length : Int) := Int.ofNat_lt.2 hj
  have c0 : (0 : Int) ≤ (n : Int) := Int.natCast_nonneg _
  have c1 : (n : Int) < (A.length : Int) := Int.ofNat_lt.2 hA
  have d0 : (0 : Int) ≤ (i : Int) := Int.natCast_nonneg _
  rw [curtilagelaw15_PlanWhole.j2, if_neg Bool.false_ne_true, if_pos a0, if_pos a1, g, if_pos o0, if_pos o1, if_pos d0, if_pos h1, hg, if_pos x0, if_pos h2, if_pos c0, if_pos c1, e, hs]
  dsimp only
  rw [if_neg (Int.not_lt.2 q0), if_neg (Int.not_le.2 q1), if_neg (Int.not_lt.2 q2), if_pos q0, if_pos q1, decide_eq_false (Int.not_le.2 q3)]
theorem whole_none {l : List S39} {objs : List Int} {A : List S28} {n j i : Nat} {o t : Int} {x : S44} {s : S42} (hj : j < objs.length) (ho : objs[j] = o) (o0 : 0 ≤ o) (o1 : o < l.length) (h1 : (i : Int) < (((rd_T39 l o).f4).length : Int)) (hA : n < A.length)
    (hg : rd_T44 ((rd_T39 l o).f4) (i : Int) = x) (x0 : 0 ≤ x.f1) (h2 : x.f1 < (((rd_T39 l o).f3).length : Int)) (hs : rd_T42 ((rd_T39 l o).f3) x.f1 = s)
    (e : rd_T28 A (n : Int) = ⟨o, i, -1, t⟩) (h7 : s.f7 = false) (h5 : s.f5 = 3) (k : Nat) :
    curtilagelaw15_PlanWhole.j2 (k + 1) l objs true A (n : Int) (j : Int) (i : Int) false = curtilagelaw15_PlanWhole.l1 k l objs true A (wrap64 ((n : Int) + 1)) j (wrap64 ((i : Int) + 1)) := by
  have g : rd objs (j : Int) = o := by rw [rd_get _ _ hj, ho]
  have a0 : (0 : Int) ≤ (j : Int) := Int.natCast_nonneg _
  have a1 : (j : Int) < (objs.length : Int) := Int.ofNat_lt.2 hj
  have c0 : (0 : Int) ≤ (n : Int) := Int.natCast_nonneg _
  have c1 : (n : Int) < (A.length : Int) := Int.ofNat_lt.2 hA
  have d0 : (0 : Int) ≤ (i : Int) := Int.natCast_nonneg _
  have m1 : (-1 : Int) < 0 := by decide
  have n7 : ¬ s.f7 = true := by rw [h7]; exact Bool.false_ne_true
  rw [curtilagelaw15_PlanWhole.j2, if_neg Bool.false_ne_true, if_pos a0, if_pos a1, g, if_pos o0, if_pos o1, if_pos d0, if_pos h1, hg, if_pos x0, if_pos h2, if_pos c0, if_pos c1, e, hs]
  dsimp only
  rw [if_pos m1, if_neg n7, if_pos h5]
set_option maxHeartbeats 1000000 in
theorem whole_in {l : List S39} {sc objs : List Int} (F : Fine l sc objs) (A : List S28) (hA : A.length ≤ 600) (j : Nat) (hj : j < objs.length) (rest : List S28)
    (hnext : ∀ P : List S28, A = P ++ rest → Ev fun k => curtilagelaw15_PlanWhole.l0 k l objs true A (P.length : Int) ((j + 1 : Nat) : Int) = some true) : ∀ (m i : Nat) (P : List S28), i + m = (rl l objs[j]).length →
    (relsF l sc objs[j] i ((rl l objs[j]).drop i)).2 = none → A = P ++ ((relsF l sc objs[j] i ((rl l objs[j]).drop i)).1 ++ rest) →
    Ev fun k => curtilagelaw15_PlanWhole.l1 k l objs true A (P.length : Int) (j : Int) (i : Int) = some true
  | 0, i, P, hm, hr, hP => by
    have a0 : (0 : Int) ≤ (j : Int) := Int.natCast_nonneg _
    have a1 : (j : Int) < (objs.length : Int) := Int.ofNat_lt.2 hj
    have hob := F.obl
    have hi := F.oIn _ (List.getElem_mem hj)
    rw [List.drop_eq_nil_of_le (by omega)] at hP
    refine (hnext P (by simpa [relsF] using hP)).step fun k hk => ?_
    have hlen : ¬ (i : Int) < (((rd_T39 l objs[j]).f4).length : Int) := by show ¬ (i : Int) < ((rl l objs[j]).length : Int); omega
    rw [curtilagelaw15_PlanWhole.l1, if_pos a0, if_pos a1, rd_get _ _ hj, if_pos hi.1, if_pos hi.2, if_neg hlen, wrap_s (by omega)]
    exact hk
  | m + 1, i, P, hm, hr, hP => by
    have hob := F.obl
    have hi := F.oIn _ (List.getElem_mem hj)
    have hrl := F.rel _ hi.1 hi.2
    have hlt : i < (rl l objs[j]).length := by omega
    have hd : (rl l objs[j]).drop i = (rl l objs[j])[i] :: (rl l objs[j]).drop (i + 1) := List.drop_eq_getElem_cons hlt
    have hx := hrl.2 _ (List.getElem_mem hlt)
    generalize hxx : (rl l objs[j])[i] = x at hd hx
    have hg : rd_T44 ((rd_T39 l objs[j]).f4) (i : Int) = x := by rw [show (rd_T39 l objs[j]).f4 = rl l objs[j] from rfl, rel_get _ i hlt, hxx]
    rw [hd] at hr hP
    by_cases e : (bnd l sc objs[j] x).2.2 = 0
    · rw [relsF_cons0 e] at hr hP
      have ih := whole_in F A hA j hj rest hnext m (i + 1) (P ++ [⟨objs[j], i, (bnd l sc objs[j] x).1, (bnd l sc objs[j] x).2.1⟩]) (by omega) hr (by rw [hP]; simp)
      have hPA : P.length < A.length := by rw [hP]; simp
      have a0 : (0 : Int) ≤ (j : Int) := Int.natCast_nonneg _
      have a1 : (j : Int) < (objs.length : Int) := Int.ofNat_lt.2 hj
      have c0 : (0 : Int) ≤ (P.length : Int) := Int.natCast_nonneg _
      have c1 : (P.length : Int) < (A.length : Int) := Int.ofNat_lt.2 hPA
      have c2 : ¬ (P.length : Int) ≥ (A.length : Int) := Int.not_le.2 c1
      have d0 : (0 : Int) ≤ (i : Int) := Int.natCast_nonneg _
      have hw : wrap64 ((P.length : Int) + 1) = ((P.length + 1 : Nat) : Int) := wrap_s (by omega)
      have hwi : wrap64 ((i : Int) + 1) = ((i + 1 : Nat) : Int) := wrap_s (by omega)
      have hget : rd_T28 A (P.length : Int) = ⟨objs[j], i, (bnd l sc objs[j] x).1, (bnd l sc objs[j] x).2.1⟩ := by
        rw [lk_get A P.length hPA]
        simp [hP]
      have hb : bnd l sc objs[j] x = bindF l sc objs[j] x.f1 (rd_T42 (sy l objs[j]) x.f1) := rfl
      have h1 : (i : Int) < (((rd_T39 l objs[j]).f4).length : Int) := Int.ofNat_lt.2 hlt
      have h2 : x.f1 < (((rd_T39 l objs[j]).f3).length : Int) := hx.2
      have hs : rd_T42 ((rd_T39 l objs[j]).f3) x.f1 = rd_T42 (sy l objs[j]) x.f1 := rfl
      generalize rd_T42 (sy l objs[j]) x.f1 = s at hb hs
      generalize bnd l sc objs[j] x = b at e ih hP hget hb
      have ih' : Ev fun k => curtilagelaw15_PlanWhole.l1 k l objs true A (wrap64 ((P.length : Int) + 1)) (j : Int) (wrap64 ((i : Int) + 1)) = some true := by
        rw [hw, hwi]
        simpa using ih
      have way : ∀ i' t : Int, ∀ d : S42, b = (i', t, 0) → 0 ≤ i' → i' < l.length → 0 ≤ t → t < (sy l i').length → rd_T42 (sy l i') t = d → d.f7 = true → d.f0.toList = s.f0.toList →
          Ev fun k => curtilagelaw15_PlanWhole.l1 k l objs true A (P.length : Int) (j : Int) (i : Int) = some true := by
        intro i' t d hbb q0 q1 q2 q3 q4 q5 q6
        rw [hbb] at hget
        dsimp only at hget
        have s3 : Ev fun k => curtilagelaw15_PlanWhole.j3 k l objs true A (P.length : Int) (j : Int) (i : Int) false s.f0 s.f1 s.f2 s.f3 s.f4 s.f5 s.f6 s.f7 = some true :=
          ih'.step fun k hk => (whole_last (j : Int) hPA hget q0 q1 q2 q3 q4 q5 q6 k).trans hk
        have s2 : Ev fun k => curtilagelaw15_PlanWhole.j2 k l objs true A (P.length : Int) (j : Int) (i : Int) false = some true :=
          s3.step fun k hk => (whole_mid hj rfl hi.1 hi.2 h1 hPA hg hx.1 h2 hs hget q0 q1 q2 q3 k).trans hk
        exact s2.step fun k hk => (whole_head hj rfl hi.1 hi.2 h1 hPA hget k).trans hk
      rcases bindF_spec (l := l) (sc := sc) (obj := objs[j]) (sym := x.f1) s with ⟨e', h7⟩ | ⟨i', hi', t, e', ht, hit⟩ | ⟨e', h7, h5⟩ | ⟨er, e', hne, h7, h5⟩
      · exact way objs[j] x.f1 s (hb.trans e') hi.1 hi.2 hx.1 hx.2 hs h7 rfl
      · unfold isIt sh at hit
        simp only [Bool.and_eq_true, Bool.or_eq_true, decide_eq_true_eq] at hit
        have hsy : symShown (nm (sy l i') t) = true := hit.1
        refine way i' t (nm (sy l i') t) (hb.trans e') (F.sIn i' hi').1 (F.sIn i' hi').2 (by omega) (by omega) rfl ?_ hit.2.1
        unfold symShown at hsy
        simp only [Bool.and_eq_true] at hsy
        exact hsy.1.1
      · have hbb := hb.trans e'
        rw [hbb] at hget
        dsimp only at hget
        have s2 : Ev fun k => curtilagelaw15_PlanWhole.j2 k l objs true A (P.length : Int) (j : Int) (i : Int) false = some true :=
          ih'.step fun k hk => (whole_none hj rfl hi.1 hi.2 h1 hPA hg hx.1 h2 hs hget h7 h5 k).trans hk
        exact s2.step fun k hk => (whole_head hj rfl hi.1 hi.2 h1 hPA hget k).trans hk
      · exact absurd (e.symm.trans (congrArg (fun z : Int × Int × Int => z.2.2) (hb.trans e'))).symm hne
    · rw [relsF_cons1 e] at hr; simp at hr
theorem whole_go {l : List S39} {sc objs : List Int} (F : Fine l sc objs) (A : List S28) (hA : A.length ≤ 600) : ∀ (m j : Nat) (P : List S28), j + m = objs.length →
    (objsF l sc (objs.drop j)).2 = none → A = P ++ (objsF l sc (objs.drop j)).1 → Ev fun k => curtilagelaw15_PlanWhole.l0 k l objs true A (P.length : Int) (j : Int) = some true
  | 0, j, P, hm, hr, hP => Ev.one fun k => by
    rw [List.drop_eq_nil_of_le (by omega)] at hP
    have hP' : A = P := by simpa [objsF] using hP
    rw [curtilagelaw15_PlanWhole.l0, if_neg (by omega), if_pos rfl, hP', beq_self_eq_true]
  | m + 1, j, P, hm, hr, hP => by
    have hlt : j < objs.length := by omega
    have hd : objs.drop j = objs[j] :: objs.drop (j + 1) := List.drop_eq_getElem_cons hlt
    rw [hd, objsF] at hr hP
    by_cases e : (relsF l sc objs[j] 0 (rl l objs[j])).2 = none
    · rw [if_pos e] at hr hP
      refine (whole_in F A hA j hlt (objsF l sc (objs.drop (j + 1))).1 (fun P' hP' => whole_go F A hA m (j + 1) P' (by omega) hr hP') (rl l objs[j]).length 0 P (by omega) (by rw [List.drop_zero]; exact e) (by rw [List.drop_zero]; exact hP)).step fun k hk => ?_
      rw [curtilagelaw15_PlanWhole.l0, if_pos (by omega)]
      exact hk
    · rw [if_neg e] at hr; exact absurd hr e
theorem PlanWhole : curtilagelaw15_PlanWhole.Pure := by
  intro l sc objs hl hsc ho
  obtain ⟨c, hc, hF⟩ := fine_ev l sc objs (by have := hl.2.1; omega) (by have := hsc.2.1; omega) (by have := ho.2.1; omega)
  cases c
  · refine (hc.map fun k hc => ?_).ex
    unfold curtilagelaw15_PlanWhole.f
    rw [show curtilagelaw15_awake.f = some true from rfl, Option.bind_some, hc, Option.bind_some, if_neg (by simp)]
  · have F := hF rfl
    have hob := F.obl
    have e1 := link_ev F.few F.rel F.sIn objs F.oIn (by omega)
    have hL := linkF_len F.rel sc objs F.oIn
    cases hA : (objsF l sc objs).2 with
    | some v =>
      have hv := errs_ne objs v hA
      obtain ⟨v1, v2, v3⟩ := errs_at objs v hA
      have hin := F.oIn _ v1
      have hZ : linkF l sc objs = ([], v.1, v.2.1, 0, 0, v.2.2) := by unfold linkF outF; rw [hA]
      refine ((hc.and e1).map fun k ⟨hc, e1⟩ => ?_).ex
      unfold curtilagelaw15_PlanWhole.f
      rw [show curtilagelaw15_awake.f = some true from rfl, Option.bind_some, hc, Option.bind_some, if_pos rfl, e1, Option.bind_some, hZ]
      dsimp only
      have v3' : v.2.1 < (((rd_T39 l v.1).f4).length : Int) := v3
      rw [if_neg hv, if_neg (by omega), if_neg (by omega), if_pos rfl, if_pos (by rfl), if_pos v2, if_pos hin.1, if_pos hin.2, decide_eq_true v3']
    | none =>
      have hZ : linkF l sc objs = ((objsF l sc objs).1, 0, 0, 0, 0, 0) := by unfold linkF outF; rw [hA]
      rw [hZ] at hL
      have hw := whole_go F (objsF l sc objs).1 (by dsimp only at hL; omega) objs.length 0 [] (by omega) (by rw [List.drop_zero]; exact hA) (by rw [List.drop_zero, List.nil_append])
      refine ((hc.and e1).and hw |>.map fun k ⟨⟨hc, e1⟩, hw⟩ => ?_).ex
      unfold curtilagelaw15_PlanWhole.f
      rw [show curtilagelaw15_awake.f = some true from rfl, Option.bind_some, hc, Option.bind_some, if_pos rfl, e1, Option.bind_some, hZ]
      dsimp only
      rw [if_pos rfl]
      exact hw
end Go.Proofs.Ytoakeildgpeffaa.Pure
