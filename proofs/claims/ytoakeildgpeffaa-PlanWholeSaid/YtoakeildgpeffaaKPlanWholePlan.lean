/- What relocations are bound to, in plain words. No condition. -/
import Derived.Test.YtoakeildgpeffaaKPlanWholeLook
namespace Go.Proofs.Ytoakeildgpeffaa.Pure
open Go.RowKit Go.Proofs.Ytoakeildgpeffaa.P Go.Proofs.YtoakeildgpeffaaW.PrintWords Go.Proofs.YtoakeildgpeffaaW.PrintLast
set_option linter.unusedVariables false
set_option linter.unusedSimpArgs false
def rl (l : List S39) (i : Int) : List S44 := (rd_T39 l i).f4
def RelOk (l : List S39) : Prop := ∀ i : Int, 0 ≤ i → i < l.length → (rl l i).length ≤ 60 ∧ ∀ x ∈ rl l i, 0 ≤ x.f1 ∧ x.f1 < ((sy l i).length : Int)
theorem rel_get (l : List S44) (i : Nat) (h : i < l.length) : rd_T44 l (i : Int) = l[i] := by unfold rd_T44; rw [Int.toNat_natCast, List.getD_eq_getElem?_getD, List.getElem?_eq_getElem h]; rfl
def ObjR (l : List S39) (i : Nat) : Prop := (rl l i).length ≤ 60 ∧ ∀ x ∈ rl l i, 0 ≤ x.f1 ∧ x.f1 < ((sy l i).length : Int)
theorem rright_in (l : List S39) (i : Nat) (hi : i < l.length) (hs : (rl l i).length ≤ 60) (hil : i < 9223372036854775806)
    (hnext : ∃ b, (Ev fun k => curtilageref15_Right.l0 k l ((i + 1 : Nat) : Int) = some b) ∧ (b = true → ∀ j, i < j → j < l.length → ObjR l j)) : ∀ (m j : Nat), j + m = (rl l i).length → (∀ x ∈ (rl l i).take j, 0 ≤ x.f1 ∧ x.f1 < ((sy l i).length : Int)) →
    ∃ b, (Ev fun k => curtilageref15_Right.l1 k l (i : Int) (j : Int) = some b) ∧ (b = true → ∀ j, i ≤ j → j < l.length → ObjR l j)
  | 0, j, hm, hb => by
    obtain ⟨b, h1, h2⟩ := hnext
    refine ⟨b, h1.step fun k hk => ?_, fun hb' t h3 h4 => ?_⟩
    · have e : ((rd_T39 l (i : Int)).f4).length = j := by have : (rl l i).length = j := by omega
                                                          exact this
      rw [curtilageref15_Right.l1, if_pos (by omega), if_pos (by omega), if_neg (by rw [e]; omega), wrap_s (by omega)]
      exact hk
    · by_cases e : t = i
      · subst e
        refine ⟨hs, fun x hx => hb x ?_⟩
        rw [List.take_of_length_le (by omega)]; exact hx
      · exact h2 hb' t (by omega) h4
  | m + 1, j, hm, hb => by
    have hj : j < (rl l i).length := by omega
    have e1 : rd_T44 (rd_T39 l (i : Int)).f4 (j : Int) = (rl l i)[j] := rel_get _ j hj
    have e2 : (rd_T39 l (i : Int)).f4 = rl l i := rfl
    have e3 : (rd_T39 l (i : Int)).f3 = sy l i := rfl
    by_cases hok : 0 ≤ ((rl l i)[j]).f1 ∧ ((rl l i)[j]).f1 < ((sy l i).length : Int)
    · obtain ⟨b, h1, h2⟩ := rright_in l i hi hs hil hnext m (j + 1) (by omega) (fun x hx => by
        rw [List.take_succ_eq_append_getElem hj] at hx
        rcases List.mem_append.1 hx with e | e
        · exact hb x e
        · rw [List.mem_singleton.1 e]; exact hok)
      refine ⟨b, h1.step fun k hk => ?_, h2⟩
      rw [curtilageref15_Right.l1, if_pos (by omega), if_pos (by omega), e1, e2, e3, if_pos (by omega), if_pos (by omega), if_neg (by omega), if_neg (by omega), wrap_s (by omega)]
      exact hk
    · refine ⟨false, Ev.one fun k => ?_, fun h => by cases h⟩
      rw [curtilageref15_Right.l1, if_pos (by omega), if_pos (by omega), e1, e2, e3, if_pos (by omega), if_pos (by omega)]
      by_cases q1 : ((rl l i)[j]).f1 < 0
      · rw [if_pos q1]
      rw [if_neg q1, if_pos (by omega)]
theorem rright_go (l : List S39) (hl : l.length ≤ 9223372036854775806) : ∀ (m i : Nat), i + m = l.length →
    ∃ b, (Ev fun k => curtilageref15_Right.l0 k l (i : Int) = some b) ∧ (b = true → ∀ j, i ≤ j → j < l.length → ObjR l j)
  | 0, i, hm => ⟨true, Ev.one fun k => by rw [curtilageref15_Right.l0, if_neg (by omega)], fun _ j h1 h2 => by omega⟩
  | m + 1, i, hm => by
    have e2 : (rd_T39 l (i : Int)).f4 = rl l i := rfl
    by_cases hs : (rl l i).length ≤ 60
    · obtain ⟨b, h1, h2⟩ := rright_in l i (by omega) hs (by omega) (by
        obtain ⟨b, h1, h2⟩ := rright_go l hl m (i + 1) (by omega)
        exact ⟨b, h1, fun hb j h3 h4 => h2 hb j h3 h4⟩) (rl l i).length 0 (by omega) (fun t ht => by simp at ht)
      refine ⟨b, h1.step fun k hk => ?_, h2⟩
      rw [curtilageref15_Right.l0, if_pos (by omega), if_pos (by omega), e2, if_neg (by omega)]
      exact hk
    · exact ⟨false, Ev.one fun k => by rw [curtilageref15_Right.l0, if_pos (by omega), if_pos (by omega), e2, if_pos (by omega)], fun h => by cases h⟩
theorem rright_ev (l : List S39) (hl : l.length ≤ 9223372036854775806) : ∃ b, (Ev fun k => curtilageref15_Right.f k l = some b) ∧ (b = true → RelOk l) := by
  obtain ⟨b, h1, h2⟩ := rright_go l hl l.length 0 (by omega)
  refine ⟨b, h1.map fun k hk => hk, fun hb i h3 h4 => ?_⟩
  obtain ⟨i, rfl⟩ := Int.eq_ofNat_of_zero_le h3
  exact h2 hb i (by omega) (by omega)
structure Fine (l : List S39) (sc objs : List Int) : Prop where
  few : Few l
  rel : RelOk l
  sIn : In_ l sc
  scl : sc.length ≤ 40
  oIn : In_ l objs
  obl : objs.length ≤ 10
theorem fine_ev (l : List S39) (sc objs : List Int) (hl : l.length ≤ 9223372036854775806) (hs : sc.length ≤ 9223372036854775806) (ho : objs.length ≤ 9223372036854775806) : ∃ b, (Ev fun k => curtilagelaw15_right.f k l sc objs = some b) ∧ (b = true → Fine l sc objs) := by
  obtain ⟨b1, h1, q1⟩ := short_ev l
  obtain ⟨b2, h2, q2⟩ := rright_ev l hl
  have h3 := right_ev sc l.length hs
  have h4 := right_ev objs l.length ho
  by_cases e : b1 = true ∧ rightB sc l.length = true ∧ rightB objs l.length = true ∧ b2 = true
  · refine ⟨decide ((objs.length : Int) ≤ 10), ((h1.and h2).and (h3.and h4)).map fun k ⟨⟨e1, e2⟩, e3, e4⟩ => ?_, fun hb => ⟨q1 e.1, q2 e.2.2.2, (right_of e.2.1).1, (right_of e.2.1).2, (right_of e.2.2.1).1, by have := of_decide_eq_true hb; omega⟩⟩
    unfold curtilagelaw15_right.f
    rw [e1, e2, e3, e4, Option.bind_some, Option.bind_some, Option.bind_some, Option.bind_some, if_pos e.1, if_pos e.2.1, if_pos e.2.2.1, if_pos e.2.2.2]
  · refine ⟨false, ((h1.and h2).and (h3.and h4)).map fun k ⟨⟨e1, e2⟩, e3, e4⟩ => ?_, fun hb => by cases hb⟩
    unfold curtilagelaw15_right.f
    rw [e1, e2, e3, e4, Option.bind_some, Option.bind_some, Option.bind_some, Option.bind_some]
    by_cases c1 : b1 = true
    · rw [if_pos c1]
      by_cases c2 : rightB sc l.length = true
      · rw [if_pos c2]
        by_cases c3 : rightB objs l.length = true
        · rw [if_pos c3, if_neg (fun c4 => e ⟨c1, c2, c3, c4⟩)]
        · rw [if_neg c3]
      · rw [if_neg c2]
    · rw [if_neg c1]
def bnd (l : List S39) (sc : List Int) (o : Int) (x : S44) : Int × Int × Int := bindF l sc o x.f1 (rd_T42 (sy l o) x.f1)
abbrev Err := Option (Int × Int × Int)
def relsF (l : List S39) (sc : List Int) (o : Int) : Nat → List S44 → List S28 × Err
  | _, [] => ([], none)
  | i, x :: xs => if (bnd l sc o x).2.2 = 0 then (⟨o, i, (bnd l sc o x).1, (bnd l sc o x).2.1⟩ :: (relsF l sc o (i + 1) xs).1, (relsF l sc o (i + 1) xs).2) else ([], some (o, i, (bnd l sc o x).2.2))
def objsF (l : List S39) (sc : List Int) : List Int → List S28 × Err
  | [] => ([], none)
  | o :: os => if (relsF l sc o 0 (rl l o)).2 = none then ((relsF l sc o 0 (rl l o)).1 ++ (objsF l sc os).1, (objsF l sc os).2) else relsF l sc o 0 (rl l o)
def outF (r : List S28 × Err) : List S28 × Int × Int × Int × Int × Int := match r.2 with
  | none => (r.1, 0, 0, 0, 0, 0)
  | some (o, i, e) => ([], o, i, 0, 0, e)
theorem relsF_len (l : List S39) (sc : List Int) (o : Int) : ∀ xs i, (relsF l sc o i xs).1.length ≤ xs.length
  | [], _ => Nat.le_refl _
  | x :: xs, i => by
    have := relsF_len l sc o xs (i + 1)
    rw [relsF]
    split
    · simp; exact this
    · simp
theorem relsF_cons0 {l : List S39} {sc : List Int} {o : Int} {i : Nat} {x : S44} {xs : List S44} (h : (bnd l sc o x).2.2 = 0) : relsF l sc o i (x :: xs) = (⟨o, i, (bnd l sc o x).1, (bnd l sc o x).2.1⟩ :: (relsF l sc o (i + 1) xs).1, (relsF l sc o (i + 1) xs).2) := by rw [relsF, if_pos h]
theorem relsF_cons1 {l : List S39} {sc : List Int} {o : Int} {i : Nat} {x : S44} {xs : List S44} (h : ¬ (bnd l sc o x).2.2 = 0) : relsF l sc o i (x :: xs) = ([], some (o, (i : Int), (bnd l sc o x).2.2)) := by rw [relsF, if_neg h]
/-- What a loop over an object's relocations comes to, R telling what comes behind it. -/
def thenF (r : List S28 × Err) (acc : List S28) (R : List S28 → List S28 × Int × Int × Int × Int × Int) : List S28 × Int × Int × Int × Int × Int := match r.2 with
  | none => R (acc ++ r.1)
  | some (o, i, e) => ([], o, i, 0, 0, e)
theorem link_in {l : List S39} (F : Few l) (sc objs : List Int) (hs : In_ l sc) (n : Int) (j : Nat) (hj : j ≤ 1000) (o : Int) (h0 : 0 ≤ o) (h1 : o < l.length) (hrel : ∀ x ∈ rl l o, 0 ≤ x.f1 ∧ x.f1 < ((sy l o).length : Int)) (h60 : (rl l o).length ≤ 60)
    (R : List S28 → List S28 × Int × Int × Int × Int × Int) (hnext : ∀ acc : List S28, acc.length ≤ 60 * (j + 1) → Ev fun k => plan_Link.l0 k l sc acc objs n ((j + 1 : Nat) : Int) 0 0 0 0 = some (R acc)) : ∀ (m i : Nat) (acc : List S28), i + m = (rl l o).length → acc.length ≤ 60 * j + i →
    Ev fun k => plan_Link.l1 k l sc acc o objs n (j : Int) (rl l o) ((rl l o).length : Int) (i : Int) 0 0 0 0 = some (thenF (relsF l sc o i ((rl l o).drop i)) acc R)
  | 0, i, acc, hm, ha => (hnext acc (by omega)).step fun k hk => by
    rw [plan_Link.l1, if_neg (by omega), wrap_s (by omega), hk, List.drop_eq_nil_of_le (by omega)]
    simp [relsF, thenF]
  | m + 1, i, acc, hm, ha => by
    have hlt : i < (rl l o).length := by omega
    have hd : (rl l o).drop i = (rl l o)[i] :: (rl l o).drop (i + 1) := List.drop_eq_getElem_cons hlt
    have hx := hrel _ (List.getElem_mem hlt)
    have hb := bind_ev F sc hs o ((rl l o)[i]).f1 h0 h1 hx.1 hx.2
    by_cases e : (bnd l sc o (rl l o)[i]).2.2 = 0
    · refine (hb.and (link_in F sc objs hs n j hj o h0 h1 hrel h60 R hnext m (i + 1) (acc ++ [⟨o, i, (bnd l sc o (rl l o)[i]).1, (bnd l sc o (rl l o)[i]).2.1⟩]) (by omega) (by simp; omega))).step fun k ⟨e1, e2⟩ => ?_
      rw [plan_Link.l1, if_pos (by omega), if_pos (by omega), if_pos (by omega), rel_get _ i hlt, e1, Option.bind_some]
      rw [if_pos (show (bindF l sc o ((rl l o)[i]).f1 (rd_T42 (sy l o) ((rl l o)[i]).f1)).2.2 = 0 from e), if_pos (by omega), wrap_s (by omega), hd, relsF_cons0 e]
      refine e2.trans ?_
      unfold thenF
      cases (relsF l sc o (i + 1) ((rl l o).drop (i + 1))).2 with
      | none => simp
      | some v => rfl
    · refine hb.step fun k e1 => ?_
      rw [plan_Link.l1, if_pos (by omega), if_pos (by omega), if_pos (by omega), rel_get _ i hlt, e1, Option.bind_some]
      rw [if_neg (show ¬ (bindF l sc o ((rl l o)[i]).f1 (rd_T42 (sy l o) ((rl l o)[i]).f1)).2.2 = 0 from e), hd, relsF_cons1 e]
      rfl
theorem link_go {l : List S39} (F : Few l) (hr : RelOk l) (sc objs : List Int) (hs : In_ l sc) (ho : In_ l objs) (hl : objs.length ≤ 1000) : ∀ (m j : Nat) (acc : List S28), j + m = objs.length → acc.length ≤ 60 * j →
    Ev fun k => plan_Link.l0 k l sc acc objs (objs.length : Int) (j : Int) 0 0 0 0 = some (outF (acc ++ (objsF l sc (objs.drop j)).1, (objsF l sc (objs.drop j)).2))
  | 0, j, acc, hm, ha => Ev.one fun k => by
    rw [plan_Link.l0, if_neg (by omega), List.drop_eq_nil_of_le (by omega)]
    simp [objsF, outF]
  | m + 1, j, acc, hm, ha => by
    have hlt : j < objs.length := by omega
    have hi := ho _ (List.getElem_mem hlt)
    have hd : objs.drop j = objs[j] :: objs.drop (j + 1) := List.drop_eq_getElem_cons hlt
    refine (link_in F sc objs hs objs.length j (by omega) objs[j] hi.1 hi.2 (hr _ hi.1 hi.2).2 (hr _ hi.1 hi.2).1 _ (fun acc ha => link_go F hr sc objs hs ho hl m (j + 1) acc (by omega) ha) (rl l objs[j]).length 0 acc (by omega) (by omega)).step fun k hk => ?_
    rw [plan_Link.l0, if_pos (by omega), if_pos (by omega), if_pos (by omega), rd_get _ _ hlt, if_pos hi.1, if_pos hi.2, show (rd_T39 l objs[j]).f4 = rl l objs[j] from rfl]
    refine hk.trans ?_
    rw [hd, List.drop_zero, objsF]
    unfold thenF
    cases e : (relsF l sc objs[j] 0 (rl l objs[j])).2 with
    | none => rw [if_pos rfl]; simp only [List.append_assoc]
    | some v => rw [if_neg (by simp)]; unfold outF; rw [e]
def linkF (l : List S39) (sc objs : List Int) := outF (objsF l sc objs)
theorem link_ev {l : List S39} {sc : List Int} (F : Few l) (hr : RelOk l) (hs : In_ l sc) (objs : List Int) (ho : In_ l objs) (hl : objs.length ≤ 1000) : Ev fun k => plan_Link.f k l sc objs = some (linkF l sc objs) :=
  (link_go F hr sc objs hs ho hl objs.length 0 [] (by omega) (by simp)).map fun k hk => by
    unfold plan_Link.f linkF
    simpa using hk
theorem objsF_len {l : List S39} (hr : RelOk l) (sc : List Int) : ∀ objs : List Int, In_ l objs → (objsF l sc objs).1.length ≤ 60 * objs.length
  | [], _ => Nat.le_refl _
  | o :: os, ho => by
    have hi := ho o List.mem_cons_self
    have h1 := relsF_len l sc o (rl l o) 0
    have h2 := (hr o hi.1 hi.2).1
    have h3 := objsF_len hr sc os (fun j hj => ho j (List.mem_cons_of_mem _ hj))
    rw [objsF]
    split
    · simp; omega
    · simp; omega
theorem linkF_len {l : List S39} (hr : RelOk l) (sc objs : List Int) (ho : In_ l objs) : (linkF l sc objs).1.length ≤ 60 * objs.length := by
  have := objsF_len hr sc objs ho
  unfold linkF outF
  split
  · exact this
  · simp
end Go.Proofs.Ytoakeildgpeffaa.Pure
