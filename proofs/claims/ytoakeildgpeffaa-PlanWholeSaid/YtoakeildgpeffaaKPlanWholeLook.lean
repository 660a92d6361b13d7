/- What a scope's names mean, in plain words: what the code and the document's functions give. No condition. -/
import Derived.Test.YtoakeildgpeffaaKPlanWholeTable
namespace Go.Proofs.Ytoakeildgpeffaa.Pure
open Go.RowKit Go.Proofs.Ytoakeildgpeffaa.P Go.Proofs.YtoakeildgpeffaaW.PrintWords Go.Proofs.YtoakeildgpeffaaW.PrintLast
set_option linter.unusedVariables false
set_option linter.unusedSimpArgs false
theorem Ev.one {P : Nat → Prop} (h : ∀ k, P (k + 1)) : Ev P := (Ev.all (P := fun _ => True) fun _ => trivial).step fun k _ => h k
def ob (l : List S39) (i : Nat) : S39 := rd_T39 l (i : Int)
def sy (l : List S39) (i : Int) : List S42 := (rd_T39 l i).f3
def SymOk (s : S42) : Prop := 1 ≤ s.f5 ∧ s.f5 ≤ 3 ∧ 1 ≤ s.f6 ∧ s.f6 ≤ 2 ∧ s.f0.size ≤ 100
structure Few (l : List S39) : Prop where
  len : l.length ≤ 10
  syms : ∀ i : Int, 0 ≤ i → i < l.length → (sy l i).length ≤ 40
  ok : ∀ i : Int, 0 ≤ i → i < l.length → ∀ s ∈ sy l i, SymOk s
def In_ (l : List S39) (sc : List Int) : Prop := ∀ i ∈ sc, 0 ≤ i ∧ i < (l.length : Int)
theorem Few.names {l : List S39} (h : Few l) {i : Int} (h0 : 0 ≤ i) (h1 : i < l.length) : NamesOk (sy l i) := fun s hs => by
  have := (h.ok i h0 h1 s hs).2.2.2.2; omega
theorem nm_mem (l : List S42) (i : Nat) (h : i < l.length) : nm l i ∈ l := by
  unfold nm rd_T42
  rw [Int.toNat_natCast, List.getD_eq_getElem?_getD, List.getElem?_eq_getElem h]
  exact List.getElem_mem h
theorem wrap_s {i : Nat} (h : i < 9223372036854775807) : wrap64 ((i : Int) + 1) = ((i + 1 : Nat) : Int) := by unfold wrap64; omega
theorem rd_get (l : List Int) (i : Nat) (h : i < l.length) : rd l (i : Int) = l[i] := by simp [rd, List.getD_eq_getElem?_getD, List.getElem?_eq_getElem h]
theorem right_go (sc : List Int) (n : Int) (hl : sc.length ≤ 9223372036854775806) : ∀ (m i : Nat), i + m = sc.length →
    Ev fun k => curtilageref14_Right.l0 k sc n (i : Int) = some (decide ((∀ x ∈ sc.drop i, 0 ≤ x ∧ x < n) ∧ sc.length ≤ 40))
  | 0, i, hm => Ev.one fun k => by
    rw [curtilageref14_Right.l0, if_neg (by omega), List.drop_eq_nil_of_le (by omega)]
    congr 1
    apply decide_eq_decide.2
    exact ⟨fun h => ⟨fun x hx => absurd hx List.not_mem_nil, by omega⟩, fun h => by have := h.2; omega⟩
  | m + 1, i, hm => by
    have hlt : i < sc.length := by omega
    by_cases hb : 0 ≤ sc[i] ∧ sc[i] < n
    · refine (right_go sc n hl m (i + 1) (by omega)).step fun k hk => ?_
      have hd : List.drop i sc = sc[i] :: List.drop (i + 1) sc := List.drop_eq_getElem_cons hlt
      rw [curtilageref14_Right.l0, if_pos (by omega), if_pos (by omega), rd_get _ _ hlt, if_neg (by omega), if_neg (by omega), wrap_s (by omega), hk, hd]
      congr 1
      apply decide_eq_decide.2
      refine ⟨fun h => ⟨fun x hx => ?_, h.2⟩, fun h => ⟨fun x hx => h.1 x (List.mem_cons_of_mem _ hx), h.2⟩⟩
      rcases List.mem_cons.1 hx with e | e
      · rw [e]; exact hb
      · exact h.1 x e
    · refine Ev.one fun k => ?_
      have hf : decide ((∀ x ∈ sc.drop i, 0 ≤ x ∧ x < n) ∧ sc.length ≤ 40) = false := by
        apply decide_eq_false
        intro hh
        exact hb (hh.1 _ (by rw [List.drop_eq_getElem_cons hlt]; exact List.mem_cons_self))
      rw [curtilageref14_Right.l0, if_pos (by omega), if_pos (by omega), rd_get _ _ hlt, hf]
      by_cases h1 : sc[i] < 0
      · rw [if_pos h1]
      · rw [if_neg h1, if_pos (by omega)]
def rightB (sc : List Int) (n : Nat) : Bool := decide ((∀ x ∈ sc, 0 ≤ x ∧ x < (n : Int)) ∧ sc.length ≤ 40)
theorem right_ev (sc : List Int) (n : Nat) (hl : sc.length ≤ 9223372036854775806) : Ev fun k => curtilageref14_Right.f k sc (n : Int) = some (rightB sc n) :=
  (right_go sc n hl sc.length 0 (by omega)).map fun k hk => hk
theorem right_of {sc : List Int} {l : List S39} (h : rightB sc l.length = true) : In_ l sc ∧ sc.length ≤ 40 := by
  have h2 : (∀ x ∈ sc, 0 ≤ x ∧ x < (l.length : Int)) ∧ sc.length ≤ 40 := of_decide_eq_true h
  exact h2
def ObjOk (o : S39) : Prop := o.f3.length ≤ 40 ∧ ∀ s ∈ o.f3, SymOk s
theorem short_in (l : List S39) (i : Nat) (hi : i < l.length) (hs : (ob l i).f3.length ≤ 40) (hil : i < 9223372036854775806)
    (hnext : ∃ b, (Ev fun k => curtilageref14_Short.l0 k l ((i + 1 : Nat) : Int) = some b) ∧ (b = true → ∀ j, i < j → j < l.length → ObjOk (ob l j))) : ∀ (m j : Nat), j + m = (ob l i).f3.length → (∀ t, t < j → SymOk (nm (ob l i).f3 t)) →
    ∃ b, (Ev fun k => curtilageref14_Short.l1 k l (i : Int) (j : Int) = some b) ∧ (b = true → ∀ j, i ≤ j → j < l.length → ObjOk (ob l j))
  | 0, j, hm, hb => by
    obtain ⟨b, h1, h2⟩ := hnext
    refine ⟨b, h1.step fun k hk => ?_, fun hb' t h3 h4 => ?_⟩
    · have e : ((rd_T39 l (i : Int)).f3).length = j := by have : ((ob l i).f3).length = j := by omega
                                                          exact this
      rw [curtilageref14_Short.l1, if_pos (by omega), if_pos (by omega), if_neg (by rw [e]; omega), wrap_s (by omega)]
      exact hk
    · by_cases e : t = i
      · subst e
        refine ⟨hs, fun s hs' => ?_⟩
        obtain ⟨u, hu, rfl⟩ := List.getElem_of_mem hs'
        have := hb u (by omega)
        have e2 : nm (ob l t).f3 u = (ob l t).f3[u] := by unfold nm rd_T42; rw [Int.toNat_natCast, List.getD_eq_getElem?_getD, List.getElem?_eq_getElem hu]; rfl
        rw [e2] at this; exact this
      · exact h2 hb' t (by omega) h4
  | m + 1, j, hm, hb => by
    have hj : j < (ob l i).f3.length := by omega
    have e1 : rd_T42 (rd_T39 l (i : Int)).f3 (j : Int) = nm (ob l i).f3 j := rfl
    have e2 : (rd_T39 l (i : Int)).f3 = (ob l i).f3 := rfl
    by_cases hok : SymOk (nm (ob l i).f3 j)
    · obtain ⟨b, h1, h2⟩ := short_in l i hi hs hil hnext m (j + 1) (by omega) (fun t ht => by
        by_cases e : t = j
        · subst e; exact hok
        · exact hb t (by omega))
      refine ⟨b, h1.step fun k hk => ?_, h2⟩
      obtain ⟨q1, q2, q3, q4, q5⟩ := hok
      rw [curtilageref14_Short.l1, if_pos (by omega), if_pos (by omega), e1, e2, if_pos (by omega), if_pos (by omega), if_neg (by omega), if_neg (by omega), if_neg (by omega), if_neg (by omega), if_neg (by omega), wrap_s (by omega)]
      exact hk
    · refine ⟨false, Ev.one fun k => ?_, fun h => by cases h⟩
      rw [curtilageref14_Short.l1, if_pos (by omega), if_pos (by omega), e1, e2, if_pos (by omega), if_pos (by omega)]
      unfold SymOk at hok
      by_cases q1 : (nm (ob l i).f3 j).f5 < 1
      · rw [if_pos q1]
      rw [if_neg q1]
      by_cases q2 : (nm (ob l i).f3 j).f5 > 3
      · rw [if_pos q2]
      rw [if_neg q2]
      by_cases q3 : (nm (ob l i).f3 j).f6 < 1
      · rw [if_pos q3]
      rw [if_neg q3]
      by_cases q4 : (nm (ob l i).f3 j).f6 > 2
      · rw [if_pos q4]
      rw [if_neg q4, if_pos (by omega)]
theorem short_go (l : List S39) (hl : l.length ≤ 10) : ∀ (m i : Nat), i + m = l.length →
    ∃ b, (Ev fun k => curtilageref14_Short.l0 k l (i : Int) = some b) ∧ (b = true → ∀ j, i ≤ j → j < l.length → ObjOk (ob l j))
  | 0, i, hm => ⟨true, Ev.one fun k => by rw [curtilageref14_Short.l0, if_neg (by omega)], fun _ j h1 h2 => by omega⟩
  | m + 1, i, hm => by
    have e2 : (rd_T39 l (i : Int)).f3 = (ob l i).f3 := rfl
    by_cases hs : (ob l i).f3.length ≤ 40
    · obtain ⟨b, h1, h2⟩ := short_in l i (by omega) hs (by omega) (by
        obtain ⟨b, h1, h2⟩ := short_go l hl m (i + 1) (by omega)
        exact ⟨b, h1, fun hb j h3 h4 => h2 hb j h3 h4⟩) (ob l i).f3.length 0 (by omega) (fun t ht => by omega)
      refine ⟨b, h1.step fun k hk => ?_, h2⟩
      rw [curtilageref14_Short.l0, if_pos (by omega), if_pos (by omega), e2, if_neg (by omega)]
      exact hk
    · exact ⟨false, Ev.one fun k => by rw [curtilageref14_Short.l0, if_pos (by omega), if_pos (by omega), e2, if_pos (by omega)], fun h => by cases h⟩
theorem short_ev (l : List S39) : ∃ b, (Ev fun k => curtilageref14_Short.f k l = some b) ∧ (b = true → Few l) := by
  by_cases hl : l.length ≤ 10
  · obtain ⟨b, h1, h2⟩ := short_go l hl l.length 0 (by omega)
    refine ⟨b, h1.map fun k hk => ?_, fun hb => ⟨hl, fun i h3 h4 => ?_, fun i h3 h4 => ?_⟩⟩
    · unfold curtilageref14_Short.f
      rw [if_neg (by omega)]; exact hk
    · obtain ⟨i, rfl⟩ := Int.eq_ofNat_of_zero_le h3
      exact (h2 hb i (by omega) (by omega)).1
    · obtain ⟨i, rfl⟩ := Int.eq_ofNat_of_zero_le h3
      exact (h2 hb i (by omega) (by omega)).2
  · refine ⟨false, Ev.all fun k => ?_, fun h => by cases h⟩
    unfold curtilageref14_Short.f
    rw [if_pos (by omega)]
theorem fst1_spec (p : Nat → Bool) : ∀ m i, (fst1 p m i = 0 ∧ ∀ j, i ≤ j → j < i + m → p j = false) ∨ (∃ t, fst1 p m i = t + 1 ∧ i ≤ t ∧ t < i + m ∧ p t = true)
  | 0, i => Or.inl ⟨rfl, fun j h1 h2 => by omega⟩
  | m + 1, i => by
    rw [fst1_succ]
    by_cases hp : p i = true
    · exact Or.inr ⟨i, by rw [if_pos hp], Nat.le_refl _, by omega, hp⟩
    · rw [if_neg hp]
      rcases fst1_spec p m (i + 1) with ⟨h1, h2⟩ | ⟨t, h1, h2, h3, h4⟩
      · refine Or.inl ⟨h1, fun j h3 h4 => ?_⟩
        by_cases e : j = i
        · subst e; exact Bool.eq_false_iff.2 hp
        · exact h2 j (by omega) (by omega)
      · exact Or.inr ⟨t, h1, by omega, by omega, h4⟩
theorem found_spec (l : List S42) (a v : ByteArray) : (foundAt l a v = -1 ∧ ∀ j, j < l.length → isIt l a v j = false) ∨ (∃ t : Nat, t < l.length ∧ foundAt l a v = (t : Int) ∧ isIt l a v t = true) := by
  unfold foundAt
  rcases fst1_spec (isIt l a v) l.length 0 with ⟨h1, h2⟩ | ⟨t, h1, h2, h3, h4⟩
  · exact Or.inl ⟨by rw [h1]; rfl, fun j hj => h2 j (by omega) (by omega)⟩
  · exact Or.inr ⟨t, by omega, by rw [h1]; omega, h4⟩
def inF (l : List S39) (a v : ByteArray) : List Int → Int × Int
  | [] => (-1, -1)
  | i :: is => if 0 ≤ foundAt (sy l i) a v then (i, foundAt (sy l i) a v) else inF l a v is
theorem one_ev {l : List S39} (h : Few l) (a v : ByteArray) (ha : a.size ≤ 140737488351232) {i : Int} (h0 : 0 ≤ i) (h1 : i < l.length) : Ev fun k => lookup_In.one k l a v i = some (foundAt (sy l i) a v) := by
  obtain ⟨b, c, hm, T⟩ := make_ok (sy l i) 8 (by omega) (by omega) (h.syms i h0 h1) (h.names h0 h1)
  refine (find_is (sy l i) 8 (by omega) (by omega) b c T (h.syms i h0 h1) a v ha).map fun k hk => ?_
  unfold lookup_In.one
  rw [if_pos h0, if_pos h1, show (rd_T39 l i).f3 = sy l i from rfl, show (8 : Int) = ((8 : Nat) : Int) from rfl, hm, Option.bind_some]
  exact hk
theorem in_ev {l : List S39} (h : Few l) (a v : ByteArray) (ha : a.size ≤ 140737488351232) : ∀ sc : List Int, In_ l sc → Ev fun k => lookup_In.f k l sc a v = some (inF l a v sc)
  | [], _ => Ev.all fun k => rfl
  | i :: is, hs => by
    have hi := hs i List.mem_cons_self
    refine ((one_ev h a v ha hi.1 hi.2).and (in_ev h a v ha is (fun j hj => hs j (List.mem_cons_of_mem _ hj)))).map fun k ⟨h1, h2⟩ => ?_
    unfold lookup_In.f at h2 ⊢
    rw [lookup_In.l0, h1, Option.bind_some, inF, h2]
    split <;> rfl
theorem inF_spec {l : List S39} (a v : ByteArray) : ∀ sc : List Int, (inF l a v sc = (-1, -1) ∧ ∀ i ∈ sc, foundAt (sy l i) a v = -1) ∨ (∃ i ∈ sc, ∃ t : Nat, inF l a v sc = (i, (t : Int)) ∧ t < (sy l i).length ∧ isIt (sy l i) a v t = true)
  | [] => Or.inl ⟨rfl, fun i hi => by cases hi⟩
  | i :: is => by
    rw [inF]
    rcases found_spec (sy l i) a v with ⟨h1, _⟩ | ⟨t, h1, h2, h3⟩
    · rw [h1, if_neg (by omega)]
      rcases inF_spec a v is with ⟨h2, h3⟩ | ⟨j, hj, t, h2, h3, h4⟩
      · exact Or.inl ⟨h2, fun j hj => by
          rcases List.mem_cons.1 hj with e | e
          · rw [e]; exact h1
          · exact h3 j e⟩
      · exact Or.inr ⟨j, List.mem_cons_of_mem _ hj, t, h2, h3, h4⟩
    · rw [h2, if_pos (by omega)]
      exact Or.inr ⟨i, List.mem_cons_self, t, rfl, h1, h3⟩
def isNamed (a : ByteArray) (s : S42) : Bool := symShown s && decide (s.f0.toList = a.toList)
def knownB (l : List S39) (a : ByteArray) (sc : List Int) : Bool := sc.any fun i => (sy l i).any (isNamed a)
theorem isIt_named (l : List S42) (a : ByteArray) (i : Nat) : isIt l a (⟨#[]⟩ : ByteArray) i = isNamed a (nm l i) := by
  unfold isIt isNamed sh
  have : decide ((⟨#[]⟩ : ByteArray).toList = []) = true := by rw [decide_eq_true_iff, ByteArray.toList_eq]
  rw [this]; simp
theorem known_found (ss : List S42) (a : ByteArray) : decide (0 ≤ foundAt ss a (⟨#[]⟩ : ByteArray)) = ss.any (isNamed a) := by
  rcases found_spec ss a (⟨#[]⟩ : ByteArray) with ⟨h1, h2⟩ | ⟨t, h1, h2, h3⟩
  · rw [h1, show decide ((0 : Int) ≤ -1) = false by decide]
    symm
    rw [List.any_eq_false]
    intro s hs
    obtain ⟨j, hj, rfl⟩ := List.getElem_of_mem hs
    have := h2 j hj
    rw [isIt_named] at this
    have e : nm ss j = ss[j] := by unfold nm rd_T42; rw [Int.toNat_natCast, List.getD_eq_getElem?_getD, List.getElem?_eq_getElem hj]; rfl
    rw [e] at this; rw [this]; simp
  · rw [h2, show decide ((0 : Int) ≤ (t : Int)) = true by rw [decide_eq_true_iff]; omega]
    symm
    rw [List.any_eq_true]
    exact ⟨_, nm_mem ss t h1, by rw [← isIt_named]; exact h3⟩
theorem known_inF {l : List S39} (a : ByteArray) : ∀ {sc : List Int}, In_ l sc → decide ((inF l a (⟨#[]⟩ : ByteArray) sc).1 ≥ 0) = knownB l a sc
  | [], _ => by rfl
  | i :: is, hs => by
    have e := known_found (sy l i) a
    unfold knownB
    rw [List.any_cons, ← e, inF]
    by_cases q : 0 ≤ foundAt (sy l i) a (⟨#[]⟩ : ByteArray)
    · rw [if_pos q, decide_eq_true q, Bool.true_or]
      exact decide_eq_true (hs i List.mem_cons_self).1
    · rw [if_neg q, decide_eq_false q, Bool.false_or]
      exact known_inF a (fun j hj => hs j (List.mem_cons_of_mem _ hj))
theorem lknown_ev {l : List S39} (h : Few l) (sc : List Int) (hs : In_ l sc) (a : ByteArray) (ha : a.size ≤ 140737488351232) : Ev fun k => lookup_Known.f k l sc a = some (knownB l a sc) :=
  (in_ev h a (⟨#[]⟩ : ByteArray) ha sc hs).map fun k hk => by
    unfold lookup_Known.f
    rw [hk, Option.bind_some, known_inF a hs]
def bindF (l : List S39) (sc : List Int) (obj sym : Int) (s : S42) : Int × Int × Int :=
  if (s.f7 && !(symShown s)) = true then (obj, sym, 0)
  else if 0 ≤ (inF l s.f0 s.f1 sc).1 then ((inF l s.f0 s.f1 sc).1, (inF l s.f0 s.f1 sc).2, 0)
  else if s.f7 = true then (obj, sym, 0)
  else if s.f5 = 3 then (-1, -1, 0)
  else if s.f1.toList = ([] : List UInt8) then (0, 0, 140)
  else if knownB l s.f0 sc = true then (0, 0, 141) else (0, 0, 140)
theorem bind_ev {l : List S39} (h : Few l) (sc : List Int) (hs : In_ l sc) (obj sym : Int) (h0 : 0 ≤ obj) (h1 : obj < l.length) (h2 : 0 ≤ sym) (h3 : sym < (sy l obj).length) :
    Ev fun k => lookup_Bind.f k l sc obj sym = some (bindF l sc obj sym (rd_T42 (sy l obj) sym)) := by
  have hok : SymOk (rd_T42 (sy l obj) sym) := by
    obtain ⟨j, rfl⟩ := Int.eq_ofNat_of_zero_le h2
    exact h.ok obj h0 h1 _ (nm_mem _ j (by omega))
  have e3 : sym < (((rd_T39 l obj).f3).length : Int) := h3
  have e4 : rd_T42 ((rd_T39 l obj).f3) sym = rd_T42 (sy l obj) sym := rfl
  generalize rd_T42 (sy l obj) sym = s at *
  obtain ⟨q1, q2, q3, q4, q5⟩ := hok
  have hrest : ∀ b : Bool, b = (s.f7 && !(symShown s)) → Ev fun k => lookup_Bind.j0 k l sc obj sym b s.f0 s.f1 s.f2 s.f3 s.f4 s.f5 s.f6 s.f7 = some (bindF l sc obj sym s) := by
    rintro b rfl
    refine ((in_ev h s.f0 s.f1 (by omega) sc hs).and (lknown_ev h sc hs s.f0 (by omega))).step fun k ⟨hi, hk⟩ => ?_
    rw [lookup_Bind.j0, bindF]
    by_cases c1 : (s.f7 && !(symShown s)) = true
    · rw [if_pos c1, if_pos c1]
    rw [if_neg c1, if_neg c1, hi, Option.bind_some, hk]
    by_cases c2 : 0 ≤ (inF l s.f0 s.f1 sc).1
    · rw [if_pos c2, if_pos c2]
    rw [if_neg c2, if_neg c2]
    by_cases c3 : s.f7 = true
    · rw [if_pos c3, if_pos c3]
    rw [if_neg c3, if_neg c3]
    by_cases c4 : s.f5 = 3
    · rw [if_pos c4, if_pos c4]
    rw [if_neg c4, if_neg c4]
    by_cases c5 : s.f1.toList = ([] : List UInt8)
    · rw [if_pos c5, if_pos c5]
    rw [if_neg c5, if_neg c5, Option.bind_some]
    by_cases c6 : knownB l s.f0 sc = true
    · rw [if_pos c6, if_pos c6]
    · rw [if_neg c6, if_neg c6]
  refine (hrest _ rfl).map fun k hk => ?_
  unfold lookup_Bind.f
  rw [if_pos h0, if_pos h1, if_pos h2, if_pos e3, e4]
  by_cases c1 : s.f7 = true
  · rw [if_pos c1, shown_is', Option.bind_some]
    rw [c1, Bool.true_and] at hk
    rw [c1]
    exact hk
  · rw [if_neg c1]
    rw [Bool.eq_false_iff.2 c1, Bool.false_and] at hk
    rw [Bool.eq_false_iff.2 c1]
    exact hk
end Go.Proofs.Ytoakeildgpeffaa.Pure
