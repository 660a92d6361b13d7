/- What the document's check of an object answers, for every object, and what holds of an object that is right (symbols, relocations, lists). No condition. -/
import Derived.Test.YtlbfeklpncoccaaKTableLessChk
namespace Go.Proofs.Ytlbfeklpncoccaa.Pure
open Go.RowKit Go.Proofs.Ytlbfeklpncoccaa.P Go.Proofs.YtlbfeklpncoccaaW.PrintWords Go.Proofs.YtlbfeklpncoccaaW.PrintLast
set_option linter.unusedVariables false
set_option linter.unusedSimpArgs false
section
variable (a : ByteArray) (l1 : List ByteArray) (l2 : List S67) (l3 : List S35) (l4 : List S72) (l5 l6 : List Int)
theorem firstOf_range {α : Type} (p : α → Bool) (l : List α) : firstOf p l < l.length ∧ -1 ≤ firstOf p l := by
  unfold firstOf
  split
  · constructor
    · omega
    · omega
  · rename_i i h
    have := (List.findIdx?_eq_some_iff_getElem.1 h).1
    omega
/-- What holds of a symbol that is right and defined: a segment has its bytes; a function's may run. -/
def SymOK (l2 : List S67) (s : S35) : Prop := 0 ≤ firstOf (inSeg s.f2 s.f3) l2 ∧ (s.f4 = 1 → 4 ≤ (rd_T67 l2 (firstOf (inSeg s.f2 s.f3) l2)).f2)
theorem symbol_ev (h2 : l2.length ≤ 9223372036854775807) (s : S35) (hs : ok35 s) : ∃ r, (∃ K, ∀ k, K ≤ k → curtilageref10_symbol.f k a l1 l2 l3 l4 l5 l6 s.f0 s.f1 s.f2 s.f3 s.f4 s.f5 s.f6 s.f7 = some r) ∧ (r = true → s.f7 = true → SymOK l2 s) := by
  obtain ⟨r1, K1, n1⟩ := name_ev s.f0 hs.1
  obtain ⟨r2, K2, n2⟩ := name_ev s.f1 hs.2.1
  obtain ⟨K3, at_⟩ := at_ev a l1 l2 l3 l4 l5 l6 s.f2 s.f3 h2
  have rg := firstOf_range (inSeg s.f2 s.f3) l2
  have J2 : ∀ k, K3 ≤ k → ∀ b, ∃ r, curtilageref10_symbol.j2 (k + 1) b a l1 l2 l3 l4 l5 l6 s.f0 s.f1 s.f2 s.f3 s.f4 s.f5 s.f6 s.f7 = some r ∧ (r = true → s.f7 = true → SymOK l2 s) := by
    intro k hk b
    rw [curtilageref10_symbol.j2, at_ k hk]
    simp only [Option.bind_some]
    split
    · exact ⟨false, rfl, by simp⟩
    split
    · split
      · exact ⟨false, rfl, by simp⟩
      · rw [if_pos (by omega), if_pos rg.1]
        repeat' split
        all_goals first | exact ⟨_, rfl, fun _ _ => ⟨by omega, fun _ => by omega⟩⟩ | exact ⟨false, rfl, by simp⟩
    · rename_i hf
      repeat' split
      all_goals exact ⟨_, rfl, fun _ h => absurd h hf⟩
  have J1 : ∀ k, K3 ≤ k → ∀ b, ∃ r, curtilageref10_symbol.j1 (k + 2) b a l1 l2 l3 l4 l5 l6 s.f0 s.f1 s.f2 s.f3 s.f4 s.f5 s.f6 s.f7 = some r ∧ (r = true → s.f7 = true → SymOK l2 s) := by
    intro k hk b
    rw [curtilageref10_symbol.j1]
    repeat' split
    all_goals first | exact ⟨false, rfl, by simp⟩ | exact J2 k hk _
  have J0 : ∀ k, K3 ≤ k → ∀ b c, ∃ r, curtilageref10_symbol.j0 (k + 3) b c a l1 l2 l3 l4 l5 l6 s.f0 s.f1 s.f2 s.f3 s.f4 s.f5 s.f6 s.f7 = some r ∧ (r = true → s.f7 = true → SymOK l2 s) := by
    intro k hk b c
    rw [curtilageref10_symbol.j0]
    split
    · exact J1 k hk _
    · exact J1 k hk _
  have : ∃ r, curtilageref10_symbol.f (K1 + K2 + K3 + 3) a l1 l2 l3 l4 l5 l6 s.f0 s.f1 s.f2 s.f3 s.f4 s.f5 s.f6 s.f7 = some r ∧ (r = true → s.f7 = true → SymOK l2 s) := by
    unfold curtilageref10_symbol.f
    rw [n1 _ (by omega), n2 _ (by omega)]
    simp only [Option.bind_some]
    split
    · exact J0 (K1 + K2 + K3) (by omega) _ _
    · exact J0 (K1 + K2 + K3) (by omega) _ _
  obtain ⟨r, h, hr⟩ := this
  exact ⟨r, Ev.of (fun k => curtilageref10_symbol.mono _ _ _ _ _ _ _ _ _ _ _ _ _ _ _ k) h, hr⟩

theorem room_some {i : Int} (h0 : 0 ≤ i) (h : i < l3.length) : ∃ r, curtilageref10_Room.f a l1 l2 l3 l4 l5 l6 i = some r := by
  unfold curtilageref10_Room.f
  rw [if_pos h0, if_pos h]
  split <;> exact ⟨_, rfl⟩
/-- Each relocation is of a symbol that there is. -/
def RelOK (l3 : List S35) (l4 : List S72) : Prop := ∀ j : Int, 0 ≤ j → j < l4.length → 0 ≤ (rd_T72 l4 j).f1 ∧ (rd_T72 l4 j).f1 < l3.length
theorem relocs_go (h2 : l2.length ≤ 9223372036854775807) (h4 : l4.length ≤ 9223372036854775807) : ∀ (d : Nat) (i : Int), 0 ≤ i → i + d = l4.length → (∀ j : Int, 0 ≤ j → j < i → 0 ≤ (rd_T72 l4 j).f1 ∧ (rd_T72 l4 j).f1 < l3.length) → ∃ k r, curtilageref10_relocs.l0 k i a l1 l2 l3 l4 l5 l6 = some r ∧ (r = true → RelOK l3 l4) := by
  intro d
  induction d with
  | zero => intro i h0 hi hb; exact ⟨1, true, by rw [curtilageref10_relocs.l0, if_neg (by omega)], fun _ j hj0 hj => hb j hj0 (by omega)⟩
  | succ d ih =>
    intro i h0 hi hb
    have hil : i < l4.length := by omega
    generalize hx : rd_T72 l4 i = x at *
    have bad : ∀ k, curtilageref10_relocs.j1 (k + 1) i true a l1 l2 l3 l4 l5 l6 x.f0 x.f1 = some false := fun k => by rw [curtilageref10_relocs.j1, if_pos rfl]
    by_cases c1 : Int.tmod x.f0 32 = 0
    · by_cases c2 : x.f1 < 0
      · exact ⟨2, false, by rw [curtilageref10_relocs.l0, if_pos hil, if_pos h0, hx, if_pos c1, if_pos c2]; exact bad 0, by simp⟩
      by_cases c3 : x.f1 ≥ (l3.length : Int)
      · exact ⟨2, false, by rw [curtilageref10_relocs.l0, if_pos hil, if_pos h0, hx, if_pos c1, if_neg c2, decide_eq_true c3]; exact bad 0, by simp⟩
      obtain ⟨k, r, h, hr⟩ := ih (i + 1) (by omega) (by omega) (fun j hj0 hj => by
        by_cases e : j = i
        · rw [e, hx]; omega
        · exact hb j hj0 (by omega))
      obtain ⟨n, hn⟩ := room_some a l1 l2 l3 l4 l5 l6 (i := x.f1) (by omega) (by omega)
      obtain ⟨K3, at_⟩ := at_ev a l1 l2 l3 l4 l5 l6 x.f0 n h2
      have rg := firstOf_range (inSeg x.f0 n) l2
      have m1 : curtilageref10_relocs.l0 (k + K3) (i + 1) a l1 l2 l3 l4 l5 l6 = some r :=
        at_rounds (g := fun k => curtilageref10_relocs.l0 k (i + 1) a l1 l2 l3 l4 l5 l6) (fun k => (curtilageref10_relocs.mono_l k).1 _ _ _ _ _ _ _ _) (Nat.le_add_right _ _) h
      have J2 : ∀ b, ∃ r, curtilageref10_relocs.j2 (k + K3 + 1) i b a l1 l2 l3 l4 l5 l6 x.f0 x.f1 = some r ∧ (r = true → RelOK l3 l4) := by
        intro b
        rw [curtilageref10_relocs.j2, hn]
        simp only [Option.bind_some]
        rw [at_ _ (by omega)]
        simp only [Option.bind_some]
        rw [wrap_up h0 (by omega)]
        split
        · exact ⟨_, rfl, by simp⟩
        split
        · exact ⟨_, rfl, by simp⟩
        rw [if_pos (by omega), if_pos rg.1]
        split
        · exact ⟨_, m1, hr⟩
        split
        · exact ⟨_, m1, hr⟩
        · exact ⟨_, rfl, by simp⟩
      have J1 : ∃ r, curtilageref10_relocs.j1 (k + K3 + 2) i false a l1 l2 l3 l4 l5 l6 x.f0 x.f1 = some r ∧ (r = true → RelOK l3 l4) := by
        rw [curtilageref10_relocs.j1, if_neg (by simp)]
        split
        · rename_i c9
          have P := hb (i - 1) (by omega) (by omega)
          obtain ⟨m, hm⟩ := room_some a l1 l2 l3 l4 l5 l6 P.1 P.2
          rw [wrap_down (by omega) (by omega), if_pos (by omega), if_pos (by omega), hm]
          simp only [Option.bind_some]
          exact J2 _
        · exact J2 _
      obtain ⟨r', h', hr'⟩ := J1
      exact ⟨k + K3 + 3, r', by rw [curtilageref10_relocs.l0, if_pos hil, if_pos h0, hx, if_pos c1, if_neg c2, decide_eq_false c3]; exact h', hr'⟩
    · exact ⟨2, false, by rw [curtilageref10_relocs.l0, if_pos hil, if_pos h0, hx, if_neg c1]; exact bad 0, by simp⟩
theorem relocs_ev (h2 : l2.length ≤ 9223372036854775807) (h4 : l4.length ≤ 9223372036854775807) : ∃ r, (∃ K, ∀ k, K ≤ k → curtilageref10_relocs.f k a l1 l2 l3 l4 l5 l6 = some r) ∧ (r = true → RelOK l3 l4) := by
  obtain ⟨k, r, h, hr⟩ := relocs_go a l1 l2 l3 l4 l5 l6 h2 h4 l4.length 0 (by omega) (by omega) (fun j h0 h => by omega)
  exact ⟨r, Ev.of (fun k => curtilageref10_relocs.mono _ _ _ _ _ _ _ k) (k := k) h, hr⟩

theorem lists_go (l : List Int) (hl : l.length ≤ 9223372036854775807) : ∀ (d : Nat) (i : Int), 0 ≤ i → i + d = l.length → ∃ k r, curtilageref10_lists.l0 k l i a l1 l2 l3 l4 l5 l6 = some r := by
  intro d
  induction d with
  | zero => intro i h0 hi; exact ⟨1, true, by rw [curtilageref10_lists.l0, if_neg (by omega)]⟩
  | succ d ih =>
    intro i h0 hi
    have hil : i < l.length := by omega
    obtain ⟨k, r, h⟩ := ih (i + 1) (by omega) (by omega)
    have bad : ∀ k, curtilageref10_lists.j1 (k + 1) l i true a l1 l2 l3 l4 l5 l6 = some false := fun k => by rw [curtilageref10_lists.j1, if_pos rfl]
    by_cases c1 : rd l i < 0
    · exact ⟨2, false, by rw [curtilageref10_lists.l0, if_pos hil, if_pos h0, if_pos c1]; exact bad 0⟩
    by_cases c2 : rd l i ≥ (l3.length : Int)
    · exact ⟨2, false, by rw [curtilageref10_lists.l0, if_pos hil, if_pos h0, if_neg c1, decide_eq_true c2]; exact bad 0⟩
    have J1 : ∃ r, curtilageref10_lists.j1 (k + 1) l i false a l1 l2 l3 l4 l5 l6 = some r := by
      rw [curtilageref10_lists.j1, if_neg (by simp), if_pos h0, if_pos hil, if_pos (by omega), if_pos (by omega), wrap_up h0 (by omega)]
      repeat' split
      all_goals first | exact ⟨_, h⟩ | exact ⟨_, rfl⟩
    obtain ⟨r', h'⟩ := J1
    exact ⟨k + 2, r', by rw [curtilageref10_lists.l0, if_pos hil, if_pos h0, if_neg c1, decide_eq_false c2]; exact h'⟩
theorem lists_ev (l : List Int) (hl : l.length ≤ 9223372036854775807) : ∃ r K, ∀ k, K ≤ k → curtilageref10_lists.f k a l1 l2 l3 l4 l5 l6 l = some r := by
  obtain ⟨k, r, h⟩ := lists_go a l1 l2 l3 l4 l5 l6 l hl l.length 0 (by omega) (by omega)
  exact ⟨r, Ev.of (fun k => curtilageref10_lists.mono _ _ _ _ _ _ _ _ k) (k := k) h⟩

structure ObjOK (l2 : List S67) (l3 : List S35) : Prop where
  segs : ∀ j : Int, 0 ≤ j → j < l2.length → SegOK (rd_T67 l2 j)
  syms : ∀ j : Int, 0 ≤ j → j < l3.length → (rd_T35 l3 j).f7 = true → SymOK l2 (rd_T35 l3 j)
theorem check_go (h2 : l2.length ≤ 9223372036854775807) (h3 : l3.length ≤ 9223372036854775807) (h4 : l4.length ≤ 9223372036854775807) (h5 : l5.length ≤ 9223372036854775807) (h6 : l6.length ≤ 9223372036854775807) (hw : ∀ j : Int, 0 ≤ j → j < l3.length → ok35 (rd_T35 l3 j)) :
    ∀ (d : Nat) (i : Int), 0 ≤ i → i + d = l3.length → (∀ j : Int, 0 ≤ j → j < i → (rd_T35 l3 j).f7 = true → SymOK l2 (rd_T35 l3 j)) →
    ∃ k r, curtilageref10_Check.l0 k i a l1 l2 l3 l4 l5 l6 = some r ∧ (r = 0 → RelOK l3 l4 ∧ ∀ j : Int, 0 ≤ j → j < l3.length → (rd_T35 l3 j).f7 = true → SymOK l2 (rd_T35 l3 j)) := by
  intro d
  induction d with
  | zero =>
    intro i h0 hi hb
    obtain ⟨r1, ⟨K1, e1⟩, f1⟩ := relocs_ev a l1 l2 l3 l4 l5 l6 h2 h4
    obtain ⟨r2, K2, e2⟩ := lists_ev a l1 l2 l3 l4 l5 l6 l5 h5
    obtain ⟨r3, K3, e3⟩ := lists_ev a l1 l2 l3 l4 l5 l6 l6 h6
    refine ⟨K1 + K2 + K3 + 1, ?_⟩
    rw [curtilageref10_Check.l0, if_neg (by omega), e1 _ (by omega), e2 _ (by omega), e3 _ (by omega)]
    simp only [Option.bind_some]
    repeat' split
    all_goals first | (refine ⟨_, rfl, ?_⟩; intro hc; exact absurd hc (by decide)) | (refine ⟨_, rfl, fun _ => ⟨f1 ?_, fun j hj0 hj => hb j hj0 (by omega)⟩⟩; assumption)
  | succ d ih =>
    intro i h0 hi hb
    have hil : i < l3.length := by omega
    obtain ⟨rs, ⟨Ks, es⟩, fs⟩ := symbol_ev a l1 l2 l3 l4 l5 l6 h2 (rd_T35 l3 i) (hw i h0 hil)
    cases rs with
    | false => exact ⟨Ks + 1, 106, by rw [curtilageref10_Check.l0, if_pos hil, if_pos h0, es _ (Nat.le_refl _)]; rfl, by simp⟩
    | true =>
      obtain ⟨k, r, h, hr⟩ := ih (i + 1) (by omega) (by omega) (fun j hj0 hj => by
        by_cases e : j = i
        · rw [e]; exact fs rfl
        · exact hb j hj0 (by omega))
      have m1 : curtilageref10_Check.l0 (k + Ks) (i + 1) a l1 l2 l3 l4 l5 l6 = some r :=
        at_rounds (g := fun k => curtilageref10_Check.l0 k (i + 1) a l1 l2 l3 l4 l5 l6) (fun k => (curtilageref10_Check.mono_l k).2 _ _ _ _ _ _ _ _) (Nat.le_add_right _ _) h
      refine ⟨k + Ks + 1, r, ?_, hr⟩
      rw [curtilageref10_Check.l0, if_pos hil, if_pos h0, es _ (by omega), wrap_up h0 (by omega)]
      simp only [Option.bind_some, if_true]
      exact m1
theorem rd67_mem {l : List S67} {i : Int} (h0 : 0 ≤ i) (h : i < l.length) : rd_T67 l i ∈ l := by
  obtain ⟨j, rfl⟩ : ∃ j : Nat, i = j := ⟨i.toNat, by omega⟩
  simp only [rd_T67, Int.toNat_natCast, List.getD_eq_getElem?_getD, List.getElem?_eq_getElem (show j < l.length by omega), Option.getD_some]
  exact List.getElem_mem _
theorem rd35_mem {l : List S35} {i : Int} (h0 : 0 ≤ i) (h : i < l.length) : rd_T35 l i ∈ l := by
  obtain ⟨j, rfl⟩ : ∃ j : Nat, i = j := ⟨i.toNat, by omega⟩
  simp only [rd_T35, Int.toNat_natCast, List.getD_eq_getElem?_getD, List.getElem?_eq_getElem (show j < l.length by omega), Option.getD_some]
  exact List.getElem_mem _
end
theorem check_ev (o : S28) (ho : ok28 o) : ∃ r, (∃ K, ∀ k, K ≤ k → curtilageref10_Check.f k o.f0 o.f1 o.f2 o.f3 o.f4 o.f5 o.f6 = some r) ∧ (r = 0 → ObjOK o.f2 o.f3 ∧ RelOK o.f3 o.f4) := by
  obtain ⟨ha, ⟨h1, _, w1⟩, ⟨h2, _, w2⟩, ⟨h3, _, w3⟩, ⟨h4, _, _⟩, ⟨h5, _, _⟩, h6, _, _⟩ := ho
  obtain ⟨rn, Kn, en⟩ := names_ev o.f0 o.f1 o.f2 o.f3 o.f4 o.f5 o.f6 ha h1 w1
  obtain ⟨rs, ⟨Ks, es⟩, fs⟩ := segs_ev o.f2 h2 (fun j h0 h => w2 _ (rd67_mem h0 h))
  obtain ⟨k, r, h, hr⟩ := check_go o.f0 o.f1 o.f2 o.f3 o.f4 o.f5 o.f6 h2 h3 h4 h5 h6 (fun j h0 h => w3 _ (rd35_mem h0 h)) o.f3.length 0 (by omega) (by omega) (fun j h0 h => by omega)
  have m1 : curtilageref10_Check.l0 (k + Kn + Ks) 0 o.f0 o.f1 o.f2 o.f3 o.f4 o.f5 o.f6 = some r :=
    at_rounds (g := fun k => curtilageref10_Check.l0 k 0 o.f0 o.f1 o.f2 o.f3 o.f4 o.f5 o.f6) (fun k => (curtilageref10_Check.mono_l k).2 _ _ _ _ _ _ _ _) (by omega) h
  have J : ∀ b, ∃ r, curtilageref10_Check.j0 (k + Kn + Ks + 1) b o.f0 o.f1 o.f2 o.f3 o.f4 o.f5 o.f6 = some r ∧ (r = 0 → ObjOK o.f2 o.f3 ∧ RelOK o.f3 o.f4) := by
    intro b
    rw [curtilageref10_Check.j0]
    split
    · exact ⟨_, rfl, by simp⟩
    rw [es _ (by omega)]
    simp only [Option.bind_some]
    split
    · rename_i hrs
      exact ⟨r, m1, fun h0 => ⟨⟨fs hrs, (hr h0).2⟩, (hr h0).1⟩⟩
    · exact ⟨_, rfl, by simp⟩
  have : ∃ r, curtilageref10_Check.f (k + Kn + Ks + 1) o.f0 o.f1 o.f2 o.f3 o.f4 o.f5 o.f6 = some r ∧ (r = 0 → ObjOK o.f2 o.f3 ∧ RelOK o.f3 o.f4) := by
    unfold curtilageref10_Check.f
    rw [en _ (by omega)]
    simp only [Option.bind_some]
    repeat' split
    all_goals first | exact J _ | exact ⟨_, rfl, by simp⟩
  obtain ⟨r', h', hr'⟩ := this
  exact ⟨r', Ev.of (fun k => curtilageref10_Check.mono _ _ _ _ _ _ _ k) h', hr'⟩
end Go.Proofs.Ytlbfeklpncoccaa.Pure
