/- What the document's check of an object answers, for every object, and what holds of an object that is right. No condition. -/
import Derived.Test.YtlbfeklpncoccaaKTableLessPx2
import Derived.Test.YtlbfeklpncoccaaKTableLessPx3
import Derived.Test.YtlbfeklpncoccaaKTableLessPx4
import Derived.Test.YtlbfeklpncoccaaKTableLessPx5
import Derived.Test.YtlbfeklpncoccaaKTableLessPx6
import Derived.Test.YtlbfeklpncoccaaKTableLessPx7
import Derived.Test.YtlbfeklpncoccaaKTableLessPx8
import Derived.Test.YtlbfeklpncoccaaKTableLessPx9
import Derived.Test.YtlbfeklpncoccaaKTableLessPx10
import Derived.Test.YtlbfeklpncoccaaKTableLessPx11
import Derived.Test.YtlbfeklpncoccaaKTableLessPx12
import Derived.Test.YtlbfeklpncoccaaKTableLessPx13
import Derived.Test.YtlbfeklpncoccaaKTableLessPx14
import Derived.Test.YtlbfeklpncoccaaKTableLessPx15
import Derived.Test.YtlbfeklpncoccaaKTableLessPx16
import Derived.Test.YtlbfeklpncoccaaKTableLessPx17
import Derived.Test.YtlbfeklpncoccaaKTableLessPOk
import Derived.DataShut
namespace Go.Proofs.Ytlbfeklpncoccaa.Pure
open Go.RowKit Go.Proofs.Ytlbfeklpncoccaa.P Go.Proofs.YtlbfeklpncoccaaW.PrintWords Go.Proofs.YtlbfeklpncoccaaW.PrintLast
set_option linter.unusedVariables false
set_option linter.unusedSimpArgs false

theorem wrap_up {i : Int} (h0 : 0 ≤ i) (h1 : i < 9223372036854775807) : wrap64 (i + 1) = i + 1 := by unfold wrap64; omega
theorem wrap_down {i : Int} (h0 : 0 < i) (h1 : i ≤ 9223372036854775807) : wrap64 (i - 1) = i - 1 := by unfold wrap64; omega
/-- With enough rounds it answers r. -/
def Ev {α : Type} (f : Nat → Option α) (r : α) : Prop := ∃ K, ∀ k, K ≤ k → f k = some r
theorem Ev.of {α : Type} {f : Nat → Option α} (hm : ∀ k, LeO (f k) (f (k + 1))) {k : Nat} {r : α} (h : f k = some r) : Ev f r :=
  ⟨k, fun j hj => at_rounds hm hj h⟩
theorem Ev.at_ {α : Type} {f : Nat → Option α} {r : α} (h : Ev f r) : ∃ k, f k = some r := let ⟨K, hK⟩ := h; ⟨K, hK K (Nat.le_refl _)⟩

theorem name_go (s : ByteArray) (hs : s.size ≤ 140737488351232) : ∀ (d : Nat) (i : Int), 0 ≤ i → i + d = s.size → ∃ k r, curtilageref10_Name.l0 k s i = some r := by
  intro d
  induction d with
  | zero =>
    intro i h0 hi
    refine ⟨1, ?_⟩
    rw [curtilageref10_Name.l0, if_neg (by omega)]
    split <;> exact ⟨_, rfl⟩
  | succ d ih =>
    intro i h0 hi
    obtain ⟨k, r, h⟩ := ih (i + 1) (by omega) (by omega)
    refine ⟨k + 1, ?_⟩
    rw [curtilageref10_Name.l0, if_pos (by omega), if_pos h0, wrap_up h0 (by omega)]
    repeat' split
    all_goals first | exact ⟨_, h⟩ | exact ⟨_, rfl⟩
theorem name_ev (s : ByteArray) (hs : s.size ≤ 140737488351232) : ∃ r K, ∀ k, K ≤ k → curtilageref10_Name.f k s = some r := by
  obtain ⟨k, r, h⟩ := name_go s hs s.size 0 (by omega) (by omega)
  exact ⟨r, Ev.of (fun k => curtilageref10_Name.mono s k) (k := k) h⟩

section
variable (a : ByteArray) (l1 : List ByteArray) (l2 : List S67) (l3 : List S35) (l4 : List S72) (l5 l6 : List Int)

theorem rdOf_mem {l : List ByteArray} {i : Int} (h0 : 0 ≤ i) (h : i < l.length) : rdOf ByteArray.empty l i ∈ l := by
  obtain ⟨j, rfl⟩ : ∃ j : Nat, i = j := ⟨i.toNat, by omega⟩
  simp only [rdOf, Int.toNat_natCast, List.getD_eq_getElem?_getD, List.getElem?_eq_getElem (show j < l.length by omega), Option.getD_some]
  exact List.getElem_mem _
theorem names_go (h1 : l1.length ≤ 9223372036854775807) (hs : ∀ z ∈ l1, z.size ≤ 140737488351232) : ∀ (d : Nat) (i : Int), 0 ≤ i → i + d = l1.length → ∃ k r, curtilageref10_names.l0 k i a l1 l2 l3 l4 l5 l6 = some r := by
  intro d
  induction d with
  | zero =>
    intro i h0 hi
    exact ⟨1, _, by rw [curtilageref10_names.l0, if_neg (by omega)]⟩
  | succ d ih =>
    intro i h0 hi
    obtain ⟨k, r, h⟩ := ih (i + 1) (by omega) (by omega)
    have inner : ∀ (c : Nat) (j : Int), 0 ≤ j → j + c = i → ∃ k r, curtilageref10_names.l1 k i j a l1 l2 l3 l4 l5 l6 = some r := by
      intro c
      induction c with
      | zero =>
        intro j hj0 hj
        exact ⟨k + 1, r, by rw [curtilageref10_names.l1, if_neg (by omega), wrap_up h0 (by omega)]; exact h⟩
      | succ c ihc =>
        intro j hj0 hj
        obtain ⟨k', r', h'⟩ := ihc (j + 1) (by omega) (by omega)
        refine ⟨k' + 1, ?_⟩
        rw [curtilageref10_names.l1, if_pos (by omega), if_pos (by omega), if_pos (by omega), if_pos (by omega), if_pos (by omega), wrap_up hj0 (by omega)]
        split
        · exact ⟨_, rfl⟩
        · exact ⟨_, h'⟩
    obtain ⟨k1, r1, h1'⟩ := inner i.toNat 0 (by omega) (by omega)
    obtain ⟨rn, Kn, hn⟩ := name_ev (rdOf ByteArray.empty l1 i) (hs _ (rdOf_mem h0 (by omega)))
    have m1 : curtilageref10_names.l1 (k1 + Kn) i 0 a l1 l2 l3 l4 l5 l6 = some r1 :=
      at_rounds (g := fun k => curtilageref10_names.l1 k i 0 a l1 l2 l3 l4 l5 l6) (fun k => (curtilageref10_names.mono_l k).2.2 _ _ _ _ _ _ _ _ _) (Nat.le_add_right _ _) h1'
    have j1 : ∀ b : Bool, ∃ r, curtilageref10_names.j1 (k1 + Kn + 1) i b a l1 l2 l3 l4 l5 l6 = some r := by
      intro b
      rw [curtilageref10_names.j1]
      split
      · exact ⟨_, rfl⟩
      · exact ⟨_, m1⟩
    refine ⟨k1 + Kn + 1 + 1, ?_⟩
    rw [curtilageref10_names.l0, if_pos (by omega), if_pos h0, hn _ (by omega)]
    simp only [Option.bind_some]
    split
    · exact j1 _
    · exact j1 _
theorem names_ev (ha : a.size ≤ 140737488351232) (h1 : l1.length ≤ 9223372036854775807) (hs : ∀ z ∈ l1, z.size ≤ 140737488351232) : ∃ r K, ∀ k, K ≤ k → curtilageref10_names.f k a l1 l2 l3 l4 l5 l6 = some r := by
  obtain ⟨k, r, h⟩ := names_go a l1 l2 l3 l4 l5 l6 h1 hs l1.length 0 (by omega) (by omega)
  obtain ⟨rn, Kn, hn⟩ := name_ev a ha
  have m1 : curtilageref10_names.l0 (k + Kn) 0 a l1 l2 l3 l4 l5 l6 = some r :=
    at_rounds (g := fun k => curtilageref10_names.l0 k 0 a l1 l2 l3 l4 l5 l6) (fun k => (curtilageref10_names.mono_l k).1 _ _ _ _ _ _ _ _) (Nat.le_add_right _ _) h
  have : ∃ r, curtilageref10_names.f (k + Kn) a l1 l2 l3 l4 l5 l6 = some r := by
    unfold curtilageref10_names.f
    rw [hn _ (by omega)]
    simp only [Option.bind_some]
    split
    · exact ⟨_, m1⟩
    · exact ⟨_, rfl⟩
  obtain ⟨r', h'⟩ := this
  exact ⟨r', Ev.of (fun k => curtilageref10_names.mono _ _ _ _ _ _ _ k) (k := k + Kn) h'⟩

structure SegOK (s : S67) : Prop where
  al : Int.tmod s.f0 256 = 0
  a0 : 0 ≤ s.f0
  n0 : 0 < s.f1
  n1 : s.f1 ≤ 2048
  far : s.f0 + s.f1 ≤ 16384
  f1 : 1 ≤ s.f2
  f2 : s.f2 ≤ 5
theorem u64_wf {n : Int} (h : (Lit.int .u64 n).wf = true) : 0 ≤ n ∧ n ≤ 18446744073709551615 := by
  have := (Lit.wf_int_iff .u64 n).1 h
  simpa [IntKind.min, IntKind.max, IntKind.signed, IntKind.bits] using this
theorem wrapu_in {n : Int} (h0 : 0 ≤ n) (h1 : n ≤ 18446744073709551615) : IntKind.u64.wrap n = n := by rw [IntKind.wrap_u64]; omega
theorem segs_go (l : List S67) (hl : l.length ≤ 9223372036854775807) (hw : ∀ j : Int, 0 ≤ j → j < l.length → ok67 (rd_T67 l j)) : ∀ (d : Nat) (i : Int), 0 ≤ i → i + d = l.length → (∀ j : Int, 0 ≤ j → j < i → SegOK (rd_T67 l j)) →
    ∃ k r, curtilageref10_Segments.l0 k l i = some r ∧ (r = true → ∀ j : Int, 0 ≤ j → j < l.length → SegOK (rd_T67 l j)) := by
  intro d
  induction d with
  | zero =>
    intro i h0 hi hb
    exact ⟨1, true, by rw [curtilageref10_Segments.l0, if_neg (by omega)], fun _ j hj0 hj => hb j hj0 (by omega)⟩
  | succ d ih =>
    intro i h0 hi hb
    have hil : i < l.length := by omega
    obtain ⟨w0, w1, w2, _⟩ := hw i h0 hil
    have u0 := u64_wf w0
    have u1 := u64_wf w1
    generalize hs : rd_T67 l i = s at *
    have bad : ∀ k, curtilageref10_Segments.j1 (k + 1) l i true s.f0 s.f1 s.f2 s.f3 = some false := fun k => by rw [curtilageref10_Segments.j1, if_pos rfl]
    have bad2 : ∀ k, curtilageref10_Segments.j2 (k + 1) l i true s.f0 s.f1 s.f2 s.f3 = some false := fun k => by rw [curtilageref10_Segments.j2, if_pos rfl]
    have F : ∀ {k : Nat}, curtilageref10_Segments.l0 k l i = some false → ∃ k r, curtilageref10_Segments.l0 k l i = some r ∧ (r = true → ∀ j : Int, 0 ≤ j → j < l.length → SegOK (rd_T67 l j)) := fun {k} h => ⟨k, false, h, by simp⟩
    by_cases c1 : Int.tmod s.f0 256 = 0
    · by_cases c2 : s.f1 = 0
      · exact F (k := 2) (by rw [curtilageref10_Segments.l0, if_pos hil, if_pos h0, hs, if_pos c1, if_pos c2]; exact bad 0)
      by_cases c3 : s.f1 > 2048
      · exact F (k := 2) (by rw [curtilageref10_Segments.l0, if_pos hil, if_pos h0, hs, if_pos c1, if_neg c2, if_pos c3]; exact bad 0)
      by_cases c4 : s.f0 > 16384
      · exact F (k := 2) (by rw [curtilageref10_Segments.l0, if_pos hil, if_pos h0, hs, if_pos c1, if_neg c2, if_neg c3, if_pos c4]; exact bad 0)
      have ew : IntKind.u64.wrap (s.f0 + s.f1) = s.f0 + s.f1 := wrapu_in (by omega) (by omega)
      by_cases c5 : IntKind.u64.wrap (s.f0 + s.f1) > 16384
      · exact F (k := 2) (by rw [curtilageref10_Segments.l0, if_pos hil, if_pos h0, hs, if_pos c1, if_neg c2, if_neg c3, if_neg c4, if_pos c5]; exact bad 0)
      rw [ew] at c5
      by_cases c6 : (s.f3.length : Int) > wrap64 s.f1
      · exact F (k := 2) (by rw [curtilageref10_Segments.l0, if_pos hil, if_pos h0, hs, if_pos c1, if_neg c2, if_neg c3, if_neg c4, ew, if_neg c5, decide_eq_true c6]; exact bad 0)
      have g0 : ∀ k, curtilageref10_Segments.l0 (k + 1) l i = curtilageref10_Segments.j1 k l i false s.f0 s.f1 s.f2 s.f3 := fun k => by
        rw [curtilageref10_Segments.l0, if_pos hil, if_pos h0, hs, if_pos c1, if_neg c2, if_neg c3, if_neg c4, ew, if_neg c5, decide_eq_false c6]
      by_cases c7 : s.f2 < 1
      · exact F (k := 3) (by rw [g0, curtilageref10_Segments.j1, if_neg (by simp), if_pos c7]; exact bad2 0)
      by_cases c8 : s.f2 > 5
      · exact F (k := 3) (by rw [g0, curtilageref10_Segments.j1, if_neg (by simp), if_neg c7, if_pos c8]; exact bad2 0)
      have g1 : ∀ k, curtilageref10_Segments.l0 (k + 2) l i = curtilageref10_Segments.j2 k l i false s.f0 s.f1 s.f2 s.f3 := fun k => by
        rw [g0, curtilageref10_Segments.j1, if_neg (by simp), if_neg c7, if_neg c8, beq_eq_false_iff_ne.2 (show s.f2 ≠ 0 by omega)]
      have S : SegOK s := ⟨c1, by omega, by omega, by omega, by omega, by omega, by omega⟩
      obtain ⟨k, r, h, hr⟩ := ih (i + 1) (by omega) (by omega) (fun j hj0 hj => by
        by_cases e : j = i
        · rw [e, hs]; exact S
        · exact hb j hj0 (by omega))
      by_cases c9 : i > 0
      · have P := hb (i - 1) (by omega) (by omega)
        have inner : ∀ (c : Nat) (e : Int), 0 ≤ e → e ≤ 20000 → (e + c) % 256 = 0 → e + c ≤ 20000 → ∃ k r, curtilageref10_Segments.l1 k l i e s.f0 s.f1 s.f2 s.f3 = some r ∧ (r = true → ∀ j : Int, 0 ≤ j → j < l.length → SegOK (rd_T67 l j)) := by
          intro c
          induction c with
          | zero =>
            intro e he0 he hm hle
            refine ⟨k + 1, ?_⟩
            rw [curtilageref10_Segments.l1, if_pos (by rw [Int.tmod_eq_emod_of_nonneg he0]; omega), wrap_up h0 (by omega)]
            split
            · exact ⟨false, rfl, by simp⟩
            · exact ⟨r, h, hr⟩
          | succ c ihc =>
            intro e he0 he hm hle
            by_cases ce : Int.tmod e 256 = 0
            · refine ⟨k + 1, ?_⟩
              rw [curtilageref10_Segments.l1, if_pos ce, wrap_up h0 (by omega)]
              split
              · exact ⟨false, rfl, by simp⟩
              · exact ⟨r, h, hr⟩
            · obtain ⟨k', r', h', hr'⟩ := ihc (e + 1) (by omega) (by omega) (by omega) (by omega)
              exact ⟨k' + 1, r', by rw [curtilageref10_Segments.l1, if_neg ce, show IntKind.u64.wrap (e + 1) = e + 1 from wrapu_in (by omega) (by omega)]; exact h', hr'⟩
        obtain ⟨k', r', h', hr'⟩ := inner (((256 - ((rd_T67 l (i - 1)).f0 + (rd_T67 l (i - 1)).f1) % 256) % 256).toNat) ((rd_T67 l (i - 1)).f0 + (rd_T67 l (i - 1)).f1) (by have := P.a0; have := P.n0; omega) (by have := P.far; omega) (by omega) (by have := P.far; omega)
        refine ⟨k' + 1 + 2, r', ?_, hr'⟩
        rw [g1, curtilageref10_Segments.j2, if_neg (by simp), if_pos c9, wrap_down (by omega) (by omega), if_pos (by omega), if_pos (by omega), show IntKind.u64.wrap ((rd_T67 l (i - 1)).f0 + (rd_T67 l (i - 1)).f1) = (rd_T67 l (i - 1)).f0 + (rd_T67 l (i - 1)).f1 by
          have := P.a0; have := P.n0; have := P.far
          exact wrapu_in (by omega) (by omega)]
        exact h'
      · refine ⟨k + 1 + 2, r, ?_, hr⟩
        rw [g1, curtilageref10_Segments.j2, if_neg (by simp), if_neg c9, wrap_up h0 (by omega)]
        exact h
    · exact F (k := 2) (by rw [curtilageref10_Segments.l0, if_pos hil, if_pos h0, hs, if_neg c1]; exact bad 0)
theorem segs_ev (l : List S67) (hl : l.length ≤ 9223372036854775807) (hw : ∀ j : Int, 0 ≤ j → j < l.length → ok67 (rd_T67 l j)) : ∃ r, (∃ K, ∀ k, K ≤ k → curtilageref10_Segments.f k l = some r) ∧ (r = true → ∀ j : Int, 0 ≤ j → j < l.length → SegOK (rd_T67 l j)) := by
  obtain ⟨k, r, h, hr⟩ := segs_go l hl hw l.length 0 (by omega) (by omega) (fun j h0 h => by omega)
  exact ⟨r, Ev.of (fun k => curtilageref10_Segments.mono l k) (k := k) h, hr⟩

theorem at_go (x n : Int) (hl : l2.length ≤ 9223372036854775807) : ∀ (d i : Nat), i + d = l2.length → (∀ j, j < i → inSeg x n (l2.getD j z67) = false) → ∃ k, curtilageref10_At.l0 k x n i a l1 l2 l3 l4 l5 l6 = some (firstOf (inSeg x n) l2) := by
  intro d
  induction d with
  | zero =>
    intro i hi hb
    exact ⟨1, by rw [curtilageref10_At.l0, if_neg (by omega), firstOf_none (d := z67) (fun j hj => hb j (by omega))]⟩
  | succ d ih =>
    intro i hi hb
    have hlt : i < l2.length := by omega
    have er : rd_T67 l2 (i : Int) = l2.getD i z67 := by simp [rd_T67]
    by_cases hc : inSeg x n (l2.getD i z67) = true
    · refine ⟨1, ?_⟩
      have hc' := hc
      unfold inSeg at hc
      simp only [Bool.and_eq_true, decide_eq_true_eq] at hc
      rw [curtilageref10_At.l0, if_pos (by omega), if_pos (by omega), er, if_neg (by omega), if_pos hc.2.1, if_pos hc.2.2, firstOf_here hlt hb hc']
    · have hf : inSeg x n (l2.getD i z67) = false := by cases h : inSeg x n (l2.getD i z67) <;> simp_all
      obtain ⟨k, h⟩ := ih (i + 1) (by omega) (fun j hj => by
        by_cases e : j = i
        · subst e; exact hf
        · exact hb j (by omega))
      refine ⟨k + 1, ?_⟩
      rw [curtilageref10_At.l0, if_pos (by omega), if_pos (by omega), er, wrap_up (by omega) (by omega)]
      have h : curtilageref10_At.l0 k x n ((i : Int) + 1) a l1 l2 l3 l4 l5 l6 = some (firstOf (inSeg x n) l2) := by simpa using h
      by_cases b1 : x < (l2.getD i z67).f0
      · rw [if_pos b1]; exact h
      rw [if_neg b1]
      by_cases b2 : IntKind.u64.wrap (x - (l2.getD i z67).f0) ≤ (l2.getD i z67).f1
      · rw [if_pos b2]
        by_cases b3 : n ≤ IntKind.u64.wrap ((l2.getD i z67).f1 - IntKind.u64.wrap (x - (l2.getD i z67).f0))
        · exfalso; apply hc
          unfold inSeg
          simp only [Bool.and_eq_true, decide_eq_true_eq]
          exact ⟨by omega, b2, b3⟩
        · rw [if_neg b3]; exact h
      · rw [if_neg b2]; exact h
theorem at_ev (x n : Int) (hl : l2.length ≤ 9223372036854775807) : ∃ K, ∀ k, K ≤ k → curtilageref10_At.f k a l1 l2 l3 l4 l5 l6 x n = some (firstOf (inSeg x n) l2) := by
  obtain ⟨k, h⟩ := at_go a l1 l2 l3 l4 l5 l6 x n hl l2.length 0 (by omega) (fun j h => by omega)
  exact Ev.of (fun k => curtilageref10_At.mono _ _ _ _ _ _ _ _ _ k) (k := k) h

end
end Go.Proofs.Ytlbfeklpncoccaa.Pure
