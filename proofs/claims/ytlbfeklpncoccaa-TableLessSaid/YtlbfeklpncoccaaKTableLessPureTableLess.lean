/- The pure statement of the law TableLess: no slot has what may store and run, or seal. No condition. -/
import Derived.Test.YtlbfeklpncoccaaKTableLessPStTableLess
import Derived.Test.YtlbfeklpncoccaaKTableLessChk2
namespace Go.Proofs.Ytlbfeklpncoccaa.Pure
open Go.RowKit Go.Proofs.Ytlbfeklpncoccaa.P Go.Proofs.YtlbfeklpncoccaaW.PrintWords Go.Proofs.YtlbfeklpncoccaaW.PrintLast
set_option linter.unusedVariables false
set_option linter.unusedSimpArgs false

theorem awake_ev : ∃ K, ∀ k, K ≤ k → curtilagelaw18_awake.f k = some true := Ev.of curtilagelaw18_awake.mono (k := 40) (by kernel_rfl)
def pm (f : Int) : Int := if f = 1 then 9 else if f = 2 then 18 else if f = 3 then 27 else if f = 4 then 4 else 13
theorem five {f : Int} (h1 : 1 ≤ f) (h2 : f ≤ 5) : f = 1 ∨ f = 2 ∨ f = 3 ∨ f = 4 ∨ f = 5 := by omega
theorem perms_i (k : Nat) {f : Int} (h1 : 1 ≤ f) (h2 : f ≤ 5) : image_Perms.f (k + 1) f = some (pm f) := by
  rcases five h1 h2 with rfl | rfl | rfl | rfl | rfl <;> rfl
theorem pm_and {f : Int} (h1 : 1 ≤ f) (h2 : f ≤ 5) : Go.bits .and .i64 255 (pm f) = pm f := by
  rcases five h1 h2 with rfl | rfl | rfl | rfl | rfl <;> rfl
theorem pm_or {f : Int} (h1 : 1 ≤ f) (h2 : f ≤ 5) : Go.bits .or .i64 (pm f) 128 = pm f + 128 := by
  rcases five h1 h2 with rfl | rfl | rfl | rfl | rfl <;> rfl
theorem pm_and2 {f : Int} (h1 : 1 ≤ f) (h2 : f ≤ 5) : Go.bits .and .i64 255 (pm f + 128) = pm f + 128 := by
  rcases five h1 h2 with rfl | rfl | rfl | rfl | rfl <;> rfl
theorem of_is {x n p : Int} (h0 : 0 ≤ x) (hn : 0 ≤ n) (h : x + n ≤ 33554432) : image_of.f x n p = some (x, x + n, x, Go.bits .and .i64 255 p, -1, true) := by
  have hw : IntKind.u64.wrap (x + n) = x + n := wrapu_in (by omega) (by omega)
  have e1 : cap_Root.f 33554432 = some (0, 33554432, 0, 255, -1, true) := rfl
  have e2 : cap_Move.f 0 33554432 0 255 (-1) true x = some (0, 33554432, x, 255, -1, true) := rfl
  have e3 : cap_Bound.f 0 33554432 x 255 (-1) true n = some (x, x + n, x, 255, -1, true) := by
    have f1 : cap_fits.f 0 33554432 x 255 (-1) true n = some true := by
      unfold cap_fits.f
      rw [hw, if_pos h0, if_pos (by omega), decide_eq_true (by omega)]
    have f2 : cap_open.f 0 33554432 x 255 (-1) true = some (0, 33554432, x, 255, -1, true) := rfl
    unfold cap_Bound.f
    rw [f1, f2, hw]
    simp
  have e4 : cap_And.f x (x + n) x 255 (-1) true p = some (x, x + n, x, Go.bits .and .i64 255 p, -1, true) := rfl
  unfold image_of.f
  rw [e1]; simp only [Option.bind_some]
  rw [e2]; simp only [Option.bind_some]
  rw [e3]; simp only [Option.bind_some]
  rw [e4]; simp only [Option.bind_some]
theorem key_is {t : Int} (h0 : 0 ≤ t) (h1 : t ≤ 63) : table_key.f t = some (0, 64, t, 255, -1, true) := by
  have e1 : cap_Root.f 64 = some (0, 64, 0, 255, -1, true) := rfl
  have e2 : cap_Move.f 0 64 0 255 (-1) true t = some (0, 64, t, 255, -1, true) := rfl
  unfold table_key.f
  rw [e1]; simp only [Option.bind_some]
  rw [wrapu_in h0 (by omega), e2]; simp only [Option.bind_some]
theorem seal_is {b e x p t : Int} (h0 : 0 ≤ t) (h1 : t ≤ 63) : cap_Seal.f b e x p (-1) true 0 64 t 255 (-1) true = some (b, e, x, p, t, true) := by
  have hb : Go.bits .and .i64 255 32 = 32 := rfl
  have hk : cap_key.f 0 64 t 255 (-1) true 32 = some true := by
    unfold cap_key.f cap_sealed.f
    rw [hb]
    simp only [Option.bind_some, if_true]
    rw [if_neg (by decide), if_neg (by decide), if_pos h0, if_pos (by omega), decide_eq_true (by omega)]
  have hs : cap_sealed.f b e x p (-1) true = some false := rfl
  unfold cap_Seal.f
  rw [if_pos rfl, hs]; simp only [Option.bind_some]
  rw [if_neg (by decide), hk]; simp only [Option.bind_some, if_true]
  rw [show wrap64 t = t by unfold wrap64; omega]
section
variable (a : ByteArray) (l1 : List ByteArray) (l2 : List S67) (l3 : List S35) (l4 : List S72) (l5 l6 : List Int)
theorem part_i {b i : Int} (S : SegOK (rd_T67 l2 i)) (hb0 : 0 ≤ b) (hb : b < 16711680) (h0 : 0 ≤ i) (h : i < l2.length) (k : Nat) :
    image_Part.f (k + 1) a l1 l2 l3 l4 l5 l6 b i = some (b + (rd_T67 l2 i).f0, b + (rd_T67 l2 i).f0 + (rd_T67 l2 i).f1, b + (rd_T67 l2 i).f0, pm (rd_T67 l2 i).f2, -1, true) := by
  have := S.a0; have := S.n0; have := S.far
  unfold image_Part.f
  rw [if_pos h0, if_pos h, perms_i k S.f1 S.f2]; simp only [Option.bind_some]
  rw [wrapu_in (show 0 ≤ b + (rd_T67 l2 i).f0 by omega) (by omega), of_is (by omega) (by omega) (by omega)]; simp only [Option.bind_some]
  rw [pm_and S.f1 S.f2]
theorem firstOf_has {p : S67 → Bool} {l : List S67} (h : 0 ≤ firstOf p l) : p (rd_T67 l (firstOf p l)) = true := by
  unfold firstOf at h ⊢
  split at h
  · omega
  · rename_i i e
    obtain ⟨hi, hp, _⟩ := List.findIdx?_eq_some_iff_getElem.1 e
    simp only [rd_T67, Int.toNat_natCast, List.getD_eq_getElem?_getD, List.getElem?_eq_getElem hi, Option.getD_some]
    exact hp
theorem firstW_has {p : S67 → Bool} {l : List S67} (h : 0 ≤ firstW p l) : p (rd_T67 l (firstW p l)) = true := by
  unfold firstW at h ⊢
  split at h
  · omega
  · rename_i i e
    obtain ⟨hi, hp, _⟩ := List.findIdx?_eq_some_iff_getElem.1 e
    simp only [rd_T67, Int.toNat_natCast, List.getD_eq_getElem?_getD, List.getElem?_eq_getElem hi, Option.getD_some]
    exact hp
theorem firstW_range {α : Type} (p : α → Bool) (l : List α) : firstW p l < l.length ∧ -1 ≤ firstW p l := by
  unfold firstW
  split
  · constructor
    · omega
    · omega
  · rename_i i h
    have := (List.findIdx?_eq_some_iff_getElem.1 h).1
    omega
def ownC (b : Int) : Int × Int × Int × Int × Int × Bool := if firstW segW l2 < 0 then (b, b, b, 129, -1, true) else
  (b + (rd_T67 l2 (firstW segW l2)).f0, b + (rd_T67 l2 (firstW segW l2)).f0 + (rd_T67 l2 (firstW segW l2)).f1, b + (rd_T67 l2 (firstW segW l2)).f0, pm (rd_T67 l2 (firstW segW l2)).f2 + 128, -1, true)
theorem own_i {b : Int} (hS : ∀ j : Int, 0 ≤ j → j < l2.length → SegOK (rd_T67 l2 j)) (hb0 : 0 ≤ b) (hb : b < 16711680) (k : Nat) : image_Own.f (k + 1) a l1 l2 l3 l4 l5 l6 b = some (ownC l2 b) := by
  have rg := firstW_range segW l2
  have e : api_Segment.f l2 = some (firstW segW l2) := rfl
  unfold image_Own.f ownC
  rw [e]; simp only [Option.bind_some]
  by_cases c : firstW segW l2 < 0
  · rw [if_pos c, if_pos c, of_is hb0 (by omega) (by omega)]; simp only [Option.bind_some]
    rw [show b + 0 = b by omega]; rfl
  · have S := hS _ (by omega) rg.1
    have := S.a0; have := S.n0; have := S.far
    rw [if_neg c, if_neg c, if_pos (by omega), if_pos rg.1, perms_i k S.f1 S.f2]; simp only [Option.bind_some]
    rw [wrapu_in (show 0 ≤ b + (rd_T67 l2 (firstW segW l2)).f0 by omega) (by omega), of_is (by omega) (by omega) (by omega), pm_or S.f1 S.f2, pm_and2 S.f1 S.f2]; simp only [Option.bind_some]
theorem segW_iff {s : S67} (h1 : 1 ≤ s.f2) (h2 : s.f2 ≤ 5) : segW s = true ↔ s.f2 = 2 ∨ s.f2 = 3 := by
  unfold segW
  rcases five h1 h2 with e | e | e | e | e <;> rw [e] <;> decide
end
theorem rd28_mem {l : List S28} {i : Int} (h0 : 0 ≤ i) (h : i < l.length) : rd_T28 l i ∈ l := by
  obtain ⟨j, rfl⟩ : ∃ j : Nat, i = j := ⟨i.toNat, by omega⟩
  simp only [rd_T28, Int.toNat_natCast, List.getD_eq_getElem?_getD, List.getElem?_eq_getElem (show j < l.length by omega), Option.getD_some]
  exact List.getElem_mem _
theorem rd_mem {l : List Int} {i : Int} (h0 : 0 ≤ i) (h : i < l.length) : rd l i ∈ l := by
  obtain ⟨j, rfl⟩ : ∃ j : Nat, i = j := ⟨i.toNat, by omega⟩
  simp only [rd, Int.toNat_natCast, List.getD_eq_getElem?_getD, List.getElem?_eq_getElem (show j < l.length by omega), Option.getD_some]
  exact List.getElem_mem _
/-- An object that is right, its base and its type. -/
structure LibOK (o : S28) (b t : Int) : Prop where
  obj : ObjOK o.f2 o.f3
  rel : RelOK o.f3 o.f4
  b1 : b < 16711680
  t0 : 0 ≤ t
  t1 : t ≤ 63
/-- A link of what there is. -/
structure LinkOK (l : List S28) (x : S44) : Prop where
  o0 : 0 ≤ x.f0
  o1 : x.f0 < l.length
  r0 : 0 ≤ x.f1
  r1 : x.f1 < (rd_T28 l x.f0).f4.length
  dest : x.f2 < 0 ∨ (0 ≤ x.f2 ∧ x.f2 < l.length ∧ 0 ≤ x.f3 ∧ x.f3 < (rd_T28 l x.f2).f3.length ∧ (rd_T35 (rd_T28 l x.f2).f3 x.f3).f7 = true)
theorem links_go (l : List S28) (links : List S44) (hl : links.length ≤ 9223372036854775807) : ∀ (d : Nat) (i : Int), 0 ≤ i → i + d = links.length → (∀ j : Int, 0 ≤ j → j < i → LinkOK l (rd_T44 links j)) →
    ∃ k r, curtilageref18_Right.l1 k l links i = some r ∧ (r = true → ∀ j : Int, 0 ≤ j → j < links.length → LinkOK l (rd_T44 links j)) := by
  intro d
  induction d with
  | zero =>
    intro i h0 hi hb
    exact ⟨1, true, by rw [curtilageref18_Right.l1, if_neg (by omega)], fun _ j hj0 hj => hb j hj0 (by omega)⟩
  | succ d ih =>
    intro i h0 hi hb
    have hil : i < links.length := by omega
    generalize hx : rd_T44 links i = x at *
    have bad : ∀ k, curtilageref18_Right.j3 (k + 1) l links i true x.f0 x.f1 x.f2 x.f3 = some false := fun k => by rw [curtilageref18_Right.j3, if_pos rfl]
    by_cases c1 : x.f0 < 0
    · exact ⟨2, false, by rw [curtilageref18_Right.l1, if_pos hil, if_pos h0, hx, if_pos c1]; exact bad 0, by simp⟩
    by_cases c2 : x.f0 ≥ (l.length : Int)
    · exact ⟨2, false, by rw [curtilageref18_Right.l1, if_pos hil, if_pos h0, hx, if_neg c1, if_pos c2]; exact bad 0, by simp⟩
    by_cases c3 : x.f1 < 0
    · exact ⟨2, false, by rw [curtilageref18_Right.l1, if_pos hil, if_pos h0, hx, if_neg c1, if_neg c2, if_pos c3]; exact bad 0, by simp⟩
    by_cases c4 : x.f1 ≥ ((rd_T28 l x.f0).f4.length : Int)
    · exact ⟨2, false, by rw [curtilageref18_Right.l1, if_pos hil, if_pos h0, hx, if_neg c1, if_neg c2, if_neg c3, if_pos (by omega), if_pos (by omega), decide_eq_true c4]; exact bad 0, by simp⟩
    have step : ∀ {X : Option Bool} k, X = curtilageref18_Right.j3 k l links i false x.f0 x.f1 x.f2 x.f3 → curtilageref18_Right.l1 (k + 1) l links i = X := fun k e => by
      rw [curtilageref18_Right.l1, if_pos hil, if_pos h0, hx, if_neg c1, if_neg c2, if_neg c3, if_pos (by omega), if_pos (by omega), decide_eq_false c4]; exact e.symm
    by_cases g : x.f2 = -1 ∧ x.f3 = -1
    · obtain ⟨g1, g2⟩ := g
      obtain ⟨k, r, h, hr⟩ := ih (i + 1) (by omega) (by omega) (fun j hj0 hj => by
        by_cases e : j = i
        · rw [e, hx]; exact ⟨by omega, by omega, by omega, by omega, .inl (by omega)⟩
        · exact hb j hj0 (by omega))
      refine ⟨k + 3, r, ?_, hr⟩
      refine step (k + 2) ?_
      rw [curtilageref18_Right.j3, if_neg (by simp), if_pos g1, curtilageref18_Right.j4, if_pos (by simp [g2]), wrap_up h0 (by omega)]
      exact h.symm
    · have J : ∀ k, curtilageref18_Right.j3 (k + 2) l links i false x.f0 x.f1 x.f2 x.f3 = curtilageref18_Right.j4 (k + 1) l links i false x.f0 x.f1 x.f2 x.f3 := fun k => by
        rw [curtilageref18_Right.j3, if_neg (by simp)]
        split
        · have : (x.f3 == -1) = false := by simp; omega
          rw [this]
        · rfl
      by_cases c5 : x.f2 < 0
      · exact ⟨3, false, step 2 (by rw [J, curtilageref18_Right.j4, if_neg (by simp), if_pos c5]), by simp⟩
      by_cases c6 : x.f2 ≥ (l.length : Int)
      · exact ⟨3, false, step 2 (by rw [J, curtilageref18_Right.j4, if_neg (by simp), if_neg c5, if_pos c6]), by simp⟩
      by_cases c7 : x.f3 < 0
      · exact ⟨3, false, step 2 (by rw [J, curtilageref18_Right.j4, if_neg (by simp), if_neg c5, if_neg c6, if_pos c7]), by simp⟩
      by_cases c8 : x.f3 ≥ ((rd_T28 l x.f2).f3.length : Int)
      · exact ⟨3, false, step 2 (by rw [J, curtilageref18_Right.j4, if_neg (by simp), if_neg c5, if_neg c6, if_neg c7, if_pos (by omega), if_pos (by omega), if_pos c8]), by simp⟩
      by_cases c9 : (rd_T35 (rd_T28 l x.f2).f3 x.f3).f7 = true
      · obtain ⟨k, r, h, hr⟩ := ih (i + 1) (by omega) (by omega) (fun j hj0 hj => by
          by_cases e : j = i
          · rw [e, hx]; exact ⟨by omega, by omega, by omega, by omega, .inr ⟨by omega, by omega, by omega, by omega, c9⟩⟩
          · exact hb j hj0 (by omega))
        refine ⟨k + 3, r, ?_, hr⟩
        refine step (k + 2) ?_
        rw [J, curtilageref18_Right.j4, if_neg (by simp), if_neg c5, if_neg c6, if_neg c7, if_pos (by omega), if_pos (by omega), if_neg c8, if_pos (by omega), if_pos (by omega), if_pos c9, wrap_up h0 (by omega)]
        exact h.symm
      · exact ⟨3, false, step 2 (by rw [J, curtilageref18_Right.j4, if_neg (by simp), if_neg c5, if_neg c6, if_neg c7, if_pos (by omega), if_pos (by omega), if_neg c8, if_pos (by omega), if_pos (by omega), if_neg c9]), by simp⟩
theorem libs_go (l : List S28) (bs ts : List Int) (links : List S44) (hl : l.length ≤ 9223372036854775807) (ho : ∀ x ∈ l, ok28 x) (hbs : bs.length = l.length) (hts : ts.length = l.length) (rl : Bool) (Kl : Nat) (el : ∀ k, Kl ≤ k → curtilageref18_Right.l1 k l links 0 = some rl) :
    ∀ (d : Nat) (i : Int), 0 ≤ i → i + d = l.length → (∀ j : Int, 0 ≤ j → j < i → LibOK (rd_T28 l j) (rd bs j) (rd ts j)) →
    ∃ k r, curtilageref18_Right.l0 k l bs ts links i = some r ∧ (r = true → rl = true ∧ ∀ j : Int, 0 ≤ j → j < l.length → LibOK (rd_T28 l j) (rd bs j) (rd ts j)) := by
  intro d
  induction d with
  | zero =>
    intro i h0 hi hb
    exact ⟨Kl + 1, rl, by rw [curtilageref18_Right.l0, if_neg (by omega)]; exact el _ (Nat.le_refl _), fun h => ⟨h, fun j hj0 hj => hb j hj0 (by omega)⟩⟩
  | succ d ih =>
    intro i h0 hi hb
    have hil : i < l.length := by omega
    obtain ⟨rc, ⟨Kc, ec⟩, fc⟩ := check_ev (rd_T28 l i) (ho _ (rd28_mem h0 hil))
    by_cases c0 : rc = 0
    case neg => exact ⟨Kc + 1, false, by rw [curtilageref18_Right.l0, if_pos hil, if_pos h0, ec _ (Nat.le_refl _)]; simp only [Option.bind_some]; rw [if_neg c0], by simp⟩
    by_cases c1 : Int.tmod (rd bs i) 256 = 0
    case neg => exact ⟨Kc + 1, false, by rw [curtilageref18_Right.l0, if_pos hil, if_pos h0, ec _ (Nat.le_refl _)]; simp only [Option.bind_some]; rw [if_pos c0, if_pos (by omega), if_neg c1], by simp⟩
    by_cases c2 : rd bs i ≥ 16711680
    · exact ⟨Kc + 1, false, by rw [curtilageref18_Right.l0, if_pos hil, if_pos h0, ec _ (Nat.le_refl _)]; simp only [Option.bind_some]; rw [if_pos c0, if_pos (by omega), if_pos c1, if_pos c2], by simp⟩
    by_cases c3 : rd ts i < 0
    · exact ⟨Kc + 1, false, by rw [curtilageref18_Right.l0, if_pos hil, if_pos h0, ec _ (Nat.le_refl _)]; simp only [Option.bind_some]; rw [if_pos c0, if_pos (by omega), if_pos c1, if_neg c2, if_pos (by omega), if_pos c3], by simp⟩
    by_cases c4 : rd ts i > 63
    · exact ⟨Kc + 1, false, by rw [curtilageref18_Right.l0, if_pos hil, if_pos h0, ec _ (Nat.le_refl _)]; simp only [Option.bind_some]; rw [if_pos c0, if_pos (by omega), if_pos c1, if_neg c2, if_pos (by omega), if_neg c3, if_pos c4], by simp⟩
    obtain ⟨k, r, h, hr⟩ := ih (i + 1) (by omega) (by omega) (fun j hj0 hj => by
      by_cases e : j = i
      · rw [e]; exact ⟨(fc c0).1, (fc c0).2, by omega, by omega, by omega⟩
      · exact hb j hj0 (by omega))
    have m1 : curtilageref18_Right.l0 (k + Kc) l bs ts links (i + 1) = some r :=
      at_rounds (g := fun k => curtilageref18_Right.l0 k l bs ts links (i + 1)) (fun k => (curtilageref18_Right.mono_l k).2.1 _ _ _ _ _) (Nat.le_add_right _ _) h
    refine ⟨k + Kc + 1, r, ?_, hr⟩
    rw [curtilageref18_Right.l0, if_pos hil, if_pos h0, ec _ (by omega)]
    simp only [Option.bind_some]
    rw [if_pos c0, if_pos (by omega), if_pos c1, if_neg c2, if_pos (by omega), if_neg c3, if_neg c4, wrap_up h0 (by omega)]
    exact m1
structure RightOK (l : List S28) (bs ts : List Int) (links : List S44) : Prop where
  hb : bs.length = l.length
  ht : ts.length = l.length
  libs : ∀ j : Int, 0 ≤ j → j < l.length → LibOK (rd_T28 l j) (rd bs j) (rd ts j)
  links : ∀ j : Int, 0 ≤ j → j < links.length → LinkOK l (rd_T44 links j)
theorem right_ev (l : List S28) (bs ts : List Int) (links : List S44) (hl : l.length ≤ 9223372036854775807) (hk : links.length ≤ 9223372036854775807) (ho : ∀ x ∈ l, ok28 x) :
    ∃ r, (∃ K, ∀ k, K ≤ k → curtilageref18_Right.f k l bs ts links = some r) ∧ (r = true → RightOK l bs ts links) := by
  have bad : ∀ k, curtilageref18_Right.j0 (k + 1) l bs ts links true = some false := fun k => by rw [curtilageref18_Right.j0, if_pos rfl]
  have no : ∀ k, curtilageref18_Right.f k l bs ts links = some false → ∃ r, (∃ K, ∀ k, K ≤ k → curtilageref18_Right.f k l bs ts links = some r) ∧ (r = true → RightOK l bs ts links) := fun k h =>
    ⟨false, Ev.of (fun k => curtilageref18_Right.mono _ _ _ _ k) h, by simp⟩
  by_cases c1 : (l.length : Int) > 8
  · exact no 1 (by unfold curtilageref18_Right.f; rw [if_pos c1]; exact bad 0)
  by_cases c2 : (bs.length : Int) = l.length
  case neg => exact no 1 (by unfold curtilageref18_Right.f; rw [if_neg c1, if_neg c2]; exact bad 0)
  by_cases c3 : (ts.length : Int) = l.length
  case neg => exact no 1 (by unfold curtilageref18_Right.f; rw [if_neg c1, if_pos c2, if_neg c3]; exact bad 0)
  by_cases c4 : (links.length : Int) > 100
  · exact no 1 (by unfold curtilageref18_Right.f; rw [if_neg c1, if_pos c2, if_pos c3, decide_eq_true c4]; exact bad 0)
  obtain ⟨kl, rl, el, fl⟩ := links_go l links hk links.length 0 (by omega) (by omega) (fun j h0 h => by omega)
  have el' : ∀ k, kl ≤ k → curtilageref18_Right.l1 k l links 0 = some rl := fun k hk => at_rounds (g := fun k => curtilageref18_Right.l1 k l links 0) (fun k => (curtilageref18_Right.mono_l k).2.2.1 _ _ _) hk el
  obtain ⟨k, r, h, hr⟩ := libs_go l bs ts links hl ho (by omega) (by omega) rl kl el' l.length 0 (by omega) (by omega) (fun j h0 h => by omega)
  refine ⟨r, Ev.of (fun k => curtilageref18_Right.mono _ _ _ _ k) (k := k + 1) (r := r) ?_, fun h0 => ⟨by omega, by omega, (hr h0).2, fl (hr h0).1⟩⟩
  unfold curtilageref18_Right.f
  rw [if_neg c1, if_pos c2, if_pos c3, decide_eq_false c4, curtilageref18_Right.j0, if_neg (by simp)]
  exact h
/-- What TableLess asks of the i-th capability of a slot. -/
def SlotOK (l : List S28) (ts : List Int) (dst sym i : Int) (c : S37) : Prop := c.f5 = true → Go.bits .and .i64 c.f3 96 = 0 ∧ ¬ (Go.bits .and .i64 c.f3 6 = 6) ∧ 0 ≤ dst ∧
  ((rd_T35 (rd_T28 l dst).f3 sym).f4 = 1 → c.f4 = rd ts dst ∧ (Go.bits .and .i64 c.f3 4 != 0) = (i == 0)) ∧
  ((rd_T35 (rd_T28 l dst).f3 sym).f4 = 2 → c.f4 = -1 ∧ IntKind.u64.wrap (c.f1 - c.f0) = (rd_T35 (rd_T28 l dst).f3 sym).f3)
theorem pm_96 {f : Int} (h1 : 1 ≤ f) (h2 : f ≤ 5) : Go.bits .and .i64 (pm f) 96 = 0 ∧ ¬ (Go.bits .and .i64 (pm f) 6 = 6) := by
  rcases five h1 h2 with rfl | rfl | rfl | rfl | rfl <;> decide
theorem pm_run {f : Int} (h1 : 4 ≤ f) (h2 : f ≤ 5) : Go.bits .and .i64 (pm f + 128) 96 = 0 ∧ ¬ (Go.bits .and .i64 (pm f + 128) 6 = 6) ∧ (Go.bits .and .i64 (pm f + 128) 4 != 0) = true := by
  rcases five (by omega) h2 with rfl | rfl | rfl | rfl | rfl
  · omega
  · omega
  · omega
  · decide
  · decide
theorem pm_own {f : Int} (h : f = 2 ∨ f = 3) : Go.bits .and .i64 (pm f + 128) 96 = 0 ∧ ¬ (Go.bits .and .i64 (pm f + 128) 6 = 6) ∧ (Go.bits .and .i64 (pm f + 128) 4 != 0) = false := by
  rcases h with rfl | rfl <;> decide
theorem null_is : cap_Null.f = some (0, 0, 0, 0, -1, false) := rfl
theorem slot_ev (l : List S28) (bs ts : List Int) (links : List S44) (R : RightOK l bs ts links) (ho : ∀ x ∈ l, ok28 x) (hb : ∀ x ∈ bs, (Lit.int .u64 x).wf = true) (x : S44) (X : LinkOK l x) :
    ∃ K cs n, (∀ k, K ≤ k → table_Slot.f k l bs ts x.f0 x.f1 x.f2 x.f3 = some (cs, n)) ∧ 1 ≤ cs.length ∧ cs.length ≤ 2 ∧ ∀ j : Int, 0 ≤ j → j < cs.length → SlotOK l ts x.f2 x.f3 j (rd_T37 cs j) := by
  have hbl := R.hb
  have htl := R.ht
  have L0 := R.libs x.f0 X.o0 X.o1
  have r := L0.rel x.f1 X.r0 X.r1
  have o0 := X.o0; have o1 := X.o1; have r0 := X.r0; have r1 := X.r1
  generalize hfn : ((rd_T35 (rd_T28 l x.f0).f3 (rd_T72 (rd_T28 l x.f0).f4 x.f1).f1).f4 == 1) = fn
  rcases X.dest with hn | ⟨t0, t1, s0, s1, s2⟩
  · -- no definition
    have e : ∃ cs, table_none_caps.f 0 fn = some cs ∧ 1 ≤ cs.length ∧ cs.length ≤ 2 ∧ ∀ j : Int, 0 ≤ j → j < cs.length → (rd_T37 cs j).f5 = false := by
      unfold table_none_caps.f table_bytes_caps.f
      rw [null_is]; simp only [Option.bind_some]
      cases fn with
      | true =>
        refine ⟨_, rfl, by simp, by simp, fun j h0 h => ?_⟩
        have : j = 0 ∨ j = 1 := by simp at h; omega
        rcases this with rfl | rfl <;> rfl
      | false =>
        refine ⟨_, rfl, by simp, by simp, fun j h0 h => ?_⟩
        have : j = 0 := by simp at h; omega
        subst this; rfl
    obtain ⟨cs, e, h1, h2, h3⟩ := e
    refine ⟨0, cs, IntKind.u64.wrap (rd bs x.f0 + (rd_T72 (rd_T28 l x.f0).f4 x.f1).f0), fun k _ => ?_, h1, h2, fun j j0 j1 ht => ?_⟩
    · unfold table_Slot.f
      rw [if_pos o0, if_pos o1, if_pos r0, if_pos r1, if_neg (by omega), if_pos r.1, if_pos r.2, hfn, e]
      simp only [Option.bind_some]
      rw [if_pos (by omega)]
    · rw [h3 j j0 j1] at ht; simp at ht
  · have L := R.libs x.f2 t0 t1
    have O := L.obj
    have hok := ho _ (rd28_mem t0 t1)
    have hb0 := (u64_wf (hb _ (rd_mem (i := x.f2) t0 (by omega)))).1
    have hbl2 := L.b1; have ht0 := L.t0; have ht1 := L.t1
    obtain ⟨hA, hRun⟩ := O.syms x.f3 s0 s1 s2
    have hw := hok.2.2.2.1.2.2 _ (rd35_mem s0 s1)
    have segs := O.segs
    have hkind : ∀ y : S35, (rd_T35 (rd_T28 l x.f2).f3 x.f3) = y → True := fun _ _ => trivial
    unfold SlotOK
    generalize hob : rd_T28 l x.f2 = ob at *
    obtain ⟨a, l1, l2, l3, l4, l5, l6⟩ := ob
    simp only at *
    generalize hy : rd_T35 l3 x.f3 = y at *
    generalize hbb : rd bs x.f2 = b at *
    generalize htt : rd ts x.f2 = typ at *
    obtain ⟨_, _, w2, w3, _, _, _, _⟩ := hw
    have u2 := u64_wf w2
    have u3 := u64_wf w3
    have rg := firstOf_range (inSeg y.f2 y.f3) l2
    have S := segs _ hA rg.1
    have hin := firstOf_has hA
    generalize hi : firstOf (inSeg y.f2 y.f3) l2 = i at *
    have hpi := part_i a l1 l2 l3 l4 l5 l6 S hb0 hbl2 hA rg.1
    have hoi := own_i a l1 l2 l3 l4 l5 l6 segs hb0 hbl2
    have hq := pm_or S.f1 S.f2
    have own : ∃ q1 q2 q3 q4, ownC l2 b = (q1, q2, q3, q4, -1, true) ∧ Go.bits .and .i64 q4 96 = 0 ∧ ¬ (Go.bits .and .i64 q4 6 = 6) ∧ (Go.bits .and .i64 q4 4 != 0) = false := by
      unfold ownC
      split
      · exact ⟨_, _, _, _, rfl, by decide, by decide, by decide⟩
      · rename_i c
        have rw_ := firstW_range segW l2
        have S2 := segs _ (by omega) rw_.1
        have := pm_own ((segW_iff S2.f1 S2.f2).1 (firstW_has (by omega)))
        exact ⟨_, _, _, _, rfl, this.1, this.2.1, this.2.2⟩
    obtain ⟨q1, q2, q3, q4, hq4, own1, own2, own3⟩ := own
    rw [hq4] at hoi
    have g1 := S.a0; have g2 := S.n0; have g3 := S.far; have g4 := S.f1; have g5 := S.f2
    generalize hsx : rd_T67 l2 i = s at *
    unfold inSeg at hin
    simp only [Bool.and_eq_true, decide_eq_true_eq] at hin
    obtain ⟨i1, i2, i3⟩ := hin
    rw [show IntKind.u64.wrap (y.f2 - s.f0) = y.f2 - s.f0 from wrapu_in (by omega) (by omega)] at i2 i3
    rw [wrapu_in (by omega) (by omega)] at i3
    have eA : celf_At.f a l1 l2 l3 l4 l5 l6 y.f2 y.f3 = some i := by unfold celf_At.f; rw [hi]
    have w1 : IntKind.u64.wrap (b + y.f2) = b + y.f2 := wrapu_in (by omega) (by omega)
    have w4 : IntKind.u64.wrap (b + y.f2 + y.f3) = b + y.f2 + y.f3 := wrapu_in (by omega) (by omega)
    have mv : ∀ p : Int, cap_Move.f (b + s.f0) (b + s.f0 + s.f1) (b + s.f0) p (-1) true (b + y.f2) = some (b + s.f0, b + s.f0 + s.f1, b + y.f2, p, -1, true) := fun p => rfl
    by_cases ck : y.f4 = 1
    · -- a function
      have E1 : ∀ k, table_Entry.f (k + 1) a l1 l2 l3 l4 l5 l6 b x.f3 typ = some (b + s.f0, b + s.f0 + s.f1, b + y.f2, pm s.f2 + 128, typ, true, q1, q2, q3, q4, typ, true) := fun k => by
        unfold table_Entry.f
        rw [if_pos s0, if_pos s1, hy, eA]; simp only [Option.bind_some]
        rw [hpi k]; simp only [Option.bind_some]
        rw [hq, w1, mv]; simp only [Option.bind_some]
        rw [key_is ht0 ht1]; simp only [Option.bind_some]
        rw [seal_is ht0 ht1]; simp only [Option.bind_some]
        rw [hoi k]; simp only [Option.bind_some]
        rw [seal_is ht0 ht1]; simp only [Option.bind_some]
      have P := pm_run (hRun ck) g5
      have e : ∃ cs, table_entry_caps.f (b + s.f0) (b + s.f0 + s.f1) (b + y.f2) (pm s.f2 + 128) typ true q1 q2 q3 q4 typ true fn = some cs ∧ 1 ≤ cs.length ∧ cs.length ≤ 2 ∧ ∀ j : Int, 0 ≤ j → j < cs.length →
          Go.bits .and .i64 (rd_T37 cs j).f3 96 = 0 ∧ ¬ (Go.bits .and .i64 (rd_T37 cs j).f3 6 = 6) ∧ (rd_T37 cs j).f4 = typ ∧ (Go.bits .and .i64 (rd_T37 cs j).f3 4 != 0) = (j == 0) := by
        unfold table_entry_caps.f
        cases fn with
        | true =>
          refine ⟨_, rfl, by simp, by simp, fun j h0 h => ?_⟩
          have : j = 0 ∨ j = 1 := by simp at h; omega
          rcases this with rfl | rfl
          · exact ⟨P.1, P.2.1, rfl, P.2.2⟩
          · exact ⟨own1, own2, rfl, own3⟩
        | false =>
          refine ⟨_, rfl, by simp, by simp, fun j h0 h => ?_⟩
          have : j = 0 := by simp at h; omega
          subst this
          exact ⟨P.1, P.2.1, rfl, P.2.2⟩
      obtain ⟨cs, e, h1, h2, h3⟩ := e
      refine ⟨1, cs, IntKind.u64.wrap (rd bs x.f0 + (rd_T72 (rd_T28 l x.f0).f4 x.f1).f0), fun k hk => ?_, h1, h2, fun j j0 j1 ht => ⟨(h3 j j0 j1).1, (h3 j j0 j1).2.1, t0, fun _ => (h3 j j0 j1).2.2, fun h => by omega⟩⟩
      obtain ⟨k, rfl⟩ : ∃ m, k = m + 1 := ⟨k - 1, by omega⟩
      unfold table_Slot.f
      rw [if_pos o0, if_pos o1, if_pos r0, if_pos r1, if_pos (by omega), if_pos t0, if_pos t1, if_pos s0, hob]
      simp only
      rw [if_pos s1, hy, if_pos ck, if_pos (by omega), if_pos (by omega), hbb, htt, E1]
      simp only [Option.bind_some]
      rw [if_pos r.1, if_pos r.2, hfn, e]
      simp only [Option.bind_some]
      rw [if_pos (by omega)]
    · -- data
      have bd : cap_Bound.f (b + s.f0) (b + s.f0 + s.f1) (b + y.f2) (pm s.f2) (-1) true y.f3 = some (b + y.f2, b + y.f2 + y.f3, b + y.f2, pm s.f2, -1, true) := by
        unfold cap_Bound.f cap_open.f cap_sealed.f cap_fits.f
        rw [w4]
        simp only [Option.bind_some, if_true, beq_self_eq_true, Bool.not_true, Bool.or_false]
        simp
        rw [if_pos (by omega), if_pos (by omega)]
        simp
        omega
      have D1 : ∀ k, table_Data.f (k + 1) a l1 l2 l3 l4 l5 l6 b x.f3 = some (b + y.f2, b + y.f2 + y.f3, b + y.f2, pm s.f2, -1, true) := fun k => by
        unfold table_Data.f
        rw [if_pos s0, if_pos s1, hy, eA]; simp only [Option.bind_some]
        rw [hpi k]; simp only [Option.bind_some]
        rw [w1, mv]; simp only [Option.bind_some]
        rw [bd]; simp only [Option.bind_some]
      have P := pm_96 g4 g5
      have ws : IntKind.u64.wrap (b + y.f2 + y.f3 - (b + y.f2)) = y.f3 := by rw [show b + y.f2 + y.f3 - (b + y.f2) = y.f3 by omega]; exact wrapu_in u3.1 u3.2
      have e : ∃ cs, table_bytes_caps.f (b + y.f2) (b + y.f2 + y.f3) (b + y.f2) (pm s.f2) (-1) true fn = some cs ∧ 1 ≤ cs.length ∧ cs.length ≤ 2 ∧ ∀ j : Int, 0 ≤ j → j < cs.length → (rd_T37 cs j).f5 = true →
          Go.bits .and .i64 (rd_T37 cs j).f3 96 = 0 ∧ ¬ (Go.bits .and .i64 (rd_T37 cs j).f3 6 = 6) ∧ (rd_T37 cs j).f4 = -1 ∧ IntKind.u64.wrap ((rd_T37 cs j).f1 - (rd_T37 cs j).f0) = y.f3 := by
        unfold table_bytes_caps.f
        rw [null_is]; simp only [Option.bind_some]
        cases fn with
        | true =>
          refine ⟨_, rfl, by simp, by simp, fun j h0 h ht => ?_⟩
          have : j = 0 ∨ j = 1 := by simp at h; omega
          rcases this with rfl | rfl
          · exact ⟨P.1, P.2, rfl, ws⟩
          · exact absurd (show false = true from ht) (by decide)
        | false =>
          refine ⟨_, rfl, by simp, by simp, fun j h0 h ht => ?_⟩
          have : j = 0 := by simp at h; omega
          subst this
          exact ⟨P.1, P.2, rfl, ws⟩
      obtain ⟨cs, e, h1, h2, h3⟩ := e
      refine ⟨1, cs, IntKind.u64.wrap (rd bs x.f0 + (rd_T72 (rd_T28 l x.f0).f4 x.f1).f0), fun k hk => ?_, h1, h2, fun j j0 j1 ht => ⟨(h3 j j0 j1 ht).1, (h3 j j0 j1 ht).2.1, t0, fun h => absurd h ck, fun _ => (h3 j j0 j1 ht).2.2⟩⟩
      obtain ⟨k, rfl⟩ : ∃ m, k = m + 1 := ⟨k - 1, by omega⟩
      unfold table_Slot.f
      rw [if_pos o0, if_pos o1, if_pos r0, if_pos r1, if_pos (by omega), if_pos t0, if_pos t1, if_pos s0, hob]
      simp only
      rw [if_pos s1, hy, if_neg ck, if_pos (by omega), hbb, D1]
      simp only [Option.bind_some]
      rw [if_pos r.1, if_pos r.2, hfn, e]
      simp only [Option.bind_some]
      rw [if_pos (by omega)]
theorem caps_go (l : List S28) (bs ts : List Int) (links : List S44) (ok : Bool) (n : Int) (x : S44) (X : LinkOK l x) (htl : ts.length = l.length) (cs : List S37) (hc : cs.length ≤ 2) (G : ∀ j : Int, 0 ≤ j → j < cs.length → SlotOK l ts x.f2 x.f3 j (rd_T37 cs j))
    (hn0 : 0 ≤ n) (hn1 : n < 9223372036854775807) (K : Nat) (hK : ∀ k, K ≤ k → curtilagelaw18_TableLess.l0 k l bs ts links ok (n + 1) = some ok) :
    ∀ (d : Nat) (i : Int), 0 ≤ i → i + d = cs.length → ∀ k, K + 5 * d + 1 ≤ k → curtilagelaw18_TableLess.l1 k l bs ts links ok n cs i x.f0 x.f1 x.f2 x.f3 = some ok := by
  intro d
  induction d with
  | zero =>
    intro i h0 hi k hk
    obtain ⟨k, rfl⟩ : ∃ m, k = m + 1 := ⟨k - 1, by omega⟩
    rw [curtilagelaw18_TableLess.l1, if_neg (by omega), wrap_up hn0 hn1]
    exact hK _ (by omega)
  | succ d ih =>
    intro i h0 hi k hk
    obtain ⟨k, rfl⟩ : ∃ m, k = m + 5 := ⟨k - 5, by omega⟩
    have hil : i < cs.length := by omega
    have Gi := G i h0 hil
    have hnext := ih (i + 1) (by omega) (by omega)
    generalize hcx : rd_T37 cs i = c at *
    unfold SlotOK at Gi
    have hto := X.dest
    have ht1 : 0 ≤ x.f2 → x.f2 < l.length ∧ 0 ≤ x.f3 ∧ x.f3 < (rd_T28 l x.f2).f3.length := fun h => by
      rcases hto with h' | ⟨_, h1, h2, h3, _⟩
      · omega
      · exact ⟨h1, h2, h3⟩
    have J5 : ∀ k, K + 5 * d + 2 ≤ k → (c.f5 = true → Go.bits .and .i64 c.f3 96 = 0 ∧ ¬ (Go.bits .and .i64 c.f3 6 = 6) ∧ 0 ≤ x.f2 ∧ ((rd_T35 (rd_T28 l x.f2).f3 x.f3).f4 = 2 → c.f4 = -1 ∧ IntKind.u64.wrap (c.f1 - c.f0) = (rd_T35 (rd_T28 l x.f2).f3 x.f3).f3)) → curtilagelaw18_TableLess.j5 k l bs ts links ok n cs i false x.f0 x.f1 x.f2 x.f3 c.f0 c.f1 c.f2 c.f3 c.f4 c.f5 = some ok := by
      intro k hk g
      obtain ⟨k, rfl⟩ : ∃ m, k = m + 1 := ⟨k - 1, by omega⟩
      rw [curtilagelaw18_TableLess.j5, if_neg (by simp), wrap_up h0 (by omega), hnext k (by omega)]
      split
      · rename_i c1
        have T := ht1 (by omega)
        split
        · rename_i c2
          rw [if_pos T.1, if_pos T.2.1, if_pos T.2.2]
          split
          · rename_i c3
            rw [if_pos ((g c2).2.2.2 c3).1, if_pos ((g c2).2.2.2 c3).2]
          · rfl
        · rfl
      · rfl
    have J4 : ∀ k, K + 5 * d + 3 ≤ k → curtilagelaw18_TableLess.j4 k l bs ts links ok n cs i false x.f0 x.f1 x.f2 x.f3 c.f0 c.f1 c.f2 c.f3 c.f4 c.f5 = some ok := by
      intro k hk
      obtain ⟨k, rfl⟩ : ∃ m, k = m + 1 := ⟨k - 1, by omega⟩
      have j5 := J5 k (by omega) (fun h => ⟨(Gi h).1, (Gi h).2.1, (Gi h).2.2.1, (Gi h).2.2.2.2⟩)
      rw [curtilagelaw18_TableLess.j4, if_neg (by simp)]
      split
      · rename_i c1
        have T := ht1 (by omega)
        split
        · rename_i c2
          rw [if_pos T.1, if_pos T.2.1, if_pos T.2.2]
          split
          · rename_i c3
            rw [if_pos (by omega), if_pos ((Gi c2).2.2.2.1 c3).1, ((Gi c2).2.2.2.1 c3).2]
            simpa using j5
          · exact j5
        · exact j5
      · exact j5
    have J3 : ∀ k, K + 5 * d + 4 ≤ k → curtilagelaw18_TableLess.j3 k l bs ts links ok n cs i false x.f0 x.f1 x.f2 x.f3 c.f0 c.f1 c.f2 c.f3 c.f4 c.f5 = some ok := by
      intro k hk
      obtain ⟨k, rfl⟩ : ∃ m, k = m + 1 := ⟨k - 1, by omega⟩
      have j4 := J4 k (by omega)
      rw [curtilagelaw18_TableLess.j3, if_neg (by simp)]
      split
      · rename_i c1
        cases hc5 : c.f5 with
        | false => rw [hc5] at j4; exact j4
        | true => exact absurd (Gi hc5).2.2.1 (by omega)
      · exact j4
    have j3 := J3 (k + 4) (by omega)
    rw [curtilagelaw18_TableLess.l1, if_pos hil, if_pos h0, hcx]
    split
    · rename_i c1
      rw [if_pos (Gi c1).1]
      have : (Go.bits .and .i64 c.f3 6 == 6) = false := by simpa using (Gi c1).2.1
      rw [this]
      exact j3
    · exact j3
theorem less_go (l : List S28) (bs ts : List Int) (links : List S44) (R : RightOK l bs ts links) (ho : ∀ x ∈ l, ok28 x) (hb : ∀ x ∈ bs, (Lit.int .u64 x).wf = true) (hk : links.length ≤ 9223372036854775807) (ok : Bool) :
    ∀ (d : Nat) (i : Int), 0 ≤ i → i + d = links.length → ∃ K, ∀ k, K ≤ k → curtilagelaw18_TableLess.l0 k l bs ts links ok i = some ok := by
  intro d
  induction d with
  | zero =>
    intro i h0 hi
    refine ⟨1, fun k hk => ?_⟩
    obtain ⟨k, rfl⟩ : ∃ m, k = m + 1 := ⟨k - 1, by omega⟩
    rw [curtilagelaw18_TableLess.l0, if_neg (by omega)]
  | succ d ih =>
    intro i h0 hi
    have hil : i < links.length := by omega
    obtain ⟨K, hK⟩ := ih (i + 1) (by omega) (by omega)
    have X := R.links i h0 hil
    obtain ⟨Ks, cs, n, es, c1, c2, G⟩ := slot_ev l bs ts links R ho hb _ X
    have hc := caps_go l bs ts links ok i _ X R.ht cs c2 G h0 (by omega) K hK cs.length 0 (by omega) (by omega)
    generalize hx : rd_T44 links i = x at *
    refine ⟨K + Ks + 5 * cs.length + 3, fun k hk => ?_⟩
    obtain ⟨k, rfl⟩ : ∃ m, k = m + 2 := ⟨k - 2, by omega⟩
    have j1 : curtilagelaw18_TableLess.j1 (k + 1) l bs ts links ok i cs false x.f0 x.f1 x.f2 x.f3 = some ok := by
      rw [curtilagelaw18_TableLess.j1, if_neg (by simp)]
      exact hc k (by omega)
    rw [curtilagelaw18_TableLess.l0, if_pos hil, if_pos h0, hx, es _ (by omega)]
    simp only [Option.bind_some]
    rw [if_neg (by omega), decide_eq_false (by omega)]
    exact j1
theorem TableLess : curtilagelaw18_TableLess.Pure := by
  intro l bs ts links hl hb ht hk
  obtain ⟨K0, e0⟩ := awake_ev
  obtain ⟨r, ⟨K1, e1⟩, fr⟩ := right_ev l bs ts links hl.1 hk.1 hl.2.2
  cases r with
  | false =>
    refine ⟨K0 + K1, ?_⟩
    unfold curtilagelaw18_TableLess.f
    rw [e0 _ (by omega), e1 _ (by omega)]
    rfl
  | true =>
    obtain ⟨K2, e2⟩ := less_go l bs ts links (fr rfl) hl.2.2 hb.2.2 hk.1 true links.length 0 (by omega) (by omega)
    refine ⟨K0 + K1 + K2, ?_⟩
    unfold curtilagelaw18_TableLess.f
    rw [e0 _ (by omega), e1 _ (by omega)]
    simp only [Option.bind_some, if_true]
    exact e2 _ (by omega)
end Go.Proofs.Ytlbfeklpncoccaa.Pure
