/- The pure statement of the law TableCaps: a symbol's bytes' capability, and a function's pair, are as the document says. No condition. -/
import Derived.Test.YtlbfeklpncoccaaKTableCapsPStTableCaps
import Derived.Test.YtlbfeklpncoccaaKTableCapsChk2
namespace Go.Proofs.Ytlbfeklpncoccaa.Pure
open Go.RowKit Go.Proofs.Ytlbfeklpncoccaa.P Go.Proofs.YtlbfeklpncoccaaW.PrintWords Go.Proofs.YtlbfeklpncoccaaW.PrintLast
set_option linter.unusedVariables false
set_option linter.unusedSimpArgs false

theorem awake_ev : ∃ K, ∀ k, K ≤ k → curtilagelaw18_awake.f k = some true := Ev.of curtilagelaw18_awake.mono (k := 40) (by kernel_rfl)
def pm (f : Int) : Int := if f = 1 then 9 else if f = 2 then 18 else if f = 3 then 27 else if f = 4 then 4 else 13
theorem five {f : Int} (h1 : 1 ≤ f) (h2 : f ≤ 5) : f = 1 ∨ f = 2 ∨ f = 3 ∨ f = 4 ∨ f = 5 := by omega
theorem perms_i (k : Nat) {f : Int} (h1 : 1 ≤ f) (h2 : f ≤ 5) : image_Perms.f (k + 1) f = some (pm f) := by
  rcases five h1 h2 with rfl | rfl | rfl | rfl | rfl <;> rfl
theorem perms_r (k : Nat) {f : Int} (h1 : 1 ≤ f) (h2 : f ≤ 5) : curtilageref17_Perms.f (k + 1) f = some (pm f) := by
  rcases five h1 h2 with rfl | rfl | rfl | rfl | rfl <;> (unfold curtilageref17_Perms.f curtilageref17_Perms.j0 wrap64 pm; rfl)
theorem pm_and {f : Int} (h1 : 1 ≤ f) (h2 : f ≤ 5) : Go.bits .and .i64 255 (pm f) = pm f := by
  rcases five h1 h2 with rfl | rfl | rfl | rfl | rfl <;> rfl
theorem pm_or {f : Int} (h1 : 1 ≤ f) (h2 : f ≤ 5) : Go.bits .or .i64 (pm f) 128 = pm f + 128 := by
  rcases five h1 h2 with rfl | rfl | rfl | rfl | rfl <;> rfl
theorem pm_and2 {f : Int} (h1 : 1 ≤ f) (h2 : f ≤ 5) : Go.bits .and .i64 255 (pm f + 128) = pm f + 128 := by
  rcases five h1 h2 with rfl | rfl | rfl | rfl | rfl <;> rfl
theorem pm_wrap {f : Int} (h1 : 1 ≤ f) (h2 : f ≤ 5) : wrap64 (pm f + 128) = pm f + 128 := by
  rcases five h1 h2 with rfl | rfl | rfl | rfl | rfl <;> (unfold wrap64 pm; rfl)
theorem of_is {x n p : Int} (h0 : 0 ≤ x) (hn : 0 ≤ n) (h : x + n ≤ 33554432) : image_of.f x n p = some (x, x + n, x, Go.bits .and .i64 255 p, -1, true) := by
  have hw : IntKind.u64.wrap (x + n) = x + n := wrapu_in (by omega) (by omega)
  have e1 : cap_Root.f 33554432 = some (0, 33554432, 0, 255, -1, true) := rfl
  have e2 : cap_Move.f 0 33554432 0 255 (-1) true x = some (0, 33554432, x, 255, -1, true) := rfl
  have e3 : cap_Bound.f 0 33554432 x 255 (-1) true n = some (x, x + n, x, 255, -1, true) := by
    have f1 : cap_fits.f 0 33554432 x 255 (-1) true n = some true := by
      unfold cap_fits.f
      rw [hw, if_pos h0, if_pos (by omega), decide_eq_true (by omega)]
    have f2 : cap_open.f 0 33554432 x 255 (-1) true = some (0, 33554432, x, 255, -1, true) := rfl
    unfold cap_Bound.f
    rw [f1, f2, hw]
    simp
  have e4 : cap_And.f x (x + n) x 255 (-1) true p = some (x, x + n, x, Go.bits .and .i64 255 p, -1, true) := rfl
  unfold image_of.f
  rw [e1]; simp only [Option.bind_some]
  rw [e2]; simp only [Option.bind_some]
  rw [e3]; simp only [Option.bind_some]
  rw [e4]; simp only [Option.bind_some]
theorem key_is {t : Int} (h0 : 0 ≤ t) (h1 : t ≤ 63) : table_key.f t = some (0, 64, t, 255, -1, true) := by
  have e1 : cap_Root.f 64 = some (0, 64, 0, 255, -1, true) := rfl
  have e2 : cap_Move.f 0 64 0 255 (-1) true t = some (0, 64, t, 255, -1, true) := rfl
  unfold table_key.f
  rw [e1]; simp only [Option.bind_some]
  rw [wrapu_in h0 (by omega), e2]; simp only [Option.bind_some]
theorem seal_is {b e x p t : Int} (h0 : 0 ≤ t) (h1 : t ≤ 63) : cap_Seal.f b e x p (-1) true 0 64 t 255 (-1) true = some (b, e, x, p, t, true) := by
  have hb : Go.bits .and .i64 255 32 = 32 := rfl
  have hk : cap_key.f 0 64 t 255 (-1) true 32 = some true := by
    unfold cap_key.f cap_sealed.f
    rw [hb]
    simp only [Option.bind_some, if_true]
    rw [if_neg (by decide), if_neg (by decide), if_pos h0, if_pos (by omega), decide_eq_true (by omega)]
  have hs : cap_sealed.f b e x p (-1) true = some false := rfl
  unfold cap_Seal.f
  rw [if_pos rfl, hs]; simp only [Option.bind_some]
  rw [if_neg (by decide), hk]; simp only [Option.bind_some, if_true]
  rw [show wrap64 t = t by unfold wrap64; omega]
section
variable (a : ByteArray) (l1 : List ByteArray) (l2 : List S67) (l3 : List S35) (l4 : List S72) (l5 l6 : List Int)
theorem part_i {b i : Int} (S : SegOK (rd_T67 l2 i)) (hb0 : 0 ≤ b) (hb : b < 16711680) (h0 : 0 ≤ i) (h : i < l2.length) (k : Nat) :
    image_Part.f (k + 1) a l1 l2 l3 l4 l5 l6 b i = some (b + (rd_T67 l2 i).f0, b + (rd_T67 l2 i).f0 + (rd_T67 l2 i).f1, b + (rd_T67 l2 i).f0, pm (rd_T67 l2 i).f2, -1, true) := by
  have := S.a0; have := S.n0; have := S.far
  unfold image_Part.f
  rw [if_pos h0, if_pos h, perms_i k S.f1 S.f2]; simp only [Option.bind_some]
  rw [wrapu_in (show 0 ≤ b + (rd_T67 l2 i).f0 by omega) (by omega), of_is (by omega) (by omega) (by omega)]; simp only [Option.bind_some]
  rw [pm_and S.f1 S.f2]
theorem part_r {b i : Int} (S : SegOK (rd_T67 l2 i)) (hb0 : 0 ≤ b) (hb : b < 16711680) (h0 : 0 ≤ i) (h : i < l2.length) (k : Nat) :
    curtilageref17_Part.f (k + 1) a l1 l2 l3 l4 l5 l6 b i = some (b + (rd_T67 l2 i).f0, b + (rd_T67 l2 i).f0 + (rd_T67 l2 i).f1, b + (rd_T67 l2 i).f0, pm (rd_T67 l2 i).f2, -1, true) := by
  have := S.a0; have := S.n0; have := S.far
  unfold curtilageref17_Part.f
  rw [if_pos h0, if_pos h, perms_r k S.f1 S.f2]; simp only [Option.bind_some]
  rw [wrapu_in (show 0 ≤ b + (rd_T67 l2 i).f0 by omega) (by omega), wrapu_in (show 0 ≤ b + (rd_T67 l2 i).f0 + (rd_T67 l2 i).f1 by omega) (by omega)]
theorem firstOf_has {p : S67 → Bool} {l : List S67} (h : 0 ≤ firstOf p l) : p (rd_T67 l (firstOf p l)) = true := by
  unfold firstOf at h ⊢
  split at h
  · omega
  · rename_i i e
    obtain ⟨hi, hp, _⟩ := List.findIdx?_eq_some_iff_getElem.1 e
    simp only [rd_T67, Int.toNat_natCast, List.getD_eq_getElem?_getD, List.getElem?_eq_getElem hi, Option.getD_some]
    exact hp
theorem firstW_range {α : Type} (p : α → Bool) (l : List α) : firstW p l < l.length ∧ -1 ≤ firstW p l := by
  unfold firstW
  split
  · constructor
    · omega
    · omega
  · rename_i i h
    have := (List.findIdx?_eq_some_iff_getElem.1 h).1
    omega
def ownC (b : Int) : Int × Int × Int × Int × Int × Bool := if firstW segW l2 < 0 then (b, b, b, 129, -1, true) else
  (b + (rd_T67 l2 (firstW segW l2)).f0, b + (rd_T67 l2 (firstW segW l2)).f0 + (rd_T67 l2 (firstW segW l2)).f1, b + (rd_T67 l2 (firstW segW l2)).f0, pm (rd_T67 l2 (firstW segW l2)).f2 + 128, -1, true)
theorem own_i {b : Int} (hS : ∀ j : Int, 0 ≤ j → j < l2.length → SegOK (rd_T67 l2 j)) (hb0 : 0 ≤ b) (hb : b < 16711680) (k : Nat) : image_Own.f (k + 1) a l1 l2 l3 l4 l5 l6 b = some (ownC l2 b) := by
  have rg := firstW_range segW l2
  have e : api_Segment.f l2 = some (firstW segW l2) := rfl
  unfold image_Own.f ownC
  rw [e]; simp only [Option.bind_some]
  by_cases c : firstW segW l2 < 0
  · rw [if_pos c, if_pos c, of_is hb0 (by omega) (by omega)]; simp only [Option.bind_some]
    rw [show b + 0 = b by omega]; rfl
  · have S := hS _ (by omega) rg.1
    have := S.a0; have := S.n0; have := S.far
    rw [if_neg c, if_neg c, if_pos (by omega), if_pos rg.1, perms_i k S.f1 S.f2]; simp only [Option.bind_some]
    rw [wrapu_in (show 0 ≤ b + (rd_T67 l2 (firstW segW l2)).f0 by omega) (by omega), of_is (by omega) (by omega) (by omega), pm_or S.f1 S.f2, pm_and2 S.f1 S.f2]; simp only [Option.bind_some]
theorem segW_iff {s : S67} (h1 : 1 ≤ s.f2) (h2 : s.f2 ≤ 5) : segW s = true ↔ s.f2 = 2 ∨ s.f2 = 3 := by
  unfold segW
  rcases five h1 h2 with e | e | e | e | e <;> rw [e] <;> decide
theorem own_r {b : Int} (hl : l2.length ≤ 9223372036854775807) (hS : ∀ j : Int, 0 ≤ j → j < l2.length → SegOK (rd_T67 l2 j)) (hb0 : 0 ≤ b) (hb : b < 16711680) : ∃ K, ∀ k, K ≤ k → curtilageref17_Own.f k a l1 l2 l3 l4 l5 l6 b = some (ownC l2 b) := by
  have go : ∀ (d i : Nat), i + d = l2.length → (∀ j, j < i → segW (l2.getD j z67) = false) → ∃ k, curtilageref17_Own.l0 k b i a l1 l2 l3 l4 l5 l6 = some (ownC l2 b) := by
    intro d
    induction d with
    | zero =>
      intro i hi hf
      have e := firstW_none (d := z67) (fun j hj => hf j (by omega))
      refine ⟨1, ?_⟩
      unfold ownC
      rw [curtilageref17_Own.l0, if_neg (by omega), e, if_pos (by omega)]
    | succ d ih =>
      intro i hi hf
      have hlt : i < l2.length := by omega
      have er : rd_T67 l2 (i : Int) = l2.getD i z67 := by simp [rd_T67]
      have S := hS i (by omega) (by omega)
      by_cases c : segW (l2.getD i z67) = true
      · have e := firstW_here hlt hf c
        have hp := part_r a l1 l2 l3 l4 l5 l6 S hb0 hb (by omega) (by omega) 0
        have c' := (segW_iff S.f1 S.f2).1 (by rw [er]; exact c)
        have eo : ownC l2 b = (b + (rd_T67 l2 (i : Int)).f0, b + (rd_T67 l2 (i : Int)).f0 + (rd_T67 l2 (i : Int)).f1, b + (rd_T67 l2 (i : Int)).f0, pm (rd_T67 l2 (i : Int)).f2 + 128, -1, true) := by
          unfold ownC
          rw [e, if_neg (by omega)]
        refine ⟨2, ?_⟩
        rw [curtilageref17_Own.l0, if_pos (by omega), if_pos (by omega), hp, eo]
        simp only [Option.bind_some]
        rw [pm_wrap S.f1 S.f2]
        rcases c' with c' | c'
        · rw [if_pos c']
        · rw [if_neg (by omega), if_pos c']
      · have cf : segW (l2.getD i z67) = false := by cases h : segW (l2.getD i z67) <;> simp_all
        obtain ⟨k, h⟩ := ih (i + 1) (by omega) (fun j hj => by
          by_cases e : j = i
          · subst e; exact cf
          · exact hf j (by omega))
        have cn : ¬ ((rd_T67 l2 (i : Int)).f2 = 2 ∨ (rd_T67 l2 (i : Int)).f2 = 3) := fun hh => c (by rw [← er]; exact (segW_iff S.f1 S.f2).2 hh)
        refine ⟨k + 1, ?_⟩
        rw [curtilageref17_Own.l0, if_pos (by omega), if_pos (by omega), if_neg (fun h => cn (.inl h)), if_neg (fun h => cn (.inr h)), wrap_up (by omega) (by omega)]
        simpa using h
  obtain ⟨k, h⟩ := go l2.length 0 (by omega) (fun j h => by omega)
  exact Ev.of (fun k => curtilageref17_Own.mono _ _ _ _ _ _ _ _ k) (k := k) h
end
theorem right_one (o : S28) (ho : ok28 o) (b t : Int) : ∃ r, (∃ K, ∀ k, K ≤ k → curtilageref18_Right.f k [o] [b] [t] [] = some r) ∧ (r = true → ObjOK o.f2 o.f3 ∧ b < 16711680 ∧ 0 ≤ t ∧ t ≤ 63) := by
  obtain ⟨rc, ⟨Kc, ec⟩, fc⟩ := check_ev o ho
  have e0 : rd_T28 [o] 0 = o := rfl
  have eb : rd [b] 0 = b := rfl
  have et : rd [t] 0 = t := rfl
  have L1 : ∀ k, curtilageref18_Right.l1 (k + 1) [o] [] 0 = some true := fun k => by rw [curtilageref18_Right.l1, if_neg (by simp)]
  have Lz : ∀ k, curtilageref18_Right.l0 (k + 2) [o] [b] [t] [] (wrap64 (0 + 1)) = some true := fun k => by
    rw [curtilageref18_Right.l0, wrap_up (by omega) (by omega), if_neg (by simp)]; exact L1 k
  have L0 : ∃ r, curtilageref18_Right.l0 (Kc + 3) [o] [b] [t] [] 0 = some r ∧ (r = true → ObjOK o.f2 o.f3 ∧ b < 16711680 ∧ 0 ≤ t ∧ t ≤ 63) := by
    rw [curtilageref18_Right.l0, if_pos (by simp), if_pos (by simp), e0, eb, et, ec _ (by omega), Lz Kc]
    simp only [Option.bind_some]
    split
    · rename_i h0
      rw [if_pos (by simp)]
      split
      · split
        · exact ⟨_, rfl, by simp⟩
        · rw [if_pos (by simp)]
          split
          · exact ⟨_, rfl, by simp⟩
          · split
            · exact ⟨_, rfl, by simp⟩
            · exact ⟨_, rfl, fun _ => ⟨fc h0, by omega, by omega, by omega⟩⟩
      · exact ⟨_, rfl, by simp⟩
    · exact ⟨_, rfl, by simp⟩
  obtain ⟨r, h, hr⟩ := L0
  have : curtilageref18_Right.f (Kc + 4) [o] [b] [t] [] = some r := by
    unfold curtilageref18_Right.f
    rw [if_neg (by simp), if_pos (by simp), if_pos (by simp), curtilageref18_Right.j0, if_neg (by simp)]
    exact h
  exact ⟨r, Ev.of (fun k => curtilageref18_Right.mono _ _ _ _ k) this, hr⟩
theorem TableCaps : curtilagelaw18_TableCaps.Pure := by
  intro o b sym typ ho hb hs ht
  obtain ⟨a, l1, l2, l3, l4, l5, l6⟩ := o
  have hb0 := (u64_wf hb).1
  obtain ⟨K0, e0⟩ := awake_ev
  obtain ⟨r, ⟨K1, e1⟩, fr⟩ := right_one ⟨a, l1, l2, l3, l4, l5, l6⟩ ho b typ
  have T : ∀ k, curtilagelaw18_TableCaps.j0 (k + 1) b sym typ true true a l1 l2 l3 l4 l5 l6 = some true := fun k => by rw [curtilagelaw18_TableCaps.j0, if_pos rfl]
  have fin : ∀ K, (∀ k, K ≤ k → r = true → 0 ≤ sym → sym < l3.length → (rd_T35 l3 sym).f7 = true → curtilagelaw18_TableCaps.j0 (k + 1) b sym typ true false a l1 l2 l3 l4 l5 l6 = some true) → ∃ k, curtilagelaw18_TableCaps.f k a l1 l2 l3 l4 l5 l6 b sym typ = some true := by
    intro K hK
    refine ⟨K + K0 + K1 + 1, ?_⟩
    unfold curtilagelaw18_TableCaps.f
    rw [e0 _ (by omega), e1 _ (by omega)]
    simp only [Option.bind_some]
    split
    · rename_i hr
      split
      · exact T _
      · split
        · exact T _
        · rw [if_pos (by omega), if_pos (by omega)]
          cases hd : (rd_T35 l3 sym).f7
          · exact T _
          · exact hK (K + K0 + K1) (by omega) hr (by omega) (by omega) hd
    · exact T _
  by_cases hr : r = true
  case neg => exact fin 0 (fun k _ h => absurd h hr)
  obtain ⟨O, hbl, ht0, ht1⟩ := fr hr
  by_cases hsym : 0 ≤ sym ∧ sym < l3.length ∧ (rd_T35 l3 sym).f7 = true
  case neg => exact fin 0 (fun k _ _ h1 h2 h3 => absurd ⟨h1, h2, h3⟩ hsym)
  obtain ⟨s0, s1, s2⟩ := hsym
  have hl2 : l2.length ≤ 9223372036854775807 := ho.2.2.1.1
  have hA := O.syms sym s0 s1 s2
  have hw := ho.2.2.2.1.2.2 _ (rd35_mem s0 s1)
  generalize hx : rd_T35 l3 sym = x at *
  obtain ⟨_, _, w2, w3, _, _, _, _⟩ := hw
  have u2 := u64_wf w2
  have u3 := u64_wf w3
  have rg := firstOf_range (inSeg x.f2 x.f3) l2
  have S := O.segs _ hA rg.1
  have hin := firstOf_has hA
  obtain ⟨K3, e3⟩ := at_ev a l1 l2 l3 l4 l5 l6 x.f2 x.f3 hl2
  obtain ⟨K4, e4⟩ := own_r a l1 l2 l3 l4 l5 l6 hl2 O.segs hb0 hbl
  generalize hi : firstOf (inSeg x.f2 x.f3) l2 = i at *
  have hpi := part_i a l1 l2 l3 l4 l5 l6 S hb0 hbl hA rg.1
  have hpr := part_r a l1 l2 l3 l4 l5 l6 S hb0 hbl hA rg.1
  have hoi := own_i a l1 l2 l3 l4 l5 l6 O.segs hb0 hbl
  have hq := pm_or S.f1 S.f2
  have hqw := pm_wrap S.f1 S.f2
  have hrp := fun k => perms_r k S.f1 S.f2
  obtain ⟨q1, q2, q3, q4, hq4⟩ : ∃ q1 q2 q3 q4, ownC l2 b = (q1, q2, q3, q4, -1, true) := by unfold ownC; split <;> exact ⟨_, _, _, _, rfl⟩
  rw [hq4] at hoi e4
  have g1 := S.a0; have g2 := S.n0; have g3 := S.far; have g4 := S.f1; have g5 := S.f2
  generalize hsx : rd_T67 l2 i = s at *
  unfold inSeg at hin
  simp only [Bool.and_eq_true, decide_eq_true_eq] at hin
  obtain ⟨i1, i2, i3⟩ := hin
  rw [show IntKind.u64.wrap (x.f2 - s.f0) = x.f2 - s.f0 from wrapu_in (by omega) (by omega)] at i2 i3
  rw [wrapu_in (by omega) (by omega)] at i3
  have eA : celf_At.f a l1 l2 l3 l4 l5 l6 x.f2 x.f3 = some i := by unfold celf_At.f; rw [hi]
  have w1 : IntKind.u64.wrap (b + x.f2) = b + x.f2 := wrapu_in (by omega) (by omega)
  have w4 : IntKind.u64.wrap (b + x.f2 + x.f3) = b + x.f2 + x.f3 := wrapu_in (by omega) (by omega)
  have mv : ∀ p : Int, cap_Move.f (b + s.f0) (b + s.f0 + s.f1) (b + s.f0) p (-1) true (b + x.f2) = some (b + s.f0, b + s.f0 + s.f1, b + x.f2, p, -1, true) := fun p => rfl
  have bd : cap_Bound.f (b + s.f0) (b + s.f0 + s.f1) (b + x.f2) (pm s.f2) (-1) true x.f3 = some (b + x.f2, b + x.f2 + x.f3, b + x.f2, pm s.f2, -1, true) := by
    unfold cap_Bound.f cap_open.f cap_sealed.f cap_fits.f
    rw [w4]
    simp only [Option.bind_some, if_true, beq_self_eq_true, Bool.not_true, Bool.or_false]
    simp
    rw [if_pos (by omega), if_pos (by omega)]
    simp
    omega
  have D1 : ∀ k, table_Data.f (k + 1) a l1 l2 l3 l4 l5 l6 b sym = some (b + x.f2, b + x.f2 + x.f3, b + x.f2, pm s.f2, -1, true) := fun k => by
    unfold table_Data.f
    rw [if_pos s0, if_pos s1, hx, eA]; simp only [Option.bind_some]
    rw [hpi k]; simp only [Option.bind_some]
    rw [w1, mv]; simp only [Option.bind_some]
    rw [bd]; simp only [Option.bind_some]
  have D2 : ∀ k, K3 ≤ k → curtilageref18_Data.f (k + 1) a l1 l2 l3 l4 l5 l6 b sym = some (b + x.f2, b + x.f2 + x.f3, b + x.f2, pm s.f2, -1, true) := fun k hk => by
    unfold curtilageref18_Data.f
    rw [if_pos s0, if_pos s1, hx, e3 _ (by omega)]; simp only [Option.bind_some]
    rw [if_pos hA, if_pos rg.1, hsx, hrp k]; simp only [Option.bind_some]
    rw [w1, w4]
  have E1 : ∀ k, table_Entry.f (k + 1) a l1 l2 l3 l4 l5 l6 b sym typ = some (b + s.f0, b + s.f0 + s.f1, b + x.f2, pm s.f2 + 128, typ, true, q1, q2, q3, q4, typ, true) := fun k => by
    unfold table_Entry.f
    rw [if_pos s0, if_pos s1, hx, eA]; simp only [Option.bind_some]
    rw [hpi k]; simp only [Option.bind_some]
    rw [hq, w1, mv]; simp only [Option.bind_some]
    rw [key_is ht0 ht1]; simp only [Option.bind_some]
    rw [seal_is ht0 ht1]; simp only [Option.bind_some]
    rw [hoi k]; simp only [Option.bind_some]
    rw [seal_is ht0 ht1]; simp only [Option.bind_some]
  have E2 : ∀ k, K3 ≤ k → K4 ≤ k → curtilageref18_Entry.f (k + 1) a l1 l2 l3 l4 l5 l6 b sym typ = some (b + s.f0, b + s.f0 + s.f1, b + x.f2, pm s.f2 + 128, typ, true, q1, q2, q3, q4, typ, true) := fun k hk hk4 => by
    unfold curtilageref18_Entry.f
    rw [if_pos s0, if_pos s1, hx, e3 _ (by omega)]; simp only [Option.bind_some]
    rw [hpr k]; simp only [Option.bind_some]
    rw [e4 _ (by omega)]; simp only [Option.bind_some]
    rw [w1, hqw]
  refine fin (K3 + K4 + 1) (fun k hk _ _ _ _ => ?_)
  obtain ⟨k, rfl⟩ : ∃ j, k = j + 1 := ⟨k - 1, by omega⟩
  rw [curtilagelaw18_TableCaps.j0, if_neg (by simp), D1, D2 k (by omega)]
  simp only [Option.bind_some, beq_self_eq_true, Bool.not_true, Bool.or_false]
  rw [if_neg (by simp), if_pos s0, if_pos s1, E1, E2 k (by omega) (by omega)]
  simp only [Option.bind_some, beq_self_eq_true, Bool.and_self, if_true]
  split <;> rfl
end Go.Proofs.Ytlbfeklpncoccaa.Pure
