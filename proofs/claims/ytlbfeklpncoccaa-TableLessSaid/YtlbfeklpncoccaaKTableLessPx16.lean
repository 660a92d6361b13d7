/- What functions of the program, and of its laws, give, each proved of its code by a walk; no condition. -/
import Derived.Test.YtlbfeklpncoccaaKTableLessPx0
import Derived.Test.YtlbfeklpncoccaaKTableLessPx9
import Derived.Test.YtlbfeklpncoccaaKTableLessPx10
import Derived.Test.YtlbfeklpncoccaaKTableLessPx12
import Derived.Test.YtlbfeklpncoccaaKTableLessPx14
import Derived.Test.YtlbfeklpncoccaaKTableLessPx15
import Derived.Test.YtlbfeklpncoccaaKTableLessSq
import Derived.Test.YtlbfeklpncoccaaKTableLessUsh
import Derived.Test.YtlbfeklpncoccaaKTableLessUs4
namespace Go.Proofs.Ytlbfeklpncoccaa.P
open Go.RowKit Go.Proofs.YtlbfeklpncoccaaW.PrintWords Go.Proofs.YtlbfeklpncoccaaW.PrintLast Go.Proofs.YtlbfeklpncoccaaW.PrintMore
attribute [local go_sem] max2_int min2_int max_two min_two max_three min_three max_four min_four   -- for this text's walks alone
set_option linter.unusedVariables false
set_option linter.unusedSimpArgs false

mutual
def curtilageref10_Check.j0 : Nat → Bool → ByteArray → List ByteArray → List (S67) → List (S35) → List (S72) → List Int → List Int → Option (Int)
  | 0, _, _, _, _, _, _, _, _ => none
  | k + 1, x47, x436000, x436001, x436002, x436003, x436004, x436005, x436006 => if x47 = true then (some 104) else ((curtilageref10_Segments.f k x436002).bind fun t437 => (if t437 = true then (curtilageref10_Check.l0 k 0 x436000 x436001 x436002 x436003 x436004 x436005 x436006) else (some 105)))
def curtilageref10_Check.l0 : Nat → Int → ByteArray → List ByteArray → List (S67) → List (S35) → List (S72) → List Int → List Int → Option (Int)
  | 0, _, _, _, _, _, _, _, _ => none
  | k + 1, x5, x436000, x436001, x436002, x436003, x436004, x436005, x436006 => if x5 < (x436003.length : Int) then (if 0 ≤ x5 then ((curtilageref10_symbol.f k x436000 x436001 x436002 x436003 x436004 x436005 x436006 ((rd_T35 x436003 x5).f0) ((rd_T35 x436003 x5).f1) ((rd_T35 x436003 x5).f2) ((rd_T35 x436003 x5).f3) ((rd_T35 x436003 x5).f4) ((rd_T35 x436003 x5).f5) ((rd_T35 x436003 x5).f6) ((rd_T35 x436003 x5).f7)).bind fun t439 => (if t439 = true then (curtilageref10_Check.l0 k (wrap64 (x5 + 1)) x436000 x436001 x436002 x436003 x436004 x436005 x436006) else (some 106))) else (none)) else ((curtilageref10_relocs.f k x436000 x436001 x436002 x436003 x436004 x436005 x436006).bind fun t440 => (if t440 = true then ((curtilageref10_lists.f k x436000 x436001 x436002 x436003 x436004 x436005 x436006 x436005).bind fun t441 => ((curtilageref10_lists.f k x436000 x436001 x436002 x436003 x436004 x436005 x436006 x436006).bind fun t442 => (if t441 = true then (if t442 = true then (some 0) else (some 108)) else (some 108)))) else (some 107)))
end
def curtilageref10_Check.f (k : Nat) (a0_0 : ByteArray) (l0_1 : List ByteArray) (l0_2 : List (S67)) (l0_3 : List (S35)) (l0_4 : List (S72)) (l0_5 : List Int) (l0_6 : List Int) : Option (Int) := (curtilageref10_names.f k a0_0 l0_1 l0_2 l0_3 l0_4 l0_5 l0_6).bind fun t436 => (if t436 = true then (if (l0_1.length : Int) > 8 then (curtilageref10_Check.j0 k true a0_0 l0_1 l0_2 l0_3 l0_4 l0_5 l0_6) else (if (l0_2.length : Int) > 6 then (curtilageref10_Check.j0 k true a0_0 l0_1 l0_2 l0_3 l0_4 l0_5 l0_6) else (if (l0_3.length : Int) > 40 then (curtilageref10_Check.j0 k true a0_0 l0_1 l0_2 l0_3 l0_4 l0_5 l0_6) else (if (l0_4.length : Int) > 60 then (curtilageref10_Check.j0 k true a0_0 l0_1 l0_2 l0_3 l0_4 l0_5 l0_6) else (if (l0_5.length : Int) > 8 then (curtilageref10_Check.j0 k true a0_0 l0_1 l0_2 l0_3 l0_4 l0_5 l0_6) else (curtilageref10_Check.j0 k (decide ((l0_6.length : Int) > 8)) a0_0 l0_1 l0_2 l0_3 l0_4 l0_5 l0_6)))))) else (some 103))
theorem curtilageref10_Check.mono_l : ∀ k, (∀ y0 y1 y2 y3 y4 y5 y6 y7, LeO (curtilageref10_Check.j0 k y0 y1 y2 y3 y4 y5 y6 y7) (curtilageref10_Check.j0 (k + 1) y0 y1 y2 y3 y4 y5 y6 y7)) ∧ (∀ y0 y1 y2 y3 y4 y5 y6 y7, LeO (curtilageref10_Check.l0 k y0 y1 y2 y3 y4 y5 y6 y7) (curtilageref10_Check.l0 (k + 1) y0 y1 y2 y3 y4 y5 y6 y7))
  | 0 => ⟨fun _ _ _ _ _ _ _ _ r h => by simp [curtilageref10_Check.j0] at h, fun _ _ _ _ _ _ _ _ r h => by simp [curtilageref10_Check.l0] at h⟩
  | k + 1 => by
    obtain ⟨ih0, ih1⟩ := curtilageref10_Check.mono_l k
    refine ⟨?_, ?_⟩
    · intro y0 y1 y2 y3 y4 y5 y6 y7
      unfold curtilageref10_Check.j0
      repeat' first
      | (with_reducible exact ih0 _ _ _ _ _ _ _ _)
      | (with_reducible exact ih1 _ _ _ _ _ _ _ _)
      | (with_reducible exact curtilageref10_Segments.mono _ _)
      | (with_reducible exact curtilageref10_lists.mono _ _ _ _ _ _ _ _ _)
      | (with_reducible exact curtilageref10_names.mono _ _ _ _ _ _ _ _)
      | (with_reducible exact curtilageref10_relocs.mono _ _ _ _ _ _ _ _)
      | (with_reducible exact curtilageref10_symbol.mono _ _ _ _ _ _ _ _ _ _ _ _ _ _ _ _)
      | (with_reducible exact LeO.refl _)
      | (with_reducible exact LeO.none _)
      | (with_reducible refine LeO.ite ?_ ?_)
      | (with_reducible refine LeO.bind ?_ (fun _ => ?_))
      | exact ih0 _ _ _ _ _ _ _ _
      | exact ih1 _ _ _ _ _ _ _ _
      | exact curtilageref10_Segments.mono _ _
      | exact curtilageref10_lists.mono _ _ _ _ _ _ _ _ _
      | exact curtilageref10_names.mono _ _ _ _ _ _ _ _
      | exact curtilageref10_relocs.mono _ _ _ _ _ _ _ _
      | exact curtilageref10_symbol.mono _ _ _ _ _ _ _ _ _ _ _ _ _ _ _ _
      | exact LeO.none _
      | refine LeO.ite ?_ ?_
      | refine LeO.bind ?_ (fun _ => ?_)
    · intro y0 y1 y2 y3 y4 y5 y6 y7
      unfold curtilageref10_Check.l0
      repeat' first
      | (with_reducible exact ih0 _ _ _ _ _ _ _ _)
      | (with_reducible exact ih1 _ _ _ _ _ _ _ _)
      | (with_reducible exact curtilageref10_Segments.mono _ _)
      | (with_reducible exact curtilageref10_lists.mono _ _ _ _ _ _ _ _ _)
      | (with_reducible exact curtilageref10_names.mono _ _ _ _ _ _ _ _)
      | (with_reducible exact curtilageref10_relocs.mono _ _ _ _ _ _ _ _)
      | (with_reducible exact curtilageref10_symbol.mono _ _ _ _ _ _ _ _ _ _ _ _ _ _ _ _)
      | (with_reducible exact LeO.refl _)
      | (with_reducible exact LeO.none _)
      | (with_reducible refine LeO.ite ?_ ?_)
      | (with_reducible refine LeO.bind ?_ (fun _ => ?_))
      | exact ih0 _ _ _ _ _ _ _ _
      | exact ih1 _ _ _ _ _ _ _ _
      | exact curtilageref10_Segments.mono _ _
      | exact curtilageref10_lists.mono _ _ _ _ _ _ _ _ _
      | exact curtilageref10_names.mono _ _ _ _ _ _ _ _
      | exact curtilageref10_relocs.mono _ _ _ _ _ _ _ _
      | exact curtilageref10_symbol.mono _ _ _ _ _ _ _ _ _ _ _ _ _ _ _ _
      | exact LeO.none _
      | refine LeO.ite ?_ ?_
      | refine LeO.bind ?_ (fun _ => ?_)
theorem curtilageref10_Check.mono : ∀ a0 a1 a2 a3 a4 a5 a6 k, LeO (curtilageref10_Check.f k a0 a1 a2 a3 a4 a5 a6) (curtilageref10_Check.f (k + 1) a0 a1 a2 a3 a4 a5 a6) := by
  intro a0 a1 a2 a3 a4 a5 a6 k
  obtain ⟨ih0, ih1⟩ := curtilageref10_Check.mono_l k
  unfold curtilageref10_Check.f
  repeat' first
      | (with_reducible exact ih0 _ _ _ _ _ _ _ _)
      | (with_reducible exact ih1 _ _ _ _ _ _ _ _)
      | (with_reducible exact curtilageref10_Segments.mono _ _)
      | (with_reducible exact curtilageref10_lists.mono _ _ _ _ _ _ _ _ _)
      | (with_reducible exact curtilageref10_names.mono _ _ _ _ _ _ _ _)
      | (with_reducible exact curtilageref10_relocs.mono _ _ _ _ _ _ _ _)
      | (with_reducible exact curtilageref10_symbol.mono _ _ _ _ _ _ _ _ _ _ _ _ _ _ _ _)
      | (with_reducible exact LeO.refl _)
      | (with_reducible exact LeO.none _)
      | (with_reducible refine LeO.ite ?_ ?_)
      | (with_reducible refine LeO.bind ?_ (fun _ => ?_))
      | exact ih0 _ _ _ _ _ _ _ _
      | exact ih1 _ _ _ _ _ _ _ _
      | exact curtilageref10_Segments.mono _ _
      | exact curtilageref10_lists.mono _ _ _ _ _ _ _ _ _
      | exact curtilageref10_names.mono _ _ _ _ _ _ _ _
      | exact curtilageref10_relocs.mono _ _ _ _ _ _ _ _
      | exact curtilageref10_symbol.mono _ _ _ _ _ _ _ _ _ _ _ _ _ _ _ _
      | exact LeO.none _
      | refine LeO.ite ?_ ?_
      | refine LeO.bind ?_ (fun _ => ?_)
def curtilageref10_Check.T12 : Bool × List (List Nat × List Nat) := (true, [([], []), ([], []), ([1], [1]), ([], []), ([2, 3], [2, 3]), ([4], [4]), ([0, 5], [0, 5]), ([6, 6, 0, 1, 2, 3, 4, 5, 6], [6])])
def curtilageref10_Check.B12 : List Nat := [0, 0, 2, 0, 14, 30, 63, 127]
theorem curtilageref10_Check.tab12 : rtab .any (opsOf Try.f22 12) = curtilageref10_Check.T12 := by kernel_rfl
theorem curtilageref10_Check.bits12 : waitsOk curtilageref10_Check.T12.2 curtilageref10_Check.B12 = true := by kernel_rfl
set_option maxHeartbeats 8000000 in
set_option maxRecDepth 100000 in
theorem curtilageref10_Check.calls (k : Nat) (a0_0 : ByteArray) (A0_1 : Option Addr) (c0_1 : Nat) (l0_1 : List ByteArray) (A0_2 : Option Addr) (c0_2 : Nat) (l0_2 : List (S67)) (A0_3 : Option Addr) (c0_3 : Nat) (l0_3 : List (S35)) (A0_4 : Option Addr) (c0_4 : Nat) (l0_4 : List (S72)) (A0_5 : Option Addr) (c0_5 : Nat) (l0_5 : List Int) (A0_6 : Option Addr) (c0_6 : Nat) (l0_6 : List Int) (r : Int) (w : World) (hr0_1 : Kd.C Kd.string w A0_1 l0_1.length l0_1) (hc0_1 : l0_1.length ≤ c0_1) (hr0_2 : Kd.C k67 w A0_2 l0_2.length l0_2) (hc0_2 : l0_2.length ≤ c0_2) (hr0_3 : Kd.C k35 w A0_3 l0_3.length l0_3) (hc0_3 : l0_3.length ≤ c0_3) (hr0_4 : Kd.C k72 w A0_4 l0_4.length l0_4) (hc0_4 : l0_4.length ≤ c0_4) (hr0_5 : Kd.C (Kd.int .i64) w A0_5 l0_5.length l0_5) (hc0_5 : l0_5.length ≤ c0_5) (hr0_6 : Kd.C (Kd.int .i64) w A0_6 l0_6.length l0_6) (hc0_6 : l0_6.length ≤ c0_6) (h : curtilageref10_Check.f k a0_0 l0_1 l0_2 l0_3 l0_4 l0_5 l0_6 = some r) :
  Calls Try.prog 22 #[.agg #[.string a0_0, .slice A0_1 l0_1.length c0_1, .slice A0_2 l0_2.length c0_2, .slice A0_3 l0_3.length c0_3, .slice A0_4 l0_4.length c0_4, .slice A0_5 l0_5.length c0_5, .slice A0_6 l0_6.length c0_6]] w fun e w' => e = .returned (.int .i64 r) ∧ Below w.heap.size w w' := by
 have hu28 := Try.underlying28
 have hu35 := Try.underlying35
 have HR0_1 := am hr0_1
 have HC0_1 := am hc0_1
 clear hr0_1 hc0_1
 have HR0_2 := am hr0_2
 have HC0_2 := am hc0_2
 clear hr0_2 hc0_2
 have HR0_3 := am hr0_3
 have HC0_3 := am hc0_3
 clear hr0_3 hc0_3
 have HR0_4 := am hr0_4
 have HC0_4 := am hc0_4
 clear hr0_4 hc0_4
 have HR0_5 := am hr0_5
 have HC0_5 := am hc0_5
 clear hr0_5 hc0_5
 have HR0_6 := am hr0_6
 have HC0_6 := am hc0_6
 clear hr0_6 hc0_6
 have HB := am (Below.refl w.heap.size w)
 have H : ((curtilageref10_names.f k a0_0 l0_1 l0_2 l0_3 l0_4 l0_5 l0_6).bind fun t436 => (if t436 = true then (if (l0_1.length : Int) > 8 then (curtilageref10_Check.j0 k true a0_0 l0_1 l0_2 l0_3 l0_4 l0_5 l0_6) else (if (l0_2.length : Int) > 6 then (curtilageref10_Check.j0 k true a0_0 l0_1 l0_2 l0_3 l0_4 l0_5 l0_6) else (if (l0_3.length : Int) > 40 then (curtilageref10_Check.j0 k true a0_0 l0_1 l0_2 l0_3 l0_4 l0_5 l0_6) else (if (l0_4.length : Int) > 60 then (curtilageref10_Check.j0 k true a0_0 l0_1 l0_2 l0_3 l0_4 l0_5 l0_6) else (if (l0_5.length : Int) > 8 then (curtilageref10_Check.j0 k true a0_0 l0_1 l0_2 l0_3 l0_4 l0_5 l0_6) else (curtilageref10_Check.j0 k (decide ((l0_6.length : Int) > 8)) a0_0 l0_1 l0_2 l0_3 l0_4 l0_5 l0_6)))))) else (some 103))) = some r := h
 clear h
 replace H := Option.bind_eq_some_iff.mp H
 obtain ⟨t436, A20, H⟩ := H
 replace H : (if t436 = true then (if (l0_1.length : Int) > 8 then (curtilageref10_Check.j0 k true a0_0 l0_1 l0_2 l0_3 l0_4 l0_5 l0_6) else (if (l0_2.length : Int) > 6 then (curtilageref10_Check.j0 k true a0_0 l0_1 l0_2 l0_3 l0_4 l0_5 l0_6) else (if (l0_3.length : Int) > 40 then (curtilageref10_Check.j0 k true a0_0 l0_1 l0_2 l0_3 l0_4 l0_5 l0_6) else (if (l0_4.length : Int) > 60 then (curtilageref10_Check.j0 k true a0_0 l0_1 l0_2 l0_3 l0_4 l0_5 l0_6) else (if (l0_5.length : Int) > 8 then (curtilageref10_Check.j0 k true a0_0 l0_1 l0_2 l0_3 l0_4 l0_5 l0_6) else (curtilageref10_Check.j0 k (decide ((l0_6.length : Int) > 8)) a0_0 l0_1 l0_2 l0_3 l0_4 l0_5 l0_6)))))) else (some 103)) = some r := H
 have A2 := am A20
 clear A20
 by_cases c3 : t436 = true
 ·subst c3
  have H1 : (if (l0_1.length : Int) > 8 then (curtilageref10_Check.j0 k true a0_0 l0_1 l0_2 l0_3 l0_4 l0_5 l0_6) else (if (l0_2.length : Int) > 6 then (curtilageref10_Check.j0 k true a0_0 l0_1 l0_2 l0_3 l0_4 l0_5 l0_6) else (if (l0_3.length : Int) > 40 then (curtilageref10_Check.j0 k true a0_0 l0_1 l0_2 l0_3 l0_4 l0_5 l0_6) else (if (l0_4.length : Int) > 60 then (curtilageref10_Check.j0 k true a0_0 l0_1 l0_2 l0_3 l0_4 l0_5 l0_6) else (if (l0_5.length : Int) > 8 then (curtilageref10_Check.j0 k true a0_0 l0_1 l0_2 l0_3 l0_4 l0_5 l0_6) else (curtilageref10_Check.j0 k (decide ((l0_6.length : Int) > 8)) a0_0 l0_1 l0_2 l0_3 l0_4 l0_5 l0_6)))))) = some r := by rw [if_pos rfl] at H; exact H
  clear H
  have H := H1
  clear H1
  have HC4 := am H
  clear H
  go_enter Try.func22, Try.ntmps22
  go_upto_region 4 with (first | ((with_reducible refine gate_dst (N := 1) rfl ?_); (try (refine gate_guard (by rfl) ?_; dsimp only)); refine box_event ?hg (N := 1) ?hd (cs := #[.string a0_0, .slice A0_1 l0_1.length c0_1, .slice A0_2 l0_2.length c0_2, .slice A0_3 l0_3.length c0_3, .slice A0_4 l0_4.length c0_4, .slice A0_5 l0_5.length c0_5, .slice A0_6 l0_6.length c0_6]) (t := 28) ?hr ?_; (case hd => rfl); (case hg => rfl); (case hr => first | (go_simp; done) | (go_simp; rfl)); intro gb435 hg w5 hbox hb; have n0_ := bs HB hb; have n1_ := am (hbox); have n2_ := nz HB hg; have n3_ := nz HB hg; revert n0_ n1_ n2_ n3_; clear HB; intro HB BK435 GW435 GE435; clear hb hbox hg; obtain ⟨hcz6_0, hcz6_1, hcz6_2, hcz6_3, hcz6_4, hcz6_5, hcz6_6, hfz6_0, hfz6_1, hfz6_2, hfz6_3, hfz6_4, hfz6_5, hfz6_6⟩ := cells7 BK435.out) | ((with_reducible refine gate_dst (N := 11) rfl ?_); (with_reducible refine gate_callee (f := 40) rfl ?_); refine gl (some 11) Try.func40 #[.agg #[.string a0_0, .slice A0_1 l0_1.length c0_1, .slice A0_2 l0_2.length c0_2, .slice A0_3 l0_3.length c0_3, .slice A0_4 l0_4.length c0_4, .slice A0_5 l0_5.length c0_5, .slice A0_6 l0_6.length c0_6]] ?_; (with_reducible refine (curtilageref10_names.calls k a0_0 _ _ l0_1 _ _ l0_2 _ _ l0_3 _ _ l0_4 _ _ l0_5 _ _ l0_6 true _ ?side1 ?side2 ?side3 ?side4 ?side5 ?side6 ?side7 ?side8 ?side9 ?side10 ?side11 ?side12 A2.out).mono ?_); (case side1 => exact us (Kd.C_below HR0_1.out HB.out)); (case side2 => exact HC0_1.out); (case side3 => exact us (Kd.C_below HR0_2.out HB.out)); (case side4 => exact HC0_2.out); (case side5 => exact us (Kd.C_below HR0_3.out HB.out)); (case side6 => exact HC0_3.out); (case side7 => exact us (Kd.C_below HR0_4.out HB.out)); (case side8 => exact HC0_4.out); (case side9 => exact us (Kd.C_below HR0_5.out HB.out)); (case side10 => exact HC0_5.out); (case side11 => exact us (Kd.C_below HR0_6.out HB.out)); (case side12 => exact HC0_6.out); rintro e w7 ⟨rfl, hb⟩; refine ⟨_, rfl, ?_⟩; have n0_ := bw BK435 hb; have n1_ := bs HB hb; revert n0_ n1_; clear BK435 HB; intro BK435 HB; (try clear hb)))
  (try simp only [Act.put, List.setIfInBounds_toArray, List.set_cons_zero, List.set_cons_succ])
  go_cut [47] (fun v47 wc => ∃ (kq : Nat) (x47_3 : Bool), v47 = .bool x47_3 ∧ Aside0 (curtilageref10_Check.j0 kq x47_3 a0_0 l0_1 l0_2 l0_3 l0_4 l0_5 l0_6 = some r) ∧ Aside0 (kq ≤ k) ∧ Aside0 (wc.heap[gb435]? = some (.cells #[.string a0_0, (.slice A0_1 l0_1.length c0_1), (.slice A0_2 l0_2.length c0_2), (.slice A0_3 l0_3.length c0_3), (.slice A0_4 l0_4.length c0_4), (.slice A0_5 l0_5.length c0_5), (.slice A0_6 l0_6.length c0_6)] 28 (0, 0))) ∧ Aside0 (Below w.heap.size w wc))
  case first =>
   have H := HC4.out
   clear HC4
   by_cases c8 : (l0_1.length : Int) > 8
   ·rw [if_pos c8] at H
    have c8b0 : decide (8 < (l0_1.length : Int)) = true := decide_eq_true c8
    have c8b1 : decide (8 < l0_1.length) = true := decide_eq_true (by omega)
    clear c8
    (first | rw [c8b0] | (simp only [i64_w, i32_w]; rw [c8b0]) | skip)
    have H' := am H
    clear H
    obtain ⟨hcz9_0, hcz9_1, hcz9_2, hcz9_3, hcz9_4, hcz9_5, hcz9_6, hfz9_0, hfz9_1, hfz9_2, hfz9_3, hfz9_4, hfz9_5, hfz9_6⟩ := cl7 BK435
    go_wp2
    go_meet
    case rel => exact ⟨_, (true), uf, H', ⟨by first | omega | exact Nat.le_refl _⟩, ⟨ub BK435.out⟩, ⟨uc HB.out⟩⟩
   ·rw [if_neg c8] at H
    have c8b0 : decide (8 < (l0_1.length : Int)) = false := decide_eq_false c8
    have c8b1 : decide (8 < l0_1.length) = false := decide_eq_false (by omega)
    clear c8
    (first | rw [c8b0] | (simp only [i64_w, i32_w]; rw [c8b0]) | skip)
    by_cases c10 : (l0_2.length : Int) > 6
    ·rw [if_pos c10] at H
     have c10b0 : decide (6 < (l0_2.length : Int)) = true := decide_eq_true c10
     have c10b1 : decide (6 < l0_2.length) = true := decide_eq_true (by omega)
     clear c10
     have H' := am H
     clear H
     obtain ⟨hcz11_0, hcz11_1, hcz11_2, hcz11_3, hcz11_4, hcz11_5, hcz11_6, hfz11_0, hfz11_1, hfz11_2, hfz11_3, hfz11_4, hfz11_5, hfz11_6⟩ := cl7 BK435
     go_wp2
     go_meet
     case rel => exact ⟨_, (true), uf, H', ⟨by first | omega | exact Nat.le_refl _⟩, ⟨ub BK435.out⟩, ⟨uc HB.out⟩⟩
    ·rw [if_neg c10] at H
     have c10b0 : decide (6 < (l0_2.length : Int)) = false := decide_eq_false c10
     have c10b1 : decide (6 < l0_2.length) = false := decide_eq_false (by omega)
     clear c10
     by_cases c12 : (l0_3.length : Int) > 40
     ·rw [if_pos c12] at H
      have c12b0 : decide (40 < (l0_3.length : Int)) = true := decide_eq_true c12
      have c12b1 : decide (40 < l0_3.length) = true := decide_eq_true (by omega)
      clear c12
      have H' := am H
      clear H
      obtain ⟨hcz13_0, hcz13_1, hcz13_2, hcz13_3, hcz13_4, hcz13_5, hcz13_6, hfz13_0, hfz13_1, hfz13_2, hfz13_3, hfz13_4, hfz13_5, hfz13_6⟩ := cl7 BK435
      go_wp2
      go_meet
      case rel => exact ⟨_, (true), uf, H', ⟨by first | omega | exact Nat.le_refl _⟩, ⟨ub BK435.out⟩, ⟨uc HB.out⟩⟩
     ·rw [if_neg c12] at H
      have c12b0 : decide (40 < (l0_3.length : Int)) = false := decide_eq_false c12
      have c12b1 : decide (40 < l0_3.length) = false := decide_eq_false (by omega)
      clear c12
      by_cases c14 : (l0_4.length : Int) > 60
      ·rw [if_pos c14] at H
       have c14b0 : decide (60 < (l0_4.length : Int)) = true := decide_eq_true c14
       have c14b1 : decide (60 < l0_4.length) = true := decide_eq_true (by omega)
       clear c14
       have H' := am H
       clear H
       obtain ⟨hcz15_0, hcz15_1, hcz15_2, hcz15_3, hcz15_4, hcz15_5, hcz15_6, hfz15_0, hfz15_1, hfz15_2, hfz15_3, hfz15_4, hfz15_5, hfz15_6⟩ := cl7 BK435
       go_wp2
       go_meet
       case rel => exact ⟨_, (true), uf, H', ⟨by first | omega | exact Nat.le_refl _⟩, ⟨ub BK435.out⟩, ⟨uc HB.out⟩⟩
      ·rw [if_neg c14] at H
       have c14b0 : decide (60 < (l0_4.length : Int)) = false := decide_eq_false c14
       have c14b1 : decide (60 < l0_4.length) = false := decide_eq_false (by omega)
       clear c14
       by_cases c16 : (l0_5.length : Int) > 8
       ·rw [if_pos c16] at H
        have c16b0 : decide (8 < (l0_5.length : Int)) = true := decide_eq_true c16
        have c16b1 : decide (8 < l0_5.length) = true := decide_eq_true (by omega)
        clear c16
        have H' := am H
        clear H
        obtain ⟨hcz17_0, hcz17_1, hcz17_2, hcz17_3, hcz17_4, hcz17_5, hcz17_6, hfz17_0, hfz17_1, hfz17_2, hfz17_3, hfz17_4, hfz17_5, hfz17_6⟩ := cl7 BK435
        go_wp2
        go_meet
        case rel => exact ⟨_, (true), uf, H', ⟨by first | omega | exact Nat.le_refl _⟩, ⟨ub BK435.out⟩, ⟨uc HB.out⟩⟩
       ·rw [if_neg c16] at H
        have c16b0 : decide (8 < (l0_5.length : Int)) = false := decide_eq_false c16
        have c16b1 : decide (8 < l0_5.length) = false := decide_eq_false (by omega)
        clear c16
        have H' := am H
        clear H
        obtain ⟨hcz18_0, hcz18_1, hcz18_2, hcz18_3, hcz18_4, hcz18_5, hcz18_6, hfz18_0, hfz18_1, hfz18_2, hfz18_3, hfz18_4, hfz18_5, hfz18_6⟩ := cl7 BK435
        go_wp2
        go_meet
        case rel => exact ⟨_, (decide ((l0_6.length : Int) > 8)), uf, H', ⟨by first | omega | exact Nat.le_refl _⟩, ⟨ub BK435.out⟩, ⟨uc HB.out⟩⟩
  case rest =>
   clear HC4
   clear hcz6_0 hcz6_1 hcz6_2 hcz6_3 hcz6_4 hcz6_5 hcz6_6 hfz6_0 hfz6_1 hfz6_2 hfz6_3 hfz6_4 hfz6_5 hfz6_6
   obtain ⟨kq, x47_3, rfl, HA, HJ3, BK435, HB⟩ := hcut
   cases kq with
   | zero => exact absurd HA.out (by simp [curtilageref10_Check.j0])
   | succ kj3 =>
    have H := HA.out
    clear HA
    simp only [curtilageref10_Check.j0] at H
    by_cases c19 : x47_3 = true
    ·subst c19
     have H1 : (some 104) = some r := by rw [if_pos rfl] at H; exact H
     clear H
     have H := H1
     clear H1
     obtain rfl := Option.some.inj H
     go_wp2
     go_ret
     exact ur (uc HB.out)
    ·replace c19 := Bool.eq_false_iff.mpr c19
     subst c19
     have H1 : ((curtilageref10_Segments.f kj3 l0_2).bind fun t437 => (if t437 = true then (curtilageref10_Check.l0 kj3 0 a0_0 l0_1 l0_2 l0_3 l0_4 l0_5 l0_6) else (some 105))) = some r := by rw [if_neg (show ¬ (false = true) by decide)] at H; exact H
     clear H
     have H := H1
     clear H1
     replace H := Option.bind_eq_some_iff.mp H
     obtain ⟨t437, A200, H⟩ := H
     replace H : (if t437 = true then (curtilageref10_Check.l0 kj3 0 a0_0 l0_1 l0_2 l0_3 l0_4 l0_5 l0_6) else (some 105)) = some r := H
     have A20 := am A200
     clear A200
     by_cases c21 : t437 = true
     ·subst c21
      have H1 : (curtilageref10_Check.l0 kj3 0 a0_0 l0_1 l0_2 l0_3 l0_4 l0_5 l0_6) = some r := by rw [if_pos rfl] at H; exact H
      clear H
      have H := H1
      clear H1
      have H' := am H
      clear H
      obtain ⟨hcz22_0, hcz22_1, hcz22_2, hcz22_3, hcz22_4, hcz22_5, hcz22_6, hfz22_0, hfz22_1, hfz22_2, hfz22_3, hfz22_4, hfz22_5, hfz22_6⟩ := cl7 BK435
      go_wp2_with (first | ((with_reducible refine gate_dst (N := 50) rfl ?_); (with_reducible refine gate_callee (f := 41) rfl ?_); refine gl (some 50) Try.func41 #[.slice A0_2 l0_2.length c0_2] ?_; (with_reducible refine (curtilageref10_Segments.calls kj3 _ _ l0_2 true _ ?side1 ?side2 A20.out).mono ?_); (case side1 => exact us (Kd.C_below HR0_2.out HB.out)); (case side2 => exact HC0_2.out); rintro e w23 ⟨rfl, hb⟩; refine ⟨_, rfl, ?_⟩; have n0_ := bw BK435 hb; have n1_ := bs HB hb; revert n0_ n1_; clear BK435 HB; intro BK435 HB; (try clear hb)))
      go_loopg [5] kj3 (fun kq v5 w' => ∃ (x5_2 : Int), v5 = .int .i64 x5_2 ∧ Aside0 (curtilageref10_Check.l0 kq x5_2 a0_0 l0_1 l0_2 l0_3 l0_4 l0_5 l0_6 = some r) ∧ Aside0 (kq ≤ kj3) ∧ Aside0 (w'.heap[gb435]? = some (.cells #[.string a0_0, (.slice A0_1 l0_1.length c0_1), (.slice A0_2 l0_2.length c0_2), (.slice A0_3 l0_3.length c0_3), (.slice A0_4 l0_4.length c0_4), (.slice A0_5 l0_5.length c0_5), (.slice A0_6 l0_6.length c0_6)] 28 (0, 0))) ∧ Aside0 (Below w.heap.size w w'))
      case atStart => exact ⟨(0), uf, H', ⟨Nat.le_refl _⟩, ⟨ub BK435.out⟩, ⟨uc HB.out⟩⟩
      case round =>
       clear H'
       clear hcz22_0 hcz22_1 hcz22_2 hcz22_3 hcz22_4 hcz22_5 hcz22_6 hfz22_0 hfz22_1 hfz22_2 hfz22_3 hfz22_4 hfz22_5 hfz22_6
       obtain ⟨x5_2, rfl, HA, HK2, BK435, HB⟩ := hrel
       cases gk with
       | zero => exact absurd HA.out (by simp [curtilageref10_Check.l0])
       | succ k2 =>
        have H := HA.out
        clear HA
        simp only [curtilageref10_Check.l0] at H
        by_cases c24 : x5_2 < (l0_3.length : Int)
        ·rw [if_pos c24] at H
         have c24b0 := decide_eq_true c24
         clear c24
         obtain ⟨c25, H⟩ := ic H
         have c25b0 : decide (0 ≤ x5_2) = true := decide_eq_true c25
         clear c25
         replace H := Option.bind_eq_some_iff.mp H
         obtain ⟨t439, A260, H⟩ := H
         replace H : (if t439 = true then (curtilageref10_Check.l0 k2 (wrap64 (x5_2 + 1)) a0_0 l0_1 l0_2 l0_3 l0_4 l0_5 l0_6) else (some 106)) = some r := H
         have A26 := am A260
         clear A260
         by_cases c27 : t439 = true
         ·subst c27
          have H1 : (curtilageref10_Check.l0 k2 (wrap64 (x5_2 + 1)) a0_0 l0_1 l0_2 l0_3 l0_4 l0_5 l0_6) = some r := by rw [if_pos rfl] at H; exact H
          clear H
          have H := H1
          clear H1
          have H' := am H
          clear H
          obtain ⟨hcz28_0, hcz28_1, hcz28_2, hcz28_3, hcz28_4, hcz28_5, hcz28_6, hfz28_0, hfz28_1, hfz28_2, hfz28_3, hfz28_4, hfz28_5, hfz28_6⟩ := cl7 BK435
          try go_wp2
          have n0_ := am (blk_drew BK435.out)
          have n1_ := am (below_drew1 HB.out)
          revert n0_ n1_
          clear BK435 HB
          intro BK435 HB
          have p438 : 0 ≤ (x5_2 : Int) := ud
          have q438 : x5_2 < (l0_3.length : Int) := ud
          obtain ⟨ad438, e438, hx438_0, hx438_1, hx438_2, hx438_3, hx438_4, hx438_5, hx438_6, hx438_7⟩ := at_T35 HR0_3.out x5_2 p438 q438
          have hw438_7 := hx438_7
          have hw438_6 := hx438_6
          have hw438_5 := hx438_5
          have hw438_4 := hx438_4
          have hw438_3 := hx438_3
          have hw438_2 := hx438_2
          have hw438_1 := hx438_1
          have hw438_0 := hx438_0
          cases e438
          replace hx438_0 := bcel HB hx438_0
          replace hx438_1 := bcel HB hx438_1
          replace hx438_2 := bcel HB hx438_2
          replace hx438_3 := bcel HB hx438_3
          replace hx438_4 := bcel HB hx438_4
          replace hx438_5 := bcel HB hx438_5
          replace hx438_6 := bcel HB hx438_6
          replace hx438_7 := bcel HB hx438_7
          replace p438 := eq_true p438
          replace q438 := eq_true q438
          refine sr 8 [] (hB7 BK435 (hA (bcel HB hw438_0 :) (hA (bcel HB hw438_1 :) (hA (bcel HB hw438_2 :) (hA (bcel HB hw438_3 :) (hA (bcel HB hw438_4 :) (hA (bcel HB hw438_5 :) (hA (bcel HB hw438_6 :) (hZ (bcel HB hw438_7 :)))))))))) (fun hHeld => ?_); refine with_tabW curtilageref10_Check.tab12 curtilageref10_Check.bits12 (fun HT_ HW_ => ?_)
          generalize wr.drew = w29 at BK435 HB hx438_0 hx438_1 hx438_2 hx438_3 hx438_4 hx438_5 hx438_6 hx438_7 hHeld ⊢
          refine pv 1 61 (bA 8 2) HT_ ?_
          refine pv 3 63 (bA 8 10) HT_ ?_
          refine tv 0 60 (bA 8 11) HT_ HW_ hHeld ?_ (hy := by rintro w' ⟨s0, s1, s2, s3, s4, s5, s6, s7, s8, s9, s10, s11, s12, s13, s14⟩; go_simp; with_reducible rfl)
          refine tv 2 62 (bA 8 15) HT_ HW_ hHeld ?_ (hy := by rintro w' ⟨s0, s1, s2, s3, s4, s5, s6, s7, s8, s9, s10, s11, s12, s13, s14⟩; go_simp; with_reducible rfl)
          refine pv 4 64 (bA 8 31) HT_ ?_
          refine tv 5 65 (bA 8 63) HT_ HW_ hHeld ?_ (hy := by rintro w' ⟨s0, s1, s2, s3, s4, s5, s6, s7, s8, s9, s10, s11, s12, s13, s14⟩; go_simp; with_reducible rfl)
          refine one_ (i := 6) (N := some 66) (bA 8 127) rfl rfl (one_of HT_.out (by kernel_rfl)) (by decide) (fun K hK => ?_)
          refine goes_ Try.func42 (by kernel_rfl) rfl #[.agg #[.string a0_0, .slice A0_1 l0_1.length c0_1, .slice A0_2 l0_2.length c0_2, .slice (some ad438) l0_3.length c0_3, .slice A0_4 l0_4.length c0_4, .slice A0_5 l0_5.length c0_5, .slice A0_6 l0_6.length c0_6], .agg #[.string ((rd_T35 l0_3 x5_2).f0), .string ((rd_T35 l0_3 x5_2).f1), .int .u64 ((rd_T35 l0_3 x5_2).f2), .int .u64 ((rd_T35 l0_3 x5_2).f3), .int .i64 ((rd_T35 l0_3 x5_2).f4), .int .i64 ((rd_T35 l0_3 x5_2).f5), .int .i64 ((rd_T35 l0_3 x5_2).f6), .bool ((rd_T35 l0_3 x5_2).f7)]] (by rfl) rfl rfl (by (try simp only [List.map_toArray, List.map_cons, List.map_nil]); first | done | rfl | (simp only [List.length_drop, List.length_take]; rfl)) ?_
          with_reducible refine (curtilageref10_symbol.calls k2 a0_0 _ _ l0_1 _ _ l0_2 _ _ l0_3 _ _ l0_4 _ _ l0_5 _ _ l0_6 ((rd_T35 l0_3 x5_2).f0) ((rd_T35 l0_3 x5_2).f1) ((rd_T35 l0_3 x5_2).f2) ((rd_T35 l0_3 x5_2).f3) ((rd_T35 l0_3 x5_2).f4) ((rd_T35 l0_3 x5_2).f5) ((rd_T35 l0_3 x5_2).f6) ((rd_T35 l0_3 x5_2).f7) true _ ?side1 ?side2 ?side3 ?side4 ?side5 ?side6 ?side7 ?side8 ?side9 ?side10 ?side11 ?side12 A26.out).mono ?_
          (case side1 => exact us (Kd.C_below HR0_1.out HB.out))
          (case side2 => exact HC0_1.out)
          (case side3 => exact us (Kd.C_below HR0_2.out HB.out))
          (case side4 => exact HC0_2.out)
          (case side5 => exact us (Kd.C_below HR0_3.out HB.out))
          (case side6 => exact HC0_3.out)
          (case side7 => exact us (Kd.C_below HR0_4.out HB.out))
          (case side8 => exact HC0_4.out)
          (case side9 => exact us (Kd.C_below HR0_5.out HB.out))
          (case side10 => exact HC0_5.out)
          (case side11 => exact us (Kd.C_below HR0_6.out HB.out))
          (case side12 => exact HC0_6.out)
          rintro e w30 ⟨rfl, hb⟩
          refine ⟨_, rfl, ?_⟩
          have n0_ := bw BK435 hb
          have n1_ := bs HB hb
          revert n0_ n1_
          clear BK435 HB
          intro BK435 HB
          (try clear hb)
          (try clear hb2)
          (try clear hk)
          (try clear hi)
          refine hK.out _ _ ⟨cz BK435 0, cz BK435 1, cz BK435 2, cz BK435 3, cz BK435 4, cz BK435 5, cz BK435 6, (bcel HB hw438_0 :), (bcel HB hw438_1 :), (bcel HB hw438_2 :), (bcel HB hw438_3 :), (bcel HB hw438_4 :), (bcel HB hw438_5 :), (bcel HB hw438_6 :), (bcel HB hw438_7 :)⟩ (fun hHeld => ?_)
          clear hK K
          refine norm_ (a' := ?_) ?_ ?_
          rotate_left
          ·show Act.put _ (some 66) _ = _
           simp only [Act.put, List.setIfInBounds_toArray, List.set_cons_zero, List.set_cons_succ, i64_w, i32_w]
           rfl
          refine pv 7 6 (bA 8 255) HT_ ?_
          refine done_ (done_of HT_.out (by kernel_rfl)) ?_
          try go_wp2
          go_roundg k2
          case measure => have := HJ3.out; have := HK2.out; omega
          case rel => exact ⟨(wrap64 (x5_2 + 1)), uf, H', ⟨by have := HJ3.out; have := HK2.out; omega⟩, ⟨ub BK435.out⟩, ⟨uc HB.out⟩⟩
         ·replace c27 := Bool.eq_false_iff.mpr c27
          subst c27
          have H1 : (some 106) = some r := by rw [if_neg (show ¬ (false = true) by decide)] at H; exact H
          clear H
          have H := H1
          clear H1
          obtain rfl := Option.some.inj H
          obtain ⟨hcz31_0, hcz31_1, hcz31_2, hcz31_3, hcz31_4, hcz31_5, hcz31_6, hfz31_0, hfz31_1, hfz31_2, hfz31_3, hfz31_4, hfz31_5, hfz31_6⟩ := cl7 BK435
          try go_wp2
          have n0_ := am (blk_drew BK435.out)
          have n1_ := am (below_drew1 HB.out)
          revert n0_ n1_
          clear BK435 HB
          intro BK435 HB
          have p438 : 0 ≤ (x5_2 : Int) := ud
          have q438 : x5_2 < (l0_3.length : Int) := ud
          obtain ⟨ad438, e438, hx438_0, hx438_1, hx438_2, hx438_3, hx438_4, hx438_5, hx438_6, hx438_7⟩ := at_T35 HR0_3.out x5_2 p438 q438
          have hw438_7 := hx438_7
          have hw438_6 := hx438_6
          have hw438_5 := hx438_5
          have hw438_4 := hx438_4
          have hw438_3 := hx438_3
          have hw438_2 := hx438_2
          have hw438_1 := hx438_1
          have hw438_0 := hx438_0
          cases e438
          replace hx438_0 := bcel HB hx438_0
          replace hx438_1 := bcel HB hx438_1
          replace hx438_2 := bcel HB hx438_2
          replace hx438_3 := bcel HB hx438_3
          replace hx438_4 := bcel HB hx438_4
          replace hx438_5 := bcel HB hx438_5
          replace hx438_6 := bcel HB hx438_6
          replace hx438_7 := bcel HB hx438_7
          replace p438 := eq_true p438
          replace q438 := eq_true q438
          refine sr 8 [] (hB7 BK435 (hA (bcel HB hw438_0 :) (hA (bcel HB hw438_1 :) (hA (bcel HB hw438_2 :) (hA (bcel HB hw438_3 :) (hA (bcel HB hw438_4 :) (hA (bcel HB hw438_5 :) (hA (bcel HB hw438_6 :) (hZ (bcel HB hw438_7 :)))))))))) (fun hHeld => ?_); refine with_tabW curtilageref10_Check.tab12 curtilageref10_Check.bits12 (fun HT_ HW_ => ?_)
          generalize wr.drew = w32 at BK435 HB hx438_0 hx438_1 hx438_2 hx438_3 hx438_4 hx438_5 hx438_6 hx438_7 hHeld ⊢
          refine pv 1 61 (bA 8 2) HT_ ?_
          refine pv 3 63 (bA 8 10) HT_ ?_
          refine tv 0 60 (bA 8 11) HT_ HW_ hHeld ?_ (hy := by rintro w' ⟨s0, s1, s2, s3, s4, s5, s6, s7, s8, s9, s10, s11, s12, s13, s14⟩; go_simp; with_reducible rfl)
          refine tv 2 62 (bA 8 15) HT_ HW_ hHeld ?_ (hy := by rintro w' ⟨s0, s1, s2, s3, s4, s5, s6, s7, s8, s9, s10, s11, s12, s13, s14⟩; go_simp; with_reducible rfl)
          refine pv 4 64 (bA 8 31) HT_ ?_
          refine tv 5 65 (bA 8 63) HT_ HW_ hHeld ?_ (hy := by rintro w' ⟨s0, s1, s2, s3, s4, s5, s6, s7, s8, s9, s10, s11, s12, s13, s14⟩; go_simp; with_reducible rfl)
          refine one_ (i := 6) (N := some 66) (bA 8 127) rfl rfl (one_of HT_.out (by kernel_rfl)) (by decide) (fun K hK => ?_)
          refine goes_ Try.func42 (by kernel_rfl) rfl #[.agg #[.string a0_0, .slice A0_1 l0_1.length c0_1, .slice A0_2 l0_2.length c0_2, .slice (some ad438) l0_3.length c0_3, .slice A0_4 l0_4.length c0_4, .slice A0_5 l0_5.length c0_5, .slice A0_6 l0_6.length c0_6], .agg #[.string ((rd_T35 l0_3 x5_2).f0), .string ((rd_T35 l0_3 x5_2).f1), .int .u64 ((rd_T35 l0_3 x5_2).f2), .int .u64 ((rd_T35 l0_3 x5_2).f3), .int .i64 ((rd_T35 l0_3 x5_2).f4), .int .i64 ((rd_T35 l0_3 x5_2).f5), .int .i64 ((rd_T35 l0_3 x5_2).f6), .bool ((rd_T35 l0_3 x5_2).f7)]] (by rfl) rfl rfl (by (try simp only [List.map_toArray, List.map_cons, List.map_nil]); first | done | rfl | (simp only [List.length_drop, List.length_take]; rfl)) ?_
          with_reducible refine (curtilageref10_symbol.calls k2 a0_0 _ _ l0_1 _ _ l0_2 _ _ l0_3 _ _ l0_4 _ _ l0_5 _ _ l0_6 ((rd_T35 l0_3 x5_2).f0) ((rd_T35 l0_3 x5_2).f1) ((rd_T35 l0_3 x5_2).f2) ((rd_T35 l0_3 x5_2).f3) ((rd_T35 l0_3 x5_2).f4) ((rd_T35 l0_3 x5_2).f5) ((rd_T35 l0_3 x5_2).f6) ((rd_T35 l0_3 x5_2).f7) false _ ?side1 ?side2 ?side3 ?side4 ?side5 ?side6 ?side7 ?side8 ?side9 ?side10 ?side11 ?side12 A26.out).mono ?_
          (case side1 => exact us (Kd.C_below HR0_1.out HB.out))
          (case side2 => exact HC0_1.out)
          (case side3 => exact us (Kd.C_below HR0_2.out HB.out))
          (case side4 => exact HC0_2.out)
          (case side5 => exact us (Kd.C_below HR0_3.out HB.out))
          (case side6 => exact HC0_3.out)
          (case side7 => exact us (Kd.C_below HR0_4.out HB.out))
          (case side8 => exact HC0_4.out)
          (case side9 => exact us (Kd.C_below HR0_5.out HB.out))
          (case side10 => exact HC0_5.out)
          (case side11 => exact us (Kd.C_below HR0_6.out HB.out))
          (case side12 => exact HC0_6.out)
          rintro e w33 ⟨rfl, hb⟩
          refine ⟨_, rfl, ?_⟩
          have n0_ := bw BK435 hb
          have n1_ := bs HB hb
          revert n0_ n1_
          clear BK435 HB
          intro BK435 HB
          (try clear hb)
          (try clear hb2)
          (try clear hk)
          (try clear hi)
          refine hK.out _ _ ⟨cz BK435 0, cz BK435 1, cz BK435 2, cz BK435 3, cz BK435 4, cz BK435 5, cz BK435 6, (bcel HB hw438_0 :), (bcel HB hw438_1 :), (bcel HB hw438_2 :), (bcel HB hw438_3 :), (bcel HB hw438_4 :), (bcel HB hw438_5 :), (bcel HB hw438_6 :), (bcel HB hw438_7 :)⟩ (fun hHeld => ?_)
          clear hK K
          refine norm_ (a' := ?_) ?_ ?_
          rotate_left
          ·show Act.put _ (some 66) _ = _
           simp only [Act.put, List.setIfInBounds_toArray, List.set_cons_zero, List.set_cons_succ, i64_w, i32_w]
           rfl
          refine pv 7 6 (bA 8 255) HT_ ?_
          refine done_ (done_of HT_.out (by kernel_rfl)) ?_
          try go_wp2
          go_ret
          exact ur (uc HB.out)
        ·rw [if_neg c24] at H
         have c24b0 := decide_eq_false c24
         clear c24
         replace H := Option.bind_eq_some_iff.mp H
         obtain ⟨t440, A340, H⟩ := H
         replace H : (if t440 = true then ((curtilageref10_lists.f k2 a0_0 l0_1 l0_2 l0_3 l0_4 l0_5 l0_6 l0_5).bind fun t441 => ((curtilageref10_lists.f k2 a0_0 l0_1 l0_2 l0_3 l0_4 l0_5 l0_6 l0_6).bind fun t442 => (if t441 = true then (if t442 = true then (some 0) else (some 108)) else (some 108)))) else (some 107)) = some r := H
         have A34 := am A340
         clear A340
         by_cases c35 : t440 = true
         ·subst c35
          have H1 : ((curtilageref10_lists.f k2 a0_0 l0_1 l0_2 l0_3 l0_4 l0_5 l0_6 l0_5).bind fun t441 => ((curtilageref10_lists.f k2 a0_0 l0_1 l0_2 l0_3 l0_4 l0_5 l0_6 l0_6).bind fun t442 => (if t441 = true then (if t442 = true then (some 0) else (some 108)) else (some 108)))) = some r := by rw [if_pos rfl] at H; exact H
          clear H
          have H := H1
          clear H1
          replace H := Option.bind_eq_some_iff.mp H
          obtain ⟨t441, A360, H⟩ := H
          replace H : ((curtilageref10_lists.f k2 a0_0 l0_1 l0_2 l0_3 l0_4 l0_5 l0_6 l0_6).bind fun t442 => (if t441 = true then (if t442 = true then (some 0) else (some 108)) else (some 108))) = some r := H
          have A36 := am A360
          clear A360
          replace H := Option.bind_eq_some_iff.mp H
          obtain ⟨t442, A370, H⟩ := H
          replace H : (if t441 = true then (if t442 = true then (some 0) else (some 108)) else (some 108)) = some r := H
          have A37 := am A370
          clear A370
          by_cases c38 : t441 = true
          ·subst c38
           have H1 : (if t442 = true then (some 0) else (some 108)) = some r := by rw [if_pos rfl] at H; exact H
           clear H
           have H := H1
           clear H1
           by_cases c39 : t442 = true
           ·subst c39
            have H1 : (some 0) = some r := by rw [if_pos rfl] at H; exact H
            clear H
            have H := H1
            clear H1
            obtain rfl := Option.some.inj H
            obtain ⟨hcz40_0, hcz40_1, hcz40_2, hcz40_3, hcz40_4, hcz40_5, hcz40_6, hfz40_0, hfz40_1, hfz40_2, hfz40_3, hfz40_4, hfz40_5, hfz40_6⟩ := cl7 BK435
            go_wp2_with (first | ((with_reducible refine gate_dst (N := 70) rfl ?_); (with_reducible refine gate_callee (f := 43) rfl ?_); refine gl (some 70) Try.func43 #[.agg #[.string a0_0, .slice A0_1 l0_1.length c0_1, .slice A0_2 l0_2.length c0_2, .slice A0_3 l0_3.length c0_3, .slice A0_4 l0_4.length c0_4, .slice A0_5 l0_5.length c0_5, .slice A0_6 l0_6.length c0_6]] ?_; (with_reducible refine (curtilageref10_relocs.calls k2 a0_0 _ _ l0_1 _ _ l0_2 _ _ l0_3 _ _ l0_4 _ _ l0_5 _ _ l0_6 true _ ?side1 ?side2 ?side3 ?side4 ?side5 ?side6 ?side7 ?side8 ?side9 ?side10 ?side11 ?side12 A34.out).mono ?_); (case side1 => exact us (Kd.C_below HR0_1.out HB.out)); (case side2 => exact HC0_1.out); (case side3 => exact us (Kd.C_below HR0_2.out HB.out)); (case side4 => exact HC0_2.out); (case side5 => exact us (Kd.C_below HR0_3.out HB.out)); (case side6 => exact HC0_3.out); (case side7 => exact us (Kd.C_below HR0_4.out HB.out)); (case side8 => exact HC0_4.out); (case side9 => exact us (Kd.C_below HR0_5.out HB.out)); (case side10 => exact HC0_5.out); (case side11 => exact us (Kd.C_below HR0_6.out HB.out)); (case side12 => exact HC0_6.out); rintro e w41 ⟨rfl, hb⟩; refine ⟨_, rfl, ?_⟩; have n0_ := bw BK435 hb; have n1_ := bs HB hb; revert n0_ n1_; clear BK435 HB; intro BK435 HB; (try clear hb); obtain ⟨hcz42_0, hcz42_1, hcz42_2, hcz42_3, hcz42_4, hcz42_5, hcz42_6, hfz42_0, hfz42_1, hfz42_2, hfz42_3, hfz42_4, hfz42_5, hfz42_6⟩ := cells7 BK435.out) | ((with_reducible refine gate_dst (N := 76) rfl ?_); (with_reducible refine gate_callee (f := 44) rfl ?_); refine gl (some 76) Try.func44 #[.agg #[.string a0_0, .slice A0_1 l0_1.length c0_1, .slice A0_2 l0_2.length c0_2, .slice A0_3 l0_3.length c0_3, .slice A0_4 l0_4.length c0_4, .slice A0_5 l0_5.length c0_5, .slice A0_6 l0_6.length c0_6], .slice A0_5 l0_5.length c0_5] ?_; (with_reducible refine (curtilageref10_lists.calls k2 a0_0 _ _ l0_1 _ _ l0_2 _ _ l0_3 _ _ l0_4 _ _ l0_5 _ _ l0_6 _ _ l0_5 true _ ?side1 ?side2 ?side3 ?side4 ?side5 ?side6 ?side7 ?side8 ?side9 ?side10 ?side11 ?side12 ?side13 ?side14 A36.out).mono ?_); (case side1 => exact us (Kd.C_below HR0_1.out HB.out)); (case side2 => exact HC0_1.out); (case side3 => exact us (Kd.C_below HR0_2.out HB.out)); (case side4 => exact HC0_2.out); (case side5 => exact us (Kd.C_below HR0_3.out HB.out)); (case side6 => exact HC0_3.out); (case side7 => exact us (Kd.C_below HR0_4.out HB.out)); (case side8 => exact HC0_4.out); (case side9 => exact us (Kd.C_below HR0_5.out HB.out)); (case side10 => exact HC0_5.out); (case side11 => exact us (Kd.C_below HR0_6.out HB.out)); (case side12 => exact HC0_6.out); (case side13 => exact us (Kd.C_below HR0_5.out HB.out)); (case side14 => exact HC0_5.out); rintro e w43 ⟨rfl, hb⟩; refine ⟨_, rfl, ?_⟩; have n0_ := bw BK435 hb; have n1_ := bs HB hb; revert n0_ n1_; clear BK435 HB; intro BK435 HB; (try clear hb); obtain ⟨hcz44_0, hcz44_1, hcz44_2, hcz44_3, hcz44_4, hcz44_5, hcz44_6, hfz44_0, hfz44_1, hfz44_2, hfz44_3, hfz44_4, hfz44_5, hfz44_6⟩ := cells7 BK435.out) | ((with_reducible refine gate_dst (N := 80) rfl ?_); (with_reducible refine gate_callee (f := 44) rfl ?_); refine gl (some 80) Try.func44 #[.agg #[.string a0_0, .slice A0_1 l0_1.length c0_1, .slice A0_2 l0_2.length c0_2, .slice A0_3 l0_3.length c0_3, .slice A0_4 l0_4.length c0_4, .slice A0_5 l0_5.length c0_5, .slice A0_6 l0_6.length c0_6], .slice A0_6 l0_6.length c0_6] ?_; (with_reducible refine (curtilageref10_lists.calls k2 a0_0 _ _ l0_1 _ _ l0_2 _ _ l0_3 _ _ l0_4 _ _ l0_5 _ _ l0_6 _ _ l0_6 true _ ?side1 ?side2 ?side3 ?side4 ?side5 ?side6 ?side7 ?side8 ?side9 ?side10 ?side11 ?side12 ?side13 ?side14 A37.out).mono ?_); (case side1 => exact us (Kd.C_below HR0_1.out HB.out)); (case side2 => exact HC0_1.out); (case side3 => exact us (Kd.C_below HR0_2.out HB.out)); (case side4 => exact HC0_2.out); (case side5 => exact us (Kd.C_below HR0_3.out HB.out)); (case side6 => exact HC0_3.out); (case side7 => exact us (Kd.C_below HR0_4.out HB.out)); (case side8 => exact HC0_4.out); (case side9 => exact us (Kd.C_below HR0_5.out HB.out)); (case side10 => exact HC0_5.out); (case side11 => exact us (Kd.C_below HR0_6.out HB.out)); (case side12 => exact HC0_6.out); (case side13 => exact us (Kd.C_below HR0_6.out HB.out)); (case side14 => exact HC0_6.out); rintro e w45 ⟨rfl, hb⟩; refine ⟨_, rfl, ?_⟩; have n0_ := bw BK435 hb; have n1_ := bs HB hb; revert n0_ n1_; clear BK435 HB; intro BK435 HB; (try clear hb)))
            go_ret
            exact ur (uc HB.out)
           ·replace c39 := Bool.eq_false_iff.mpr c39
            subst c39
            have H1 : (some 108) = some r := by rw [if_neg (show ¬ (false = true) by decide)] at H; exact H
            clear H
            have H := H1
            clear H1
            obtain rfl := Option.some.inj H
            obtain ⟨hcz46_0, hcz46_1, hcz46_2, hcz46_3, hcz46_4, hcz46_5, hcz46_6, hfz46_0, hfz46_1, hfz46_2, hfz46_3, hfz46_4, hfz46_5, hfz46_6⟩ := cl7 BK435
            go_wp2_with (first | ((with_reducible refine gate_dst (N := 70) rfl ?_); (with_reducible refine gate_callee (f := 43) rfl ?_); refine gl (some 70) Try.func43 #[.agg #[.string a0_0, .slice A0_1 l0_1.length c0_1, .slice A0_2 l0_2.length c0_2, .slice A0_3 l0_3.length c0_3, .slice A0_4 l0_4.length c0_4, .slice A0_5 l0_5.length c0_5, .slice A0_6 l0_6.length c0_6]] ?_; (with_reducible refine (curtilageref10_relocs.calls k2 a0_0 _ _ l0_1 _ _ l0_2 _ _ l0_3 _ _ l0_4 _ _ l0_5 _ _ l0_6 true _ ?side1 ?side2 ?side3 ?side4 ?side5 ?side6 ?side7 ?side8 ?side9 ?side10 ?side11 ?side12 A34.out).mono ?_); (case side1 => exact us (Kd.C_below HR0_1.out HB.out)); (case side2 => exact HC0_1.out); (case side3 => exact us (Kd.C_below HR0_2.out HB.out)); (case side4 => exact HC0_2.out); (case side5 => exact us (Kd.C_below HR0_3.out HB.out)); (case side6 => exact HC0_3.out); (case side7 => exact us (Kd.C_below HR0_4.out HB.out)); (case side8 => exact HC0_4.out); (case side9 => exact us (Kd.C_below HR0_5.out HB.out)); (case side10 => exact HC0_5.out); (case side11 => exact us (Kd.C_below HR0_6.out HB.out)); (case side12 => exact HC0_6.out); rintro e w47 ⟨rfl, hb⟩; refine ⟨_, rfl, ?_⟩; have n0_ := bw BK435 hb; have n1_ := bs HB hb; revert n0_ n1_; clear BK435 HB; intro BK435 HB; (try clear hb); obtain ⟨hcz48_0, hcz48_1, hcz48_2, hcz48_3, hcz48_4, hcz48_5, hcz48_6, hfz48_0, hfz48_1, hfz48_2, hfz48_3, hfz48_4, hfz48_5, hfz48_6⟩ := cells7 BK435.out) | ((with_reducible refine gate_dst (N := 76) rfl ?_); (with_reducible refine gate_callee (f := 44) rfl ?_); refine gl (some 76) Try.func44 #[.agg #[.string a0_0, .slice A0_1 l0_1.length c0_1, .slice A0_2 l0_2.length c0_2, .slice A0_3 l0_3.length c0_3, .slice A0_4 l0_4.length c0_4, .slice A0_5 l0_5.length c0_5, .slice A0_6 l0_6.length c0_6], .slice A0_5 l0_5.length c0_5] ?_; (with_reducible refine (curtilageref10_lists.calls k2 a0_0 _ _ l0_1 _ _ l0_2 _ _ l0_3 _ _ l0_4 _ _ l0_5 _ _ l0_6 _ _ l0_5 true _ ?side1 ?side2 ?side3 ?side4 ?side5 ?side6 ?side7 ?side8 ?side9 ?side10 ?side11 ?side12 ?side13 ?side14 A36.out).mono ?_); (case side1 => exact us (Kd.C_below HR0_1.out HB.out)); (case side2 => exact HC0_1.out); (case side3 => exact us (Kd.C_below HR0_2.out HB.out)); (case side4 => exact HC0_2.out); (case side5 => exact us (Kd.C_below HR0_3.out HB.out)); (case side6 => exact HC0_3.out); (case side7 => exact us (Kd.C_below HR0_4.out HB.out)); (case side8 => exact HC0_4.out); (case side9 => exact us (Kd.C_below HR0_5.out HB.out)); (case side10 => exact HC0_5.out); (case side11 => exact us (Kd.C_below HR0_6.out HB.out)); (case side12 => exact HC0_6.out); (case side13 => exact us (Kd.C_below HR0_5.out HB.out)); (case side14 => exact HC0_5.out); rintro e w49 ⟨rfl, hb⟩; refine ⟨_, rfl, ?_⟩; have n0_ := bw BK435 hb; have n1_ := bs HB hb; revert n0_ n1_; clear BK435 HB; intro BK435 HB; (try clear hb); obtain ⟨hcz50_0, hcz50_1, hcz50_2, hcz50_3, hcz50_4, hcz50_5, hcz50_6, hfz50_0, hfz50_1, hfz50_2, hfz50_3, hfz50_4, hfz50_5, hfz50_6⟩ := cells7 BK435.out) | ((with_reducible refine gate_dst (N := 80) rfl ?_); (with_reducible refine gate_callee (f := 44) rfl ?_); refine gl (some 80) Try.func44 #[.agg #[.string a0_0, .slice A0_1 l0_1.length c0_1, .slice A0_2 l0_2.length c0_2, .slice A0_3 l0_3.length c0_3, .slice A0_4 l0_4.length c0_4, .slice A0_5 l0_5.length c0_5, .slice A0_6 l0_6.length c0_6], .slice A0_6 l0_6.length c0_6] ?_; (with_reducible refine (curtilageref10_lists.calls k2 a0_0 _ _ l0_1 _ _ l0_2 _ _ l0_3 _ _ l0_4 _ _ l0_5 _ _ l0_6 _ _ l0_6 false _ ?side1 ?side2 ?side3 ?side4 ?side5 ?side6 ?side7 ?side8 ?side9 ?side10 ?side11 ?side12 ?side13 ?side14 A37.out).mono ?_); (case side1 => exact us (Kd.C_below HR0_1.out HB.out)); (case side2 => exact HC0_1.out); (case side3 => exact us (Kd.C_below HR0_2.out HB.out)); (case side4 => exact HC0_2.out); (case side5 => exact us (Kd.C_below HR0_3.out HB.out)); (case side6 => exact HC0_3.out); (case side7 => exact us (Kd.C_below HR0_4.out HB.out)); (case side8 => exact HC0_4.out); (case side9 => exact us (Kd.C_below HR0_5.out HB.out)); (case side10 => exact HC0_5.out); (case side11 => exact us (Kd.C_below HR0_6.out HB.out)); (case side12 => exact HC0_6.out); (case side13 => exact us (Kd.C_below HR0_6.out HB.out)); (case side14 => exact HC0_6.out); rintro e w51 ⟨rfl, hb⟩; refine ⟨_, rfl, ?_⟩; have n0_ := bw BK435 hb; have n1_ := bs HB hb; revert n0_ n1_; clear BK435 HB; intro BK435 HB; (try clear hb)))
            go_ret
            exact ur (uc HB.out)
          ·replace c38 := Bool.eq_false_iff.mpr c38
           subst c38
           have H1 : (some 108) = some r := by rw [if_neg (show ¬ (false = true) by decide)] at H; exact H
           clear H
           have H := H1
           clear H1
           obtain rfl := Option.some.inj H
           obtain ⟨hcz52_0, hcz52_1, hcz52_2, hcz52_3, hcz52_4, hcz52_5, hcz52_6, hfz52_0, hfz52_1, hfz52_2, hfz52_3, hfz52_4, hfz52_5, hfz52_6⟩ := cl7 BK435
           go_wp2_with (first | ((with_reducible refine gate_dst (N := 70) rfl ?_); (with_reducible refine gate_callee (f := 43) rfl ?_); refine gl (some 70) Try.func43 #[.agg #[.string a0_0, .slice A0_1 l0_1.length c0_1, .slice A0_2 l0_2.length c0_2, .slice A0_3 l0_3.length c0_3, .slice A0_4 l0_4.length c0_4, .slice A0_5 l0_5.length c0_5, .slice A0_6 l0_6.length c0_6]] ?_; (with_reducible refine (curtilageref10_relocs.calls k2 a0_0 _ _ l0_1 _ _ l0_2 _ _ l0_3 _ _ l0_4 _ _ l0_5 _ _ l0_6 true _ ?side1 ?side2 ?side3 ?side4 ?side5 ?side6 ?side7 ?side8 ?side9 ?side10 ?side11 ?side12 A34.out).mono ?_); (case side1 => exact us (Kd.C_below HR0_1.out HB.out)); (case side2 => exact HC0_1.out); (case side3 => exact us (Kd.C_below HR0_2.out HB.out)); (case side4 => exact HC0_2.out); (case side5 => exact us (Kd.C_below HR0_3.out HB.out)); (case side6 => exact HC0_3.out); (case side7 => exact us (Kd.C_below HR0_4.out HB.out)); (case side8 => exact HC0_4.out); (case side9 => exact us (Kd.C_below HR0_5.out HB.out)); (case side10 => exact HC0_5.out); (case side11 => exact us (Kd.C_below HR0_6.out HB.out)); (case side12 => exact HC0_6.out); rintro e w53 ⟨rfl, hb⟩; refine ⟨_, rfl, ?_⟩; have n0_ := bw BK435 hb; have n1_ := bs HB hb; revert n0_ n1_; clear BK435 HB; intro BK435 HB; (try clear hb); obtain ⟨hcz54_0, hcz54_1, hcz54_2, hcz54_3, hcz54_4, hcz54_5, hcz54_6, hfz54_0, hfz54_1, hfz54_2, hfz54_3, hfz54_4, hfz54_5, hfz54_6⟩ := cells7 BK435.out) | ((with_reducible refine gate_dst (N := 76) rfl ?_); (with_reducible refine gate_callee (f := 44) rfl ?_); refine gl (some 76) Try.func44 #[.agg #[.string a0_0, .slice A0_1 l0_1.length c0_1, .slice A0_2 l0_2.length c0_2, .slice A0_3 l0_3.length c0_3, .slice A0_4 l0_4.length c0_4, .slice A0_5 l0_5.length c0_5, .slice A0_6 l0_6.length c0_6], .slice A0_5 l0_5.length c0_5] ?_; (with_reducible refine (curtilageref10_lists.calls k2 a0_0 _ _ l0_1 _ _ l0_2 _ _ l0_3 _ _ l0_4 _ _ l0_5 _ _ l0_6 _ _ l0_5 false _ ?side1 ?side2 ?side3 ?side4 ?side5 ?side6 ?side7 ?side8 ?side9 ?side10 ?side11 ?side12 ?side13 ?side14 A36.out).mono ?_); (case side1 => exact us (Kd.C_below HR0_1.out HB.out)); (case side2 => exact HC0_1.out); (case side3 => exact us (Kd.C_below HR0_2.out HB.out)); (case side4 => exact HC0_2.out); (case side5 => exact us (Kd.C_below HR0_3.out HB.out)); (case side6 => exact HC0_3.out); (case side7 => exact us (Kd.C_below HR0_4.out HB.out)); (case side8 => exact HC0_4.out); (case side9 => exact us (Kd.C_below HR0_5.out HB.out)); (case side10 => exact HC0_5.out); (case side11 => exact us (Kd.C_below HR0_6.out HB.out)); (case side12 => exact HC0_6.out); (case side13 => exact us (Kd.C_below HR0_5.out HB.out)); (case side14 => exact HC0_5.out); rintro e w55 ⟨rfl, hb⟩; refine ⟨_, rfl, ?_⟩; have n0_ := bw BK435 hb; have n1_ := bs HB hb; revert n0_ n1_; clear BK435 HB; intro BK435 HB; (try clear hb); obtain ⟨hcz56_0, hcz56_1, hcz56_2, hcz56_3, hcz56_4, hcz56_5, hcz56_6, hfz56_0, hfz56_1, hfz56_2, hfz56_3, hfz56_4, hfz56_5, hfz56_6⟩ := cells7 BK435.out) | ((with_reducible refine gate_dst (N := 80) rfl ?_); (with_reducible refine gate_callee (f := 44) rfl ?_); refine gl (some 80) Try.func44 #[.agg #[.string a0_0, .slice A0_1 l0_1.length c0_1, .slice A0_2 l0_2.length c0_2, .slice A0_3 l0_3.length c0_3, .slice A0_4 l0_4.length c0_4, .slice A0_5 l0_5.length c0_5, .slice A0_6 l0_6.length c0_6], .slice A0_6 l0_6.length c0_6] ?_; (with_reducible refine (curtilageref10_lists.calls k2 a0_0 _ _ l0_1 _ _ l0_2 _ _ l0_3 _ _ l0_4 _ _ l0_5 _ _ l0_6 _ _ l0_6 t442 _ ?side1 ?side2 ?side3 ?side4 ?side5 ?side6 ?side7 ?side8 ?side9 ?side10 ?side11 ?side12 ?side13 ?side14 A37.out).mono ?_); (case side1 => exact us (Kd.C_below HR0_1.out HB.out)); (case side2 => exact HC0_1.out); (case side3 => exact us (Kd.C_below HR0_2.out HB.out)); (case side4 => exact HC0_2.out); (case side5 => exact us (Kd.C_below HR0_3.out HB.out)); (case side6 => exact HC0_3.out); (case side7 => exact us (Kd.C_below HR0_4.out HB.out)); (case side8 => exact HC0_4.out); (case side9 => exact us (Kd.C_below HR0_5.out HB.out)); (case side10 => exact HC0_5.out); (case side11 => exact us (Kd.C_below HR0_6.out HB.out)); (case side12 => exact HC0_6.out); (case side13 => exact us (Kd.C_below HR0_6.out HB.out)); (case side14 => exact HC0_6.out); rintro e w57 ⟨rfl, hb⟩; refine ⟨_, rfl, ?_⟩; have n0_ := bw BK435 hb; have n1_ := bs HB hb; revert n0_ n1_; clear BK435 HB; intro BK435 HB; (try clear hb)))
           go_ret
           exact ur (uc HB.out)
         ·replace c35 := Bool.eq_false_iff.mpr c35
          subst c35
          have H1 : (some 107) = some r := by rw [if_neg (show ¬ (false = true) by decide)] at H; exact H
          clear H
          have H := H1
          clear H1
          obtain rfl := Option.some.inj H
          obtain ⟨hcz58_0, hcz58_1, hcz58_2, hcz58_3, hcz58_4, hcz58_5, hcz58_6, hfz58_0, hfz58_1, hfz58_2, hfz58_3, hfz58_4, hfz58_5, hfz58_6⟩ := cl7 BK435
          go_wp2_with (first | ((with_reducible refine gate_dst (N := 70) rfl ?_); (with_reducible refine gate_callee (f := 43) rfl ?_); refine gl (some 70) Try.func43 #[.agg #[.string a0_0, .slice A0_1 l0_1.length c0_1, .slice A0_2 l0_2.length c0_2, .slice A0_3 l0_3.length c0_3, .slice A0_4 l0_4.length c0_4, .slice A0_5 l0_5.length c0_5, .slice A0_6 l0_6.length c0_6]] ?_; (with_reducible refine (curtilageref10_relocs.calls k2 a0_0 _ _ l0_1 _ _ l0_2 _ _ l0_3 _ _ l0_4 _ _ l0_5 _ _ l0_6 false _ ?side1 ?side2 ?side3 ?side4 ?side5 ?side6 ?side7 ?side8 ?side9 ?side10 ?side11 ?side12 A34.out).mono ?_); (case side1 => exact us (Kd.C_below HR0_1.out HB.out)); (case side2 => exact HC0_1.out); (case side3 => exact us (Kd.C_below HR0_2.out HB.out)); (case side4 => exact HC0_2.out); (case side5 => exact us (Kd.C_below HR0_3.out HB.out)); (case side6 => exact HC0_3.out); (case side7 => exact us (Kd.C_below HR0_4.out HB.out)); (case side8 => exact HC0_4.out); (case side9 => exact us (Kd.C_below HR0_5.out HB.out)); (case side10 => exact HC0_5.out); (case side11 => exact us (Kd.C_below HR0_6.out HB.out)); (case side12 => exact HC0_6.out); rintro e w59 ⟨rfl, hb⟩; refine ⟨_, rfl, ?_⟩; have n0_ := bw BK435 hb; have n1_ := bs HB hb; revert n0_ n1_; clear BK435 HB; intro BK435 HB; (try clear hb)))
          go_ret
          exact ur (uc HB.out)
     ·replace c21 := Bool.eq_false_iff.mpr c21
      subst c21
      have H1 : (some 105) = some r := by rw [if_neg (show ¬ (false = true) by decide)] at H; exact H
      clear H
      have H := H1
      clear H1
      obtain rfl := Option.some.inj H
      obtain ⟨hcz60_0, hcz60_1, hcz60_2, hcz60_3, hcz60_4, hcz60_5, hcz60_6, hfz60_0, hfz60_1, hfz60_2, hfz60_3, hfz60_4, hfz60_5, hfz60_6⟩ := cl7 BK435
      go_wp2_with (first | ((with_reducible refine gate_dst (N := 50) rfl ?_); (with_reducible refine gate_callee (f := 41) rfl ?_); refine gl (some 50) Try.func41 #[.slice A0_2 l0_2.length c0_2] ?_; (with_reducible refine (curtilageref10_Segments.calls kj3 _ _ l0_2 false _ ?side1 ?side2 A20.out).mono ?_); (case side1 => exact us (Kd.C_below HR0_2.out HB.out)); (case side2 => exact HC0_2.out); rintro e w61 ⟨rfl, hb⟩; refine ⟨_, rfl, ?_⟩; have n0_ := bw BK435 hb; have n1_ := bs HB hb; revert n0_ n1_; clear BK435 HB; intro BK435 HB; (try clear hb)))
      go_ret
      exact ur (uc HB.out)
 ·replace c3 := Bool.eq_false_iff.mpr c3
  subst c3
  have H1 : (some 103) = some r := by rw [if_neg (show ¬ (false = true) by decide)] at H; exact H
  clear H
  have H := H1
  clear H1
  obtain rfl := Option.some.inj H
  go_enter Try.func22, Try.ntmps22
  go_wp2_with (first | ((with_reducible refine gate_dst (N := 1) rfl ?_); (try (refine gate_guard (by rfl) ?_; dsimp only)); refine box_event ?hg (N := 1) ?hd (cs := #[.string a0_0, .slice A0_1 l0_1.length c0_1, .slice A0_2 l0_2.length c0_2, .slice A0_3 l0_3.length c0_3, .slice A0_4 l0_4.length c0_4, .slice A0_5 l0_5.length c0_5, .slice A0_6 l0_6.length c0_6]) (t := 28) ?hr ?_; (case hd => rfl); (case hg => rfl); (case hr => first | (go_simp; done) | (go_simp; rfl)); intro gb435 hg w62 hbox hb; have n0_ := bs HB hb; have n1_ := am (hbox); have n2_ := nz HB hg; have n3_ := nz HB hg; revert n0_ n1_ n2_ n3_; clear HB; intro HB BK435 GW435 GE435; clear hb hbox hg; obtain ⟨hcz63_0, hcz63_1, hcz63_2, hcz63_3, hcz63_4, hcz63_5, hcz63_6, hfz63_0, hfz63_1, hfz63_2, hfz63_3, hfz63_4, hfz63_5, hfz63_6⟩ := cells7 BK435.out) | ((with_reducible refine gate_dst (N := 11) rfl ?_); (with_reducible refine gate_callee (f := 40) rfl ?_); refine gl (some 11) Try.func40 #[.agg #[.string a0_0, .slice A0_1 l0_1.length c0_1, .slice A0_2 l0_2.length c0_2, .slice A0_3 l0_3.length c0_3, .slice A0_4 l0_4.length c0_4, .slice A0_5 l0_5.length c0_5, .slice A0_6 l0_6.length c0_6]] ?_; (with_reducible refine (curtilageref10_names.calls k a0_0 _ _ l0_1 _ _ l0_2 _ _ l0_3 _ _ l0_4 _ _ l0_5 _ _ l0_6 false _ ?side1 ?side2 ?side3 ?side4 ?side5 ?side6 ?side7 ?side8 ?side9 ?side10 ?side11 ?side12 A2.out).mono ?_); (case side1 => exact us (Kd.C_below HR0_1.out HB.out)); (case side2 => exact HC0_1.out); (case side3 => exact us (Kd.C_below HR0_2.out HB.out)); (case side4 => exact HC0_2.out); (case side5 => exact us (Kd.C_below HR0_3.out HB.out)); (case side6 => exact HC0_3.out); (case side7 => exact us (Kd.C_below HR0_4.out HB.out)); (case side8 => exact HC0_4.out); (case side9 => exact us (Kd.C_below HR0_5.out HB.out)); (case side10 => exact HC0_5.out); (case side11 => exact us (Kd.C_below HR0_6.out HB.out)); (case side12 => exact HC0_6.out); rintro e w64 ⟨rfl, hb⟩; refine ⟨_, rfl, ?_⟩; have n0_ := bw BK435 hb; have n1_ := bs HB hb; revert n0_ n1_; clear BK435 HB; intro BK435 HB; (try clear hb)))
  go_ret
  exact ur (uc HB.out)

end Go.Proofs.Ytlbfeklpncoccaa.P
