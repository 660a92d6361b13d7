/- What functions of the program, and of its laws, give, each proved of its code by a walk; no condition. -/
import Derived.Test.YtdgmkmjmddjcfaaKLookupShownPx0
import Derived.Test.YtdgmkmjmddjcfaaKLookupShownPx7
import Derived.Test.YtdgmkmjmddjcfaaKLookupShownPx8
import Derived.Test.YtdgmkmjmddjcfaaKLookupShownPx9
import Derived.Test.YtdgmkmjmddjcfaaKLookupShownPx10
namespace Go.Proofs.Ytdgmkmjmddjcfaa.P
open Go.RowKit Go.Proofs.YtdgmkmjmddjcfaaW.PrintWords Go.Proofs.YtdgmkmjmddjcfaaW.PrintLast Go.Proofs.YtdgmkmjmddjcfaaW.PrintMore
attribute [local go_sem] max2_int min2_int max_two min_two max_three min_three max_four min_four   -- for this text's walks alone
set_option linter.unusedVariables false
set_option linter.unusedSimpArgs false

mutual
def curtilagelaw14_LookupShown.j0 : Nat → List (S32) → List Int → Int → Int → Bool → Bool → Option (Bool)
  | 0, _, _, _, _, _, _ => none
  | k + 1, x0, x1, x2, x3, x9, x54 => if x54 = true then (some x9) else (if 0 ≤ x2 then (if x2 < (x0.length : Int) then (if 0 ≤ x3 then (if x3 < (((rd_T32 x0 x2).f3).length : Int) then ((lookup_Bind.f k x0 x1 x2 x3).bind fun bt316 => (if bt316.2.2 = 0 then (if bt316.1 < 0 then (if x9 = true then (if bt316.2.1 = (-1) then (if ((rd_T42 ((rd_T32 x0 x2).f3) x3).f7 = true) then (some false) else (some (((rd_T42 ((rd_T32 x0 x2).f3) x3).f5) == 3))) else (some false)) else (some false)) else (if bt316.1 ≥ (x0.length : Int) then (curtilagelaw14_LookupShown.j1 k x0 x2 x9 bt316.1 bt316.2.1 true ((rd_T42 ((rd_T32 x0 x2).f3) x3).f0) ((rd_T42 ((rd_T32 x0 x2).f3) x3).f1) ((rd_T42 ((rd_T32 x0 x2).f3) x3).f2) ((rd_T42 ((rd_T32 x0 x2).f3) x3).f3) ((rd_T42 ((rd_T32 x0 x2).f3) x3).f4) ((rd_T42 ((rd_T32 x0 x2).f3) x3).f5) ((rd_T42 ((rd_T32 x0 x2).f3) x3).f6) ((rd_T42 ((rd_T32 x0 x2).f3) x3).f7)) else (if bt316.2.1 < 0 then (curtilagelaw14_LookupShown.j1 k x0 x2 x9 bt316.1 bt316.2.1 true ((rd_T42 ((rd_T32 x0 x2).f3) x3).f0) ((rd_T42 ((rd_T32 x0 x2).f3) x3).f1) ((rd_T42 ((rd_T32 x0 x2).f3) x3).f2) ((rd_T42 ((rd_T32 x0 x2).f3) x3).f3) ((rd_T42 ((rd_T32 x0 x2).f3) x3).f4) ((rd_T42 ((rd_T32 x0 x2).f3) x3).f5) ((rd_T42 ((rd_T32 x0 x2).f3) x3).f6) ((rd_T42 ((rd_T32 x0 x2).f3) x3).f7)) else (if 0 ≤ bt316.1 then (if bt316.1 < (x0.length : Int) then (curtilagelaw14_LookupShown.j1 k x0 x2 x9 bt316.1 bt316.2.1 (decide (bt316.2.1 ≥ (((rd_T32 x0 bt316.1).f3).length : Int))) ((rd_T42 ((rd_T32 x0 x2).f3) x3).f0) ((rd_T42 ((rd_T32 x0 x2).f3) x3).f1) ((rd_T42 ((rd_T32 x0 x2).f3) x3).f2) ((rd_T42 ((rd_T32 x0 x2).f3) x3).f3) ((rd_T42 ((rd_T32 x0 x2).f3) x3).f4) ((rd_T42 ((rd_T32 x0 x2).f3) x3).f5) ((rd_T42 ((rd_T32 x0 x2).f3) x3).f6) ((rd_T42 ((rd_T32 x0 x2).f3) x3).f7)) else (none)) else (none))))) else (if x9 = true then (if ((rd_T42 ((rd_T32 x0 x2).f3) x3).f7 = true) then (some false) else (some (((rd_T42 ((rd_T32 x0 x2).f3) x3).f5) != 3))) else (some false)))) else (none)) else (none)) else (none)) else (none))
def curtilagelaw14_LookupShown.j1 : Nat → List (S32) → Int → Bool → Int → Int → Bool → ByteArray → ByteArray → Int → Int → Int → Int → Int → Bool → Option (Bool)
  | 0, _, _, _, _, _, _, _, _, _, _, _, _, _, _ => none
  | k + 1, x0, x2, x9, x13, x14, x120, x316000, x316001, x316002, x316003, x316004, x316005, x316006, x316007 => if x120 = true then (some false) else (if 0 ≤ x13 then (if x13 < (x0.length : Int) then (if 0 ≤ x14 then (if x14 < (((rd_T32 x0 x13).f3).length : Int) then ((curtilageref12_Shown.f ((rd_T42 ((rd_T32 x0 x13).f3) x14).f0) ((rd_T42 ((rd_T32 x0 x13).f3) x14).f1) ((rd_T42 ((rd_T32 x0 x13).f3) x14).f2) ((rd_T42 ((rd_T32 x0 x13).f3) x14).f3) ((rd_T42 ((rd_T32 x0 x13).f3) x14).f4) ((rd_T42 ((rd_T32 x0 x13).f3) x14).f5) ((rd_T42 ((rd_T32 x0 x13).f3) x14).f6) ((rd_T42 ((rd_T32 x0 x13).f3) x14).f7)).bind fun t323 => (if x13 = x2 then (if x9 = true then (if (rd_T42 ((rd_T32 x0 x13).f3) x14).f7 = true then (if ((rd_T42 ((rd_T32 x0 x13).f3) x14).f0).toList = x316000.toList then (if x316001.toList = ([] : List UInt8) then (some true) else (some (((rd_T42 ((rd_T32 x0 x13).f3) x14).f1).toList == x316001.toList))) else (some false)) else (some false)) else (some false)) else (if t323 = true then (if x9 = true then (if (rd_T42 ((rd_T32 x0 x13).f3) x14).f7 = true then (if ((rd_T42 ((rd_T32 x0 x13).f3) x14).f0).toList = x316000.toList then (if x316001.toList = ([] : List UInt8) then (some true) else (some (((rd_T42 ((rd_T32 x0 x13).f3) x14).f1).toList == x316001.toList))) else (some false)) else (some false)) else (some false)) else (some false)))) else (none)) else (none)) else (none)) else (none))
end
def curtilagelaw14_LookupShown.f (k : Nat) (l0 : List (S32)) (l1 : List Int) (a2 : Int) (a3 : Int) : Option (Bool) := (curtilagelaw14_awake.f k).bind fun t309 => ((curtilageref14_Short.f k l0).bind fun t310 => ((curtilageref14_Right.f k l1 (l0.length : Int)).bind fun t311 => (if t310 = true then (if t311 = true then (if a2 < 0 then (curtilagelaw14_LookupShown.j0 k l0 l1 a2 a3 t309 true) else (if a2 ≥ (l0.length : Int) then (curtilagelaw14_LookupShown.j0 k l0 l1 a2 a3 t309 true) else (if a3 < 0 then (curtilagelaw14_LookupShown.j0 k l0 l1 a2 a3 t309 true) else (if 0 ≤ a2 then (if a2 < (l0.length : Int) then (curtilagelaw14_LookupShown.j0 k l0 l1 a2 a3 t309 (decide (a3 ≥ (((rd_T32 l0 a2).f3).length : Int)))) else (none)) else (none))))) else (curtilagelaw14_LookupShown.j0 k l0 l1 a2 a3 t309 true)) else (curtilagelaw14_LookupShown.j0 k l0 l1 a2 a3 t309 true))))
theorem curtilagelaw14_LookupShown.mono_l : ∀ k, (∀ y0 y1 y2 y3 y4 y5, LeO (curtilagelaw14_LookupShown.j0 k y0 y1 y2 y3 y4 y5) (curtilagelaw14_LookupShown.j0 (k + 1) y0 y1 y2 y3 y4 y5)) ∧ (∀ y0 y1 y2 y3 y4 y5 y6 y7 y8 y9 y10 y11 y12 y13, LeO (curtilagelaw14_LookupShown.j1 k y0 y1 y2 y3 y4 y5 y6 y7 y8 y9 y10 y11 y12 y13) (curtilagelaw14_LookupShown.j1 (k + 1) y0 y1 y2 y3 y4 y5 y6 y7 y8 y9 y10 y11 y12 y13))
  | 0 => ⟨fun _ _ _ _ _ _ r h => by simp [curtilagelaw14_LookupShown.j0] at h, fun _ _ _ _ _ _ _ _ _ _ _ _ _ _ r h => by simp [curtilagelaw14_LookupShown.j1] at h⟩
  | k + 1 => by
    obtain ⟨ih0, ih1⟩ := curtilagelaw14_LookupShown.mono_l k
    refine ⟨?_, ?_⟩
    · intro y0 y1 y2 y3 y4 y5
      unfold curtilagelaw14_LookupShown.j0
      repeat' first
      | (with_reducible exact ih0 _ _ _ _ _ _)
      | (with_reducible exact ih1 _ _ _ _ _ _ _ _ _ _ _ _ _ _)
      | (with_reducible exact curtilagelaw14_awake.mono _)
      | (with_reducible exact curtilageref14_Right.mono _ _ _)
      | (with_reducible exact curtilageref14_Short.mono _ _)
      | (with_reducible exact lookup_Bind.mono _ _ _ _ _)
      | (with_reducible exact LeO.refl _)
      | (with_reducible exact LeO.none _)
      | (with_reducible refine LeO.ite ?_ ?_)
      | (with_reducible refine LeO.bind ?_ (fun _ => ?_))
      | exact ih0 _ _ _ _ _ _
      | exact ih1 _ _ _ _ _ _ _ _ _ _ _ _ _ _
      | exact curtilagelaw14_awake.mono _
      | exact curtilageref14_Right.mono _ _ _
      | exact curtilageref14_Short.mono _ _
      | exact lookup_Bind.mono _ _ _ _ _
      | exact LeO.none _
      | refine LeO.ite ?_ ?_
      | refine LeO.bind ?_ (fun _ => ?_)
    · intro y0 y1 y2 y3 y4 y5 y6 y7 y8 y9 y10 y11 y12 y13
      unfold curtilagelaw14_LookupShown.j1
      repeat' first
      | (with_reducible exact ih0 _ _ _ _ _ _)
      | (with_reducible exact ih1 _ _ _ _ _ _ _ _ _ _ _ _ _ _)
      | (with_reducible exact curtilagelaw14_awake.mono _)
      | (with_reducible exact curtilageref14_Right.mono _ _ _)
      | (with_reducible exact curtilageref14_Short.mono _ _)
      | (with_reducible exact lookup_Bind.mono _ _ _ _ _)
      | (with_reducible exact LeO.refl _)
      | (with_reducible exact LeO.none _)
      | (with_reducible refine LeO.ite ?_ ?_)
      | (with_reducible refine LeO.bind ?_ (fun _ => ?_))
      | exact ih0 _ _ _ _ _ _
      | exact ih1 _ _ _ _ _ _ _ _ _ _ _ _ _ _
      | exact curtilagelaw14_awake.mono _
      | exact curtilageref14_Right.mono _ _ _
      | exact curtilageref14_Short.mono _ _
      | exact lookup_Bind.mono _ _ _ _ _
      | exact LeO.none _
      | refine LeO.ite ?_ ?_
      | refine LeO.bind ?_ (fun _ => ?_)
theorem curtilagelaw14_LookupShown.mono : ∀ a0 a1 a2 a3 k, LeO (curtilagelaw14_LookupShown.f k a0 a1 a2 a3) (curtilagelaw14_LookupShown.f (k + 1) a0 a1 a2 a3) := by
  intro a0 a1 a2 a3 k
  obtain ⟨ih0, ih1⟩ := curtilagelaw14_LookupShown.mono_l k
  unfold curtilagelaw14_LookupShown.f
  repeat' first
      | (with_reducible exact ih0 _ _ _ _ _ _)
      | (with_reducible exact ih1 _ _ _ _ _ _ _ _ _ _ _ _ _ _)
      | (with_reducible exact curtilagelaw14_awake.mono _)
      | (with_reducible exact curtilageref14_Right.mono _ _ _)
      | (with_reducible exact curtilageref14_Short.mono _ _)
      | (with_reducible exact lookup_Bind.mono _ _ _ _ _)
      | (with_reducible exact LeO.refl _)
      | (with_reducible exact LeO.none _)
      | (with_reducible refine LeO.ite ?_ ?_)
      | (with_reducible refine LeO.bind ?_ (fun _ => ?_))
      | exact ih0 _ _ _ _ _ _
      | exact ih1 _ _ _ _ _ _ _ _ _ _ _ _ _ _
      | exact curtilagelaw14_awake.mono _
      | exact curtilageref14_Right.mono _ _ _
      | exact curtilageref14_Short.mono _ _
      | exact lookup_Bind.mono _ _ _ _ _
      | exact LeO.none _
      | refine LeO.ite ?_ ?_
      | refine LeO.bind ?_ (fun _ => ?_)
set_option maxHeartbeats 8000000 in
set_option maxRecDepth 100000 in
theorem curtilagelaw14_LookupShown.calls (k : Nat) (A0 : Option Addr) (c0 : Nat) (l0 : List (S32)) (A1 : Option Addr) (c1 : Nat) (l1 : List Int) (a2 : Int) (a3 : Int) (r : Bool) (w : World) (hr0 : Kd.C k32 w A0 l0.length l0) (hc0 : l0.length ≤ c0) (hr1 : Kd.C (Kd.int .i64) w A1 l1.length l1) (hc1 : l1.length ≤ c1) (h : curtilagelaw14_LookupShown.f k l0 l1 a2 a3 = some r) (hr0 : r = true) :
    Calls Try.prog 5 #[.slice A0 l0.length c0, .slice A1 l1.length c1, .int .i64 a2, .int .i64 a3] w fun e w' => e = .returned (.bool r) ∧ Below w.heap.size w w' := by
  have HT := Aside0.mk hr0
  clear hr0
  have hu42 := Try.underlying42
  have HR0 := Aside0.mk hr0
  have HC0 := Aside0.mk hc0
  clear hr0 hc0
  have HR1 := Aside0.mk hr1
  have HC1 := Aside0.mk hc1
  clear hr1 hc1
  have HB := Aside0.mk (Below.refl w.heap.size w)
  have H : ((curtilagelaw14_awake.f k).bind fun t309 => ((curtilageref14_Short.f k l0).bind fun t310 => ((curtilageref14_Right.f k l1 (l0.length : Int)).bind fun t311 => (if t310 = true then (if t311 = true then (if a2 < 0 then (curtilagelaw14_LookupShown.j0 k l0 l1 a2 a3 t309 true) else (if a2 ≥ (l0.length : Int) then (curtilagelaw14_LookupShown.j0 k l0 l1 a2 a3 t309 true) else (if a3 < 0 then (curtilagelaw14_LookupShown.j0 k l0 l1 a2 a3 t309 true) else (if 0 ≤ a2 then (if a2 < (l0.length : Int) then (curtilagelaw14_LookupShown.j0 k l0 l1 a2 a3 t309 (decide (a3 ≥ (((rd_T32 l0 a2).f3).length : Int)))) else (none)) else (none))))) else (curtilagelaw14_LookupShown.j0 k l0 l1 a2 a3 t309 true)) else (curtilagelaw14_LookupShown.j0 k l0 l1 a2 a3 t309 true))))) = some r := h
  clear h
  replace H := Option.bind_eq_some_iff.mp H
  obtain ⟨t309, A50, H⟩ := H
  replace H : ((curtilageref14_Short.f k l0).bind fun t310 => ((curtilageref14_Right.f k l1 (l0.length : Int)).bind fun t311 => (if t310 = true then (if t311 = true then (if a2 < 0 then (curtilagelaw14_LookupShown.j0 k l0 l1 a2 a3 t309 true) else (if a2 ≥ (l0.length : Int) then (curtilagelaw14_LookupShown.j0 k l0 l1 a2 a3 t309 true) else (if a3 < 0 then (curtilagelaw14_LookupShown.j0 k l0 l1 a2 a3 t309 true) else (if 0 ≤ a2 then (if a2 < (l0.length : Int) then (curtilagelaw14_LookupShown.j0 k l0 l1 a2 a3 t309 (decide (a3 ≥ (((rd_T32 l0 a2).f3).length : Int)))) else (none)) else (none))))) else (curtilagelaw14_LookupShown.j0 k l0 l1 a2 a3 t309 true)) else (curtilagelaw14_LookupShown.j0 k l0 l1 a2 a3 t309 true)))) = some r := H
  have A5 := Aside0.mk A50
  clear A50
  replace H := Option.bind_eq_some_iff.mp H
  obtain ⟨t310, A60, H⟩ := H
  replace H : ((curtilageref14_Right.f k l1 (l0.length : Int)).bind fun t311 => (if t310 = true then (if t311 = true then (if a2 < 0 then (curtilagelaw14_LookupShown.j0 k l0 l1 a2 a3 t309 true) else (if a2 ≥ (l0.length : Int) then (curtilagelaw14_LookupShown.j0 k l0 l1 a2 a3 t309 true) else (if a3 < 0 then (curtilagelaw14_LookupShown.j0 k l0 l1 a2 a3 t309 true) else (if 0 ≤ a2 then (if a2 < (l0.length : Int) then (curtilagelaw14_LookupShown.j0 k l0 l1 a2 a3 t309 (decide (a3 ≥ (((rd_T32 l0 a2).f3).length : Int)))) else (none)) else (none))))) else (curtilagelaw14_LookupShown.j0 k l0 l1 a2 a3 t309 true)) else (curtilagelaw14_LookupShown.j0 k l0 l1 a2 a3 t309 true))) = some r := H
  have A6 := Aside0.mk A60
  clear A60
  replace H := Option.bind_eq_some_iff.mp H
  obtain ⟨t311, A70, H⟩ := H
  replace H : (if t310 = true then (if t311 = true then (if a2 < 0 then (curtilagelaw14_LookupShown.j0 k l0 l1 a2 a3 t309 true) else (if a2 ≥ (l0.length : Int) then (curtilagelaw14_LookupShown.j0 k l0 l1 a2 a3 t309 true) else (if a3 < 0 then (curtilagelaw14_LookupShown.j0 k l0 l1 a2 a3 t309 true) else (if 0 ≤ a2 then (if a2 < (l0.length : Int) then (curtilagelaw14_LookupShown.j0 k l0 l1 a2 a3 t309 (decide (a3 ≥ (((rd_T32 l0 a2).f3).length : Int)))) else (none)) else (none))))) else (curtilagelaw14_LookupShown.j0 k l0 l1 a2 a3 t309 true)) else (curtilagelaw14_LookupShown.j0 k l0 l1 a2 a3 t309 true)) = some r := H
  have A7 := Aside0.mk A70
  clear A70
  have HC8 := Aside0.mk H
  clear H
  go_enter Try.func5, Try.ntmps5
  go_upto_region 4 with (first | ((with_reducible refine gate_dst (N := 18) rfl ?_); (with_reducible refine gate_callee (f := 8) rfl ?_); refine goesL_ (some 18) rfl rfl Try.func8 (by kernel_rfl) rfl #[] rfl (by (try simp only [List.map_toArray, List.map_cons, List.map_nil]); first | done | rfl | (simp only [List.length_drop, List.length_take]; rfl)) ?_; (with_reducible refine (curtilagelaw14_awake.calls k  t309 _ A5.out).mono ?_); rintro e w9 ⟨rfl, hb⟩; refine ⟨_, rfl, ?_⟩; have n0_ := Aside0.mk (below_step (by repeat (first | (with_reducible first | exact HB.out | apply below_alloc | apply pw_below_drewN | apply below_drew1) | exact HB.out)) hb); clear HB; have HB := n0_; clear n0_; (try clear hb); (try clear hb2); (try clear hk); (try clear hi)) | ((with_reducible refine gate_dst (N := 20) rfl ?_); (with_reducible refine gate_callee (f := 9) rfl ?_); refine goesL_ (some 20) rfl rfl Try.func9 (by kernel_rfl) rfl #[.slice A0 l0.length c0] rfl (by (try simp only [List.map_toArray, List.map_cons, List.map_nil]); first | done | rfl | (simp only [List.length_drop, List.length_take]; rfl)) ?_; (with_reducible refine (curtilageref14_Short.calls k _ _ l0 t310 _ ?side1 ?side2 A6.out).mono ?_); (case side1 => repeat (first | exact (Kd.C_below HR0.out HB.out) | (with_reducible refine Kd.C_alloc ?_ _) | (with_reducible refine Kd.C_drewN ?_ _) | (with_reducible refine Kd.C_drew ?_))); (case side2 => exact HC0.out); rintro e w10 ⟨rfl, hb⟩; refine ⟨_, rfl, ?_⟩; have n0_ := Aside0.mk (below_step (by repeat (first | (with_reducible first | exact HB.out | apply below_alloc | apply pw_below_drewN | apply below_drew1) | exact HB.out)) hb); clear HB; have HB := n0_; clear n0_; (try clear hb); (try clear hb2); (try clear hk); (try clear hi)) | ((with_reducible refine gate_dst (N := 24) rfl ?_); (with_reducible refine gate_callee (f := 10) rfl ?_); refine goesL_ (some 24) rfl rfl Try.func10 (by kernel_rfl) rfl #[.slice A1 l1.length c1, .int .i64 (l0.length : Int)] rfl (by (try simp only [List.map_toArray, List.map_cons, List.map_nil]); first | done | rfl | (simp only [List.length_drop, List.length_take]; rfl)) ?_; (with_reducible refine (curtilageref14_Right.calls k _ _ l1 (l0.length : Int) t311 _ ?side1 ?side2 A7.out).mono ?_); (case side1 => repeat (first | exact (Kd.C_below HR1.out HB.out) | (with_reducible refine Kd.C_alloc ?_ _) | (with_reducible refine Kd.C_drewN ?_ _) | (with_reducible refine Kd.C_drew ?_))); (case side2 => exact HC1.out); rintro e w' ⟨rfl, ⟨nd, rfl⟩⟩; refine ⟨_, rfl, ?_⟩))
  (try simp only [Act.put, List.setIfInBounds_toArray, List.set_cons_zero, List.set_cons_succ])
  go_cut [54] (fun v54 wc => ∃ (kq : Nat) (x54_7 : Bool), v54 = .bool x54_7 ∧ Aside0 (curtilagelaw14_LookupShown.j0 kq l0 l1 a2 a3 t309 x54_7 = some r) ∧ Aside0 (kq ≤ k) ∧ Aside0 (Below w.heap.size w wc))
  case first =>
    have H := HC8.out
    clear HC8
    by_cases c11 : t310 = true
    · subst c11
      have H1 : (if t311 = true then (if a2 < 0 then (curtilagelaw14_LookupShown.j0 k l0 l1 a2 a3 t309 true) else (if a2 ≥ (l0.length : Int) then (curtilagelaw14_LookupShown.j0 k l0 l1 a2 a3 t309 true) else (if a3 < 0 then (curtilagelaw14_LookupShown.j0 k l0 l1 a2 a3 t309 true) else (if 0 ≤ a2 then (if a2 < (l0.length : Int) then (curtilagelaw14_LookupShown.j0 k l0 l1 a2 a3 t309 (decide (a3 ≥ (((rd_T32 l0 a2).f3).length : Int)))) else (none)) else (none))))) else (curtilagelaw14_LookupShown.j0 k l0 l1 a2 a3 t309 true)) = some r := by rw [if_pos rfl] at H; exact H
      clear H
      have H := H1
      clear H1
      by_cases c12 : t311 = true
      · subst c12
        have H1 : (if a2 < 0 then (curtilagelaw14_LookupShown.j0 k l0 l1 a2 a3 t309 true) else (if a2 ≥ (l0.length : Int) then (curtilagelaw14_LookupShown.j0 k l0 l1 a2 a3 t309 true) else (if a3 < 0 then (curtilagelaw14_LookupShown.j0 k l0 l1 a2 a3 t309 true) else (if 0 ≤ a2 then (if a2 < (l0.length : Int) then (curtilagelaw14_LookupShown.j0 k l0 l1 a2 a3 t309 (decide (a3 ≥ (((rd_T32 l0 a2).f3).length : Int)))) else (none)) else (none))))) = some r := by rw [if_pos rfl] at H; exact H
        clear H
        have H := H1
        clear H1
        by_cases c13 : a2 < 0
        · rw [if_pos c13] at H
          have c13b0 : decide (a2 < 0) = true := decide_eq_true c13
          clear c13
          (first | rw [c13b0] | (simp only [i64_w, i32_w]; rw [c13b0]) | skip)
          have H' := Aside0.mk H
          clear H
          go_wp2
          go_meet
          case rel => exact ⟨_, (true), (by first | rfl | (simp; done) | (simp [*]; done)), H', ⟨by first | omega | exact Nat.le_refl _⟩, ⟨by repeat (first | (with_reducible first | exact HB.out | apply below_alloc | apply pw_below_drewN | apply below_drew1) | exact HB.out)⟩⟩
        · rw [if_neg c13] at H
          have c13b0 : decide (a2 < 0) = false := decide_eq_false c13
          clear c13
          (first | rw [c13b0] | (simp only [i64_w, i32_w]; rw [c13b0]) | skip)
          by_cases c14 : a2 ≥ (l0.length : Int)
          · rw [if_pos c14] at H
            have c14b0 : decide ((l0.length : Int) ≤ a2) = true := decide_eq_true c14
            clear c14
            have H' := Aside0.mk H
            clear H
            go_wp2
            go_meet
            case rel => exact ⟨_, (true), (by first | rfl | (simp; done) | (simp [*]; done)), H', ⟨by first | omega | exact Nat.le_refl _⟩, ⟨by repeat (first | (with_reducible first | exact HB.out | apply below_alloc | apply pw_below_drewN | apply below_drew1) | exact HB.out)⟩⟩
          · rw [if_neg c14] at H
            have c14b0 : decide ((l0.length : Int) ≤ a2) = false := decide_eq_false c14
            clear c14
            by_cases c15 : a3 < 0
            · rw [if_pos c15] at H
              have c15b0 : decide (a3 < 0) = true := decide_eq_true c15
              clear c15
              have H' := Aside0.mk H
              clear H
              go_wp2
              go_meet
              case rel => exact ⟨_, (true), (by first | rfl | (simp; done) | (simp [*]; done)), H', ⟨by first | omega | exact Nat.le_refl _⟩, ⟨by repeat (first | (with_reducible first | exact HB.out | apply below_alloc | apply pw_below_drewN | apply below_drew1) | exact HB.out)⟩⟩
            · rw [if_neg c15] at H
              have c15b0 : decide (a3 < 0) = false := decide_eq_false c15
              clear c15
              by_cases c16 : 0 ≤ a2
              · rw [if_pos c16] at H
                have c16b0 : decide (0 ≤ a2) = true := decide_eq_true c16
                clear c16
                by_cases c17 : a2 < (l0.length : Int)
                · rw [if_pos c17] at H
                  have c17b0 : decide (a2 < (l0.length : Int)) = true := decide_eq_true c17
                  clear c17
                  have H' := Aside0.mk H
                  clear H
                  have p312 : 0 ≤ (a2 : Int) := of_decide_eq_true (by first | (with_reducible assumption) | assumption)
                  have q312 : a2 < (l0.length : Int) := of_decide_eq_true (by first | (with_reducible assumption) | assumption)
                  obtain ⟨ad312, A312_1, c312_1, A312_2, c312_2, A312_3, c312_3, A312_4, c312_4, A312_5, c312_5, A312_6, c312_6, e312, hx312_0, hx312_1, hx312_2, hx312_3, hx312_4, hx312_5, hx312_6, hl312_1, hi312_1, hl312_2, hi312_2, hl312_3, hi312_3, hl312_4, hi312_4, hl312_5, hi312_5, hl312_6, hi312_6⟩ := at_T32 HR0.out a2 p312 q312
                  cases e312
                  replace hx312_0 := (HB.out.cell (World.block_lt_of_cell? w _ hx312_0)).trans hx312_0
                  replace hx312_1 := (HB.out.cell (World.block_lt_of_cell? w _ hx312_1)).trans hx312_1
                  replace hx312_2 := (HB.out.cell (World.block_lt_of_cell? w _ hx312_2)).trans hx312_2
                  replace hx312_3 := (HB.out.cell (World.block_lt_of_cell? w _ hx312_3)).trans hx312_3
                  replace hx312_4 := (HB.out.cell (World.block_lt_of_cell? w _ hx312_4)).trans hx312_4
                  replace hx312_5 := (HB.out.cell (World.block_lt_of_cell? w _ hx312_5)).trans hx312_5
                  replace hx312_6 := (HB.out.cell (World.block_lt_of_cell? w _ hx312_6)).trans hx312_6
                  have HR312_1 := Aside0.mk hi312_1
                  have HC312_1 := Aside0.mk hl312_1
                  clear hi312_1 hl312_1
                  have HR312_2 := Aside0.mk hi312_2
                  have HC312_2 := Aside0.mk hl312_2
                  clear hi312_2 hl312_2
                  have HR312_3 := Aside0.mk hi312_3
                  have HC312_3 := Aside0.mk hl312_3
                  clear hi312_3 hl312_3
                  have HR312_4 := Aside0.mk hi312_4
                  have HC312_4 := Aside0.mk hl312_4
                  clear hi312_4 hl312_4
                  have HR312_5 := Aside0.mk hi312_5
                  have HC312_5 := Aside0.mk hl312_5
                  clear hi312_5 hl312_5
                  have HR312_6 := Aside0.mk hi312_6
                  have HC312_6 := Aside0.mk hl312_6
                  clear hi312_6 hl312_6
                  replace p312 := eq_true p312
                  replace q312 := eq_true q312
                  go_wp2
                  go_meet
                  case rel => exact ⟨_, (decide (a3 ≥ (((rd_T32 l0 a2).f3).length : Int))), (by first | rfl | (simp; done) | (simp [*]; done)), H', ⟨by first | omega | exact Nat.le_refl _⟩, ⟨by repeat (first | (with_reducible first | exact HB.out | apply below_alloc | apply pw_below_drewN | apply below_drew1) | exact HB.out)⟩⟩
                · rw [if_neg c17] at H
                  exact absurd H (by simp)
              · rw [if_neg c16] at H
                exact absurd H (by simp)
      · replace c12 := Bool.eq_false_iff.mpr c12
        subst c12
        have H1 : (curtilagelaw14_LookupShown.j0 k l0 l1 a2 a3 t309 true) = some r := by rw [if_neg (show ¬ (false = true) by decide)] at H; exact H
        clear H
        have H := H1
        clear H1
        have H' := Aside0.mk H
        clear H
        go_wp2
        go_meet
        case rel => exact ⟨_, (true), (by first | rfl | (simp; done) | (simp [*]; done)), H', ⟨by first | omega | exact Nat.le_refl _⟩, ⟨by repeat (first | (with_reducible first | exact HB.out | apply below_alloc | apply pw_below_drewN | apply below_drew1) | exact HB.out)⟩⟩
    · replace c11 := Bool.eq_false_iff.mpr c11
      subst c11
      have H1 : (curtilagelaw14_LookupShown.j0 k l0 l1 a2 a3 t309 true) = some r := by rw [if_neg (show ¬ (false = true) by decide)] at H; exact H
      clear H
      have H := H1
      clear H1
      have H' := Aside0.mk H
      clear H
      go_wp2
      go_meet
      case rel => exact ⟨_, (true), (by first | rfl | (simp; done) | (simp [*]; done)), H', ⟨by first | omega | exact Nat.le_refl _⟩, ⟨by repeat (first | (with_reducible first | exact HB.out | apply below_alloc | apply pw_below_drewN | apply below_drew1) | exact HB.out)⟩⟩
  case rest =>
    clear HC8
    try clear c1
    try clear p2
    try clear c3
    try clear p3
    try clear q3
    try clear hx3
    try clear c5
    try clear c8
    try clear c9
    try clear c10
    try clear c11
    try clear c12
    try clear c13
    try clear c13b0
    try clear c14
    try clear c14b0
    try clear c15
    try clear c15b0
    try clear c16
    try clear c16b0
    try clear c17
    try clear c17b0
    try clear hx312_0
    try clear hx312_1
    try clear hx312_2
    try clear hx312_3
    try clear hx312_4
    try clear hx312_5
    try clear hx312_6
    try clear p312
    try clear q312
    obtain ⟨kq, x54_7, rfl, HA, HJ7, HB⟩ := hcut
    cases kq with
    | zero => exact absurd HA.out (by simp [curtilagelaw14_LookupShown.j0])
    | succ kj7 =>
      have H := HA.out
      clear HA
      simp only [curtilagelaw14_LookupShown.j0] at H
      by_cases c18 : x54_7 = true
      · subst c18
        have H1 : (some t309) = some r := by rw [if_pos rfl] at H; exact H
        clear H
        have H := H1
        clear H1
        obtain rfl := Option.some.inj H
        go_wp2
        go_ret
        exact ⟨by first | rfl | (simp [errW_none, errW_some] <;> rfl) | (simp [*, errW_none, errW_some] <;> rfl), by repeat (first | (with_reducible first | exact HB.out | apply below_alloc | apply pw_below_drewN | apply below_drew1) | exact HB.out)⟩
      · replace c18 := Bool.eq_false_iff.mpr c18
        subst c18
        have H1 : (if 0 ≤ a2 then (if a2 < (l0.length : Int) then (if 0 ≤ a3 then (if a3 < (((rd_T32 l0 a2).f3).length : Int) then ((lookup_Bind.f kj7 l0 l1 a2 a3).bind fun bt316 => (if bt316.2.2 = 0 then (if bt316.1 < 0 then (if t309 = true then (if bt316.2.1 = (-1) then (if ((rd_T42 ((rd_T32 l0 a2).f3) a3).f7 = true) then (some false) else (some (((rd_T42 ((rd_T32 l0 a2).f3) a3).f5) == 3))) else (some false)) else (some false)) else (if bt316.1 ≥ (l0.length : Int) then (curtilagelaw14_LookupShown.j1 kj7 l0 a2 t309 bt316.1 bt316.2.1 true ((rd_T42 ((rd_T32 l0 a2).f3) a3).f0) ((rd_T42 ((rd_T32 l0 a2).f3) a3).f1) ((rd_T42 ((rd_T32 l0 a2).f3) a3).f2) ((rd_T42 ((rd_T32 l0 a2).f3) a3).f3) ((rd_T42 ((rd_T32 l0 a2).f3) a3).f4) ((rd_T42 ((rd_T32 l0 a2).f3) a3).f5) ((rd_T42 ((rd_T32 l0 a2).f3) a3).f6) ((rd_T42 ((rd_T32 l0 a2).f3) a3).f7)) else (if bt316.2.1 < 0 then (curtilagelaw14_LookupShown.j1 kj7 l0 a2 t309 bt316.1 bt316.2.1 true ((rd_T42 ((rd_T32 l0 a2).f3) a3).f0) ((rd_T42 ((rd_T32 l0 a2).f3) a3).f1) ((rd_T42 ((rd_T32 l0 a2).f3) a3).f2) ((rd_T42 ((rd_T32 l0 a2).f3) a3).f3) ((rd_T42 ((rd_T32 l0 a2).f3) a3).f4) ((rd_T42 ((rd_T32 l0 a2).f3) a3).f5) ((rd_T42 ((rd_T32 l0 a2).f3) a3).f6) ((rd_T42 ((rd_T32 l0 a2).f3) a3).f7)) else (if 0 ≤ bt316.1 then (if bt316.1 < (l0.length : Int) then (curtilagelaw14_LookupShown.j1 kj7 l0 a2 t309 bt316.1 bt316.2.1 (decide (bt316.2.1 ≥ (((rd_T32 l0 bt316.1).f3).length : Int))) ((rd_T42 ((rd_T32 l0 a2).f3) a3).f0) ((rd_T42 ((rd_T32 l0 a2).f3) a3).f1) ((rd_T42 ((rd_T32 l0 a2).f3) a3).f2) ((rd_T42 ((rd_T32 l0 a2).f3) a3).f3) ((rd_T42 ((rd_T32 l0 a2).f3) a3).f4) ((rd_T42 ((rd_T32 l0 a2).f3) a3).f5) ((rd_T42 ((rd_T32 l0 a2).f3) a3).f6) ((rd_T42 ((rd_T32 l0 a2).f3) a3).f7)) else (none)) else (none))))) else (if t309 = true then (if ((rd_T42 ((rd_T32 l0 a2).f3) a3).f7 = true) then (some false) else (some (((rd_T42 ((rd_T32 l0 a2).f3) a3).f5) != 3))) else (some false)))) else (none)) else (none)) else (none)) else (none)) = some r := by rw [if_neg (show ¬ (false = true) by decide)] at H; exact H
        clear H
        have H := H1
        clear H1
        by_cases c19 : 0 ≤ a2
        · rw [if_pos c19] at H
          have c19b0 : decide (0 ≤ a2) = true := decide_eq_true c19
          clear c19
          by_cases c20 : a2 < (l0.length : Int)
          · rw [if_pos c20] at H
            have c20b0 : decide (a2 < (l0.length : Int)) = true := decide_eq_true c20
            clear c20
            by_cases c21 : 0 ≤ a3
            · rw [if_pos c21] at H
              have c21b0 : decide (0 ≤ a3) = true := decide_eq_true c21
              clear c21
              by_cases c22 : a3 < (((rd_T32 l0 a2).f3).length : Int)
              · rw [if_pos c22] at H
                have c22b0 : decide (a3 < (((rd_T32 l0 a2).f3).length : Int)) = true := decide_eq_true c22
                clear c22
                replace H := Option.bind_eq_some_iff.mp H
                obtain ⟨⟨t316, t317, t318⟩, A230, H⟩ := H
                replace H : (if t318 = 0 then (if t316 < 0 then (if t309 = true then (if t317 = (-1) then (if ((rd_T42 ((rd_T32 l0 a2).f3) a3).f7 = true) then (some false) else (some (((rd_T42 ((rd_T32 l0 a2).f3) a3).f5) == 3))) else (some false)) else (some false)) else (if t316 ≥ (l0.length : Int) then (curtilagelaw14_LookupShown.j1 kj7 l0 a2 t309 t316 t317 true ((rd_T42 ((rd_T32 l0 a2).f3) a3).f0) ((rd_T42 ((rd_T32 l0 a2).f3) a3).f1) ((rd_T42 ((rd_T32 l0 a2).f3) a3).f2) ((rd_T42 ((rd_T32 l0 a2).f3) a3).f3) ((rd_T42 ((rd_T32 l0 a2).f3) a3).f4) ((rd_T42 ((rd_T32 l0 a2).f3) a3).f5) ((rd_T42 ((rd_T32 l0 a2).f3) a3).f6) ((rd_T42 ((rd_T32 l0 a2).f3) a3).f7)) else (if t317 < 0 then (curtilagelaw14_LookupShown.j1 kj7 l0 a2 t309 t316 t317 true ((rd_T42 ((rd_T32 l0 a2).f3) a3).f0) ((rd_T42 ((rd_T32 l0 a2).f3) a3).f1) ((rd_T42 ((rd_T32 l0 a2).f3) a3).f2) ((rd_T42 ((rd_T32 l0 a2).f3) a3).f3) ((rd_T42 ((rd_T32 l0 a2).f3) a3).f4) ((rd_T42 ((rd_T32 l0 a2).f3) a3).f5) ((rd_T42 ((rd_T32 l0 a2).f3) a3).f6) ((rd_T42 ((rd_T32 l0 a2).f3) a3).f7)) else (if 0 ≤ t316 then (if t316 < (l0.length : Int) then (curtilagelaw14_LookupShown.j1 kj7 l0 a2 t309 t316 t317 (decide (t317 ≥ (((rd_T32 l0 t316).f3).length : Int))) ((rd_T42 ((rd_T32 l0 a2).f3) a3).f0) ((rd_T42 ((rd_T32 l0 a2).f3) a3).f1) ((rd_T42 ((rd_T32 l0 a2).f3) a3).f2) ((rd_T42 ((rd_T32 l0 a2).f3) a3).f3) ((rd_T42 ((rd_T32 l0 a2).f3) a3).f4) ((rd_T42 ((rd_T32 l0 a2).f3) a3).f5) ((rd_T42 ((rd_T32 l0 a2).f3) a3).f6) ((rd_T42 ((rd_T32 l0 a2).f3) a3).f7)) else (none)) else (none))))) else (if t309 = true then (if ((rd_T42 ((rd_T32 l0 a2).f3) a3).f7 = true) then (some false) else (some (((rd_T42 ((rd_T32 l0 a2).f3) a3).f5) != 3))) else (some false))) = some r := H
                have A23 := Aside0.mk A230
                clear A230
                by_cases c24 : t318 = 0
                · rw [if_pos c24] at H
                  have c24b0 : (t318 == 0) = true := beq_iff_eq.mpr c24
                  have c24b1 : (t318 != 0) = false := bne_eq_false_iff_eq.mpr c24
                  clear c24
                  by_cases c25 : t316 < 0
                  · rw [if_pos c25] at H
                    have c25b0 : decide (t316 < 0) = true := decide_eq_true c25
                    clear c25
                    by_cases c26 : t309 = true
                    · subst c26
                      have H1 : (if t317 = (-1) then (if ((rd_T42 ((rd_T32 l0 a2).f3) a3).f7 = true) then (some false) else (some (((rd_T42 ((rd_T32 l0 a2).f3) a3).f5) == 3))) else (some false)) = some r := by rw [if_pos rfl] at H; exact H
                      clear H
                      have H := H1
                      clear H1
                      by_cases c27 : t317 = (-1)
                      · rw [if_pos c27] at H
                        have c27b0 : (t317 == (-1)) = true := beq_iff_eq.mpr c27
                        have c27b1 : (t317 != (-1)) = false := bne_eq_false_iff_eq.mpr c27
                        clear c27
                        obtain ⟨bq28, hbq28⟩ : ∃ b_ : Bool, b_ = ((rd_T42 ((rd_T32 l0 a2).f3) a3).f7) := ⟨_, rfl⟩
                        replace H : (if (bq28 = true) then (some false) else (some (((rd_T42 ((rd_T32 l0 a2).f3) a3).f5) == 3))) = some r := by rw [← hbq28] at H; exact H
                        have Nbq28 := Aside0.mk hbq28
                        clear hbq28
                        (try (have h_ := A5.out; rw [← Nbq28.out] at h_; clear A5; have A5 := Aside0.mk h_; clear h_))
                        (try (have h_ := A6.out; rw [← Nbq28.out] at h_; clear A6; have A6 := Aside0.mk h_; clear h_))
                        (try (have h_ := A7.out; rw [← Nbq28.out] at h_; clear A7; have A7 := Aside0.mk h_; clear h_))
                        (try (have h_ := A23.out; rw [← Nbq28.out] at h_; clear A23; have A23 := Aside0.mk h_; clear h_))
                        by_cases c29 : (bq28 = true)
                        · subst c29
                          have H1 : (some false) = some r := by rw [if_pos rfl] at H; exact H
                          clear H
                          have H := H1
                          clear H1
                          exact absurd ((Option.some.inj H).trans HT.out) (by decide)
                        · replace c29 := Bool.eq_false_iff.mpr c29
                          subst c29
                          have H1 : (some (((rd_T42 ((rd_T32 l0 a2).f3) a3).f5) == 3)) = some r := by rw [if_neg (show ¬ (false = true) by decide)] at H; exact H
                          clear H
                          have H := H1
                          clear H1
                          obtain rfl := Option.some.inj H
                          have p313 : 0 ≤ (a2 : Int) := of_decide_eq_true (by first | (with_reducible assumption) | assumption)
                          have q313 : a2 < (l0.length : Int) := of_decide_eq_true (by first | (with_reducible assumption) | assumption)
                          obtain ⟨ad313, A313_1, c313_1, A313_2, c313_2, A313_3, c313_3, A313_4, c313_4, A313_5, c313_5, A313_6, c313_6, e313, hx313_0, hx313_1, hx313_2, hx313_3, hx313_4, hx313_5, hx313_6, hl313_1, hi313_1, hl313_2, hi313_2, hl313_3, hi313_3, hl313_4, hi313_4, hl313_5, hi313_5, hl313_6, hi313_6⟩ := at_T32 HR0.out a2 p313 q313
                          cases e313
                          replace hx313_0 := (HB.out.cell (World.block_lt_of_cell? w _ hx313_0)).trans hx313_0
                          replace hx313_1 := (HB.out.cell (World.block_lt_of_cell? w _ hx313_1)).trans hx313_1
                          replace hx313_2 := (HB.out.cell (World.block_lt_of_cell? w _ hx313_2)).trans hx313_2
                          replace hx313_3 := (HB.out.cell (World.block_lt_of_cell? w _ hx313_3)).trans hx313_3
                          replace hx313_4 := (HB.out.cell (World.block_lt_of_cell? w _ hx313_4)).trans hx313_4
                          replace hx313_5 := (HB.out.cell (World.block_lt_of_cell? w _ hx313_5)).trans hx313_5
                          replace hx313_6 := (HB.out.cell (World.block_lt_of_cell? w _ hx313_6)).trans hx313_6
                          have HR313_1 := Aside0.mk hi313_1
                          have HC313_1 := Aside0.mk hl313_1
                          clear hi313_1 hl313_1
                          have HR313_2 := Aside0.mk hi313_2
                          have HC313_2 := Aside0.mk hl313_2
                          clear hi313_2 hl313_2
                          have HR313_3 := Aside0.mk hi313_3
                          have HC313_3 := Aside0.mk hl313_3
                          clear hi313_3 hl313_3
                          have HR313_4 := Aside0.mk hi313_4
                          have HC313_4 := Aside0.mk hl313_4
                          clear hi313_4 hl313_4
                          have HR313_5 := Aside0.mk hi313_5
                          have HC313_5 := Aside0.mk hl313_5
                          clear hi313_5 hl313_5
                          have HR313_6 := Aside0.mk hi313_6
                          have HC313_6 := Aside0.mk hl313_6
                          clear hi313_6 hl313_6
                          replace p313 := eq_true p313
                          replace q313 := eq_true q313
                          have p314 : 0 ≤ (a3 : Int) := of_decide_eq_true (by first | (with_reducible assumption) | assumption)
                          have q314 : a3 < (((rd_T32 l0 a2).f3).length : Int) := of_decide_eq_true (by first | (with_reducible assumption) | assumption)
                          obtain ⟨ad314, e314, hx314_0, hx314_1, hx314_2, hx314_3, hx314_4, hx314_5, hx314_6, hx314_7⟩ := at_T42 HR313_3.out a3 p314 q314
                          (try rw [← Nbq28.out] at hx314_7)
                          (try rw [← Nbq28.out] at hw314_7)
                          cases e314
                          replace hx314_0 := (HB.out.cell (World.block_lt_of_cell? w _ hx314_0)).trans hx314_0
                          replace hx314_1 := (HB.out.cell (World.block_lt_of_cell? w _ hx314_1)).trans hx314_1
                          replace hx314_2 := (HB.out.cell (World.block_lt_of_cell? w _ hx314_2)).trans hx314_2
                          replace hx314_3 := (HB.out.cell (World.block_lt_of_cell? w _ hx314_3)).trans hx314_3
                          replace hx314_4 := (HB.out.cell (World.block_lt_of_cell? w _ hx314_4)).trans hx314_4
                          replace hx314_5 := (HB.out.cell (World.block_lt_of_cell? w _ hx314_5)).trans hx314_5
                          replace hx314_6 := (HB.out.cell (World.block_lt_of_cell? w _ hx314_6)).trans hx314_6
                          replace hx314_7 := (HB.out.cell (World.block_lt_of_cell? w _ hx314_7)).trans hx314_7
                          replace p314 := eq_true p314
                          replace q314 := eq_true q314
                          go_wp2_with (first | ((with_reducible refine gate_dst (N := 12) rfl ?_); (try (refine gate_guard (by rfl) ?_; dsimp only)); refine box_event ?hg (N := 12) ?hd (cs := #[.string (⟨#[]⟩ : ByteArray), .string (⟨#[]⟩ : ByteArray), .int .u64 0, .int .u64 0, .int .i64 0, .int .i64 0, .int .i64 0, .bool false]) (t := 42) ?hr ?_; (case hd => rfl); (case hg => rfl); (case hr => first | (go_simp; done) | (go_simp; rfl)); intro gb315 hg w35 hbox hb; have n0_ := Aside0.mk (below_step (by repeat (first | (with_reducible first | exact HB.out | apply below_alloc | apply pw_below_drewN | apply below_drew1) | exact HB.out)) hb); have n1_ := Aside0.mk (hbox); have n2_ := Aside0.mk ((by rw [hg]; exact (below_size (by repeat (first | (with_reducible first | exact HB.out | apply below_alloc | apply pw_below_drewN | apply below_drew1) | exact HB.out))) : w.heap.size ≤ gb315)); have n3_ := n2_; clear HB; have HB := n0_; have BK315 := n1_; have GW315 := n2_; have GE315 := n3_; clear n0_ n1_ n2_ n3_; clear hb hbox hg; obtain ⟨hcz36_0, hcz36_1, hcz36_2, hcz36_3, hcz36_4, hcz36_5, hcz36_6, hcz36_7, hfz36_0, hfz36_1, hfz36_2, hfz36_3, hfz36_4, hfz36_5, hfz36_6, hfz36_7⟩ := cells8 BK315.out) | ((with_reducible refine gate_store (t := 42) (p := 12) rfl ?_); refine store_event (t := 42) (p := 12) (v := ?vo_w37) (w1 := ((((((((w35.setCell ⟨gb315, 0, none⟩ (.string ((rd_T42 ((rd_T32 l0 a2).f3) a3).f0))).setCell ⟨gb315, 1, none⟩ (.string ((rd_T42 ((rd_T32 l0 a2).f3) a3).f1))).setCell ⟨gb315, 2, none⟩ (.int .u64 ((rd_T42 ((rd_T32 l0 a2).f3) a3).f2))).setCell ⟨gb315, 3, none⟩ (.int .u64 ((rd_T42 ((rd_T32 l0 a2).f3) a3).f3))).setCell ⟨gb315, 4, none⟩ (.int .i64 ((rd_T42 ((rd_T32 l0 a2).f3) a3).f4))).setCell ⟨gb315, 5, none⟩ (.int .i64 ((rd_T42 ((rd_T32 l0 a2).f3) a3).f5))).setCell ⟨gb315, 6, none⟩ (.int .i64 ((rd_T42 ((rd_T32 l0 a2).f3) a3).f6))).setCell ⟨gb315, 7, none⟩ (.bool false))) ?hg ?ho ?hn ?hr ?_; (case ho => rfl); (case hg => rfl); (case hn => rfl); (case hr => first | (go_simp; done) | (go_simp; rfl)); intro w37 hw; have n0_ : Aside0 (w37.heap[gb315]? = some (.cells #[.string ((rd_T42 ((rd_T32 l0 a2).f3) a3).f0), .string ((rd_T42 ((rd_T32 l0 a2).f3) a3).f1), .int .u64 ((rd_T42 ((rd_T32 l0 a2).f3) a3).f2), .int .u64 ((rd_T42 ((rd_T32 l0 a2).f3) a3).f3), .int .i64 ((rd_T42 ((rd_T32 l0 a2).f3) a3).f4), .int .i64 ((rd_T42 ((rd_T32 l0 a2).f3) a3).f5), .int .i64 ((rd_T42 ((rd_T32 l0 a2).f3) a3).f6), .bool false] 42 (0, 0))) := ⟨(by rw [hw]; exact (by (with_reducible repeat (first | refine blk_drewN ?_ _ | refine blk_drew ?_ | refine blk_alloc ?_ _)); refine blk_put (cs := #[.string ((rd_T42 ((rd_T32 l0 a2).f3) a3).f0), .string ((rd_T42 ((rd_T32 l0 a2).f3) a3).f1), .int .u64 ((rd_T42 ((rd_T32 l0 a2).f3) a3).f2), .int .u64 ((rd_T42 ((rd_T32 l0 a2).f3) a3).f3), .int .i64 ((rd_T42 ((rd_T32 l0 a2).f3) a3).f4), .int .i64 ((rd_T42 ((rd_T32 l0 a2).f3) a3).f5), .int .i64 ((rd_T42 ((rd_T32 l0 a2).f3) a3).f6), .bool false]) ?_ 7 _ rfl; (with_reducible repeat (first | refine blk_drewN ?_ _ | refine blk_drew ?_ | refine blk_alloc ?_ _)); refine blk_put (cs := #[.string ((rd_T42 ((rd_T32 l0 a2).f3) a3).f0), .string ((rd_T42 ((rd_T32 l0 a2).f3) a3).f1), .int .u64 ((rd_T42 ((rd_T32 l0 a2).f3) a3).f2), .int .u64 ((rd_T42 ((rd_T32 l0 a2).f3) a3).f3), .int .i64 ((rd_T42 ((rd_T32 l0 a2).f3) a3).f4), .int .i64 ((rd_T42 ((rd_T32 l0 a2).f3) a3).f5), .int .i64 0, .bool false]) ?_ 6 _ rfl; (with_reducible repeat (first | refine blk_drewN ?_ _ | refine blk_drew ?_ | refine blk_alloc ?_ _)); refine blk_put (cs := #[.string ((rd_T42 ((rd_T32 l0 a2).f3) a3).f0), .string ((rd_T42 ((rd_T32 l0 a2).f3) a3).f1), .int .u64 ((rd_T42 ((rd_T32 l0 a2).f3) a3).f2), .int .u64 ((rd_T42 ((rd_T32 l0 a2).f3) a3).f3), .int .i64 ((rd_T42 ((rd_T32 l0 a2).f3) a3).f4), .int .i64 0, .int .i64 0, .bool false]) ?_ 5 _ rfl; (with_reducible repeat (first | refine blk_drewN ?_ _ | refine blk_drew ?_ | refine blk_alloc ?_ _)); refine blk_put (cs := #[.string ((rd_T42 ((rd_T32 l0 a2).f3) a3).f0), .string ((rd_T42 ((rd_T32 l0 a2).f3) a3).f1), .int .u64 ((rd_T42 ((rd_T32 l0 a2).f3) a3).f2), .int .u64 ((rd_T42 ((rd_T32 l0 a2).f3) a3).f3), .int .i64 0, .int .i64 0, .int .i64 0, .bool false]) ?_ 4 _ rfl; (with_reducible repeat (first | refine blk_drewN ?_ _ | refine blk_drew ?_ | refine blk_alloc ?_ _)); refine blk_put (cs := #[.string ((rd_T42 ((rd_T32 l0 a2).f3) a3).f0), .string ((rd_T42 ((rd_T32 l0 a2).f3) a3).f1), .int .u64 ((rd_T42 ((rd_T32 l0 a2).f3) a3).f2), .int .u64 0, .int .i64 0, .int .i64 0, .int .i64 0, .bool false]) ?_ 3 _ rfl; (with_reducible repeat (first | refine blk_drewN ?_ _ | refine blk_drew ?_ | refine blk_alloc ?_ _)); refine blk_put (cs := #[.string ((rd_T42 ((rd_T32 l0 a2).f3) a3).f0), .string ((rd_T42 ((rd_T32 l0 a2).f3) a3).f1), .int .u64 0, .int .u64 0, .int .i64 0, .int .i64 0, .int .i64 0, .bool false]) ?_ 2 _ rfl; (with_reducible repeat (first | refine blk_drewN ?_ _ | refine blk_drew ?_ | refine blk_alloc ?_ _)); refine blk_put (cs := #[.string ((rd_T42 ((rd_T32 l0 a2).f3) a3).f0), .string (⟨#[]⟩ : ByteArray), .int .u64 0, .int .u64 0, .int .i64 0, .int .i64 0, .int .i64 0, .bool false]) ?_ 1 _ rfl; (with_reducible repeat (first | refine blk_drewN ?_ _ | refine blk_drew ?_ | refine blk_alloc ?_ _)); refine blk_put (cs := #[.string (⟨#[]⟩ : ByteArray), .string (⟨#[]⟩ : ByteArray), .int .u64 0, .int .u64 0, .int .i64 0, .int .i64 0, .int .i64 0, .bool false]) ?_ 0 _ rfl; (with_reducible repeat (first | refine blk_drewN ?_ _ | refine blk_drew ?_ | refine blk_alloc ?_ _)); exact BK315.out))⟩; have n1_ : Aside0 (Below w.heap.size w w37) := ⟨(by rw [hw]; exact (by repeat (first | (with_reducible first | exact HB.out | apply below_alloc | apply pw_below_drewN | apply below_drew1 | refine below_set ?_ GE315.out) | exact HB.out)))⟩; clear hw; clear BK315; clear HB; have BK315 := n0_; have HB := n1_; clear n0_ n1_) | ((with_reducible refine gate_dst (N := 69) rfl ?_); (with_reducible refine gate_callee (f := 11) rfl ?_); refine goesL_ (some 69) rfl rfl Try.func11 (by kernel_rfl) rfl #[.slice (some ad313) l0.length c0, .slice A1 l1.length c1, .int .i64 a2, .int .i64 a3] rfl (by (try simp only [List.map_toArray, List.map_cons, List.map_nil]); first | done | rfl | (simp only [List.length_drop, List.length_take]; rfl)) ?_; (with_reducible refine (lookup_Bind.calls kj7 _ _ l0 _ _ l1 a2 a3 t316 t317 t318 _ ?side1 ?side2 ?side3 ?side4 A23.out).mono ?_); (case side1 => repeat (first | exact (Kd.C_below HR0.out HB.out) | (with_reducible refine Kd.C_alloc ?_ _) | (with_reducible refine Kd.C_drewN ?_ _) | (with_reducible refine Kd.C_drew ?_))); (case side2 => exact HC0.out); (case side3 => repeat (first | exact (Kd.C_below HR1.out HB.out) | (with_reducible refine Kd.C_alloc ?_ _) | (with_reducible refine Kd.C_drewN ?_ _) | (with_reducible refine Kd.C_drew ?_))); (case side4 => exact HC1.out); rintro e w38 ⟨rfl, hb⟩; refine ⟨_, rfl, ?_⟩; have n0_ := Aside0.mk (blk_below (g := gb315) (o := .cells #[.string ((rd_T42 ((rd_T32 l0 a2).f3) a3).f0), .string ((rd_T42 ((rd_T32 l0 a2).f3) a3).f1), .int .u64 ((rd_T42 ((rd_T32 l0 a2).f3) a3).f2), .int .u64 ((rd_T42 ((rd_T32 l0 a2).f3) a3).f3), .int .i64 ((rd_T42 ((rd_T32 l0 a2).f3) a3).f4), .int .i64 ((rd_T42 ((rd_T32 l0 a2).f3) a3).f5), .int .i64 ((rd_T42 ((rd_T32 l0 a2).f3) a3).f6), .bool false] 42 (0, 0)) (by (with_reducible repeat (first | refine blk_drewN ?_ _ | refine blk_drew ?_ | refine blk_alloc ?_ _)); exact BK315.out) hb); have n1_ := Aside0.mk (below_step (by repeat (first | (with_reducible first | exact HB.out | apply below_alloc | apply pw_below_drewN | apply below_drew1 | refine below_set ?_ GE315.out) | exact HB.out)) hb); clear BK315; clear HB; have BK315 := n0_; have HB := n1_; clear n0_ n1_; (try clear hb); (try clear hb2); (try clear hk); (try clear hi); obtain ⟨hcz39_0, hcz39_1, hcz39_2, hcz39_3, hcz39_4, hcz39_5, hcz39_6, hcz39_7, hfz39_0, hfz39_1, hfz39_2, hfz39_3, hfz39_4, hfz39_5, hfz39_6, hfz39_7⟩ := cells8 BK315.out))
                          go_ret
                          exact ⟨by first | rfl | (simp [errW_none, errW_some] <;> rfl) | (simp [*, errW_none, errW_some] <;> rfl), by repeat (first | (with_reducible first | exact HB.out | apply below_alloc | apply pw_below_drewN | apply below_drew1 | refine below_set ?_ GE315.out) | exact HB.out)⟩
                      · rw [if_neg c27] at H
                        have c27b0 : (t317 == (-1)) = false := beq_eq_false_iff_ne.mpr c27
                        have c27b1 : (t317 != (-1)) = true := bne_iff_ne.mpr c27
                        exact absurd ((Option.some.inj H).trans HT.out) (by decide)
                    · replace c26 := Bool.eq_false_iff.mpr c26
                      subst c26
                      have H1 : (some false) = some r := by rw [if_neg (show ¬ (false = true) by decide)] at H; exact H
                      clear H
                      have H := H1
                      clear H1
                      exact absurd ((Option.some.inj H).trans HT.out) (by decide)
                  · rw [if_neg c25] at H
                    have c25b0 : decide (t316 < 0) = false := decide_eq_false c25
                    clear c25
                    have HC48 := Aside0.mk H
                    clear H
                    have p313 : 0 ≤ (a2 : Int) := of_decide_eq_true (by first | (with_reducible assumption) | assumption)
                    have q313 : a2 < (l0.length : Int) := of_decide_eq_true (by first | (with_reducible assumption) | assumption)
                    obtain ⟨ad313, A313_1, c313_1, A313_2, c313_2, A313_3, c313_3, A313_4, c313_4, A313_5, c313_5, A313_6, c313_6, e313, hx313_0, hx313_1, hx313_2, hx313_3, hx313_4, hx313_5, hx313_6, hl313_1, hi313_1, hl313_2, hi313_2, hl313_3, hi313_3, hl313_4, hi313_4, hl313_5, hi313_5, hl313_6, hi313_6⟩ := at_T32 HR0.out a2 p313 q313
                    cases e313
                    replace hx313_0 := (HB.out.cell (World.block_lt_of_cell? w _ hx313_0)).trans hx313_0
                    replace hx313_1 := (HB.out.cell (World.block_lt_of_cell? w _ hx313_1)).trans hx313_1
                    replace hx313_2 := (HB.out.cell (World.block_lt_of_cell? w _ hx313_2)).trans hx313_2
                    replace hx313_3 := (HB.out.cell (World.block_lt_of_cell? w _ hx313_3)).trans hx313_3
                    replace hx313_4 := (HB.out.cell (World.block_lt_of_cell? w _ hx313_4)).trans hx313_4
                    replace hx313_5 := (HB.out.cell (World.block_lt_of_cell? w _ hx313_5)).trans hx313_5
                    replace hx313_6 := (HB.out.cell (World.block_lt_of_cell? w _ hx313_6)).trans hx313_6
                    have HR313_1 := Aside0.mk hi313_1
                    have HC313_1 := Aside0.mk hl313_1
                    clear hi313_1 hl313_1
                    have HR313_2 := Aside0.mk hi313_2
                    have HC313_2 := Aside0.mk hl313_2
                    clear hi313_2 hl313_2
                    have HR313_3 := Aside0.mk hi313_3
                    have HC313_3 := Aside0.mk hl313_3
                    clear hi313_3 hl313_3
                    have HR313_4 := Aside0.mk hi313_4
                    have HC313_4 := Aside0.mk hl313_4
                    clear hi313_4 hl313_4
                    have HR313_5 := Aside0.mk hi313_5
                    have HC313_5 := Aside0.mk hl313_5
                    clear hi313_5 hl313_5
                    have HR313_6 := Aside0.mk hi313_6
                    have HC313_6 := Aside0.mk hl313_6
                    clear hi313_6 hl313_6
                    replace p313 := eq_true p313
                    replace q313 := eq_true q313
                    have p314 : 0 ≤ (a3 : Int) := of_decide_eq_true (by first | (with_reducible assumption) | assumption)
                    have q314 : a3 < (((rd_T32 l0 a2).f3).length : Int) := of_decide_eq_true (by first | (with_reducible assumption) | assumption)
                    obtain ⟨ad314, e314, hx314_0, hx314_1, hx314_2, hx314_3, hx314_4, hx314_5, hx314_6, hx314_7⟩ := at_T42 HR313_3.out a3 p314 q314
                    cases e314
                    replace hx314_0 := (HB.out.cell (World.block_lt_of_cell? w _ hx314_0)).trans hx314_0
                    replace hx314_1 := (HB.out.cell (World.block_lt_of_cell? w _ hx314_1)).trans hx314_1
                    replace hx314_2 := (HB.out.cell (World.block_lt_of_cell? w _ hx314_2)).trans hx314_2
                    replace hx314_3 := (HB.out.cell (World.block_lt_of_cell? w _ hx314_3)).trans hx314_3
                    replace hx314_4 := (HB.out.cell (World.block_lt_of_cell? w _ hx314_4)).trans hx314_4
                    replace hx314_5 := (HB.out.cell (World.block_lt_of_cell? w _ hx314_5)).trans hx314_5
                    replace hx314_6 := (HB.out.cell (World.block_lt_of_cell? w _ hx314_6)).trans hx314_6
                    replace hx314_7 := (HB.out.cell (World.block_lt_of_cell? w _ hx314_7)).trans hx314_7
                    replace p314 := eq_true p314
                    replace q314 := eq_true q314
                    go_upto_region 12 with (first | ((with_reducible refine gate_dst (N := 12) rfl ?_); (try (refine gate_guard (by rfl) ?_; dsimp only)); refine box_event ?hg (N := 12) ?hd (cs := #[.string (⟨#[]⟩ : ByteArray), .string (⟨#[]⟩ : ByteArray), .int .u64 0, .int .u64 0, .int .i64 0, .int .i64 0, .int .i64 0, .bool false]) (t := 42) ?hr ?_; (case hd => rfl); (case hg => rfl); (case hr => first | (go_simp; done) | (go_simp; rfl)); intro gb315 hg w49 hbox hb; have n0_ := Aside0.mk (below_step (by repeat (first | (with_reducible first | exact HB.out | apply below_alloc | apply pw_below_drewN | apply below_drew1) | exact HB.out)) hb); have n1_ := Aside0.mk (hbox); have n2_ := Aside0.mk ((by rw [hg]; exact (below_size (by repeat (first | (with_reducible first | exact HB.out | apply below_alloc | apply pw_below_drewN | apply below_drew1) | exact HB.out))) : w.heap.size ≤ gb315)); have n3_ := n2_; clear HB; have HB := n0_; have BK315 := n1_; have GW315 := n2_; have GE315 := n3_; clear n0_ n1_ n2_ n3_; clear hb hbox hg; obtain ⟨hcz50_0, hcz50_1, hcz50_2, hcz50_3, hcz50_4, hcz50_5, hcz50_6, hcz50_7, hfz50_0, hfz50_1, hfz50_2, hfz50_3, hfz50_4, hfz50_5, hfz50_6, hfz50_7⟩ := cells8 BK315.out) | ((with_reducible refine gate_store (t := 42) (p := 12) rfl ?_); refine store_event (t := 42) (p := 12) (v := ?vo_w51) (w1 := ((((((((w49.setCell ⟨gb315, 0, none⟩ (.string ((rd_T42 ((rd_T32 l0 a2).f3) a3).f0))).setCell ⟨gb315, 1, none⟩ (.string ((rd_T42 ((rd_T32 l0 a2).f3) a3).f1))).setCell ⟨gb315, 2, none⟩ (.int .u64 ((rd_T42 ((rd_T32 l0 a2).f3) a3).f2))).setCell ⟨gb315, 3, none⟩ (.int .u64 ((rd_T42 ((rd_T32 l0 a2).f3) a3).f3))).setCell ⟨gb315, 4, none⟩ (.int .i64 ((rd_T42 ((rd_T32 l0 a2).f3) a3).f4))).setCell ⟨gb315, 5, none⟩ (.int .i64 ((rd_T42 ((rd_T32 l0 a2).f3) a3).f5))).setCell ⟨gb315, 6, none⟩ (.int .i64 ((rd_T42 ((rd_T32 l0 a2).f3) a3).f6))).setCell ⟨gb315, 7, none⟩ (.bool ((rd_T42 ((rd_T32 l0 a2).f3) a3).f7)))) ?hg ?ho ?hn ?hr ?_; (case ho => rfl); (case hg => rfl); (case hn => rfl); (case hr => first | (go_simp; done) | (go_simp; rfl)); intro w51 hw; have n0_ : Aside0 (w51.heap[gb315]? = some (.cells #[.string ((rd_T42 ((rd_T32 l0 a2).f3) a3).f0), .string ((rd_T42 ((rd_T32 l0 a2).f3) a3).f1), .int .u64 ((rd_T42 ((rd_T32 l0 a2).f3) a3).f2), .int .u64 ((rd_T42 ((rd_T32 l0 a2).f3) a3).f3), .int .i64 ((rd_T42 ((rd_T32 l0 a2).f3) a3).f4), .int .i64 ((rd_T42 ((rd_T32 l0 a2).f3) a3).f5), .int .i64 ((rd_T42 ((rd_T32 l0 a2).f3) a3).f6), .bool ((rd_T42 ((rd_T32 l0 a2).f3) a3).f7)] 42 (0, 0))) := ⟨(by rw [hw]; exact (by (with_reducible repeat (first | refine blk_drewN ?_ _ | refine blk_drew ?_ | refine blk_alloc ?_ _)); refine blk_put (cs := #[.string ((rd_T42 ((rd_T32 l0 a2).f3) a3).f0), .string ((rd_T42 ((rd_T32 l0 a2).f3) a3).f1), .int .u64 ((rd_T42 ((rd_T32 l0 a2).f3) a3).f2), .int .u64 ((rd_T42 ((rd_T32 l0 a2).f3) a3).f3), .int .i64 ((rd_T42 ((rd_T32 l0 a2).f3) a3).f4), .int .i64 ((rd_T42 ((rd_T32 l0 a2).f3) a3).f5), .int .i64 ((rd_T42 ((rd_T32 l0 a2).f3) a3).f6), .bool false]) ?_ 7 _ rfl; (with_reducible repeat (first | refine blk_drewN ?_ _ | refine blk_drew ?_ | refine blk_alloc ?_ _)); refine blk_put (cs := #[.string ((rd_T42 ((rd_T32 l0 a2).f3) a3).f0), .string ((rd_T42 ((rd_T32 l0 a2).f3) a3).f1), .int .u64 ((rd_T42 ((rd_T32 l0 a2).f3) a3).f2), .int .u64 ((rd_T42 ((rd_T32 l0 a2).f3) a3).f3), .int .i64 ((rd_T42 ((rd_T32 l0 a2).f3) a3).f4), .int .i64 ((rd_T42 ((rd_T32 l0 a2).f3) a3).f5), .int .i64 0, .bool false]) ?_ 6 _ rfl; (with_reducible repeat (first | refine blk_drewN ?_ _ | refine blk_drew ?_ | refine blk_alloc ?_ _)); refine blk_put (cs := #[.string ((rd_T42 ((rd_T32 l0 a2).f3) a3).f0), .string ((rd_T42 ((rd_T32 l0 a2).f3) a3).f1), .int .u64 ((rd_T42 ((rd_T32 l0 a2).f3) a3).f2), .int .u64 ((rd_T42 ((rd_T32 l0 a2).f3) a3).f3), .int .i64 ((rd_T42 ((rd_T32 l0 a2).f3) a3).f4), .int .i64 0, .int .i64 0, .bool false]) ?_ 5 _ rfl; (with_reducible repeat (first | refine blk_drewN ?_ _ | refine blk_drew ?_ | refine blk_alloc ?_ _)); refine blk_put (cs := #[.string ((rd_T42 ((rd_T32 l0 a2).f3) a3).f0), .string ((rd_T42 ((rd_T32 l0 a2).f3) a3).f1), .int .u64 ((rd_T42 ((rd_T32 l0 a2).f3) a3).f2), .int .u64 ((rd_T42 ((rd_T32 l0 a2).f3) a3).f3), .int .i64 0, .int .i64 0, .int .i64 0, .bool false]) ?_ 4 _ rfl; (with_reducible repeat (first | refine blk_drewN ?_ _ | refine blk_drew ?_ | refine blk_alloc ?_ _)); refine blk_put (cs := #[.string ((rd_T42 ((rd_T32 l0 a2).f3) a3).f0), .string ((rd_T42 ((rd_T32 l0 a2).f3) a3).f1), .int .u64 ((rd_T42 ((rd_T32 l0 a2).f3) a3).f2), .int .u64 0, .int .i64 0, .int .i64 0, .int .i64 0, .bool false]) ?_ 3 _ rfl; (with_reducible repeat (first | refine blk_drewN ?_ _ | refine blk_drew ?_ | refine blk_alloc ?_ _)); refine blk_put (cs := #[.string ((rd_T42 ((rd_T32 l0 a2).f3) a3).f0), .string ((rd_T42 ((rd_T32 l0 a2).f3) a3).f1), .int .u64 0, .int .u64 0, .int .i64 0, .int .i64 0, .int .i64 0, .bool false]) ?_ 2 _ rfl; (with_reducible repeat (first | refine blk_drewN ?_ _ | refine blk_drew ?_ | refine blk_alloc ?_ _)); refine blk_put (cs := #[.string ((rd_T42 ((rd_T32 l0 a2).f3) a3).f0), .string (⟨#[]⟩ : ByteArray), .int .u64 0, .int .u64 0, .int .i64 0, .int .i64 0, .int .i64 0, .bool false]) ?_ 1 _ rfl; (with_reducible repeat (first | refine blk_drewN ?_ _ | refine blk_drew ?_ | refine blk_alloc ?_ _)); refine blk_put (cs := #[.string (⟨#[]⟩ : ByteArray), .string (⟨#[]⟩ : ByteArray), .int .u64 0, .int .u64 0, .int .i64 0, .int .i64 0, .int .i64 0, .bool false]) ?_ 0 _ rfl; (with_reducible repeat (first | refine blk_drewN ?_ _ | refine blk_drew ?_ | refine blk_alloc ?_ _)); exact BK315.out))⟩; have n1_ : Aside0 (Below w.heap.size w w51) := ⟨(by rw [hw]; exact (by repeat (first | (with_reducible first | exact HB.out | apply below_alloc | apply pw_below_drewN | apply below_drew1 | refine below_set ?_ GE315.out) | exact HB.out)))⟩; clear hw; clear BK315; clear HB; have BK315 := n0_; have HB := n1_; clear n0_ n1_) | ((with_reducible refine gate_dst (N := 69) rfl ?_); (with_reducible refine gate_callee (f := 11) rfl ?_); refine goesL_ (some 69) rfl rfl Try.func11 (by kernel_rfl) rfl #[.slice (some ad313) l0.length c0, .slice A1 l1.length c1, .int .i64 a2, .int .i64 a3] rfl (by (try simp only [List.map_toArray, List.map_cons, List.map_nil]); first | done | rfl | (simp only [List.length_drop, List.length_take]; rfl)) ?_; (with_reducible refine (lookup_Bind.calls kj7 _ _ l0 _ _ l1 a2 a3 t316 t317 t318 _ ?side1 ?side2 ?side3 ?side4 A23.out).mono ?_); (case side1 => repeat (first | exact (Kd.C_below HR0.out HB.out) | (with_reducible refine Kd.C_alloc ?_ _) | (with_reducible refine Kd.C_drewN ?_ _) | (with_reducible refine Kd.C_drew ?_))); (case side2 => exact HC0.out); (case side3 => repeat (first | exact (Kd.C_below HR1.out HB.out) | (with_reducible refine Kd.C_alloc ?_ _) | (with_reducible refine Kd.C_drewN ?_ _) | (with_reducible refine Kd.C_drew ?_))); (case side4 => exact HC1.out); rintro e w52 ⟨rfl, hb⟩; refine ⟨_, rfl, ?_⟩; have n0_ := Aside0.mk (blk_below (g := gb315) (o := .cells #[.string ((rd_T42 ((rd_T32 l0 a2).f3) a3).f0), .string ((rd_T42 ((rd_T32 l0 a2).f3) a3).f1), .int .u64 ((rd_T42 ((rd_T32 l0 a2).f3) a3).f2), .int .u64 ((rd_T42 ((rd_T32 l0 a2).f3) a3).f3), .int .i64 ((rd_T42 ((rd_T32 l0 a2).f3) a3).f4), .int .i64 ((rd_T42 ((rd_T32 l0 a2).f3) a3).f5), .int .i64 ((rd_T42 ((rd_T32 l0 a2).f3) a3).f6), .bool ((rd_T42 ((rd_T32 l0 a2).f3) a3).f7)] 42 (0, 0)) (by (with_reducible repeat (first | refine blk_drewN ?_ _ | refine blk_drew ?_ | refine blk_alloc ?_ _)); exact BK315.out) hb); have n1_ := Aside0.mk (below_step (by repeat (first | (with_reducible first | exact HB.out | apply below_alloc | apply pw_below_drewN | apply below_drew1 | refine below_set ?_ GE315.out) | exact HB.out)) hb); clear BK315; clear HB; have BK315 := n0_; have HB := n1_; clear n0_ n1_; (try clear hb); (try clear hb2); (try clear hk); (try clear hi)))
                    (try simp only [Act.put, List.setIfInBounds_toArray, List.set_cons_zero, List.set_cons_succ])
                    go_cut [120] (fun v120 wc => ∃ (kq : Nat) (x120_47 : Bool), v120 = .bool x120_47 ∧ Aside0 (curtilagelaw14_LookupShown.j1 kq l0 a2 t309 t316 t317 x120_47 ((rd_T42 ((rd_T32 l0 a2).f3) a3).f0) ((rd_T42 ((rd_T32 l0 a2).f3) a3).f1) ((rd_T42 ((rd_T32 l0 a2).f3) a3).f2) ((rd_T42 ((rd_T32 l0 a2).f3) a3).f3) ((rd_T42 ((rd_T32 l0 a2).f3) a3).f4) ((rd_T42 ((rd_T32 l0 a2).f3) a3).f5) ((rd_T42 ((rd_T32 l0 a2).f3) a3).f6) ((rd_T42 ((rd_T32 l0 a2).f3) a3).f7) = some r) ∧ Aside0 (kq ≤ kj7) ∧ Aside0 (wc.heap[gb315]? = some (.cells #[.string ((rd_T42 ((rd_T32 l0 a2).f3) a3).f0), .string ((rd_T42 ((rd_T32 l0 a2).f3) a3).f1), .int .u64 ((rd_T42 ((rd_T32 l0 a2).f3) a3).f2), .int .u64 ((rd_T42 ((rd_T32 l0 a2).f3) a3).f3), .int .i64 ((rd_T42 ((rd_T32 l0 a2).f3) a3).f4), .int .i64 ((rd_T42 ((rd_T32 l0 a2).f3) a3).f5), .int .i64 ((rd_T42 ((rd_T32 l0 a2).f3) a3).f6), .bool ((rd_T42 ((rd_T32 l0 a2).f3) a3).f7)] 42 (0, 0))) ∧ Aside0 (Below w.heap.size w wc))
                    case first =>
                      have H := HC48.out
                      clear HC48
                      by_cases c53 : t316 ≥ (l0.length : Int)
                      · rw [if_pos c53] at H
                        have c53b0 : decide ((l0.length : Int) ≤ t316) = true := decide_eq_true c53
                        clear c53
                        (first | rw [c53b0] | (simp only [i64_w, i32_w]; rw [c53b0]) | skip)
                        have H' := Aside0.mk H
                        clear H
                        go_wp2
                        go_meet
                        case rel => exact ⟨_, (true), (by first | rfl | (simp; done) | (simp [*]; done)), (by first | exact H' | (rw [← Nbq28.out]; exact H')), ⟨by have := HJ7.out; first | omega | exact Nat.le_refl _⟩, ⟨by (with_reducible repeat (first | refine blk_drewN ?_ _ | refine blk_drew ?_ | refine blk_alloc ?_ _)); first | exact BK315.out | (rw [← Nbq28.out]; exact BK315.out)⟩, ⟨by repeat (first | (with_reducible first | exact HB.out | apply below_alloc | apply pw_below_drewN | apply below_drew1 | refine below_set ?_ GE315.out) | exact HB.out)⟩⟩
                      · rw [if_neg c53] at H
                        have c53b0 : decide ((l0.length : Int) ≤ t316) = false := decide_eq_false c53
                        clear c53
                        (first | rw [c53b0] | (simp only [i64_w, i32_w]; rw [c53b0]) | skip)
                        by_cases c54 : t317 < 0
                        · rw [if_pos c54] at H
                          have c54b0 : decide (t317 < 0) = true := decide_eq_true c54
                          clear c54
                          have H' := Aside0.mk H
                          clear H
                          go_wp2
                          go_meet
                          case rel => exact ⟨_, (true), (by first | rfl | (simp; done) | (simp [*]; done)), (by first | exact H' | (rw [← Nbq28.out]; exact H')), ⟨by have := HJ7.out; first | omega | exact Nat.le_refl _⟩, ⟨by (with_reducible repeat (first | refine blk_drewN ?_ _ | refine blk_drew ?_ | refine blk_alloc ?_ _)); first | exact BK315.out | (rw [← Nbq28.out]; exact BK315.out)⟩, ⟨by repeat (first | (with_reducible first | exact HB.out | apply below_alloc | apply pw_below_drewN | apply below_drew1 | refine below_set ?_ GE315.out) | exact HB.out)⟩⟩
                        · rw [if_neg c54] at H
                          have c54b0 : decide (t317 < 0) = false := decide_eq_false c54
                          clear c54
                          by_cases c55 : 0 ≤ t316
                          · rw [if_pos c55] at H
                            have c55b0 : decide (0 ≤ t316) = true := decide_eq_true c55
                            clear c55
                            by_cases c56 : t316 < (l0.length : Int)
                            · rw [if_pos c56] at H
                              have c56b0 : decide (t316 < (l0.length : Int)) = true := decide_eq_true c56
                              clear c56
                              have H' := Aside0.mk H
                              clear H
                              have p319 : 0 ≤ (t316 : Int) := of_decide_eq_true (by first | (with_reducible assumption) | assumption)
                              have q319 : t316 < (l0.length : Int) := of_decide_eq_true (by first | (with_reducible assumption) | assumption)
                              obtain ⟨ad319, A319_1, c319_1, A319_2, c319_2, A319_3, c319_3, A319_4, c319_4, A319_5, c319_5, A319_6, c319_6, e319, hx319_0, hx319_1, hx319_2, hx319_3, hx319_4, hx319_5, hx319_6, hl319_1, hi319_1, hl319_2, hi319_2, hl319_3, hi319_3, hl319_4, hi319_4, hl319_5, hi319_5, hl319_6, hi319_6⟩ := at_T32 HR0.out t316 p319 q319
                              obtain rfl : ad313 = ad319 := (by injection e319)
                              replace hx319_0 := (HB.out.cell (World.block_lt_of_cell? w _ hx319_0)).trans hx319_0
                              replace hx319_1 := (HB.out.cell (World.block_lt_of_cell? w _ hx319_1)).trans hx319_1
                              replace hx319_2 := (HB.out.cell (World.block_lt_of_cell? w _ hx319_2)).trans hx319_2
                              replace hx319_3 := (HB.out.cell (World.block_lt_of_cell? w _ hx319_3)).trans hx319_3
                              replace hx319_4 := (HB.out.cell (World.block_lt_of_cell? w _ hx319_4)).trans hx319_4
                              replace hx319_5 := (HB.out.cell (World.block_lt_of_cell? w _ hx319_5)).trans hx319_5
                              replace hx319_6 := (HB.out.cell (World.block_lt_of_cell? w _ hx319_6)).trans hx319_6
                              have HR319_1 := Aside0.mk hi319_1
                              have HC319_1 := Aside0.mk hl319_1
                              clear hi319_1 hl319_1
                              have HR319_2 := Aside0.mk hi319_2
                              have HC319_2 := Aside0.mk hl319_2
                              clear hi319_2 hl319_2
                              have HR319_3 := Aside0.mk hi319_3
                              have HC319_3 := Aside0.mk hl319_3
                              clear hi319_3 hl319_3
                              have HR319_4 := Aside0.mk hi319_4
                              have HC319_4 := Aside0.mk hl319_4
                              clear hi319_4 hl319_4
                              have HR319_5 := Aside0.mk hi319_5
                              have HC319_5 := Aside0.mk hl319_5
                              clear hi319_5 hl319_5
                              have HR319_6 := Aside0.mk hi319_6
                              have HC319_6 := Aside0.mk hl319_6
                              clear hi319_6 hl319_6
                              replace p319 := eq_true p319
                              replace q319 := eq_true q319
                              go_wp2
                              go_meet
                              case rel => exact ⟨_, (decide (t317 ≥ (((rd_T32 l0 t316).f3).length : Int))), (by first | rfl | (simp; done) | (simp [*]; done)), (by first | exact H' | (rw [← Nbq28.out]; exact H')), ⟨by have := HJ7.out; first | omega | exact Nat.le_refl _⟩, ⟨by (with_reducible repeat (first | refine blk_drewN ?_ _ | refine blk_drew ?_ | refine blk_alloc ?_ _)); first | exact BK315.out | (rw [← Nbq28.out]; exact BK315.out)⟩, ⟨by repeat (first | (with_reducible first | exact HB.out | apply below_alloc | apply pw_below_drewN | apply below_drew1 | refine below_set ?_ GE315.out) | exact HB.out)⟩⟩
                            · rw [if_neg c56] at H
                              exact absurd H (by simp)
                          · rw [if_neg c55] at H
                            exact absurd H (by simp)
                    case rest =>
                      clear HC48
                      try clear c1
                      try clear c2
                      try clear p2
                      try clear q2
                      try clear c3
                      try clear p3
                      try clear q3
                      try clear hx3
                      try clear c5
                      try clear c8
                      try clear c9
                      try clear c10
                      try clear c11
                      try clear c12
                      try clear c13
                      try clear c13b0
                      try clear c14
                      try clear c14b0
                      try clear c15
                      try clear c15b0
                      try clear c16
                      try clear c16b0
                      try clear c17
                      try clear c17b0
                      try clear c18
                      try clear c19
                      try clear c19b0
                      try clear c20
                      try clear c20b0
                      try clear c21
                      try clear c21b0
                      try clear c22
                      try clear c22b0
                      try clear c24
                      try clear c24b0
                      try clear c24b1
                      try clear c25
                      try clear c25b0
                      try clear c26
                      try clear c27
                      try clear c27b0
                      try clear c27b1
                      try clear q28
                      try clear c29
                      try clear c31
                      try clear p31
                      try clear q31
                      try clear hx31
                      try clear c53
                      try clear c53b0
                      try clear c54
                      try clear c54b0
                      try clear c55
                      try clear c55b0
                      try clear c56
                      try clear c56b0
                      try clear hcz31_0
                      try clear hcz31_1
                      try clear hcz31_2
                      try clear hcz31_3
                      try clear hcz31_4
                      try clear hcz31_5
                      try clear hcz31_6
                      try clear hcz31_7
                      try clear hcz34_0
                      try clear hcz34_1
                      try clear hcz34_2
                      try clear hcz34_3
                      try clear hcz34_4
                      try clear hcz34_5
                      try clear hcz34_6
                      try clear hcz34_7
                      try clear hcz36_0
                      try clear hcz36_1
                      try clear hcz36_2
                      try clear hcz36_3
                      try clear hcz36_4
                      try clear hcz36_5
                      try clear hcz36_6
                      try clear hcz36_7
                      try clear hcz39_0
                      try clear hcz39_1
                      try clear hcz39_2
                      try clear hcz39_3
                      try clear hcz39_4
                      try clear hcz39_5
                      try clear hcz39_6
                      try clear hcz39_7
                      try clear hcz41_0
                      try clear hcz41_1
                      try clear hcz41_2
                      try clear hcz41_3
                      try clear hcz41_4
                      try clear hcz41_5
                      try clear hcz41_6
                      try clear hcz41_7
                      try clear hcz45_0
                      try clear hcz45_1
                      try clear hcz45_2
                      try clear hcz45_3
                      try clear hcz45_4
                      try clear hcz45_5
                      try clear hcz45_6
                      try clear hcz45_7
                      try clear hcz50_0
                      try clear hcz50_1
                      try clear hcz50_2
                      try clear hcz50_3
                      try clear hcz50_4
                      try clear hcz50_5
                      try clear hcz50_6
                      try clear hcz50_7
                      try clear hfz31_0
                      try clear hfz31_1
                      try clear hfz31_2
                      try clear hfz31_3
                      try clear hfz31_4
                      try clear hfz31_5
                      try clear hfz31_6
                      try clear hfz31_7
                      try clear hfz34_0
                      try clear hfz34_1
                      try clear hfz34_2
                      try clear hfz34_3
                      try clear hfz34_4
                      try clear hfz34_5
                      try clear hfz34_6
                      try clear hfz34_7
                      try clear hfz36_0
                      try clear hfz36_1
                      try clear hfz36_2
                      try clear hfz36_3
                      try clear hfz36_4
                      try clear hfz36_5
                      try clear hfz36_6
                      try clear hfz36_7
                      try clear hfz39_0
                      try clear hfz39_1
                      try clear hfz39_2
                      try clear hfz39_3
                      try clear hfz39_4
                      try clear hfz39_5
                      try clear hfz39_6
                      try clear hfz39_7
                      try clear hfz41_0
                      try clear hfz41_1
                      try clear hfz41_2
                      try clear hfz41_3
                      try clear hfz41_4
                      try clear hfz41_5
                      try clear hfz41_6
                      try clear hfz41_7
                      try clear hfz45_0
                      try clear hfz45_1
                      try clear hfz45_2
                      try clear hfz45_3
                      try clear hfz45_4
                      try clear hfz45_5
                      try clear hfz45_6
                      try clear hfz45_7
                      try clear hfz50_0
                      try clear hfz50_1
                      try clear hfz50_2
                      try clear hfz50_3
                      try clear hfz50_4
                      try clear hfz50_5
                      try clear hfz50_6
                      try clear hfz50_7
                      try clear hx312_0
                      try clear hx312_1
                      try clear hx312_2
                      try clear hx312_3
                      try clear hx312_4
                      try clear hx312_5
                      try clear hx312_6
                      try clear hx313_0
                      try clear hx313_1
                      try clear hx313_2
                      try clear hx313_3
                      try clear hx313_4
                      try clear hx313_5
                      try clear hx313_6
                      try clear hx314_0
                      try clear hx314_1
                      try clear hx314_2
                      try clear hx314_3
                      try clear hx314_4
                      try clear hx314_5
                      try clear hx314_6
                      try clear hx314_7
                      try clear hx319_0
                      try clear hx319_1
                      try clear hx319_2
                      try clear hx319_3
                      try clear hx319_4
                      try clear hx319_5
                      try clear hx319_6
                      try clear p2
                      try clear p3
                      try clear p312
                      try clear p313
                      try clear p314
                      try clear p319
                      try clear q3
                      try clear q312
                      try clear q313
                      try clear q314
                      try clear q319
                      obtain ⟨kq, x120_47, rfl, HA, HJ47, BK315, HB⟩ := hcut
                      cases kq with
                      | zero => exact absurd HA.out (by simp [curtilagelaw14_LookupShown.j1])
                      | succ kj47 =>
                        have H := HA.out
                        clear HA
                        simp only [curtilagelaw14_LookupShown.j1] at H
                        by_cases c57 : x120_47 = true
                        · subst c57
                          have H1 : (some false) = some r := by rw [if_pos rfl] at H; exact H
                          clear H
                          have H := H1
                          clear H1
                          exact absurd ((Option.some.inj H).trans HT.out) (by decide)
                        · replace c57 := Bool.eq_false_iff.mpr c57
                          subst c57
                          have H1 : (if 0 ≤ t316 then (if t316 < (l0.length : Int) then (if 0 ≤ t317 then (if t317 < (((rd_T32 l0 t316).f3).length : Int) then ((curtilageref12_Shown.f ((rd_T42 ((rd_T32 l0 t316).f3) t317).f0) ((rd_T42 ((rd_T32 l0 t316).f3) t317).f1) ((rd_T42 ((rd_T32 l0 t316).f3) t317).f2) ((rd_T42 ((rd_T32 l0 t316).f3) t317).f3) ((rd_T42 ((rd_T32 l0 t316).f3) t317).f4) ((rd_T42 ((rd_T32 l0 t316).f3) t317).f5) ((rd_T42 ((rd_T32 l0 t316).f3) t317).f6) ((rd_T42 ((rd_T32 l0 t316).f3) t317).f7)).bind fun t323 => (if t316 = a2 then (if t309 = true then (if (rd_T42 ((rd_T32 l0 t316).f3) t317).f7 = true then (if ((rd_T42 ((rd_T32 l0 t316).f3) t317).f0).toList = ((rd_T42 ((rd_T32 l0 a2).f3) a3).f0).toList then (if ((rd_T42 ((rd_T32 l0 a2).f3) a3).f1).toList = ([] : List UInt8) then (some true) else (some (((rd_T42 ((rd_T32 l0 t316).f3) t317).f1).toList == ((rd_T42 ((rd_T32 l0 a2).f3) a3).f1).toList))) else (some false)) else (some false)) else (some false)) else (if t323 = true then (if t309 = true then (if (rd_T42 ((rd_T32 l0 t316).f3) t317).f7 = true then (if ((rd_T42 ((rd_T32 l0 t316).f3) t317).f0).toList = ((rd_T42 ((rd_T32 l0 a2).f3) a3).f0).toList then (if ((rd_T42 ((rd_T32 l0 a2).f3) a3).f1).toList = ([] : List UInt8) then (some true) else (some (((rd_T42 ((rd_T32 l0 t316).f3) t317).f1).toList == ((rd_T42 ((rd_T32 l0 a2).f3) a3).f1).toList))) else (some false)) else (some false)) else (some false)) else (some false)))) else (none)) else (none)) else (none)) else (none)) = some r := by rw [if_neg (show ¬ (false = true) by decide)] at H; exact H
                          clear H
                          have H := H1
                          clear H1
                          by_cases c58 : 0 ≤ t316
                          · rw [if_pos c58] at H
                            have c58b0 : decide (0 ≤ t316) = true := decide_eq_true c58
                            clear c58
                            by_cases c59 : t316 < (l0.length : Int)
                            · rw [if_pos c59] at H
                              have c59b0 : decide (t316 < (l0.length : Int)) = true := decide_eq_true c59
                              clear c59
                              by_cases c60 : 0 ≤ t317
                              · rw [if_pos c60] at H
                                have c60b0 : decide (0 ≤ t317) = true := decide_eq_true c60
                                clear c60
                                by_cases c61 : t317 < (((rd_T32 l0 t316).f3).length : Int)
                                · rw [if_pos c61] at H
                                  have c61b0 : decide (t317 < (((rd_T32 l0 t316).f3).length : Int)) = true := decide_eq_true c61
                                  clear c61
                                  replace H := Option.bind_eq_some_iff.mp H
                                  obtain ⟨t323, A620, H⟩ := H
                                  replace H : (if t316 = a2 then (if t309 = true then (if (rd_T42 ((rd_T32 l0 t316).f3) t317).f7 = true then (if ((rd_T42 ((rd_T32 l0 t316).f3) t317).f0).toList = ((rd_T42 ((rd_T32 l0 a2).f3) a3).f0).toList then (if ((rd_T42 ((rd_T32 l0 a2).f3) a3).f1).toList = ([] : List UInt8) then (some true) else (some (((rd_T42 ((rd_T32 l0 t316).f3) t317).f1).toList == ((rd_T42 ((rd_T32 l0 a2).f3) a3).f1).toList))) else (some false)) else (some false)) else (some false)) else (if t323 = true then (if t309 = true then (if (rd_T42 ((rd_T32 l0 t316).f3) t317).f7 = true then (if ((rd_T42 ((rd_T32 l0 t316).f3) t317).f0).toList = ((rd_T42 ((rd_T32 l0 a2).f3) a3).f0).toList then (if ((rd_T42 ((rd_T32 l0 a2).f3) a3).f1).toList = ([] : List UInt8) then (some true) else (some (((rd_T42 ((rd_T32 l0 t316).f3) t317).f1).toList == ((rd_T42 ((rd_T32 l0 a2).f3) a3).f1).toList))) else (some false)) else (some false)) else (some false)) else (some false))) = some r := H
                                  have A62 := Aside0.mk A620
                                  clear A620
                                  by_cases c63 : t316 = a2
                                  · rw [if_pos c63] at H
                                    have c63b0 : (t316 == a2) = true := beq_iff_eq.mpr c63
                                    have c63b1 : (t316 != a2) = false := bne_eq_false_iff_eq.mpr c63
                                    clear c63
                                    by_cases c64 : t309 = true
                                    · subst c64
                                      have H1 : (if (rd_T42 ((rd_T32 l0 t316).f3) t317).f7 = true then (if ((rd_T42 ((rd_T32 l0 t316).f3) t317).f0).toList = ((rd_T42 ((rd_T32 l0 a2).f3) a3).f0).toList then (if ((rd_T42 ((rd_T32 l0 a2).f3) a3).f1).toList = ([] : List UInt8) then (some true) else (some (((rd_T42 ((rd_T32 l0 t316).f3) t317).f1).toList == ((rd_T42 ((rd_T32 l0 a2).f3) a3).f1).toList))) else (some false)) else (some false)) = some r := by rw [if_pos rfl] at H; exact H
                                      clear H
                                      have H := H1
                                      clear H1
                                      obtain ⟨bq65, hbq65⟩ : ∃ b_ : Bool, b_ = ((rd_T42 ((rd_T32 l0 t316).f3) t317).f7) := ⟨_, rfl⟩
                                      replace H : (if bq65 = true then (if ((rd_T42 ((rd_T32 l0 t316).f3) t317).f0).toList = ((rd_T42 ((rd_T32 l0 a2).f3) a3).f0).toList then (if ((rd_T42 ((rd_T32 l0 a2).f3) a3).f1).toList = ([] : List UInt8) then (some true) else (some (((rd_T42 ((rd_T32 l0 t316).f3) t317).f1).toList == ((rd_T42 ((rd_T32 l0 a2).f3) a3).f1).toList))) else (some false)) else (some false)) = some r := by rw [← hbq65] at H; exact H
                                      have Nbq65 := Aside0.mk hbq65
                                      clear hbq65
                                      (try (have h_ := A5.out; rw [← Nbq65.out] at h_; clear A5; have A5 := Aside0.mk h_; clear h_))
                                      (try (have h_ := A6.out; rw [← Nbq65.out] at h_; clear A6; have A6 := Aside0.mk h_; clear h_))
                                      (try (have h_ := A7.out; rw [← Nbq65.out] at h_; clear A7; have A7 := Aside0.mk h_; clear h_))
                                      (try (have h_ := A23.out; rw [← Nbq65.out] at h_; clear A23; have A23 := Aside0.mk h_; clear h_))
                                      (try (have h_ := A62.out; rw [← Nbq65.out] at h_; clear A62; have A62 := Aside0.mk h_; clear h_))
                                      by_cases c66 : bq65 = true
                                      · subst c66
                                        have H1 : (if ((rd_T42 ((rd_T32 l0 t316).f3) t317).f0).toList = ((rd_T42 ((rd_T32 l0 a2).f3) a3).f0).toList then (if ((rd_T42 ((rd_T32 l0 a2).f3) a3).f1).toList = ([] : List UInt8) then (some true) else (some (((rd_T42 ((rd_T32 l0 t316).f3) t317).f1).toList == ((rd_T42 ((rd_T32 l0 a2).f3) a3).f1).toList))) else (some false)) = some r := by rw [if_pos rfl] at H; exact H
                                        clear H
                                        have H := H1
                                        clear H1
                                        by_cases c67 : ((rd_T42 ((rd_T32 l0 t316).f3) t317).f0).toList = ((rd_T42 ((rd_T32 l0 a2).f3) a3).f0).toList
                                        · rw [if_pos c67] at H
                                          have c67b0 : (((rd_T42 ((rd_T32 l0 t316).f3) t317).f0).toList == ((rd_T42 ((rd_T32 l0 a2).f3) a3).f0).toList) = true := beq_iff_eq.mpr c67
                                          have c67b1 : (((rd_T42 ((rd_T32 l0 t316).f3) t317).f0).toList != ((rd_T42 ((rd_T32 l0 a2).f3) a3).f0).toList) = false := bne_eq_false_iff_eq.mpr c67
                                          clear c67
                                          by_cases c68 : ((rd_T42 ((rd_T32 l0 a2).f3) a3).f1).toList = ([] : List UInt8)
                                          · rw [if_pos c68] at H
                                            have c68b0 : (((rd_T42 ((rd_T32 l0 a2).f3) a3).f1).toList == ([] : List UInt8)) = true := beq_iff_eq.mpr c68
                                            have c68b1 : (((rd_T42 ((rd_T32 l0 a2).f3) a3).f1).toList != ([] : List UInt8)) = false := bne_eq_false_iff_eq.mpr c68
                                            clear c68
                                            obtain rfl := Option.some.inj H
                                            have p320 : 0 ≤ (t316 : Int) := of_decide_eq_true (by first | (with_reducible assumption) | assumption)
                                            have q320 : t316 < (l0.length : Int) := of_decide_eq_true (by first | (with_reducible assumption) | assumption)
                                            obtain ⟨ad320, A320_1, c320_1, A320_2, c320_2, A320_3, c320_3, A320_4, c320_4, A320_5, c320_5, A320_6, c320_6, e320, hx320_0, hx320_1, hx320_2, hx320_3, hx320_4, hx320_5, hx320_6, hl320_1, hi320_1, hl320_2, hi320_2, hl320_3, hi320_3, hl320_4, hi320_4, hl320_5, hi320_5, hl320_6, hi320_6⟩ := at_T32 HR0.out t316 p320 q320
                                            obtain rfl : ad313 = ad320 := (by injection e320)
                                            replace hx320_0 := (HB.out.cell (World.block_lt_of_cell? w _ hx320_0)).trans hx320_0
                                            replace hx320_1 := (HB.out.cell (World.block_lt_of_cell? w _ hx320_1)).trans hx320_1
                                            replace hx320_2 := (HB.out.cell (World.block_lt_of_cell? w _ hx320_2)).trans hx320_2
                                            replace hx320_3 := (HB.out.cell (World.block_lt_of_cell? w _ hx320_3)).trans hx320_3
                                            replace hx320_4 := (HB.out.cell (World.block_lt_of_cell? w _ hx320_4)).trans hx320_4
                                            replace hx320_5 := (HB.out.cell (World.block_lt_of_cell? w _ hx320_5)).trans hx320_5
                                            replace hx320_6 := (HB.out.cell (World.block_lt_of_cell? w _ hx320_6)).trans hx320_6
                                            have HR320_1 := Aside0.mk hi320_1
                                            have HC320_1 := Aside0.mk hl320_1
                                            clear hi320_1 hl320_1
                                            have HR320_2 := Aside0.mk hi320_2
                                            have HC320_2 := Aside0.mk hl320_2
                                            clear hi320_2 hl320_2
                                            have HR320_3 := Aside0.mk hi320_3
                                            have HC320_3 := Aside0.mk hl320_3
                                            clear hi320_3 hl320_3
                                            have HR320_4 := Aside0.mk hi320_4
                                            have HC320_4 := Aside0.mk hl320_4
                                            clear hi320_4 hl320_4
                                            have HR320_5 := Aside0.mk hi320_5
                                            have HC320_5 := Aside0.mk hl320_5
                                            clear hi320_5 hl320_5
                                            have HR320_6 := Aside0.mk hi320_6
                                            have HC320_6 := Aside0.mk hl320_6
                                            clear hi320_6 hl320_6
                                            replace p320 := eq_true p320
                                            replace q320 := eq_true q320
                                            have p321 : 0 ≤ (t317 : Int) := of_decide_eq_true (by first | (with_reducible assumption) | assumption)
                                            have q321 : t317 < (((rd_T32 l0 t316).f3).length : Int) := of_decide_eq_true (by first | (with_reducible assumption) | assumption)
                                            obtain ⟨ad321, e321, hx321_0, hx321_1, hx321_2, hx321_3, hx321_4, hx321_5, hx321_6, hx321_7⟩ := at_T42 HR320_3.out t317 p321 q321
                                            (try rw [← Nbq65.out] at hx321_7)
                                            (try rw [← Nbq65.out] at hw321_7)
                                            cases e321
                                            replace hx321_0 := (HB.out.cell (World.block_lt_of_cell? w _ hx321_0)).trans hx321_0
                                            replace hx321_1 := (HB.out.cell (World.block_lt_of_cell? w _ hx321_1)).trans hx321_1
                                            replace hx321_2 := (HB.out.cell (World.block_lt_of_cell? w _ hx321_2)).trans hx321_2
                                            replace hx321_3 := (HB.out.cell (World.block_lt_of_cell? w _ hx321_3)).trans hx321_3
                                            replace hx321_4 := (HB.out.cell (World.block_lt_of_cell? w _ hx321_4)).trans hx321_4
                                            replace hx321_5 := (HB.out.cell (World.block_lt_of_cell? w _ hx321_5)).trans hx321_5
                                            replace hx321_6 := (HB.out.cell (World.block_lt_of_cell? w _ hx321_6)).trans hx321_6
                                            replace hx321_7 := (HB.out.cell (World.block_lt_of_cell? w _ hx321_7)).trans hx321_7
                                            replace p321 := eq_true p321
                                            replace q321 := eq_true q321
                                            go_wp2_with (first | ((with_reducible refine gate_dst (N := 16) rfl ?_); (try (refine gate_guard (by rfl) ?_; dsimp only)); refine box_event ?hg (N := 16) ?hd (cs := #[.string (⟨#[]⟩ : ByteArray), .string (⟨#[]⟩ : ByteArray), .int .u64 0, .int .u64 0, .int .i64 0, .int .i64 0, .int .i64 0, .bool false]) (t := 42) ?hr ?_; (case hd => rfl); (case hg => rfl); (case hr => first | (go_simp; done) | (go_simp; rfl)); intro gb322 hg w69 hbox hb; have n0_ := Aside0.mk (blk_below (g := gb315) (o := .cells #[.string ((rd_T42 ((rd_T32 l0 a2).f3) a3).f0), .string ((rd_T42 ((rd_T32 l0 a2).f3) a3).f1), .int .u64 ((rd_T42 ((rd_T32 l0 a2).f3) a3).f2), .int .u64 ((rd_T42 ((rd_T32 l0 a2).f3) a3).f3), .int .i64 ((rd_T42 ((rd_T32 l0 a2).f3) a3).f4), .int .i64 ((rd_T42 ((rd_T32 l0 a2).f3) a3).f5), .int .i64 ((rd_T42 ((rd_T32 l0 a2).f3) a3).f6), .bool ((rd_T42 ((rd_T32 l0 a2).f3) a3).f7)] 42 (0, 0)) (by (with_reducible repeat (first | refine blk_drewN ?_ _ | refine blk_drew ?_ | refine blk_alloc ?_ _)); exact BK315.out) hb); have n1_ := Aside0.mk (below_step (by repeat (first | (with_reducible first | exact HB.out | apply below_alloc | apply pw_below_drewN | apply below_drew1 | refine below_set ?_ GE315.out) | exact HB.out)) hb); have n2_ := Aside0.mk (hbox); have n3_ := Aside0.mk ((by rw [hg]; exact (below_size (by repeat (first | (with_reducible first | exact HB.out | apply below_alloc | apply pw_below_drewN | apply below_drew1 | refine below_set ?_ GE315.out) | exact HB.out))) : w.heap.size ≤ gb322)); have n4_ := n3_; have n5_ := Aside0.mk ((by rw [hg]; exact Nat.ne_of_lt (blk_lt (g := gb315) (o := .cells #[.string ((rd_T42 ((rd_T32 l0 a2).f3) a3).f0), .string ((rd_T42 ((rd_T32 l0 a2).f3) a3).f1), .int .u64 ((rd_T42 ((rd_T32 l0 a2).f3) a3).f2), .int .u64 ((rd_T42 ((rd_T32 l0 a2).f3) a3).f3), .int .i64 ((rd_T42 ((rd_T32 l0 a2).f3) a3).f4), .int .i64 ((rd_T42 ((rd_T32 l0 a2).f3) a3).f5), .int .i64 ((rd_T42 ((rd_T32 l0 a2).f3) a3).f6), .bool ((rd_T42 ((rd_T32 l0 a2).f3) a3).f7)] 42 (0, 0)) (by (with_reducible repeat (first | refine blk_drewN ?_ _ | refine blk_drew ?_ | refine blk_alloc ?_ _)); exact BK315.out)) : gb315 ≠ gb322)); have n6_ := Aside0.mk n5_.out.symm; clear BK315; clear HB; have BK315 := n0_; have HB := n1_; have BK322 := n2_; have GW322 := n3_; have GE322 := n4_; have NB315_322 := n5_; have NB322_315 := n6_; clear n0_ n1_ n2_ n3_ n4_ n5_ n6_; clear hb hbox hg; have hnb70 := NB322_315.out; have hnc70 := NB315_322.out; obtain ⟨hcz71_0, hcz71_1, hcz71_2, hcz71_3, hcz71_4, hcz71_5, hcz71_6, hcz71_7, hfz71_0, hfz71_1, hfz71_2, hfz71_3, hfz71_4, hfz71_5, hfz71_6, hfz71_7⟩ := cells8 BK322.out) | ((with_reducible refine gate_store (t := 42) (p := 16) rfl ?_); refine store_event (t := 42) (p := 16) (v := ?vo_w72) (w1 := ((((((((w69.setCell ⟨gb322, 0, none⟩ (.string ((rd_T42 ((rd_T32 l0 t316).f3) t317).f0))).setCell ⟨gb322, 1, none⟩ (.string ((rd_T42 ((rd_T32 l0 t316).f3) t317).f1))).setCell ⟨gb322, 2, none⟩ (.int .u64 ((rd_T42 ((rd_T32 l0 t316).f3) t317).f2))).setCell ⟨gb322, 3, none⟩ (.int .u64 ((rd_T42 ((rd_T32 l0 t316).f3) t317).f3))).setCell ⟨gb322, 4, none⟩ (.int .i64 ((rd_T42 ((rd_T32 l0 t316).f3) t317).f4))).setCell ⟨gb322, 5, none⟩ (.int .i64 ((rd_T42 ((rd_T32 l0 t316).f3) t317).f5))).setCell ⟨gb322, 6, none⟩ (.int .i64 ((rd_T42 ((rd_T32 l0 t316).f3) t317).f6))).setCell ⟨gb322, 7, none⟩ (.bool true))) ?hg ?ho ?hn ?hr ?_; (case ho => rfl); (case hg => rfl); (case hn => rfl); (case hr => first | (go_simp; done) | (go_simp; rfl)); intro w72 hw; have n0_ : Aside0 (w72.heap[gb315]? = some (.cells #[.string ((rd_T42 ((rd_T32 l0 a2).f3) a3).f0), .string ((rd_T42 ((rd_T32 l0 a2).f3) a3).f1), .int .u64 ((rd_T42 ((rd_T32 l0 a2).f3) a3).f2), .int .u64 ((rd_T42 ((rd_T32 l0 a2).f3) a3).f3), .int .i64 ((rd_T42 ((rd_T32 l0 a2).f3) a3).f4), .int .i64 ((rd_T42 ((rd_T32 l0 a2).f3) a3).f5), .int .i64 ((rd_T42 ((rd_T32 l0 a2).f3) a3).f6), .bool ((rd_T42 ((rd_T32 l0 a2).f3) a3).f7)] 42 (0, 0))) := ⟨(by rw [hw]; exact (by (with_reducible repeat (first | refine blk_drewN ?_ _ | refine blk_drew ?_ | refine blk_alloc ?_ _)); refine blk_far ?_ NB315_322.out _; (with_reducible repeat (first | refine blk_drewN ?_ _ | refine blk_drew ?_ | refine blk_alloc ?_ _)); refine blk_far ?_ NB315_322.out _; (with_reducible repeat (first | refine blk_drewN ?_ _ | refine blk_drew ?_ | refine blk_alloc ?_ _)); refine blk_far ?_ NB315_322.out _; (with_reducible repeat (first | refine blk_drewN ?_ _ | refine blk_drew ?_ | refine blk_alloc ?_ _)); refine blk_far ?_ NB315_322.out _; (with_reducible repeat (first | refine blk_drewN ?_ _ | refine blk_drew ?_ | refine blk_alloc ?_ _)); refine blk_far ?_ NB315_322.out _; (with_reducible repeat (first | refine blk_drewN ?_ _ | refine blk_drew ?_ | refine blk_alloc ?_ _)); refine blk_far ?_ NB315_322.out _; (with_reducible repeat (first | refine blk_drewN ?_ _ | refine blk_drew ?_ | refine blk_alloc ?_ _)); refine blk_far ?_ NB315_322.out _; (with_reducible repeat (first | refine blk_drewN ?_ _ | refine blk_drew ?_ | refine blk_alloc ?_ _)); refine blk_far ?_ NB315_322.out _; (with_reducible repeat (first | refine blk_drewN ?_ _ | refine blk_drew ?_ | refine blk_alloc ?_ _)); exact BK315.out))⟩; have n1_ : Aside0 (w72.heap[gb322]? = some (.cells #[.string ((rd_T42 ((rd_T32 l0 t316).f3) t317).f0), .string ((rd_T42 ((rd_T32 l0 t316).f3) t317).f1), .int .u64 ((rd_T42 ((rd_T32 l0 t316).f3) t317).f2), .int .u64 ((rd_T42 ((rd_T32 l0 t316).f3) t317).f3), .int .i64 ((rd_T42 ((rd_T32 l0 t316).f3) t317).f4), .int .i64 ((rd_T42 ((rd_T32 l0 t316).f3) t317).f5), .int .i64 ((rd_T42 ((rd_T32 l0 t316).f3) t317).f6), .bool true] 42 (0, 0))) := ⟨(by rw [hw]; exact (by (with_reducible repeat (first | refine blk_drewN ?_ _ | refine blk_drew ?_ | refine blk_alloc ?_ _)); refine blk_put (cs := #[.string ((rd_T42 ((rd_T32 l0 t316).f3) t317).f0), .string ((rd_T42 ((rd_T32 l0 t316).f3) t317).f1), .int .u64 ((rd_T42 ((rd_T32 l0 t316).f3) t317).f2), .int .u64 ((rd_T42 ((rd_T32 l0 t316).f3) t317).f3), .int .i64 ((rd_T42 ((rd_T32 l0 t316).f3) t317).f4), .int .i64 ((rd_T42 ((rd_T32 l0 t316).f3) t317).f5), .int .i64 ((rd_T42 ((rd_T32 l0 t316).f3) t317).f6), .bool false]) ?_ 7 _ rfl; (with_reducible repeat (first | refine blk_drewN ?_ _ | refine blk_drew ?_ | refine blk_alloc ?_ _)); refine blk_put (cs := #[.string ((rd_T42 ((rd_T32 l0 t316).f3) t317).f0), .string ((rd_T42 ((rd_T32 l0 t316).f3) t317).f1), .int .u64 ((rd_T42 ((rd_T32 l0 t316).f3) t317).f2), .int .u64 ((rd_T42 ((rd_T32 l0 t316).f3) t317).f3), .int .i64 ((rd_T42 ((rd_T32 l0 t316).f3) t317).f4), .int .i64 ((rd_T42 ((rd_T32 l0 t316).f3) t317).f5), .int .i64 0, .bool false]) ?_ 6 _ rfl; (with_reducible repeat (first | refine blk_drewN ?_ _ | refine blk_drew ?_ | refine blk_alloc ?_ _)); refine blk_put (cs := #[.string ((rd_T42 ((rd_T32 l0 t316).f3) t317).f0), .string ((rd_T42 ((rd_T32 l0 t316).f3) t317).f1), .int .u64 ((rd_T42 ((rd_T32 l0 t316).f3) t317).f2), .int .u64 ((rd_T42 ((rd_T32 l0 t316).f3) t317).f3), .int .i64 ((rd_T42 ((rd_T32 l0 t316).f3) t317).f4), .int .i64 0, .int .i64 0, .bool false]) ?_ 5 _ rfl; (with_reducible repeat (first | refine blk_drewN ?_ _ | refine blk_drew ?_ | refine blk_alloc ?_ _)); refine blk_put (cs := #[.string ((rd_T42 ((rd_T32 l0 t316).f3) t317).f0), .string ((rd_T42 ((rd_T32 l0 t316).f3) t317).f1), .int .u64 ((rd_T42 ((rd_T32 l0 t316).f3) t317).f2), .int .u64 ((rd_T42 ((rd_T32 l0 t316).f3) t317).f3), .int .i64 0, .int .i64 0, .int .i64 0, .bool false]) ?_ 4 _ rfl; (with_reducible repeat (first | refine blk_drewN ?_ _ | refine blk_drew ?_ | refine blk_alloc ?_ _)); refine blk_put (cs := #[.string ((rd_T42 ((rd_T32 l0 t316).f3) t317).f0), .string ((rd_T42 ((rd_T32 l0 t316).f3) t317).f1), .int .u64 ((rd_T42 ((rd_T32 l0 t316).f3) t317).f2), .int .u64 0, .int .i64 0, .int .i64 0, .int .i64 0, .bool false]) ?_ 3 _ rfl; (with_reducible repeat (first | refine blk_drewN ?_ _ | refine blk_drew ?_ | refine blk_alloc ?_ _)); refine blk_put (cs := #[.string ((rd_T42 ((rd_T32 l0 t316).f3) t317).f0), .string ((rd_T42 ((rd_T32 l0 t316).f3) t317).f1), .int .u64 0, .int .u64 0, .int .i64 0, .int .i64 0, .int .i64 0, .bool false]) ?_ 2 _ rfl; (with_reducible repeat (first | refine blk_drewN ?_ _ | refine blk_drew ?_ | refine blk_alloc ?_ _)); refine blk_put (cs := #[.string ((rd_T42 ((rd_T32 l0 t316).f3) t317).f0), .string (⟨#[]⟩ : ByteArray), .int .u64 0, .int .u64 0, .int .i64 0, .int .i64 0, .int .i64 0, .bool false]) ?_ 1 _ rfl; (with_reducible repeat (first | refine blk_drewN ?_ _ | refine blk_drew ?_ | refine blk_alloc ?_ _)); refine blk_put (cs := #[.string (⟨#[]⟩ : ByteArray), .string (⟨#[]⟩ : ByteArray), .int .u64 0, .int .u64 0, .int .i64 0, .int .i64 0, .int .i64 0, .bool false]) ?_ 0 _ rfl; (with_reducible repeat (first | refine blk_drewN ?_ _ | refine blk_drew ?_ | refine blk_alloc ?_ _)); exact BK322.out))⟩; have n2_ : Aside0 (Below w.heap.size w w72) := ⟨(by rw [hw]; exact (by repeat (first | (with_reducible first | exact HB.out | apply below_alloc | apply pw_below_drewN | apply below_drew1 | refine below_set ?_ GE315.out | refine below_set ?_ GE322.out) | exact HB.out)))⟩; clear hw; clear BK315; clear BK322; clear HB; have BK315 := n0_; have BK322 := n1_; have HB := n2_; clear n0_ n1_ n2_; obtain ⟨hcz73_0, hcz73_1, hcz73_2, hcz73_3, hcz73_4, hcz73_5, hcz73_6, hcz73_7, hfz73_0, hfz73_1, hfz73_2, hfz73_3, hfz73_4, hfz73_5, hfz73_6, hfz73_7⟩ := cells8 BK322.out) | ((with_reducible refine gate_dst (N := 130) rfl ?_); (with_reducible refine gate_callee (f := 14) rfl ?_); refine goesL_ (some 130) rfl rfl Try.func14 (by kernel_rfl) rfl #[.agg #[.string ((rd_T42 ((rd_T32 l0 t316).f3) t317).f0), .string ((rd_T42 ((rd_T32 l0 t316).f3) t317).f1), .int .u64 ((rd_T42 ((rd_T32 l0 t316).f3) t317).f2), .int .u64 ((rd_T42 ((rd_T32 l0 t316).f3) t317).f3), .int .i64 ((rd_T42 ((rd_T32 l0 t316).f3) t317).f4), .int .i64 ((rd_T42 ((rd_T32 l0 t316).f3) t317).f5), .int .i64 ((rd_T42 ((rd_T32 l0 t316).f3) t317).f6), .bool true]] rfl (by (try simp only [List.map_toArray, List.map_cons, List.map_nil]); first | done | rfl | (simp only [List.length_drop, List.length_take]; rfl)) ?_; (with_reducible refine (curtilageref12_Shown.calls ((rd_T42 ((rd_T32 l0 t316).f3) t317).f0) ((rd_T42 ((rd_T32 l0 t316).f3) t317).f1) ((rd_T42 ((rd_T32 l0 t316).f3) t317).f2) ((rd_T42 ((rd_T32 l0 t316).f3) t317).f3) ((rd_T42 ((rd_T32 l0 t316).f3) t317).f4) ((rd_T42 ((rd_T32 l0 t316).f3) t317).f5) ((rd_T42 ((rd_T32 l0 t316).f3) t317).f6) true t323 _ A62.out).mono ?_); rintro e w74 ⟨rfl, hb⟩; refine ⟨_, rfl, ?_⟩; have n0_ := Aside0.mk (blk_below (g := gb315) (o := .cells #[.string ((rd_T42 ((rd_T32 l0 a2).f3) a3).f0), .string ((rd_T42 ((rd_T32 l0 a2).f3) a3).f1), .int .u64 ((rd_T42 ((rd_T32 l0 a2).f3) a3).f2), .int .u64 ((rd_T42 ((rd_T32 l0 a2).f3) a3).f3), .int .i64 ((rd_T42 ((rd_T32 l0 a2).f3) a3).f4), .int .i64 ((rd_T42 ((rd_T32 l0 a2).f3) a3).f5), .int .i64 ((rd_T42 ((rd_T32 l0 a2).f3) a3).f6), .bool ((rd_T42 ((rd_T32 l0 a2).f3) a3).f7)] 42 (0, 0)) (by (with_reducible repeat (first | refine blk_drewN ?_ _ | refine blk_drew ?_ | refine blk_alloc ?_ _)); exact BK315.out) hb); have n1_ := Aside0.mk (blk_below (g := gb322) (o := .cells #[.string ((rd_T42 ((rd_T32 l0 t316).f3) t317).f0), .string ((rd_T42 ((rd_T32 l0 t316).f3) t317).f1), .int .u64 ((rd_T42 ((rd_T32 l0 t316).f3) t317).f2), .int .u64 ((rd_T42 ((rd_T32 l0 t316).f3) t317).f3), .int .i64 ((rd_T42 ((rd_T32 l0 t316).f3) t317).f4), .int .i64 ((rd_T42 ((rd_T32 l0 t316).f3) t317).f5), .int .i64 ((rd_T42 ((rd_T32 l0 t316).f3) t317).f6), .bool true] 42 (0, 0)) (by (with_reducible repeat (first | refine blk_drewN ?_ _ | refine blk_drew ?_ | refine blk_alloc ?_ _)); exact BK322.out) hb); have n2_ := Aside0.mk (below_step (by repeat (first | (with_reducible first | exact HB.out | apply below_alloc | apply pw_below_drewN | apply below_drew1 | refine below_set ?_ GE315.out | refine below_set ?_ GE322.out) | exact HB.out)) hb); clear BK315; clear BK322; clear HB; have BK315 := n0_; have BK322 := n1_; have HB := n2_; clear n0_ n1_ n2_; (try clear hb); (try clear hb2); (try clear hk); (try clear hi); obtain ⟨hcz75_0, hcz75_1, hcz75_2, hcz75_3, hcz75_4, hcz75_5, hcz75_6, hcz75_7, hfz75_0, hfz75_1, hfz75_2, hfz75_3, hfz75_4, hfz75_5, hfz75_6, hfz75_7⟩ := cells8 BK322.out; obtain ⟨hcz76_0, hcz76_1, hcz76_2, hcz76_3, hcz76_4, hcz76_5, hcz76_6, hcz76_7, hfz76_0, hfz76_1, hfz76_2, hfz76_3, hfz76_4, hfz76_5, hfz76_6, hfz76_7⟩ := cells8 BK315.out))
                                            go_ret
                                            exact ⟨by first | rfl | (simp [errW_none, errW_some] <;> rfl) | (simp [*, errW_none, errW_some] <;> rfl), by repeat (first | (with_reducible first | exact HB.out | apply below_alloc | apply pw_below_drewN | apply below_drew1 | refine below_set ?_ GE315.out | refine below_set ?_ GE322.out) | exact HB.out)⟩
                                          · rw [if_neg c68] at H
                                            have c68b0 : (((rd_T42 ((rd_T32 l0 a2).f3) a3).f1).toList == ([] : List UInt8)) = false := beq_eq_false_iff_ne.mpr c68
                                            have c68b1 : (((rd_T42 ((rd_T32 l0 a2).f3) a3).f1).toList != ([] : List UInt8)) = true := bne_iff_ne.mpr c68
                                            obtain rfl := Option.some.inj H
                                            have p320 : 0 ≤ (t316 : Int) := of_decide_eq_true (by first | (with_reducible assumption) | assumption)
                                            have q320 : t316 < (l0.length : Int) := of_decide_eq_true (by first | (with_reducible assumption) | assumption)
                                            obtain ⟨ad320, A320_1, c320_1, A320_2, c320_2, A320_3, c320_3, A320_4, c320_4, A320_5, c320_5, A320_6, c320_6, e320, hx320_0, hx320_1, hx320_2, hx320_3, hx320_4, hx320_5, hx320_6, hl320_1, hi320_1, hl320_2, hi320_2, hl320_3, hi320_3, hl320_4, hi320_4, hl320_5, hi320_5, hl320_6, hi320_6⟩ := at_T32 HR0.out t316 p320 q320
                                            obtain rfl : ad313 = ad320 := (by injection e320)
                                            replace hx320_0 := (HB.out.cell (World.block_lt_of_cell? w _ hx320_0)).trans hx320_0
                                            replace hx320_1 := (HB.out.cell (World.block_lt_of_cell? w _ hx320_1)).trans hx320_1
                                            replace hx320_2 := (HB.out.cell (World.block_lt_of_cell? w _ hx320_2)).trans hx320_2
                                            replace hx320_3 := (HB.out.cell (World.block_lt_of_cell? w _ hx320_3)).trans hx320_3
                                            replace hx320_4 := (HB.out.cell (World.block_lt_of_cell? w _ hx320_4)).trans hx320_4
                                            replace hx320_5 := (HB.out.cell (World.block_lt_of_cell? w _ hx320_5)).trans hx320_5
                                            replace hx320_6 := (HB.out.cell (World.block_lt_of_cell? w _ hx320_6)).trans hx320_6
                                            have HR320_1 := Aside0.mk hi320_1
                                            have HC320_1 := Aside0.mk hl320_1
                                            clear hi320_1 hl320_1
                                            have HR320_2 := Aside0.mk hi320_2
                                            have HC320_2 := Aside0.mk hl320_2
                                            clear hi320_2 hl320_2
                                            have HR320_3 := Aside0.mk hi320_3
                                            have HC320_3 := Aside0.mk hl320_3
                                            clear hi320_3 hl320_3
                                            have HR320_4 := Aside0.mk hi320_4
                                            have HC320_4 := Aside0.mk hl320_4
                                            clear hi320_4 hl320_4
                                            have HR320_5 := Aside0.mk hi320_5
                                            have HC320_5 := Aside0.mk hl320_5
                                            clear hi320_5 hl320_5
                                            have HR320_6 := Aside0.mk hi320_6
                                            have HC320_6 := Aside0.mk hl320_6
                                            clear hi320_6 hl320_6
                                            replace p320 := eq_true p320
                                            replace q320 := eq_true q320
                                            have p321 : 0 ≤ (t317 : Int) := of_decide_eq_true (by first | (with_reducible assumption) | assumption)
                                            have q321 : t317 < (((rd_T32 l0 t316).f3).length : Int) := of_decide_eq_true (by first | (with_reducible assumption) | assumption)
                                            obtain ⟨ad321, e321, hx321_0, hx321_1, hx321_2, hx321_3, hx321_4, hx321_5, hx321_6, hx321_7⟩ := at_T42 HR320_3.out t317 p321 q321
                                            (try rw [← Nbq65.out] at hx321_7)
                                            (try rw [← Nbq65.out] at hw321_7)
                                            cases e321
                                            replace hx321_0 := (HB.out.cell (World.block_lt_of_cell? w _ hx321_0)).trans hx321_0
                                            replace hx321_1 := (HB.out.cell (World.block_lt_of_cell? w _ hx321_1)).trans hx321_1
                                            replace hx321_2 := (HB.out.cell (World.block_lt_of_cell? w _ hx321_2)).trans hx321_2
                                            replace hx321_3 := (HB.out.cell (World.block_lt_of_cell? w _ hx321_3)).trans hx321_3
                                            replace hx321_4 := (HB.out.cell (World.block_lt_of_cell? w _ hx321_4)).trans hx321_4
                                            replace hx321_5 := (HB.out.cell (World.block_lt_of_cell? w _ hx321_5)).trans hx321_5
                                            replace hx321_6 := (HB.out.cell (World.block_lt_of_cell? w _ hx321_6)).trans hx321_6
                                            replace hx321_7 := (HB.out.cell (World.block_lt_of_cell? w _ hx321_7)).trans hx321_7
                                            replace p321 := eq_true p321
                                            replace q321 := eq_true q321
                                            go_wp2_with (first | ((with_reducible refine gate_dst (N := 16) rfl ?_); (try (refine gate_guard (by rfl) ?_; dsimp only)); refine box_event ?hg (N := 16) ?hd (cs := #[.string (⟨#[]⟩ : ByteArray), .string (⟨#[]⟩ : ByteArray), .int .u64 0, .int .u64 0, .int .i64 0, .int .i64 0, .int .i64 0, .bool false]) (t := 42) ?hr ?_; (case hd => rfl); (case hg => rfl); (case hr => first | (go_simp; done) | (go_simp; rfl)); intro gb322 hg w77 hbox hb; have n0_ := Aside0.mk (blk_below (g := gb315) (o := .cells #[.string ((rd_T42 ((rd_T32 l0 a2).f3) a3).f0), .string ((rd_T42 ((rd_T32 l0 a2).f3) a3).f1), .int .u64 ((rd_T42 ((rd_T32 l0 a2).f3) a3).f2), .int .u64 ((rd_T42 ((rd_T32 l0 a2).f3) a3).f3), .int .i64 ((rd_T42 ((rd_T32 l0 a2).f3) a3).f4), .int .i64 ((rd_T42 ((rd_T32 l0 a2).f3) a3).f5), .int .i64 ((rd_T42 ((rd_T32 l0 a2).f3) a3).f6), .bool ((rd_T42 ((rd_T32 l0 a2).f3) a3).f7)] 42 (0, 0)) (by (with_reducible repeat (first | refine blk_drewN ?_ _ | refine blk_drew ?_ | refine blk_alloc ?_ _)); exact BK315.out) hb); have n1_ := Aside0.mk (below_step (by repeat (first | (with_reducible first | exact HB.out | apply below_alloc | apply pw_below_drewN | apply below_drew1 | refine below_set ?_ GE315.out) | exact HB.out)) hb); have n2_ := Aside0.mk (hbox); have n3_ := Aside0.mk ((by rw [hg]; exact (below_size (by repeat (first | (with_reducible first | exact HB.out | apply below_alloc | apply pw_below_drewN | apply below_drew1 | refine below_set ?_ GE315.out) | exact HB.out))) : w.heap.size ≤ gb322)); have n4_ := n3_; have n5_ := Aside0.mk ((by rw [hg]; exact Nat.ne_of_lt (blk_lt (g := gb315) (o := .cells #[.string ((rd_T42 ((rd_T32 l0 a2).f3) a3).f0), .string ((rd_T42 ((rd_T32 l0 a2).f3) a3).f1), .int .u64 ((rd_T42 ((rd_T32 l0 a2).f3) a3).f2), .int .u64 ((rd_T42 ((rd_T32 l0 a2).f3) a3).f3), .int .i64 ((rd_T42 ((rd_T32 l0 a2).f3) a3).f4), .int .i64 ((rd_T42 ((rd_T32 l0 a2).f3) a3).f5), .int .i64 ((rd_T42 ((rd_T32 l0 a2).f3) a3).f6), .bool ((rd_T42 ((rd_T32 l0 a2).f3) a3).f7)] 42 (0, 0)) (by (with_reducible repeat (first | refine blk_drewN ?_ _ | refine blk_drew ?_ | refine blk_alloc ?_ _)); exact BK315.out)) : gb315 ≠ gb322)); have n6_ := Aside0.mk n5_.out.symm; clear BK315; clear HB; have BK315 := n0_; have HB := n1_; have BK322 := n2_; have GW322 := n3_; have GE322 := n4_; have NB315_322 := n5_; have NB322_315 := n6_; clear n0_ n1_ n2_ n3_ n4_ n5_ n6_; clear hb hbox hg; have hnb78 := NB322_315.out; have hnc78 := NB315_322.out; obtain ⟨hcz79_0, hcz79_1, hcz79_2, hcz79_3, hcz79_4, hcz79_5, hcz79_6, hcz79_7, hfz79_0, hfz79_1, hfz79_2, hfz79_3, hfz79_4, hfz79_5, hfz79_6, hfz79_7⟩ := cells8 BK322.out) | ((with_reducible refine gate_store (t := 42) (p := 16) rfl ?_); refine store_event (t := 42) (p := 16) (v := ?vo_w80) (w1 := ((((((((w77.setCell ⟨gb322, 0, none⟩ (.string ((rd_T42 ((rd_T32 l0 t316).f3) t317).f0))).setCell ⟨gb322, 1, none⟩ (.string ((rd_T42 ((rd_T32 l0 t316).f3) t317).f1))).setCell ⟨gb322, 2, none⟩ (.int .u64 ((rd_T42 ((rd_T32 l0 t316).f3) t317).f2))).setCell ⟨gb322, 3, none⟩ (.int .u64 ((rd_T42 ((rd_T32 l0 t316).f3) t317).f3))).setCell ⟨gb322, 4, none⟩ (.int .i64 ((rd_T42 ((rd_T32 l0 t316).f3) t317).f4))).setCell ⟨gb322, 5, none⟩ (.int .i64 ((rd_T42 ((rd_T32 l0 t316).f3) t317).f5))).setCell ⟨gb322, 6, none⟩ (.int .i64 ((rd_T42 ((rd_T32 l0 t316).f3) t317).f6))).setCell ⟨gb322, 7, none⟩ (.bool true))) ?hg ?ho ?hn ?hr ?_; (case ho => rfl); (case hg => rfl); (case hn => rfl); (case hr => first | (go_simp; done) | (go_simp; rfl)); intro w80 hw; have n0_ : Aside0 (w80.heap[gb315]? = some (.cells #[.string ((rd_T42 ((rd_T32 l0 a2).f3) a3).f0), .string ((rd_T42 ((rd_T32 l0 a2).f3) a3).f1), .int .u64 ((rd_T42 ((rd_T32 l0 a2).f3) a3).f2), .int .u64 ((rd_T42 ((rd_T32 l0 a2).f3) a3).f3), .int .i64 ((rd_T42 ((rd_T32 l0 a2).f3) a3).f4), .int .i64 ((rd_T42 ((rd_T32 l0 a2).f3) a3).f5), .int .i64 ((rd_T42 ((rd_T32 l0 a2).f3) a3).f6), .bool ((rd_T42 ((rd_T32 l0 a2).f3) a3).f7)] 42 (0, 0))) := ⟨(by rw [hw]; exact (by (with_reducible repeat (first | refine blk_drewN ?_ _ | refine blk_drew ?_ | refine blk_alloc ?_ _)); refine blk_far ?_ NB315_322.out _; (with_reducible repeat (first | refine blk_drewN ?_ _ | refine blk_drew ?_ | refine blk_alloc ?_ _)); refine blk_far ?_ NB315_322.out _; (with_reducible repeat (first | refine blk_drewN ?_ _ | refine blk_drew ?_ | refine blk_alloc ?_ _)); refine blk_far ?_ NB315_322.out _; (with_reducible repeat (first | refine blk_drewN ?_ _ | refine blk_drew ?_ | refine blk_alloc ?_ _)); refine blk_far ?_ NB315_322.out _; (with_reducible repeat (first | refine blk_drewN ?_ _ | refine blk_drew ?_ | refine blk_alloc ?_ _)); refine blk_far ?_ NB315_322.out _; (with_reducible repeat (first | refine blk_drewN ?_ _ | refine blk_drew ?_ | refine blk_alloc ?_ _)); refine blk_far ?_ NB315_322.out _; (with_reducible repeat (first | refine blk_drewN ?_ _ | refine blk_drew ?_ | refine blk_alloc ?_ _)); refine blk_far ?_ NB315_322.out _; (with_reducible repeat (first | refine blk_drewN ?_ _ | refine blk_drew ?_ | refine blk_alloc ?_ _)); refine blk_far ?_ NB315_322.out _; (with_reducible repeat (first | refine blk_drewN ?_ _ | refine blk_drew ?_ | refine blk_alloc ?_ _)); exact BK315.out))⟩; have n1_ : Aside0 (w80.heap[gb322]? = some (.cells #[.string ((rd_T42 ((rd_T32 l0 t316).f3) t317).f0), .string ((rd_T42 ((rd_T32 l0 t316).f3) t317).f1), .int .u64 ((rd_T42 ((rd_T32 l0 t316).f3) t317).f2), .int .u64 ((rd_T42 ((rd_T32 l0 t316).f3) t317).f3), .int .i64 ((rd_T42 ((rd_T32 l0 t316).f3) t317).f4), .int .i64 ((rd_T42 ((rd_T32 l0 t316).f3) t317).f5), .int .i64 ((rd_T42 ((rd_T32 l0 t316).f3) t317).f6), .bool true] 42 (0, 0))) := ⟨(by rw [hw]; exact (by (with_reducible repeat (first | refine blk_drewN ?_ _ | refine blk_drew ?_ | refine blk_alloc ?_ _)); refine blk_put (cs := #[.string ((rd_T42 ((rd_T32 l0 t316).f3) t317).f0), .string ((rd_T42 ((rd_T32 l0 t316).f3) t317).f1), .int .u64 ((rd_T42 ((rd_T32 l0 t316).f3) t317).f2), .int .u64 ((rd_T42 ((rd_T32 l0 t316).f3) t317).f3), .int .i64 ((rd_T42 ((rd_T32 l0 t316).f3) t317).f4), .int .i64 ((rd_T42 ((rd_T32 l0 t316).f3) t317).f5), .int .i64 ((rd_T42 ((rd_T32 l0 t316).f3) t317).f6), .bool false]) ?_ 7 _ rfl; (with_reducible repeat (first | refine blk_drewN ?_ _ | refine blk_drew ?_ | refine blk_alloc ?_ _)); refine blk_put (cs := #[.string ((rd_T42 ((rd_T32 l0 t316).f3) t317).f0), .string ((rd_T42 ((rd_T32 l0 t316).f3) t317).f1), .int .u64 ((rd_T42 ((rd_T32 l0 t316).f3) t317).f2), .int .u64 ((rd_T42 ((rd_T32 l0 t316).f3) t317).f3), .int .i64 ((rd_T42 ((rd_T32 l0 t316).f3) t317).f4), .int .i64 ((rd_T42 ((rd_T32 l0 t316).f3) t317).f5), .int .i64 0, .bool false]) ?_ 6 _ rfl; (with_reducible repeat (first | refine blk_drewN ?_ _ | refine blk_drew ?_ | refine blk_alloc ?_ _)); refine blk_put (cs := #[.string ((rd_T42 ((rd_T32 l0 t316).f3) t317).f0), .string ((rd_T42 ((rd_T32 l0 t316).f3) t317).f1), .int .u64 ((rd_T42 ((rd_T32 l0 t316).f3) t317).f2), .int .u64 ((rd_T42 ((rd_T32 l0 t316).f3) t317).f3), .int .i64 ((rd_T42 ((rd_T32 l0 t316).f3) t317).f4), .int .i64 0, .int .i64 0, .bool false]) ?_ 5 _ rfl; (with_reducible repeat (first | refine blk_drewN ?_ _ | refine blk_drew ?_ | refine blk_alloc ?_ _)); refine blk_put (cs := #[.string ((rd_T42 ((rd_T32 l0 t316).f3) t317).f0), .string ((rd_T42 ((rd_T32 l0 t316).f3) t317).f1), .int .u64 ((rd_T42 ((rd_T32 l0 t316).f3) t317).f2), .int .u64 ((rd_T42 ((rd_T32 l0 t316).f3) t317).f3), .int .i64 0, .int .i64 0, .int .i64 0, .bool false]) ?_ 4 _ rfl; (with_reducible repeat (first | refine blk_drewN ?_ _ | refine blk_drew ?_ | refine blk_alloc ?_ _)); refine blk_put (cs := #[.string ((rd_T42 ((rd_T32 l0 t316).f3) t317).f0), .string ((rd_T42 ((rd_T32 l0 t316).f3) t317).f1), .int .u64 ((rd_T42 ((rd_T32 l0 t316).f3) t317).f2), .int .u64 0, .int .i64 0, .int .i64 0, .int .i64 0, .bool false]) ?_ 3 _ rfl; (with_reducible repeat (first | refine blk_drewN ?_ _ | refine blk_drew ?_ | refine blk_alloc ?_ _)); refine blk_put (cs := #[.string ((rd_T42 ((rd_T32 l0 t316).f3) t317).f0), .string ((rd_T42 ((rd_T32 l0 t316).f3) t317).f1), .int .u64 0, .int .u64 0, .int .i64 0, .int .i64 0, .int .i64 0, .bool false]) ?_ 2 _ rfl; (with_reducible repeat (first | refine blk_drewN ?_ _ | refine blk_drew ?_ | refine blk_alloc ?_ _)); refine blk_put (cs := #[.string ((rd_T42 ((rd_T32 l0 t316).f3) t317).f0), .string (⟨#[]⟩ : ByteArray), .int .u64 0, .int .u64 0, .int .i64 0, .int .i64 0, .int .i64 0, .bool false]) ?_ 1 _ rfl; (with_reducible repeat (first | refine blk_drewN ?_ _ | refine blk_drew ?_ | refine blk_alloc ?_ _)); refine blk_put (cs := #[.string (⟨#[]⟩ : ByteArray), .string (⟨#[]⟩ : ByteArray), .int .u64 0, .int .u64 0, .int .i64 0, .int .i64 0, .int .i64 0, .bool false]) ?_ 0 _ rfl; (with_reducible repeat (first | refine blk_drewN ?_ _ | refine blk_drew ?_ | refine blk_alloc ?_ _)); exact BK322.out))⟩; have n2_ : Aside0 (Below w.heap.size w w80) := ⟨(by rw [hw]; exact (by repeat (first | (with_reducible first | exact HB.out | apply below_alloc | apply pw_below_drewN | apply below_drew1 | refine below_set ?_ GE315.out | refine below_set ?_ GE322.out) | exact HB.out)))⟩; clear hw; clear BK315; clear BK322; clear HB; have BK315 := n0_; have BK322 := n1_; have HB := n2_; clear n0_ n1_ n2_; obtain ⟨hcz81_0, hcz81_1, hcz81_2, hcz81_3, hcz81_4, hcz81_5, hcz81_6, hcz81_7, hfz81_0, hfz81_1, hfz81_2, hfz81_3, hfz81_4, hfz81_5, hfz81_6, hfz81_7⟩ := cells8 BK322.out) | ((with_reducible refine gate_dst (N := 130) rfl ?_); (with_reducible refine gate_callee (f := 14) rfl ?_); refine goesL_ (some 130) rfl rfl Try.func14 (by kernel_rfl) rfl #[.agg #[.string ((rd_T42 ((rd_T32 l0 t316).f3) t317).f0), .string ((rd_T42 ((rd_T32 l0 t316).f3) t317).f1), .int .u64 ((rd_T42 ((rd_T32 l0 t316).f3) t317).f2), .int .u64 ((rd_T42 ((rd_T32 l0 t316).f3) t317).f3), .int .i64 ((rd_T42 ((rd_T32 l0 t316).f3) t317).f4), .int .i64 ((rd_T42 ((rd_T32 l0 t316).f3) t317).f5), .int .i64 ((rd_T42 ((rd_T32 l0 t316).f3) t317).f6), .bool true]] rfl (by (try simp only [List.map_toArray, List.map_cons, List.map_nil]); first | done | rfl | (simp only [List.length_drop, List.length_take]; rfl)) ?_; (with_reducible refine (curtilageref12_Shown.calls ((rd_T42 ((rd_T32 l0 t316).f3) t317).f0) ((rd_T42 ((rd_T32 l0 t316).f3) t317).f1) ((rd_T42 ((rd_T32 l0 t316).f3) t317).f2) ((rd_T42 ((rd_T32 l0 t316).f3) t317).f3) ((rd_T42 ((rd_T32 l0 t316).f3) t317).f4) ((rd_T42 ((rd_T32 l0 t316).f3) t317).f5) ((rd_T42 ((rd_T32 l0 t316).f3) t317).f6) true t323 _ A62.out).mono ?_); rintro e w82 ⟨rfl, hb⟩; refine ⟨_, rfl, ?_⟩; have n0_ := Aside0.mk (blk_below (g := gb315) (o := .cells #[.string ((rd_T42 ((rd_T32 l0 a2).f3) a3).f0), .string ((rd_T42 ((rd_T32 l0 a2).f3) a3).f1), .int .u64 ((rd_T42 ((rd_T32 l0 a2).f3) a3).f2), .int .u64 ((rd_T42 ((rd_T32 l0 a2).f3) a3).f3), .int .i64 ((rd_T42 ((rd_T32 l0 a2).f3) a3).f4), .int .i64 ((rd_T42 ((rd_T32 l0 a2).f3) a3).f5), .int .i64 ((rd_T42 ((rd_T32 l0 a2).f3) a3).f6), .bool ((rd_T42 ((rd_T32 l0 a2).f3) a3).f7)] 42 (0, 0)) (by (with_reducible repeat (first | refine blk_drewN ?_ _ | refine blk_drew ?_ | refine blk_alloc ?_ _)); exact BK315.out) hb); have n1_ := Aside0.mk (blk_below (g := gb322) (o := .cells #[.string ((rd_T42 ((rd_T32 l0 t316).f3) t317).f0), .string ((rd_T42 ((rd_T32 l0 t316).f3) t317).f1), .int .u64 ((rd_T42 ((rd_T32 l0 t316).f3) t317).f2), .int .u64 ((rd_T42 ((rd_T32 l0 t316).f3) t317).f3), .int .i64 ((rd_T42 ((rd_T32 l0 t316).f3) t317).f4), .int .i64 ((rd_T42 ((rd_T32 l0 t316).f3) t317).f5), .int .i64 ((rd_T42 ((rd_T32 l0 t316).f3) t317).f6), .bool true] 42 (0, 0)) (by (with_reducible repeat (first | refine blk_drewN ?_ _ | refine blk_drew ?_ | refine blk_alloc ?_ _)); exact BK322.out) hb); have n2_ := Aside0.mk (below_step (by repeat (first | (with_reducible first | exact HB.out | apply below_alloc | apply pw_below_drewN | apply below_drew1 | refine below_set ?_ GE315.out | refine below_set ?_ GE322.out) | exact HB.out)) hb); clear BK315; clear BK322; clear HB; have BK315 := n0_; have BK322 := n1_; have HB := n2_; clear n0_ n1_ n2_; (try clear hb); (try clear hb2); (try clear hk); (try clear hi); obtain ⟨hcz83_0, hcz83_1, hcz83_2, hcz83_3, hcz83_4, hcz83_5, hcz83_6, hcz83_7, hfz83_0, hfz83_1, hfz83_2, hfz83_3, hfz83_4, hfz83_5, hfz83_6, hfz83_7⟩ := cells8 BK322.out; obtain ⟨hcz84_0, hcz84_1, hcz84_2, hcz84_3, hcz84_4, hcz84_5, hcz84_6, hcz84_7, hfz84_0, hfz84_1, hfz84_2, hfz84_3, hfz84_4, hfz84_5, hfz84_6, hfz84_7⟩ := cells8 BK315.out))
                                            go_ret
                                            exact ⟨by first | rfl | (simp [errW_none, errW_some] <;> rfl) | (simp [*, errW_none, errW_some] <;> rfl), by repeat (first | (with_reducible first | exact HB.out | apply below_alloc | apply pw_below_drewN | apply below_drew1 | refine below_set ?_ GE315.out | refine below_set ?_ GE322.out) | exact HB.out)⟩
                                        · rw [if_neg c67] at H
                                          have c67b0 : (((rd_T42 ((rd_T32 l0 t316).f3) t317).f0).toList == ((rd_T42 ((rd_T32 l0 a2).f3) a3).f0).toList) = false := beq_eq_false_iff_ne.mpr c67
                                          have c67b1 : (((rd_T42 ((rd_T32 l0 t316).f3) t317).f0).toList != ((rd_T42 ((rd_T32 l0 a2).f3) a3).f0).toList) = true := bne_iff_ne.mpr c67
                                          exact absurd ((Option.some.inj H).trans HT.out) (by decide)
                                      · replace c66 := Bool.eq_false_iff.mpr c66
                                        subst c66
                                        have H1 : (some false) = some r := by rw [if_neg (show ¬ (false = true) by decide)] at H; exact H
                                        clear H
                                        have H := H1
                                        clear H1
                                        exact absurd ((Option.some.inj H).trans HT.out) (by decide)
                                    · replace c64 := Bool.eq_false_iff.mpr c64
                                      subst c64
                                      have H1 : (some false) = some r := by rw [if_neg (show ¬ (false = true) by decide)] at H; exact H
                                      clear H
                                      have H := H1
                                      clear H1
                                      exact absurd ((Option.some.inj H).trans HT.out) (by decide)
                                  · rw [if_neg c63] at H
                                    have c63b0 : (t316 == a2) = false := beq_eq_false_iff_ne.mpr c63
                                    have c63b1 : (t316 != a2) = true := bne_iff_ne.mpr c63
                                    by_cases c106 : t323 = true
                                    · subst c106
                                      have H1 : (if t309 = true then (if (rd_T42 ((rd_T32 l0 t316).f3) t317).f7 = true then (if ((rd_T42 ((rd_T32 l0 t316).f3) t317).f0).toList = ((rd_T42 ((rd_T32 l0 a2).f3) a3).f0).toList then (if ((rd_T42 ((rd_T32 l0 a2).f3) a3).f1).toList = ([] : List UInt8) then (some true) else (some (((rd_T42 ((rd_T32 l0 t316).f3) t317).f1).toList == ((rd_T42 ((rd_T32 l0 a2).f3) a3).f1).toList))) else (some false)) else (some false)) else (some false)) = some r := by rw [if_pos rfl] at H; exact H
                                      clear H
                                      have H := H1
                                      clear H1
                                      by_cases c107 : t309 = true
                                      · subst c107
                                        have H1 : (if (rd_T42 ((rd_T32 l0 t316).f3) t317).f7 = true then (if ((rd_T42 ((rd_T32 l0 t316).f3) t317).f0).toList = ((rd_T42 ((rd_T32 l0 a2).f3) a3).f0).toList then (if ((rd_T42 ((rd_T32 l0 a2).f3) a3).f1).toList = ([] : List UInt8) then (some true) else (some (((rd_T42 ((rd_T32 l0 t316).f3) t317).f1).toList == ((rd_T42 ((rd_T32 l0 a2).f3) a3).f1).toList))) else (some false)) else (some false)) = some r := by rw [if_pos rfl] at H; exact H
                                        clear H
                                        have H := H1
                                        clear H1
                                        obtain ⟨bq108, hbq108⟩ : ∃ b_ : Bool, b_ = ((rd_T42 ((rd_T32 l0 t316).f3) t317).f7) := ⟨_, rfl⟩
                                        replace H : (if bq108 = true then (if ((rd_T42 ((rd_T32 l0 t316).f3) t317).f0).toList = ((rd_T42 ((rd_T32 l0 a2).f3) a3).f0).toList then (if ((rd_T42 ((rd_T32 l0 a2).f3) a3).f1).toList = ([] : List UInt8) then (some true) else (some (((rd_T42 ((rd_T32 l0 t316).f3) t317).f1).toList == ((rd_T42 ((rd_T32 l0 a2).f3) a3).f1).toList))) else (some false)) else (some false)) = some r := by rw [← hbq108] at H; exact H
                                        have Nbq108 := Aside0.mk hbq108
                                        clear hbq108
                                        (try (have h_ := A5.out; rw [← Nbq108.out] at h_; clear A5; have A5 := Aside0.mk h_; clear h_))
                                        (try (have h_ := A6.out; rw [← Nbq108.out] at h_; clear A6; have A6 := Aside0.mk h_; clear h_))
                                        (try (have h_ := A7.out; rw [← Nbq108.out] at h_; clear A7; have A7 := Aside0.mk h_; clear h_))
                                        (try (have h_ := A23.out; rw [← Nbq108.out] at h_; clear A23; have A23 := Aside0.mk h_; clear h_))
                                        (try (have h_ := A62.out; rw [← Nbq108.out] at h_; clear A62; have A62 := Aside0.mk h_; clear h_))
                                        by_cases c109 : bq108 = true
                                        · subst c109
                                          have H1 : (if ((rd_T42 ((rd_T32 l0 t316).f3) t317).f0).toList = ((rd_T42 ((rd_T32 l0 a2).f3) a3).f0).toList then (if ((rd_T42 ((rd_T32 l0 a2).f3) a3).f1).toList = ([] : List UInt8) then (some true) else (some (((rd_T42 ((rd_T32 l0 t316).f3) t317).f1).toList == ((rd_T42 ((rd_T32 l0 a2).f3) a3).f1).toList))) else (some false)) = some r := by rw [if_pos rfl] at H; exact H
                                          clear H
                                          have H := H1
                                          clear H1
                                          by_cases c110 : ((rd_T42 ((rd_T32 l0 t316).f3) t317).f0).toList = ((rd_T42 ((rd_T32 l0 a2).f3) a3).f0).toList
                                          · rw [if_pos c110] at H
                                            have c110b0 : (((rd_T42 ((rd_T32 l0 t316).f3) t317).f0).toList == ((rd_T42 ((rd_T32 l0 a2).f3) a3).f0).toList) = true := beq_iff_eq.mpr c110
                                            have c110b1 : (((rd_T42 ((rd_T32 l0 t316).f3) t317).f0).toList != ((rd_T42 ((rd_T32 l0 a2).f3) a3).f0).toList) = false := bne_eq_false_iff_eq.mpr c110
                                            clear c110
                                            by_cases c111 : ((rd_T42 ((rd_T32 l0 a2).f3) a3).f1).toList = ([] : List UInt8)
                                            · rw [if_pos c111] at H
                                              have c111b0 : (((rd_T42 ((rd_T32 l0 a2).f3) a3).f1).toList == ([] : List UInt8)) = true := beq_iff_eq.mpr c111
                                              have c111b1 : (((rd_T42 ((rd_T32 l0 a2).f3) a3).f1).toList != ([] : List UInt8)) = false := bne_eq_false_iff_eq.mpr c111
                                              clear c111
                                              obtain rfl := Option.some.inj H
                                              have p320 : 0 ≤ (t316 : Int) := of_decide_eq_true (by first | (with_reducible assumption) | assumption)
                                              have q320 : t316 < (l0.length : Int) := of_decide_eq_true (by first | (with_reducible assumption) | assumption)
                                              obtain ⟨ad320, A320_1, c320_1, A320_2, c320_2, A320_3, c320_3, A320_4, c320_4, A320_5, c320_5, A320_6, c320_6, e320, hx320_0, hx320_1, hx320_2, hx320_3, hx320_4, hx320_5, hx320_6, hl320_1, hi320_1, hl320_2, hi320_2, hl320_3, hi320_3, hl320_4, hi320_4, hl320_5, hi320_5, hl320_6, hi320_6⟩ := at_T32 HR0.out t316 p320 q320
                                              obtain rfl : ad313 = ad320 := (by injection e320)
                                              replace hx320_0 := (HB.out.cell (World.block_lt_of_cell? w _ hx320_0)).trans hx320_0
                                              replace hx320_1 := (HB.out.cell (World.block_lt_of_cell? w _ hx320_1)).trans hx320_1
                                              replace hx320_2 := (HB.out.cell (World.block_lt_of_cell? w _ hx320_2)).trans hx320_2
                                              replace hx320_3 := (HB.out.cell (World.block_lt_of_cell? w _ hx320_3)).trans hx320_3
                                              replace hx320_4 := (HB.out.cell (World.block_lt_of_cell? w _ hx320_4)).trans hx320_4
                                              replace hx320_5 := (HB.out.cell (World.block_lt_of_cell? w _ hx320_5)).trans hx320_5
                                              replace hx320_6 := (HB.out.cell (World.block_lt_of_cell? w _ hx320_6)).trans hx320_6
                                              have HR320_1 := Aside0.mk hi320_1
                                              have HC320_1 := Aside0.mk hl320_1
                                              clear hi320_1 hl320_1
                                              have HR320_2 := Aside0.mk hi320_2
                                              have HC320_2 := Aside0.mk hl320_2
                                              clear hi320_2 hl320_2
                                              have HR320_3 := Aside0.mk hi320_3
                                              have HC320_3 := Aside0.mk hl320_3
                                              clear hi320_3 hl320_3
                                              have HR320_4 := Aside0.mk hi320_4
                                              have HC320_4 := Aside0.mk hl320_4
                                              clear hi320_4 hl320_4
                                              have HR320_5 := Aside0.mk hi320_5
                                              have HC320_5 := Aside0.mk hl320_5
                                              clear hi320_5 hl320_5
                                              have HR320_6 := Aside0.mk hi320_6
                                              have HC320_6 := Aside0.mk hl320_6
                                              clear hi320_6 hl320_6
                                              replace p320 := eq_true p320
                                              replace q320 := eq_true q320
                                              have p321 : 0 ≤ (t317 : Int) := of_decide_eq_true (by first | (with_reducible assumption) | assumption)
                                              have q321 : t317 < (((rd_T32 l0 t316).f3).length : Int) := of_decide_eq_true (by first | (with_reducible assumption) | assumption)
                                              obtain ⟨ad321, e321, hx321_0, hx321_1, hx321_2, hx321_3, hx321_4, hx321_5, hx321_6, hx321_7⟩ := at_T42 HR320_3.out t317 p321 q321
                                              (try rw [← Nbq108.out] at hx321_7)
                                              (try rw [← Nbq108.out] at hw321_7)
                                              cases e321
                                              replace hx321_0 := (HB.out.cell (World.block_lt_of_cell? w _ hx321_0)).trans hx321_0
                                              replace hx321_1 := (HB.out.cell (World.block_lt_of_cell? w _ hx321_1)).trans hx321_1
                                              replace hx321_2 := (HB.out.cell (World.block_lt_of_cell? w _ hx321_2)).trans hx321_2
                                              replace hx321_3 := (HB.out.cell (World.block_lt_of_cell? w _ hx321_3)).trans hx321_3
                                              replace hx321_4 := (HB.out.cell (World.block_lt_of_cell? w _ hx321_4)).trans hx321_4
                                              replace hx321_5 := (HB.out.cell (World.block_lt_of_cell? w _ hx321_5)).trans hx321_5
                                              replace hx321_6 := (HB.out.cell (World.block_lt_of_cell? w _ hx321_6)).trans hx321_6
                                              replace hx321_7 := (HB.out.cell (World.block_lt_of_cell? w _ hx321_7)).trans hx321_7
                                              replace p321 := eq_true p321
                                              replace q321 := eq_true q321
                                              go_wp2_with (first | ((with_reducible refine gate_dst (N := 16) rfl ?_); (try (refine gate_guard (by rfl) ?_; dsimp only)); refine box_event ?hg (N := 16) ?hd (cs := #[.string (⟨#[]⟩ : ByteArray), .string (⟨#[]⟩ : ByteArray), .int .u64 0, .int .u64 0, .int .i64 0, .int .i64 0, .int .i64 0, .bool false]) (t := 42) ?hr ?_; (case hd => rfl); (case hg => rfl); (case hr => first | (go_simp; done) | (go_simp; rfl)); intro gb322 hg w112 hbox hb; have n0_ := Aside0.mk (blk_below (g := gb315) (o := .cells #[.string ((rd_T42 ((rd_T32 l0 a2).f3) a3).f0), .string ((rd_T42 ((rd_T32 l0 a2).f3) a3).f1), .int .u64 ((rd_T42 ((rd_T32 l0 a2).f3) a3).f2), .int .u64 ((rd_T42 ((rd_T32 l0 a2).f3) a3).f3), .int .i64 ((rd_T42 ((rd_T32 l0 a2).f3) a3).f4), .int .i64 ((rd_T42 ((rd_T32 l0 a2).f3) a3).f5), .int .i64 ((rd_T42 ((rd_T32 l0 a2).f3) a3).f6), .bool ((rd_T42 ((rd_T32 l0 a2).f3) a3).f7)] 42 (0, 0)) (by (with_reducible repeat (first | refine blk_drewN ?_ _ | refine blk_drew ?_ | refine blk_alloc ?_ _)); exact BK315.out) hb); have n1_ := Aside0.mk (below_step (by repeat (first | (with_reducible first | exact HB.out | apply below_alloc | apply pw_below_drewN | apply below_drew1 | refine below_set ?_ GE315.out) | exact HB.out)) hb); have n2_ := Aside0.mk (hbox); have n3_ := Aside0.mk ((by rw [hg]; exact (below_size (by repeat (first | (with_reducible first | exact HB.out | apply below_alloc | apply pw_below_drewN | apply below_drew1 | refine below_set ?_ GE315.out) | exact HB.out))) : w.heap.size ≤ gb322)); have n4_ := n3_; have n5_ := Aside0.mk ((by rw [hg]; exact Nat.ne_of_lt (blk_lt (g := gb315) (o := .cells #[.string ((rd_T42 ((rd_T32 l0 a2).f3) a3).f0), .string ((rd_T42 ((rd_T32 l0 a2).f3) a3).f1), .int .u64 ((rd_T42 ((rd_T32 l0 a2).f3) a3).f2), .int .u64 ((rd_T42 ((rd_T32 l0 a2).f3) a3).f3), .int .i64 ((rd_T42 ((rd_T32 l0 a2).f3) a3).f4), .int .i64 ((rd_T42 ((rd_T32 l0 a2).f3) a3).f5), .int .i64 ((rd_T42 ((rd_T32 l0 a2).f3) a3).f6), .bool ((rd_T42 ((rd_T32 l0 a2).f3) a3).f7)] 42 (0, 0)) (by (with_reducible repeat (first | refine blk_drewN ?_ _ | refine blk_drew ?_ | refine blk_alloc ?_ _)); exact BK315.out)) : gb315 ≠ gb322)); have n6_ := Aside0.mk n5_.out.symm; clear BK315; clear HB; have BK315 := n0_; have HB := n1_; have BK322 := n2_; have GW322 := n3_; have GE322 := n4_; have NB315_322 := n5_; have NB322_315 := n6_; clear n0_ n1_ n2_ n3_ n4_ n5_ n6_; clear hb hbox hg; have hnb113 := NB322_315.out; have hnc113 := NB315_322.out; obtain ⟨hcz114_0, hcz114_1, hcz114_2, hcz114_3, hcz114_4, hcz114_5, hcz114_6, hcz114_7, hfz114_0, hfz114_1, hfz114_2, hfz114_3, hfz114_4, hfz114_5, hfz114_6, hfz114_7⟩ := cells8 BK322.out) | ((with_reducible refine gate_store (t := 42) (p := 16) rfl ?_); refine store_event (t := 42) (p := 16) (v := ?vo_w115) (w1 := ((((((((w112.setCell ⟨gb322, 0, none⟩ (.string ((rd_T42 ((rd_T32 l0 t316).f3) t317).f0))).setCell ⟨gb322, 1, none⟩ (.string ((rd_T42 ((rd_T32 l0 t316).f3) t317).f1))).setCell ⟨gb322, 2, none⟩ (.int .u64 ((rd_T42 ((rd_T32 l0 t316).f3) t317).f2))).setCell ⟨gb322, 3, none⟩ (.int .u64 ((rd_T42 ((rd_T32 l0 t316).f3) t317).f3))).setCell ⟨gb322, 4, none⟩ (.int .i64 ((rd_T42 ((rd_T32 l0 t316).f3) t317).f4))).setCell ⟨gb322, 5, none⟩ (.int .i64 ((rd_T42 ((rd_T32 l0 t316).f3) t317).f5))).setCell ⟨gb322, 6, none⟩ (.int .i64 ((rd_T42 ((rd_T32 l0 t316).f3) t317).f6))).setCell ⟨gb322, 7, none⟩ (.bool true))) ?hg ?ho ?hn ?hr ?_; (case ho => rfl); (case hg => rfl); (case hn => rfl); (case hr => first | (go_simp; done) | (go_simp; rfl)); intro w115 hw; have n0_ : Aside0 (w115.heap[gb315]? = some (.cells #[.string ((rd_T42 ((rd_T32 l0 a2).f3) a3).f0), .string ((rd_T42 ((rd_T32 l0 a2).f3) a3).f1), .int .u64 ((rd_T42 ((rd_T32 l0 a2).f3) a3).f2), .int .u64 ((rd_T42 ((rd_T32 l0 a2).f3) a3).f3), .int .i64 ((rd_T42 ((rd_T32 l0 a2).f3) a3).f4), .int .i64 ((rd_T42 ((rd_T32 l0 a2).f3) a3).f5), .int .i64 ((rd_T42 ((rd_T32 l0 a2).f3) a3).f6), .bool ((rd_T42 ((rd_T32 l0 a2).f3) a3).f7)] 42 (0, 0))) := ⟨(by rw [hw]; exact (by (with_reducible repeat (first | refine blk_drewN ?_ _ | refine blk_drew ?_ | refine blk_alloc ?_ _)); refine blk_far ?_ NB315_322.out _; (with_reducible repeat (first | refine blk_drewN ?_ _ | refine blk_drew ?_ | refine blk_alloc ?_ _)); refine blk_far ?_ NB315_322.out _; (with_reducible repeat (first | refine blk_drewN ?_ _ | refine blk_drew ?_ | refine blk_alloc ?_ _)); refine blk_far ?_ NB315_322.out _; (with_reducible repeat (first | refine blk_drewN ?_ _ | refine blk_drew ?_ | refine blk_alloc ?_ _)); refine blk_far ?_ NB315_322.out _; (with_reducible repeat (first | refine blk_drewN ?_ _ | refine blk_drew ?_ | refine blk_alloc ?_ _)); refine blk_far ?_ NB315_322.out _; (with_reducible repeat (first | refine blk_drewN ?_ _ | refine blk_drew ?_ | refine blk_alloc ?_ _)); refine blk_far ?_ NB315_322.out _; (with_reducible repeat (first | refine blk_drewN ?_ _ | refine blk_drew ?_ | refine blk_alloc ?_ _)); refine blk_far ?_ NB315_322.out _; (with_reducible repeat (first | refine blk_drewN ?_ _ | refine blk_drew ?_ | refine blk_alloc ?_ _)); refine blk_far ?_ NB315_322.out _; (with_reducible repeat (first | refine blk_drewN ?_ _ | refine blk_drew ?_ | refine blk_alloc ?_ _)); exact BK315.out))⟩; have n1_ : Aside0 (w115.heap[gb322]? = some (.cells #[.string ((rd_T42 ((rd_T32 l0 t316).f3) t317).f0), .string ((rd_T42 ((rd_T32 l0 t316).f3) t317).f1), .int .u64 ((rd_T42 ((rd_T32 l0 t316).f3) t317).f2), .int .u64 ((rd_T42 ((rd_T32 l0 t316).f3) t317).f3), .int .i64 ((rd_T42 ((rd_T32 l0 t316).f3) t317).f4), .int .i64 ((rd_T42 ((rd_T32 l0 t316).f3) t317).f5), .int .i64 ((rd_T42 ((rd_T32 l0 t316).f3) t317).f6), .bool true] 42 (0, 0))) := ⟨(by rw [hw]; exact (by (with_reducible repeat (first | refine blk_drewN ?_ _ | refine blk_drew ?_ | refine blk_alloc ?_ _)); refine blk_put (cs := #[.string ((rd_T42 ((rd_T32 l0 t316).f3) t317).f0), .string ((rd_T42 ((rd_T32 l0 t316).f3) t317).f1), .int .u64 ((rd_T42 ((rd_T32 l0 t316).f3) t317).f2), .int .u64 ((rd_T42 ((rd_T32 l0 t316).f3) t317).f3), .int .i64 ((rd_T42 ((rd_T32 l0 t316).f3) t317).f4), .int .i64 ((rd_T42 ((rd_T32 l0 t316).f3) t317).f5), .int .i64 ((rd_T42 ((rd_T32 l0 t316).f3) t317).f6), .bool false]) ?_ 7 _ rfl; (with_reducible repeat (first | refine blk_drewN ?_ _ | refine blk_drew ?_ | refine blk_alloc ?_ _)); refine blk_put (cs := #[.string ((rd_T42 ((rd_T32 l0 t316).f3) t317).f0), .string ((rd_T42 ((rd_T32 l0 t316).f3) t317).f1), .int .u64 ((rd_T42 ((rd_T32 l0 t316).f3) t317).f2), .int .u64 ((rd_T42 ((rd_T32 l0 t316).f3) t317).f3), .int .i64 ((rd_T42 ((rd_T32 l0 t316).f3) t317).f4), .int .i64 ((rd_T42 ((rd_T32 l0 t316).f3) t317).f5), .int .i64 0, .bool false]) ?_ 6 _ rfl; (with_reducible repeat (first | refine blk_drewN ?_ _ | refine blk_drew ?_ | refine blk_alloc ?_ _)); refine blk_put (cs := #[.string ((rd_T42 ((rd_T32 l0 t316).f3) t317).f0), .string ((rd_T42 ((rd_T32 l0 t316).f3) t317).f1), .int .u64 ((rd_T42 ((rd_T32 l0 t316).f3) t317).f2), .int .u64 ((rd_T42 ((rd_T32 l0 t316).f3) t317).f3), .int .i64 ((rd_T42 ((rd_T32 l0 t316).f3) t317).f4), .int .i64 0, .int .i64 0, .bool false]) ?_ 5 _ rfl; (with_reducible repeat (first | refine blk_drewN ?_ _ | refine blk_drew ?_ | refine blk_alloc ?_ _)); refine blk_put (cs := #[.string ((rd_T42 ((rd_T32 l0 t316).f3) t317).f0), .string ((rd_T42 ((rd_T32 l0 t316).f3) t317).f1), .int .u64 ((rd_T42 ((rd_T32 l0 t316).f3) t317).f2), .int .u64 ((rd_T42 ((rd_T32 l0 t316).f3) t317).f3), .int .i64 0, .int .i64 0, .int .i64 0, .bool false]) ?_ 4 _ rfl; (with_reducible repeat (first | refine blk_drewN ?_ _ | refine blk_drew ?_ | refine blk_alloc ?_ _)); refine blk_put (cs := #[.string ((rd_T42 ((rd_T32 l0 t316).f3) t317).f0), .string ((rd_T42 ((rd_T32 l0 t316).f3) t317).f1), .int .u64 ((rd_T42 ((rd_T32 l0 t316).f3) t317).f2), .int .u64 0, .int .i64 0, .int .i64 0, .int .i64 0, .bool false]) ?_ 3 _ rfl; (with_reducible repeat (first | refine blk_drewN ?_ _ | refine blk_drew ?_ | refine blk_alloc ?_ _)); refine blk_put (cs := #[.string ((rd_T42 ((rd_T32 l0 t316).f3) t317).f0), .string ((rd_T42 ((rd_T32 l0 t316).f3) t317).f1), .int .u64 0, .int .u64 0, .int .i64 0, .int .i64 0, .int .i64 0, .bool false]) ?_ 2 _ rfl; (with_reducible repeat (first | refine blk_drewN ?_ _ | refine blk_drew ?_ | refine blk_alloc ?_ _)); refine blk_put (cs := #[.string ((rd_T42 ((rd_T32 l0 t316).f3) t317).f0), .string (⟨#[]⟩ : ByteArray), .int .u64 0, .int .u64 0, .int .i64 0, .int .i64 0, .int .i64 0, .bool false]) ?_ 1 _ rfl; (with_reducible repeat (first | refine blk_drewN ?_ _ | refine blk_drew ?_ | refine blk_alloc ?_ _)); refine blk_put (cs := #[.string (⟨#[]⟩ : ByteArray), .string (⟨#[]⟩ : ByteArray), .int .u64 0, .int .u64 0, .int .i64 0, .int .i64 0, .int .i64 0, .bool false]) ?_ 0 _ rfl; (with_reducible repeat (first | refine blk_drewN ?_ _ | refine blk_drew ?_ | refine blk_alloc ?_ _)); exact BK322.out))⟩; have n2_ : Aside0 (Below w.heap.size w w115) := ⟨(by rw [hw]; exact (by repeat (first | (with_reducible first | exact HB.out | apply below_alloc | apply pw_below_drewN | apply below_drew1 | refine below_set ?_ GE315.out | refine below_set ?_ GE322.out) | exact HB.out)))⟩; clear hw; clear BK315; clear BK322; clear HB; have BK315 := n0_; have BK322 := n1_; have HB := n2_; clear n0_ n1_ n2_; obtain ⟨hcz116_0, hcz116_1, hcz116_2, hcz116_3, hcz116_4, hcz116_5, hcz116_6, hcz116_7, hfz116_0, hfz116_1, hfz116_2, hfz116_3, hfz116_4, hfz116_5, hfz116_6, hfz116_7⟩ := cells8 BK322.out) | ((with_reducible refine gate_dst (N := 130) rfl ?_); (with_reducible refine gate_callee (f := 14) rfl ?_); refine goesL_ (some 130) rfl rfl Try.func14 (by kernel_rfl) rfl #[.agg #[.string ((rd_T42 ((rd_T32 l0 t316).f3) t317).f0), .string ((rd_T42 ((rd_T32 l0 t316).f3) t317).f1), .int .u64 ((rd_T42 ((rd_T32 l0 t316).f3) t317).f2), .int .u64 ((rd_T42 ((rd_T32 l0 t316).f3) t317).f3), .int .i64 ((rd_T42 ((rd_T32 l0 t316).f3) t317).f4), .int .i64 ((rd_T42 ((rd_T32 l0 t316).f3) t317).f5), .int .i64 ((rd_T42 ((rd_T32 l0 t316).f3) t317).f6), .bool true]] rfl (by (try simp only [List.map_toArray, List.map_cons, List.map_nil]); first | done | rfl | (simp only [List.length_drop, List.length_take]; rfl)) ?_; (with_reducible refine (curtilageref12_Shown.calls ((rd_T42 ((rd_T32 l0 t316).f3) t317).f0) ((rd_T42 ((rd_T32 l0 t316).f3) t317).f1) ((rd_T42 ((rd_T32 l0 t316).f3) t317).f2) ((rd_T42 ((rd_T32 l0 t316).f3) t317).f3) ((rd_T42 ((rd_T32 l0 t316).f3) t317).f4) ((rd_T42 ((rd_T32 l0 t316).f3) t317).f5) ((rd_T42 ((rd_T32 l0 t316).f3) t317).f6) true true _ A62.out).mono ?_); rintro e w117 ⟨rfl, hb⟩; refine ⟨_, rfl, ?_⟩; have n0_ := Aside0.mk (blk_below (g := gb315) (o := .cells #[.string ((rd_T42 ((rd_T32 l0 a2).f3) a3).f0), .string ((rd_T42 ((rd_T32 l0 a2).f3) a3).f1), .int .u64 ((rd_T42 ((rd_T32 l0 a2).f3) a3).f2), .int .u64 ((rd_T42 ((rd_T32 l0 a2).f3) a3).f3), .int .i64 ((rd_T42 ((rd_T32 l0 a2).f3) a3).f4), .int .i64 ((rd_T42 ((rd_T32 l0 a2).f3) a3).f5), .int .i64 ((rd_T42 ((rd_T32 l0 a2).f3) a3).f6), .bool ((rd_T42 ((rd_T32 l0 a2).f3) a3).f7)] 42 (0, 0)) (by (with_reducible repeat (first | refine blk_drewN ?_ _ | refine blk_drew ?_ | refine blk_alloc ?_ _)); exact BK315.out) hb); have n1_ := Aside0.mk (blk_below (g := gb322) (o := .cells #[.string ((rd_T42 ((rd_T32 l0 t316).f3) t317).f0), .string ((rd_T42 ((rd_T32 l0 t316).f3) t317).f1), .int .u64 ((rd_T42 ((rd_T32 l0 t316).f3) t317).f2), .int .u64 ((rd_T42 ((rd_T32 l0 t316).f3) t317).f3), .int .i64 ((rd_T42 ((rd_T32 l0 t316).f3) t317).f4), .int .i64 ((rd_T42 ((rd_T32 l0 t316).f3) t317).f5), .int .i64 ((rd_T42 ((rd_T32 l0 t316).f3) t317).f6), .bool true] 42 (0, 0)) (by (with_reducible repeat (first | refine blk_drewN ?_ _ | refine blk_drew ?_ | refine blk_alloc ?_ _)); exact BK322.out) hb); have n2_ := Aside0.mk (below_step (by repeat (first | (with_reducible first | exact HB.out | apply below_alloc | apply pw_below_drewN | apply below_drew1 | refine below_set ?_ GE315.out | refine below_set ?_ GE322.out) | exact HB.out)) hb); clear BK315; clear BK322; clear HB; have BK315 := n0_; have BK322 := n1_; have HB := n2_; clear n0_ n1_ n2_; (try clear hb); (try clear hb2); (try clear hk); (try clear hi); obtain ⟨hcz118_0, hcz118_1, hcz118_2, hcz118_3, hcz118_4, hcz118_5, hcz118_6, hcz118_7, hfz118_0, hfz118_1, hfz118_2, hfz118_3, hfz118_4, hfz118_5, hfz118_6, hfz118_7⟩ := cells8 BK322.out; obtain ⟨hcz119_0, hcz119_1, hcz119_2, hcz119_3, hcz119_4, hcz119_5, hcz119_6, hcz119_7, hfz119_0, hfz119_1, hfz119_2, hfz119_3, hfz119_4, hfz119_5, hfz119_6, hfz119_7⟩ := cells8 BK315.out))
                                              go_ret
                                              exact ⟨by first | rfl | (simp [errW_none, errW_some] <;> rfl) | (simp [*, errW_none, errW_some] <;> rfl), by repeat (first | (with_reducible first | exact HB.out | apply below_alloc | apply pw_below_drewN | apply below_drew1 | refine below_set ?_ GE315.out | refine below_set ?_ GE322.out) | exact HB.out)⟩
                                            · rw [if_neg c111] at H
                                              have c111b0 : (((rd_T42 ((rd_T32 l0 a2).f3) a3).f1).toList == ([] : List UInt8)) = false := beq_eq_false_iff_ne.mpr c111
                                              have c111b1 : (((rd_T42 ((rd_T32 l0 a2).f3) a3).f1).toList != ([] : List UInt8)) = true := bne_iff_ne.mpr c111
                                              obtain rfl := Option.some.inj H
                                              have p320 : 0 ≤ (t316 : Int) := of_decide_eq_true (by first | (with_reducible assumption) | assumption)
                                              have q320 : t316 < (l0.length : Int) := of_decide_eq_true (by first | (with_reducible assumption) | assumption)
                                              obtain ⟨ad320, A320_1, c320_1, A320_2, c320_2, A320_3, c320_3, A320_4, c320_4, A320_5, c320_5, A320_6, c320_6, e320, hx320_0, hx320_1, hx320_2, hx320_3, hx320_4, hx320_5, hx320_6, hl320_1, hi320_1, hl320_2, hi320_2, hl320_3, hi320_3, hl320_4, hi320_4, hl320_5, hi320_5, hl320_6, hi320_6⟩ := at_T32 HR0.out t316 p320 q320
                                              obtain rfl : ad313 = ad320 := (by injection e320)
                                              replace hx320_0 := (HB.out.cell (World.block_lt_of_cell? w _ hx320_0)).trans hx320_0
                                              replace hx320_1 := (HB.out.cell (World.block_lt_of_cell? w _ hx320_1)).trans hx320_1
                                              replace hx320_2 := (HB.out.cell (World.block_lt_of_cell? w _ hx320_2)).trans hx320_2
                                              replace hx320_3 := (HB.out.cell (World.block_lt_of_cell? w _ hx320_3)).trans hx320_3
                                              replace hx320_4 := (HB.out.cell (World.block_lt_of_cell? w _ hx320_4)).trans hx320_4
                                              replace hx320_5 := (HB.out.cell (World.block_lt_of_cell? w _ hx320_5)).trans hx320_5
                                              replace hx320_6 := (HB.out.cell (World.block_lt_of_cell? w _ hx320_6)).trans hx320_6
                                              have HR320_1 := Aside0.mk hi320_1
                                              have HC320_1 := Aside0.mk hl320_1
                                              clear hi320_1 hl320_1
                                              have HR320_2 := Aside0.mk hi320_2
                                              have HC320_2 := Aside0.mk hl320_2
                                              clear hi320_2 hl320_2
                                              have HR320_3 := Aside0.mk hi320_3
                                              have HC320_3 := Aside0.mk hl320_3
                                              clear hi320_3 hl320_3
                                              have HR320_4 := Aside0.mk hi320_4
                                              have HC320_4 := Aside0.mk hl320_4
                                              clear hi320_4 hl320_4
                                              have HR320_5 := Aside0.mk hi320_5
                                              have HC320_5 := Aside0.mk hl320_5
                                              clear hi320_5 hl320_5
                                              have HR320_6 := Aside0.mk hi320_6
                                              have HC320_6 := Aside0.mk hl320_6
                                              clear hi320_6 hl320_6
                                              replace p320 := eq_true p320
                                              replace q320 := eq_true q320
                                              have p321 : 0 ≤ (t317 : Int) := of_decide_eq_true (by first | (with_reducible assumption) | assumption)
                                              have q321 : t317 < (((rd_T32 l0 t316).f3).length : Int) := of_decide_eq_true (by first | (with_reducible assumption) | assumption)
                                              obtain ⟨ad321, e321, hx321_0, hx321_1, hx321_2, hx321_3, hx321_4, hx321_5, hx321_6, hx321_7⟩ := at_T42 HR320_3.out t317 p321 q321
                                              (try rw [← Nbq108.out] at hx321_7)
                                              (try rw [← Nbq108.out] at hw321_7)
                                              cases e321
                                              replace hx321_0 := (HB.out.cell (World.block_lt_of_cell? w _ hx321_0)).trans hx321_0
                                              replace hx321_1 := (HB.out.cell (World.block_lt_of_cell? w _ hx321_1)).trans hx321_1
                                              replace hx321_2 := (HB.out.cell (World.block_lt_of_cell? w _ hx321_2)).trans hx321_2
                                              replace hx321_3 := (HB.out.cell (World.block_lt_of_cell? w _ hx321_3)).trans hx321_3
                                              replace hx321_4 := (HB.out.cell (World.block_lt_of_cell? w _ hx321_4)).trans hx321_4
                                              replace hx321_5 := (HB.out.cell (World.block_lt_of_cell? w _ hx321_5)).trans hx321_5
                                              replace hx321_6 := (HB.out.cell (World.block_lt_of_cell? w _ hx321_6)).trans hx321_6
                                              replace hx321_7 := (HB.out.cell (World.block_lt_of_cell? w _ hx321_7)).trans hx321_7
                                              replace p321 := eq_true p321
                                              replace q321 := eq_true q321
                                              go_wp2_with (first | ((with_reducible refine gate_dst (N := 16) rfl ?_); (try (refine gate_guard (by rfl) ?_; dsimp only)); refine box_event ?hg (N := 16) ?hd (cs := #[.string (⟨#[]⟩ : ByteArray), .string (⟨#[]⟩ : ByteArray), .int .u64 0, .int .u64 0, .int .i64 0, .int .i64 0, .int .i64 0, .bool false]) (t := 42) ?hr ?_; (case hd => rfl); (case hg => rfl); (case hr => first | (go_simp; done) | (go_simp; rfl)); intro gb322 hg w120 hbox hb; have n0_ := Aside0.mk (blk_below (g := gb315) (o := .cells #[.string ((rd_T42 ((rd_T32 l0 a2).f3) a3).f0), .string ((rd_T42 ((rd_T32 l0 a2).f3) a3).f1), .int .u64 ((rd_T42 ((rd_T32 l0 a2).f3) a3).f2), .int .u64 ((rd_T42 ((rd_T32 l0 a2).f3) a3).f3), .int .i64 ((rd_T42 ((rd_T32 l0 a2).f3) a3).f4), .int .i64 ((rd_T42 ((rd_T32 l0 a2).f3) a3).f5), .int .i64 ((rd_T42 ((rd_T32 l0 a2).f3) a3).f6), .bool ((rd_T42 ((rd_T32 l0 a2).f3) a3).f7)] 42 (0, 0)) (by (with_reducible repeat (first | refine blk_drewN ?_ _ | refine blk_drew ?_ | refine blk_alloc ?_ _)); exact BK315.out) hb); have n1_ := Aside0.mk (below_step (by repeat (first | (with_reducible first | exact HB.out | apply below_alloc | apply pw_below_drewN | apply below_drew1 | refine below_set ?_ GE315.out) | exact HB.out)) hb); have n2_ := Aside0.mk (hbox); have n3_ := Aside0.mk ((by rw [hg]; exact (below_size (by repeat (first | (with_reducible first | exact HB.out | apply below_alloc | apply pw_below_drewN | apply below_drew1 | refine below_set ?_ GE315.out) | exact HB.out))) : w.heap.size ≤ gb322)); have n4_ := n3_; have n5_ := Aside0.mk ((by rw [hg]; exact Nat.ne_of_lt (blk_lt (g := gb315) (o := .cells #[.string ((rd_T42 ((rd_T32 l0 a2).f3) a3).f0), .string ((rd_T42 ((rd_T32 l0 a2).f3) a3).f1), .int .u64 ((rd_T42 ((rd_T32 l0 a2).f3) a3).f2), .int .u64 ((rd_T42 ((rd_T32 l0 a2).f3) a3).f3), .int .i64 ((rd_T42 ((rd_T32 l0 a2).f3) a3).f4), .int .i64 ((rd_T42 ((rd_T32 l0 a2).f3) a3).f5), .int .i64 ((rd_T42 ((rd_T32 l0 a2).f3) a3).f6), .bool ((rd_T42 ((rd_T32 l0 a2).f3) a3).f7)] 42 (0, 0)) (by (with_reducible repeat (first | refine blk_drewN ?_ _ | refine blk_drew ?_ | refine blk_alloc ?_ _)); exact BK315.out)) : gb315 ≠ gb322)); have n6_ := Aside0.mk n5_.out.symm; clear BK315; clear HB; have BK315 := n0_; have HB := n1_; have BK322 := n2_; have GW322 := n3_; have GE322 := n4_; have NB315_322 := n5_; have NB322_315 := n6_; clear n0_ n1_ n2_ n3_ n4_ n5_ n6_; clear hb hbox hg; have hnb121 := NB322_315.out; have hnc121 := NB315_322.out; obtain ⟨hcz122_0, hcz122_1, hcz122_2, hcz122_3, hcz122_4, hcz122_5, hcz122_6, hcz122_7, hfz122_0, hfz122_1, hfz122_2, hfz122_3, hfz122_4, hfz122_5, hfz122_6, hfz122_7⟩ := cells8 BK322.out) | ((with_reducible refine gate_store (t := 42) (p := 16) rfl ?_); refine store_event (t := 42) (p := 16) (v := ?vo_w123) (w1 := ((((((((w120.setCell ⟨gb322, 0, none⟩ (.string ((rd_T42 ((rd_T32 l0 t316).f3) t317).f0))).setCell ⟨gb322, 1, none⟩ (.string ((rd_T42 ((rd_T32 l0 t316).f3) t317).f1))).setCell ⟨gb322, 2, none⟩ (.int .u64 ((rd_T42 ((rd_T32 l0 t316).f3) t317).f2))).setCell ⟨gb322, 3, none⟩ (.int .u64 ((rd_T42 ((rd_T32 l0 t316).f3) t317).f3))).setCell ⟨gb322, 4, none⟩ (.int .i64 ((rd_T42 ((rd_T32 l0 t316).f3) t317).f4))).setCell ⟨gb322, 5, none⟩ (.int .i64 ((rd_T42 ((rd_T32 l0 t316).f3) t317).f5))).setCell ⟨gb322, 6, none⟩ (.int .i64 ((rd_T42 ((rd_T32 l0 t316).f3) t317).f6))).setCell ⟨gb322, 7, none⟩ (.bool true))) ?hg ?ho ?hn ?hr ?_; (case ho => rfl); (case hg => rfl); (case hn => rfl); (case hr => first | (go_simp; done) | (go_simp; rfl)); intro w123 hw; have n0_ : Aside0 (w123.heap[gb315]? = some (.cells #[.string ((rd_T42 ((rd_T32 l0 a2).f3) a3).f0), .string ((rd_T42 ((rd_T32 l0 a2).f3) a3).f1), .int .u64 ((rd_T42 ((rd_T32 l0 a2).f3) a3).f2), .int .u64 ((rd_T42 ((rd_T32 l0 a2).f3) a3).f3), .int .i64 ((rd_T42 ((rd_T32 l0 a2).f3) a3).f4), .int .i64 ((rd_T42 ((rd_T32 l0 a2).f3) a3).f5), .int .i64 ((rd_T42 ((rd_T32 l0 a2).f3) a3).f6), .bool ((rd_T42 ((rd_T32 l0 a2).f3) a3).f7)] 42 (0, 0))) := ⟨(by rw [hw]; exact (by (with_reducible repeat (first | refine blk_drewN ?_ _ | refine blk_drew ?_ | refine blk_alloc ?_ _)); refine blk_far ?_ NB315_322.out _; (with_reducible repeat (first | refine blk_drewN ?_ _ | refine blk_drew ?_ | refine blk_alloc ?_ _)); refine blk_far ?_ NB315_322.out _; (with_reducible repeat (first | refine blk_drewN ?_ _ | refine blk_drew ?_ | refine blk_alloc ?_ _)); refine blk_far ?_ NB315_322.out _; (with_reducible repeat (first | refine blk_drewN ?_ _ | refine blk_drew ?_ | refine blk_alloc ?_ _)); refine blk_far ?_ NB315_322.out _; (with_reducible repeat (first | refine blk_drewN ?_ _ | refine blk_drew ?_ | refine blk_alloc ?_ _)); refine blk_far ?_ NB315_322.out _; (with_reducible repeat (first | refine blk_drewN ?_ _ | refine blk_drew ?_ | refine blk_alloc ?_ _)); refine blk_far ?_ NB315_322.out _; (with_reducible repeat (first | refine blk_drewN ?_ _ | refine blk_drew ?_ | refine blk_alloc ?_ _)); refine blk_far ?_ NB315_322.out _; (with_reducible repeat (first | refine blk_drewN ?_ _ | refine blk_drew ?_ | refine blk_alloc ?_ _)); refine blk_far ?_ NB315_322.out _; (with_reducible repeat (first | refine blk_drewN ?_ _ | refine blk_drew ?_ | refine blk_alloc ?_ _)); exact BK315.out))⟩; have n1_ : Aside0 (w123.heap[gb322]? = some (.cells #[.string ((rd_T42 ((rd_T32 l0 t316).f3) t317).f0), .string ((rd_T42 ((rd_T32 l0 t316).f3) t317).f1), .int .u64 ((rd_T42 ((rd_T32 l0 t316).f3) t317).f2), .int .u64 ((rd_T42 ((rd_T32 l0 t316).f3) t317).f3), .int .i64 ((rd_T42 ((rd_T32 l0 t316).f3) t317).f4), .int .i64 ((rd_T42 ((rd_T32 l0 t316).f3) t317).f5), .int .i64 ((rd_T42 ((rd_T32 l0 t316).f3) t317).f6), .bool true] 42 (0, 0))) := ⟨(by rw [hw]; exact (by (with_reducible repeat (first | refine blk_drewN ?_ _ | refine blk_drew ?_ | refine blk_alloc ?_ _)); refine blk_put (cs := #[.string ((rd_T42 ((rd_T32 l0 t316).f3) t317).f0), .string ((rd_T42 ((rd_T32 l0 t316).f3) t317).f1), .int .u64 ((rd_T42 ((rd_T32 l0 t316).f3) t317).f2), .int .u64 ((rd_T42 ((rd_T32 l0 t316).f3) t317).f3), .int .i64 ((rd_T42 ((rd_T32 l0 t316).f3) t317).f4), .int .i64 ((rd_T42 ((rd_T32 l0 t316).f3) t317).f5), .int .i64 ((rd_T42 ((rd_T32 l0 t316).f3) t317).f6), .bool false]) ?_ 7 _ rfl; (with_reducible repeat (first | refine blk_drewN ?_ _ | refine blk_drew ?_ | refine blk_alloc ?_ _)); refine blk_put (cs := #[.string ((rd_T42 ((rd_T32 l0 t316).f3) t317).f0), .string ((rd_T42 ((rd_T32 l0 t316).f3) t317).f1), .int .u64 ((rd_T42 ((rd_T32 l0 t316).f3) t317).f2), .int .u64 ((rd_T42 ((rd_T32 l0 t316).f3) t317).f3), .int .i64 ((rd_T42 ((rd_T32 l0 t316).f3) t317).f4), .int .i64 ((rd_T42 ((rd_T32 l0 t316).f3) t317).f5), .int .i64 0, .bool false]) ?_ 6 _ rfl; (with_reducible repeat (first | refine blk_drewN ?_ _ | refine blk_drew ?_ | refine blk_alloc ?_ _)); refine blk_put (cs := #[.string ((rd_T42 ((rd_T32 l0 t316).f3) t317).f0), .string ((rd_T42 ((rd_T32 l0 t316).f3) t317).f1), .int .u64 ((rd_T42 ((rd_T32 l0 t316).f3) t317).f2), .int .u64 ((rd_T42 ((rd_T32 l0 t316).f3) t317).f3), .int .i64 ((rd_T42 ((rd_T32 l0 t316).f3) t317).f4), .int .i64 0, .int .i64 0, .bool false]) ?_ 5 _ rfl; (with_reducible repeat (first | refine blk_drewN ?_ _ | refine blk_drew ?_ | refine blk_alloc ?_ _)); refine blk_put (cs := #[.string ((rd_T42 ((rd_T32 l0 t316).f3) t317).f0), .string ((rd_T42 ((rd_T32 l0 t316).f3) t317).f1), .int .u64 ((rd_T42 ((rd_T32 l0 t316).f3) t317).f2), .int .u64 ((rd_T42 ((rd_T32 l0 t316).f3) t317).f3), .int .i64 0, .int .i64 0, .int .i64 0, .bool false]) ?_ 4 _ rfl; (with_reducible repeat (first | refine blk_drewN ?_ _ | refine blk_drew ?_ | refine blk_alloc ?_ _)); refine blk_put (cs := #[.string ((rd_T42 ((rd_T32 l0 t316).f3) t317).f0), .string ((rd_T42 ((rd_T32 l0 t316).f3) t317).f1), .int .u64 ((rd_T42 ((rd_T32 l0 t316).f3) t317).f2), .int .u64 0, .int .i64 0, .int .i64 0, .int .i64 0, .bool false]) ?_ 3 _ rfl; (with_reducible repeat (first | refine blk_drewN ?_ _ | refine blk_drew ?_ | refine blk_alloc ?_ _)); refine blk_put (cs := #[.string ((rd_T42 ((rd_T32 l0 t316).f3) t317).f0), .string ((rd_T42 ((rd_T32 l0 t316).f3) t317).f1), .int .u64 0, .int .u64 0, .int .i64 0, .int .i64 0, .int .i64 0, .bool false]) ?_ 2 _ rfl; (with_reducible repeat (first | refine blk_drewN ?_ _ | refine blk_drew ?_ | refine blk_alloc ?_ _)); refine blk_put (cs := #[.string ((rd_T42 ((rd_T32 l0 t316).f3) t317).f0), .string (⟨#[]⟩ : ByteArray), .int .u64 0, .int .u64 0, .int .i64 0, .int .i64 0, .int .i64 0, .bool false]) ?_ 1 _ rfl; (with_reducible repeat (first | refine blk_drewN ?_ _ | refine blk_drew ?_ | refine blk_alloc ?_ _)); refine blk_put (cs := #[.string (⟨#[]⟩ : ByteArray), .string (⟨#[]⟩ : ByteArray), .int .u64 0, .int .u64 0, .int .i64 0, .int .i64 0, .int .i64 0, .bool false]) ?_ 0 _ rfl; (with_reducible repeat (first | refine blk_drewN ?_ _ | refine blk_drew ?_ | refine blk_alloc ?_ _)); exact BK322.out))⟩; have n2_ : Aside0 (Below w.heap.size w w123) := ⟨(by rw [hw]; exact (by repeat (first | (with_reducible first | exact HB.out | apply below_alloc | apply pw_below_drewN | apply below_drew1 | refine below_set ?_ GE315.out | refine below_set ?_ GE322.out) | exact HB.out)))⟩; clear hw; clear BK315; clear BK322; clear HB; have BK315 := n0_; have BK322 := n1_; have HB := n2_; clear n0_ n1_ n2_; obtain ⟨hcz124_0, hcz124_1, hcz124_2, hcz124_3, hcz124_4, hcz124_5, hcz124_6, hcz124_7, hfz124_0, hfz124_1, hfz124_2, hfz124_3, hfz124_4, hfz124_5, hfz124_6, hfz124_7⟩ := cells8 BK322.out) | ((with_reducible refine gate_dst (N := 130) rfl ?_); (with_reducible refine gate_callee (f := 14) rfl ?_); refine goesL_ (some 130) rfl rfl Try.func14 (by kernel_rfl) rfl #[.agg #[.string ((rd_T42 ((rd_T32 l0 t316).f3) t317).f0), .string ((rd_T42 ((rd_T32 l0 t316).f3) t317).f1), .int .u64 ((rd_T42 ((rd_T32 l0 t316).f3) t317).f2), .int .u64 ((rd_T42 ((rd_T32 l0 t316).f3) t317).f3), .int .i64 ((rd_T42 ((rd_T32 l0 t316).f3) t317).f4), .int .i64 ((rd_T42 ((rd_T32 l0 t316).f3) t317).f5), .int .i64 ((rd_T42 ((rd_T32 l0 t316).f3) t317).f6), .bool true]] rfl (by (try simp only [List.map_toArray, List.map_cons, List.map_nil]); first | done | rfl | (simp only [List.length_drop, List.length_take]; rfl)) ?_; (with_reducible refine (curtilageref12_Shown.calls ((rd_T42 ((rd_T32 l0 t316).f3) t317).f0) ((rd_T42 ((rd_T32 l0 t316).f3) t317).f1) ((rd_T42 ((rd_T32 l0 t316).f3) t317).f2) ((rd_T42 ((rd_T32 l0 t316).f3) t317).f3) ((rd_T42 ((rd_T32 l0 t316).f3) t317).f4) ((rd_T42 ((rd_T32 l0 t316).f3) t317).f5) ((rd_T42 ((rd_T32 l0 t316).f3) t317).f6) true true _ A62.out).mono ?_); rintro e w125 ⟨rfl, hb⟩; refine ⟨_, rfl, ?_⟩; have n0_ := Aside0.mk (blk_below (g := gb315) (o := .cells #[.string ((rd_T42 ((rd_T32 l0 a2).f3) a3).f0), .string ((rd_T42 ((rd_T32 l0 a2).f3) a3).f1), .int .u64 ((rd_T42 ((rd_T32 l0 a2).f3) a3).f2), .int .u64 ((rd_T42 ((rd_T32 l0 a2).f3) a3).f3), .int .i64 ((rd_T42 ((rd_T32 l0 a2).f3) a3).f4), .int .i64 ((rd_T42 ((rd_T32 l0 a2).f3) a3).f5), .int .i64 ((rd_T42 ((rd_T32 l0 a2).f3) a3).f6), .bool ((rd_T42 ((rd_T32 l0 a2).f3) a3).f7)] 42 (0, 0)) (by (with_reducible repeat (first | refine blk_drewN ?_ _ | refine blk_drew ?_ | refine blk_alloc ?_ _)); exact BK315.out) hb); have n1_ := Aside0.mk (blk_below (g := gb322) (o := .cells #[.string ((rd_T42 ((rd_T32 l0 t316).f3) t317).f0), .string ((rd_T42 ((rd_T32 l0 t316).f3) t317).f1), .int .u64 ((rd_T42 ((rd_T32 l0 t316).f3) t317).f2), .int .u64 ((rd_T42 ((rd_T32 l0 t316).f3) t317).f3), .int .i64 ((rd_T42 ((rd_T32 l0 t316).f3) t317).f4), .int .i64 ((rd_T42 ((rd_T32 l0 t316).f3) t317).f5), .int .i64 ((rd_T42 ((rd_T32 l0 t316).f3) t317).f6), .bool true] 42 (0, 0)) (by (with_reducible repeat (first | refine blk_drewN ?_ _ | refine blk_drew ?_ | refine blk_alloc ?_ _)); exact BK322.out) hb); have n2_ := Aside0.mk (below_step (by repeat (first | (with_reducible first | exact HB.out | apply below_alloc | apply pw_below_drewN | apply below_drew1 | refine below_set ?_ GE315.out | refine below_set ?_ GE322.out) | exact HB.out)) hb); clear BK315; clear BK322; clear HB; have BK315 := n0_; have BK322 := n1_; have HB := n2_; clear n0_ n1_ n2_; (try clear hb); (try clear hb2); (try clear hk); (try clear hi); obtain ⟨hcz126_0, hcz126_1, hcz126_2, hcz126_3, hcz126_4, hcz126_5, hcz126_6, hcz126_7, hfz126_0, hfz126_1, hfz126_2, hfz126_3, hfz126_4, hfz126_5, hfz126_6, hfz126_7⟩ := cells8 BK322.out; obtain ⟨hcz127_0, hcz127_1, hcz127_2, hcz127_3, hcz127_4, hcz127_5, hcz127_6, hcz127_7, hfz127_0, hfz127_1, hfz127_2, hfz127_3, hfz127_4, hfz127_5, hfz127_6, hfz127_7⟩ := cells8 BK315.out))
                                              go_ret
                                              exact ⟨by first | rfl | (simp [errW_none, errW_some] <;> rfl) | (simp [*, errW_none, errW_some] <;> rfl), by repeat (first | (with_reducible first | exact HB.out | apply below_alloc | apply pw_below_drewN | apply below_drew1 | refine below_set ?_ GE315.out | refine below_set ?_ GE322.out) | exact HB.out)⟩
                                          · rw [if_neg c110] at H
                                            have c110b0 : (((rd_T42 ((rd_T32 l0 t316).f3) t317).f0).toList == ((rd_T42 ((rd_T32 l0 a2).f3) a3).f0).toList) = false := beq_eq_false_iff_ne.mpr c110
                                            have c110b1 : (((rd_T42 ((rd_T32 l0 t316).f3) t317).f0).toList != ((rd_T42 ((rd_T32 l0 a2).f3) a3).f0).toList) = true := bne_iff_ne.mpr c110
                                            exact absurd ((Option.some.inj H).trans HT.out) (by decide)
                                        · replace c109 := Bool.eq_false_iff.mpr c109
                                          subst c109
                                          have H1 : (some false) = some r := by rw [if_neg (show ¬ (false = true) by decide)] at H; exact H
                                          clear H
                                          have H := H1
                                          clear H1
                                          exact absurd ((Option.some.inj H).trans HT.out) (by decide)
                                      · replace c107 := Bool.eq_false_iff.mpr c107
                                        subst c107
                                        have H1 : (some false) = some r := by rw [if_neg (show ¬ (false = true) by decide)] at H; exact H
                                        clear H
                                        have H := H1
                                        clear H1
                                        exact absurd ((Option.some.inj H).trans HT.out) (by decide)
                                    · replace c106 := Bool.eq_false_iff.mpr c106
                                      subst c106
                                      have H1 : (some false) = some r := by rw [if_neg (show ¬ (false = true) by decide)] at H; exact H
                                      clear H
                                      have H := H1
                                      clear H1
                                      exact absurd ((Option.some.inj H).trans HT.out) (by decide)
                                · rw [if_neg c61] at H
                                  exact absurd H (by simp)
                              · rw [if_neg c60] at H
                                exact absurd H (by simp)
                            · rw [if_neg c59] at H
                              exact absurd H (by simp)
                          · rw [if_neg c58] at H
                            exact absurd H (by simp)
                · rw [if_neg c24] at H
                  have c24b0 : (t318 == 0) = false := beq_eq_false_iff_ne.mpr c24
                  have c24b1 : (t318 != 0) = true := bne_iff_ne.mpr c24
                  by_cases c155 : t309 = true
                  · subst c155
                    have H1 : (if ((rd_T42 ((rd_T32 l0 a2).f3) a3).f7 = true) then (some false) else (some (((rd_T42 ((rd_T32 l0 a2).f3) a3).f5) != 3))) = some r := by rw [if_pos rfl] at H; exact H
                    clear H
                    have H := H1
                    clear H1
                    obtain ⟨bq156, hbq156⟩ : ∃ b_ : Bool, b_ = ((rd_T42 ((rd_T32 l0 a2).f3) a3).f7) := ⟨_, rfl⟩
                    replace H : (if (bq156 = true) then (some false) else (some (((rd_T42 ((rd_T32 l0 a2).f3) a3).f5) != 3))) = some r := by rw [← hbq156] at H; exact H
                    have Nbq156 := Aside0.mk hbq156
                    clear hbq156
                    (try (have h_ := A5.out; rw [← Nbq156.out] at h_; clear A5; have A5 := Aside0.mk h_; clear h_))
                    (try (have h_ := A6.out; rw [← Nbq156.out] at h_; clear A6; have A6 := Aside0.mk h_; clear h_))
                    (try (have h_ := A7.out; rw [← Nbq156.out] at h_; clear A7; have A7 := Aside0.mk h_; clear h_))
                    (try (have h_ := A23.out; rw [← Nbq156.out] at h_; clear A23; have A23 := Aside0.mk h_; clear h_))
                    (try (have h_ := A62.out; rw [← Nbq156.out] at h_; clear A62; have A62 := Aside0.mk h_; clear h_))
                    by_cases c157 : (bq156 = true)
                    · subst c157
                      have H1 : (some false) = some r := by rw [if_pos rfl] at H; exact H
                      clear H
                      have H := H1
                      clear H1
                      exact absurd ((Option.some.inj H).trans HT.out) (by decide)
                    · replace c157 := Bool.eq_false_iff.mpr c157
                      subst c157
                      have H1 : (some (((rd_T42 ((rd_T32 l0 a2).f3) a3).f5) != 3)) = some r := by rw [if_neg (show ¬ (false = true) by decide)] at H; exact H
                      clear H
                      have H := H1
                      clear H1
                      obtain rfl := Option.some.inj H
                      have p313 : 0 ≤ (a2 : Int) := of_decide_eq_true (by first | (with_reducible assumption) | assumption)
                      have q313 : a2 < (l0.length : Int) := of_decide_eq_true (by first | (with_reducible assumption) | assumption)
                      obtain ⟨ad313, A313_1, c313_1, A313_2, c313_2, A313_3, c313_3, A313_4, c313_4, A313_5, c313_5, A313_6, c313_6, e313, hx313_0, hx313_1, hx313_2, hx313_3, hx313_4, hx313_5, hx313_6, hl313_1, hi313_1, hl313_2, hi313_2, hl313_3, hi313_3, hl313_4, hi313_4, hl313_5, hi313_5, hl313_6, hi313_6⟩ := at_T32 HR0.out a2 p313 q313
                      cases e313
                      replace hx313_0 := (HB.out.cell (World.block_lt_of_cell? w _ hx313_0)).trans hx313_0
                      replace hx313_1 := (HB.out.cell (World.block_lt_of_cell? w _ hx313_1)).trans hx313_1
                      replace hx313_2 := (HB.out.cell (World.block_lt_of_cell? w _ hx313_2)).trans hx313_2
                      replace hx313_3 := (HB.out.cell (World.block_lt_of_cell? w _ hx313_3)).trans hx313_3
                      replace hx313_4 := (HB.out.cell (World.block_lt_of_cell? w _ hx313_4)).trans hx313_4
                      replace hx313_5 := (HB.out.cell (World.block_lt_of_cell? w _ hx313_5)).trans hx313_5
                      replace hx313_6 := (HB.out.cell (World.block_lt_of_cell? w _ hx313_6)).trans hx313_6
                      have HR313_1 := Aside0.mk hi313_1
                      have HC313_1 := Aside0.mk hl313_1
                      clear hi313_1 hl313_1
                      have HR313_2 := Aside0.mk hi313_2
                      have HC313_2 := Aside0.mk hl313_2
                      clear hi313_2 hl313_2
                      have HR313_3 := Aside0.mk hi313_3
                      have HC313_3 := Aside0.mk hl313_3
                      clear hi313_3 hl313_3
                      have HR313_4 := Aside0.mk hi313_4
                      have HC313_4 := Aside0.mk hl313_4
                      clear hi313_4 hl313_4
                      have HR313_5 := Aside0.mk hi313_5
                      have HC313_5 := Aside0.mk hl313_5
                      clear hi313_5 hl313_5
                      have HR313_6 := Aside0.mk hi313_6
                      have HC313_6 := Aside0.mk hl313_6
                      clear hi313_6 hl313_6
                      replace p313 := eq_true p313
                      replace q313 := eq_true q313
                      have p314 : 0 ≤ (a3 : Int) := of_decide_eq_true (by first | (with_reducible assumption) | assumption)
                      have q314 : a3 < (((rd_T32 l0 a2).f3).length : Int) := of_decide_eq_true (by first | (with_reducible assumption) | assumption)
                      obtain ⟨ad314, e314, hx314_0, hx314_1, hx314_2, hx314_3, hx314_4, hx314_5, hx314_6, hx314_7⟩ := at_T42 HR313_3.out a3 p314 q314
                      (try rw [← Nbq156.out] at hx314_7)
                      (try rw [← Nbq156.out] at hw314_7)
                      cases e314
                      replace hx314_0 := (HB.out.cell (World.block_lt_of_cell? w _ hx314_0)).trans hx314_0
                      replace hx314_1 := (HB.out.cell (World.block_lt_of_cell? w _ hx314_1)).trans hx314_1
                      replace hx314_2 := (HB.out.cell (World.block_lt_of_cell? w _ hx314_2)).trans hx314_2
                      replace hx314_3 := (HB.out.cell (World.block_lt_of_cell? w _ hx314_3)).trans hx314_3
                      replace hx314_4 := (HB.out.cell (World.block_lt_of_cell? w _ hx314_4)).trans hx314_4
                      replace hx314_5 := (HB.out.cell (World.block_lt_of_cell? w _ hx314_5)).trans hx314_5
                      replace hx314_6 := (HB.out.cell (World.block_lt_of_cell? w _ hx314_6)).trans hx314_6
                      replace hx314_7 := (HB.out.cell (World.block_lt_of_cell? w _ hx314_7)).trans hx314_7
                      replace p314 := eq_true p314
                      replace q314 := eq_true q314
                      go_wp2_with (first | ((with_reducible refine gate_dst (N := 12) rfl ?_); (try (refine gate_guard (by rfl) ?_; dsimp only)); refine box_event ?hg (N := 12) ?hd (cs := #[.string (⟨#[]⟩ : ByteArray), .string (⟨#[]⟩ : ByteArray), .int .u64 0, .int .u64 0, .int .i64 0, .int .i64 0, .int .i64 0, .bool false]) (t := 42) ?hr ?_; (case hd => rfl); (case hg => rfl); (case hr => first | (go_simp; done) | (go_simp; rfl)); intro gb315 hg w163 hbox hb; have n0_ := Aside0.mk (below_step (by repeat (first | (with_reducible first | exact HB.out | apply below_alloc | apply pw_below_drewN | apply below_drew1) | exact HB.out)) hb); have n1_ := Aside0.mk (hbox); have n2_ := Aside0.mk ((by rw [hg]; exact (below_size (by repeat (first | (with_reducible first | exact HB.out | apply below_alloc | apply pw_below_drewN | apply below_drew1) | exact HB.out))) : w.heap.size ≤ gb315)); have n3_ := n2_; clear HB; have HB := n0_; have BK315 := n1_; have GW315 := n2_; have GE315 := n3_; clear n0_ n1_ n2_ n3_; clear hb hbox hg; obtain ⟨hcz164_0, hcz164_1, hcz164_2, hcz164_3, hcz164_4, hcz164_5, hcz164_6, hcz164_7, hfz164_0, hfz164_1, hfz164_2, hfz164_3, hfz164_4, hfz164_5, hfz164_6, hfz164_7⟩ := cells8 BK315.out) | ((with_reducible refine gate_store (t := 42) (p := 12) rfl ?_); refine store_event (t := 42) (p := 12) (v := ?vo_w165) (w1 := ((((((((w163.setCell ⟨gb315, 0, none⟩ (.string ((rd_T42 ((rd_T32 l0 a2).f3) a3).f0))).setCell ⟨gb315, 1, none⟩ (.string ((rd_T42 ((rd_T32 l0 a2).f3) a3).f1))).setCell ⟨gb315, 2, none⟩ (.int .u64 ((rd_T42 ((rd_T32 l0 a2).f3) a3).f2))).setCell ⟨gb315, 3, none⟩ (.int .u64 ((rd_T42 ((rd_T32 l0 a2).f3) a3).f3))).setCell ⟨gb315, 4, none⟩ (.int .i64 ((rd_T42 ((rd_T32 l0 a2).f3) a3).f4))).setCell ⟨gb315, 5, none⟩ (.int .i64 ((rd_T42 ((rd_T32 l0 a2).f3) a3).f5))).setCell ⟨gb315, 6, none⟩ (.int .i64 ((rd_T42 ((rd_T32 l0 a2).f3) a3).f6))).setCell ⟨gb315, 7, none⟩ (.bool false))) ?hg ?ho ?hn ?hr ?_; (case ho => rfl); (case hg => rfl); (case hn => rfl); (case hr => first | (go_simp; done) | (go_simp; rfl)); intro w165 hw; have n0_ : Aside0 (w165.heap[gb315]? = some (.cells #[.string ((rd_T42 ((rd_T32 l0 a2).f3) a3).f0), .string ((rd_T42 ((rd_T32 l0 a2).f3) a3).f1), .int .u64 ((rd_T42 ((rd_T32 l0 a2).f3) a3).f2), .int .u64 ((rd_T42 ((rd_T32 l0 a2).f3) a3).f3), .int .i64 ((rd_T42 ((rd_T32 l0 a2).f3) a3).f4), .int .i64 ((rd_T42 ((rd_T32 l0 a2).f3) a3).f5), .int .i64 ((rd_T42 ((rd_T32 l0 a2).f3) a3).f6), .bool false] 42 (0, 0))) := ⟨(by rw [hw]; exact (by (with_reducible repeat (first | refine blk_drewN ?_ _ | refine blk_drew ?_ | refine blk_alloc ?_ _)); refine blk_put (cs := #[.string ((rd_T42 ((rd_T32 l0 a2).f3) a3).f0), .string ((rd_T42 ((rd_T32 l0 a2).f3) a3).f1), .int .u64 ((rd_T42 ((rd_T32 l0 a2).f3) a3).f2), .int .u64 ((rd_T42 ((rd_T32 l0 a2).f3) a3).f3), .int .i64 ((rd_T42 ((rd_T32 l0 a2).f3) a3).f4), .int .i64 ((rd_T42 ((rd_T32 l0 a2).f3) a3).f5), .int .i64 ((rd_T42 ((rd_T32 l0 a2).f3) a3).f6), .bool false]) ?_ 7 _ rfl; (with_reducible repeat (first | refine blk_drewN ?_ _ | refine blk_drew ?_ | refine blk_alloc ?_ _)); refine blk_put (cs := #[.string ((rd_T42 ((rd_T32 l0 a2).f3) a3).f0), .string ((rd_T42 ((rd_T32 l0 a2).f3) a3).f1), .int .u64 ((rd_T42 ((rd_T32 l0 a2).f3) a3).f2), .int .u64 ((rd_T42 ((rd_T32 l0 a2).f3) a3).f3), .int .i64 ((rd_T42 ((rd_T32 l0 a2).f3) a3).f4), .int .i64 ((rd_T42 ((rd_T32 l0 a2).f3) a3).f5), .int .i64 0, .bool false]) ?_ 6 _ rfl; (with_reducible repeat (first | refine blk_drewN ?_ _ | refine blk_drew ?_ | refine blk_alloc ?_ _)); refine blk_put (cs := #[.string ((rd_T42 ((rd_T32 l0 a2).f3) a3).f0), .string ((rd_T42 ((rd_T32 l0 a2).f3) a3).f1), .int .u64 ((rd_T42 ((rd_T32 l0 a2).f3) a3).f2), .int .u64 ((rd_T42 ((rd_T32 l0 a2).f3) a3).f3), .int .i64 ((rd_T42 ((rd_T32 l0 a2).f3) a3).f4), .int .i64 0, .int .i64 0, .bool false]) ?_ 5 _ rfl; (with_reducible repeat (first | refine blk_drewN ?_ _ | refine blk_drew ?_ | refine blk_alloc ?_ _)); refine blk_put (cs := #[.string ((rd_T42 ((rd_T32 l0 a2).f3) a3).f0), .string ((rd_T42 ((rd_T32 l0 a2).f3) a3).f1), .int .u64 ((rd_T42 ((rd_T32 l0 a2).f3) a3).f2), .int .u64 ((rd_T42 ((rd_T32 l0 a2).f3) a3).f3), .int .i64 0, .int .i64 0, .int .i64 0, .bool false]) ?_ 4 _ rfl; (with_reducible repeat (first | refine blk_drewN ?_ _ | refine blk_drew ?_ | refine blk_alloc ?_ _)); refine blk_put (cs := #[.string ((rd_T42 ((rd_T32 l0 a2).f3) a3).f0), .string ((rd_T42 ((rd_T32 l0 a2).f3) a3).f1), .int .u64 ((rd_T42 ((rd_T32 l0 a2).f3) a3).f2), .int .u64 0, .int .i64 0, .int .i64 0, .int .i64 0, .bool false]) ?_ 3 _ rfl; (with_reducible repeat (first | refine blk_drewN ?_ _ | refine blk_drew ?_ | refine blk_alloc ?_ _)); refine blk_put (cs := #[.string ((rd_T42 ((rd_T32 l0 a2).f3) a3).f0), .string ((rd_T42 ((rd_T32 l0 a2).f3) a3).f1), .int .u64 0, .int .u64 0, .int .i64 0, .int .i64 0, .int .i64 0, .bool false]) ?_ 2 _ rfl; (with_reducible repeat (first | refine blk_drewN ?_ _ | refine blk_drew ?_ | refine blk_alloc ?_ _)); refine blk_put (cs := #[.string ((rd_T42 ((rd_T32 l0 a2).f3) a3).f0), .string (⟨#[]⟩ : ByteArray), .int .u64 0, .int .u64 0, .int .i64 0, .int .i64 0, .int .i64 0, .bool false]) ?_ 1 _ rfl; (with_reducible repeat (first | refine blk_drewN ?_ _ | refine blk_drew ?_ | refine blk_alloc ?_ _)); refine blk_put (cs := #[.string (⟨#[]⟩ : ByteArray), .string (⟨#[]⟩ : ByteArray), .int .u64 0, .int .u64 0, .int .i64 0, .int .i64 0, .int .i64 0, .bool false]) ?_ 0 _ rfl; (with_reducible repeat (first | refine blk_drewN ?_ _ | refine blk_drew ?_ | refine blk_alloc ?_ _)); exact BK315.out))⟩; have n1_ : Aside0 (Below w.heap.size w w165) := ⟨(by rw [hw]; exact (by repeat (first | (with_reducible first | exact HB.out | apply below_alloc | apply pw_below_drewN | apply below_drew1 | refine below_set ?_ GE315.out) | exact HB.out)))⟩; clear hw; clear BK315; clear HB; have BK315 := n0_; have HB := n1_; clear n0_ n1_) | ((with_reducible refine gate_dst (N := 69) rfl ?_); (with_reducible refine gate_callee (f := 11) rfl ?_); refine goesL_ (some 69) rfl rfl Try.func11 (by kernel_rfl) rfl #[.slice (some ad313) l0.length c0, .slice A1 l1.length c1, .int .i64 a2, .int .i64 a3] rfl (by (try simp only [List.map_toArray, List.map_cons, List.map_nil]); first | done | rfl | (simp only [List.length_drop, List.length_take]; rfl)) ?_; (with_reducible refine (lookup_Bind.calls kj7 _ _ l0 _ _ l1 a2 a3 t316 t317 t318 _ ?side1 ?side2 ?side3 ?side4 A23.out).mono ?_); (case side1 => repeat (first | exact (Kd.C_below HR0.out HB.out) | (with_reducible refine Kd.C_alloc ?_ _) | (with_reducible refine Kd.C_drewN ?_ _) | (with_reducible refine Kd.C_drew ?_))); (case side2 => exact HC0.out); (case side3 => repeat (first | exact (Kd.C_below HR1.out HB.out) | (with_reducible refine Kd.C_alloc ?_ _) | (with_reducible refine Kd.C_drewN ?_ _) | (with_reducible refine Kd.C_drew ?_))); (case side4 => exact HC1.out); rintro e w166 ⟨rfl, hb⟩; refine ⟨_, rfl, ?_⟩; have n0_ := Aside0.mk (blk_below (g := gb315) (o := .cells #[.string ((rd_T42 ((rd_T32 l0 a2).f3) a3).f0), .string ((rd_T42 ((rd_T32 l0 a2).f3) a3).f1), .int .u64 ((rd_T42 ((rd_T32 l0 a2).f3) a3).f2), .int .u64 ((rd_T42 ((rd_T32 l0 a2).f3) a3).f3), .int .i64 ((rd_T42 ((rd_T32 l0 a2).f3) a3).f4), .int .i64 ((rd_T42 ((rd_T32 l0 a2).f3) a3).f5), .int .i64 ((rd_T42 ((rd_T32 l0 a2).f3) a3).f6), .bool false] 42 (0, 0)) (by (with_reducible repeat (first | refine blk_drewN ?_ _ | refine blk_drew ?_ | refine blk_alloc ?_ _)); exact BK315.out) hb); have n1_ := Aside0.mk (below_step (by repeat (first | (with_reducible first | exact HB.out | apply below_alloc | apply pw_below_drewN | apply below_drew1 | refine below_set ?_ GE315.out) | exact HB.out)) hb); clear BK315; clear HB; have BK315 := n0_; have HB := n1_; clear n0_ n1_; (try clear hb); (try clear hb2); (try clear hk); (try clear hi); obtain ⟨hcz167_0, hcz167_1, hcz167_2, hcz167_3, hcz167_4, hcz167_5, hcz167_6, hcz167_7, hfz167_0, hfz167_1, hfz167_2, hfz167_3, hfz167_4, hfz167_5, hfz167_6, hfz167_7⟩ := cells8 BK315.out))
                      go_ret
                      exact ⟨by first | rfl | (simp [errW_none, errW_some] <;> rfl) | (simp [*, errW_none, errW_some] <;> rfl), by repeat (first | (with_reducible first | exact HB.out | apply below_alloc | apply pw_below_drewN | apply below_drew1 | refine below_set ?_ GE315.out) | exact HB.out)⟩
                  · replace c155 := Bool.eq_false_iff.mpr c155
                    subst c155
                    have H1 : (some false) = some r := by rw [if_neg (show ¬ (false = true) by decide)] at H; exact H
                    clear H
                    have H := H1
                    clear H1
                    exact absurd ((Option.some.inj H).trans HT.out) (by decide)
              · rw [if_neg c22] at H
                exact absurd H (by simp)
            · rw [if_neg c21] at H
              exact absurd H (by simp)
          · rw [if_neg c20] at H
            exact absurd H (by simp)
        · rw [if_neg c19] at H
          exact absurd H (by simp)

end Go.Proofs.Ytdgmkmjmddjcfaa.P
