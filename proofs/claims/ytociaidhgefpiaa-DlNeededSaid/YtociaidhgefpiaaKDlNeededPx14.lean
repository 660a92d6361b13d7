/- What functions of the program, and of its laws, give, each proved of its code by a walk; no condition. -/
import Derived.Test.YtociaidhgefpiaaKDlNeededPx0
import Derived.Test.YtociaidhgefpiaaKDlNeededPx1
import Derived.Test.YtociaidhgefpiaaKDlNeededPx10
import Derived.Test.YtociaidhgefpiaaKDlNeededPx11
import Derived.Test.YtociaidhgefpiaaKDlNeededPx12
import Derived.Test.YtociaidhgefpiaaKDlNeededPx13
namespace Go.Proofs.Ytociaidhgefpiaa.P
open Go.RowKit Go.Proofs.YtociaidhgefpiaaW.PrintWords Go.Proofs.YtociaidhgefpiaaW.PrintLast Go.Proofs.YtociaidhgefpiaaW.PrintMore
attribute [local go_sem] max2_int min2_int max_two min_two max_three min_three max_four min_four   -- for this text's walks alone
set_option linter.unusedVariables false
set_option linter.unusedSimpArgs false

mutual
def curtilagelaw21_DlNeeded.j0 : Nat → List (S38) → ByteArray → List (S58) → Bool → Bool → Option (Bool)
  | 0, _, _, _, _, _ => none
  | k + 1, x0, x1, x2, x7, x25 => if x25 = true then (some x7) else ((curtilagelaw21_made.f k x0 x1 x2).bind fun bt432 => (if bt432.2.2 = true then ((curtilageref13_Right.f k bt432.1 (x0.length : Int)).bind fun t440 => (if t440 = true then (curtilagelaw21_DlNeeded.j1 k x0 x1 x7 ((bt432.2.1.length : Int) == 0) bt432.1 bt432.2.1) else (curtilagelaw21_DlNeeded.j1 k x0 x1 x7 true bt432.1 bt432.2.1))) else (some x7)))
def curtilagelaw21_DlNeeded.j1 : Nat → List (S38) → ByteArray → Bool → Bool → List Int → List Int → Option (Bool)
  | 0, _, _, _, _, _, _ => none
  | k + 1, x0, x1, x7, x49, x440000, x440001 => if x49 = true then (some false) else (curtilagelaw21_DlNeeded.l0 k x0 x1 x7 0 x440000 x440001)
def curtilagelaw21_DlNeeded.l0 : Nat → List (S38) → ByteArray → Bool → Int → List Int → List Int → Option (Bool)
  | 0, _, _, _, _, _, _ => none
  | k + 1, x0, x1, x7, x12, x440000, x440001 => if x12 < (x440001.length : Int) then (if 0 ≤ x12 then (if (rd x440001 x12) < 0 then (some false) else (if (rd x440001 x12) ≥ (x0.length : Int) then (some false) else (curtilagelaw21_DlNeeded.l0 k x0 x1 x7 (wrap64 (x12 + 1)) x440000 x440001))) else (none)) else (curtilagelaw21_DlNeeded.l1 k x0 x1 x7 0 x440000 x440001)
def curtilagelaw21_DlNeeded.l1 : Nat → List (S38) → ByteArray → Bool → Int → List Int → List Int → Option (Bool)
  | 0, _, _, _, _, _, _ => none
  | k + 1, x0, x1, x7, x13, x440000, x440001 => if x13 < (x0.length : Int) then ((curtilageref13_Has.f k x440000 x13).bind fun t445 => ((curtilageref21_Needed.f k x0 x440001 x13).bind fun t446 => (if (t445 != t446) = true then (some false) else (curtilagelaw21_DlNeeded.l1 k x0 x1 x7 (wrap64 (x13 + 1)) x440000 x440001)))) else (if x7 = true then (if 0 < (x440001.length : Int) then (if 0 ≤ (rd x440001 0) then (if (rd x440001 0) < (x0.length : Int) then (some (((rd_T38 x0 (rd x440001 0)).f0).toList == x1.toList)) else (none)) else (none)) else (none)) else (some false))
end
def curtilagelaw21_DlNeeded.f (k : Nat) (l0 : List (S38)) (a1 : ByteArray) (l2 : List (S58)) : Option (Bool) := (curtilagelaw21_awake.f k).bind fun t430 => ((curtilageref13_Short.f k l0 12).bind fun t431 => (if t431 = true then (curtilagelaw21_DlNeeded.j0 k l0 a1 l2 t430 (decide ((l2.length : Int) > 40))) else (curtilagelaw21_DlNeeded.j0 k l0 a1 l2 t430 true)))
theorem curtilagelaw21_DlNeeded.mono_l : ∀ k, (∀ y0 y1 y2 y3 y4, LeO (curtilagelaw21_DlNeeded.j0 k y0 y1 y2 y3 y4) (curtilagelaw21_DlNeeded.j0 (k + 1) y0 y1 y2 y3 y4)) ∧ (∀ y0 y1 y2 y3 y4 y5, LeO (curtilagelaw21_DlNeeded.j1 k y0 y1 y2 y3 y4 y5) (curtilagelaw21_DlNeeded.j1 (k + 1) y0 y1 y2 y3 y4 y5)) ∧ (∀ y0 y1 y2 y3 y4 y5, LeO (curtilagelaw21_DlNeeded.l0 k y0 y1 y2 y3 y4 y5) (curtilagelaw21_DlNeeded.l0 (k + 1) y0 y1 y2 y3 y4 y5)) ∧ (∀ y0 y1 y2 y3 y4 y5, LeO (curtilagelaw21_DlNeeded.l1 k y0 y1 y2 y3 y4 y5) (curtilagelaw21_DlNeeded.l1 (k + 1) y0 y1 y2 y3 y4 y5))
  | 0 => ⟨fun _ _ _ _ _ r h => by simp [curtilagelaw21_DlNeeded.j0] at h, fun _ _ _ _ _ _ r h => by simp [curtilagelaw21_DlNeeded.j1] at h, fun _ _ _ _ _ _ r h => by simp [curtilagelaw21_DlNeeded.l0] at h, fun _ _ _ _ _ _ r h => by simp [curtilagelaw21_DlNeeded.l1] at h⟩
  | k + 1 => by
    obtain ⟨ih0, ih1, ih2, ih3⟩ := curtilagelaw21_DlNeeded.mono_l k
    refine ⟨?_, ?_, ?_, ?_⟩
    · intro y0 y1 y2 y3 y4
      unfold curtilagelaw21_DlNeeded.j0
      repeat' first
      | (with_reducible exact ih0 _ _ _ _ _)
      | (with_reducible exact ih1 _ _ _ _ _ _)
      | (with_reducible exact ih2 _ _ _ _ _ _)
      | (with_reducible exact ih3 _ _ _ _ _ _)
      | (with_reducible exact curtilagelaw21_awake.mono _)
      | (with_reducible exact curtilagelaw21_made.mono _ _ _ _)
      | (with_reducible exact curtilageref13_Has.mono _ _ _)
      | (with_reducible exact curtilageref13_Right.mono _ _ _)
      | (with_reducible exact curtilageref13_Short.mono _ _ _)
      | (with_reducible exact curtilageref21_Needed.mono _ _ _ _)
      | (with_reducible exact LeO.refl _)
      | (with_reducible exact LeO.none _)
      | (with_reducible refine LeO.ite ?_ ?_)
      | (with_reducible refine LeO.bind ?_ (fun _ => ?_))
      | exact ih0 _ _ _ _ _
      | exact ih1 _ _ _ _ _ _
      | exact ih2 _ _ _ _ _ _
      | exact ih3 _ _ _ _ _ _
      | exact curtilagelaw21_awake.mono _
      | exact curtilagelaw21_made.mono _ _ _ _
      | exact curtilageref13_Has.mono _ _ _
      | exact curtilageref13_Right.mono _ _ _
      | exact curtilageref13_Short.mono _ _ _
      | exact curtilageref21_Needed.mono _ _ _ _
      | exact LeO.none _
      | refine LeO.ite ?_ ?_
      | refine LeO.bind ?_ (fun _ => ?_)
    · intro y0 y1 y2 y3 y4 y5
      unfold curtilagelaw21_DlNeeded.j1
      repeat' first
      | (with_reducible exact ih0 _ _ _ _ _)
      | (with_reducible exact ih1 _ _ _ _ _ _)
      | (with_reducible exact ih2 _ _ _ _ _ _)
      | (with_reducible exact ih3 _ _ _ _ _ _)
      | (with_reducible exact curtilagelaw21_awake.mono _)
      | (with_reducible exact curtilagelaw21_made.mono _ _ _ _)
      | (with_reducible exact curtilageref13_Has.mono _ _ _)
      | (with_reducible exact curtilageref13_Right.mono _ _ _)
      | (with_reducible exact curtilageref13_Short.mono _ _ _)
      | (with_reducible exact curtilageref21_Needed.mono _ _ _ _)
      | (with_reducible exact LeO.refl _)
      | (with_reducible exact LeO.none _)
      | (with_reducible refine LeO.ite ?_ ?_)
      | (with_reducible refine LeO.bind ?_ (fun _ => ?_))
      | exact ih0 _ _ _ _ _
      | exact ih1 _ _ _ _ _ _
      | exact ih2 _ _ _ _ _ _
      | exact ih3 _ _ _ _ _ _
      | exact curtilagelaw21_awake.mono _
      | exact curtilagelaw21_made.mono _ _ _ _
      | exact curtilageref13_Has.mono _ _ _
      | exact curtilageref13_Right.mono _ _ _
      | exact curtilageref13_Short.mono _ _ _
      | exact curtilageref21_Needed.mono _ _ _ _
      | exact LeO.none _
      | refine LeO.ite ?_ ?_
      | refine LeO.bind ?_ (fun _ => ?_)
    · intro y0 y1 y2 y3 y4 y5
      unfold curtilagelaw21_DlNeeded.l0
      repeat' first
      | (with_reducible exact ih0 _ _ _ _ _)
      | (with_reducible exact ih1 _ _ _ _ _ _)
      | (with_reducible exact ih2 _ _ _ _ _ _)
      | (with_reducible exact ih3 _ _ _ _ _ _)
      | (with_reducible exact curtilagelaw21_awake.mono _)
      | (with_reducible exact curtilagelaw21_made.mono _ _ _ _)
      | (with_reducible exact curtilageref13_Has.mono _ _ _)
      | (with_reducible exact curtilageref13_Right.mono _ _ _)
      | (with_reducible exact curtilageref13_Short.mono _ _ _)
      | (with_reducible exact curtilageref21_Needed.mono _ _ _ _)
      | (with_reducible exact LeO.refl _)
      | (with_reducible exact LeO.none _)
      | (with_reducible refine LeO.ite ?_ ?_)
      | (with_reducible refine LeO.bind ?_ (fun _ => ?_))
      | exact ih0 _ _ _ _ _
      | exact ih1 _ _ _ _ _ _
      | exact ih2 _ _ _ _ _ _
      | exact ih3 _ _ _ _ _ _
      | exact curtilagelaw21_awake.mono _
      | exact curtilagelaw21_made.mono _ _ _ _
      | exact curtilageref13_Has.mono _ _ _
      | exact curtilageref13_Right.mono _ _ _
      | exact curtilageref13_Short.mono _ _ _
      | exact curtilageref21_Needed.mono _ _ _ _
      | exact LeO.none _
      | refine LeO.ite ?_ ?_
      | refine LeO.bind ?_ (fun _ => ?_)
    · intro y0 y1 y2 y3 y4 y5
      unfold curtilagelaw21_DlNeeded.l1
      repeat' first
      | (with_reducible exact ih0 _ _ _ _ _)
      | (with_reducible exact ih1 _ _ _ _ _ _)
      | (with_reducible exact ih2 _ _ _ _ _ _)
      | (with_reducible exact ih3 _ _ _ _ _ _)
      | (with_reducible exact curtilagelaw21_awake.mono _)
      | (with_reducible exact curtilagelaw21_made.mono _ _ _ _)
      | (with_reducible exact curtilageref13_Has.mono _ _ _)
      | (with_reducible exact curtilageref13_Right.mono _ _ _)
      | (with_reducible exact curtilageref13_Short.mono _ _ _)
      | (with_reducible exact curtilageref21_Needed.mono _ _ _ _)
      | (with_reducible exact LeO.refl _)
      | (with_reducible exact LeO.none _)
      | (with_reducible refine LeO.ite ?_ ?_)
      | (with_reducible refine LeO.bind ?_ (fun _ => ?_))
      | exact ih0 _ _ _ _ _
      | exact ih1 _ _ _ _ _ _
      | exact ih2 _ _ _ _ _ _
      | exact ih3 _ _ _ _ _ _
      | exact curtilagelaw21_awake.mono _
      | exact curtilagelaw21_made.mono _ _ _ _
      | exact curtilageref13_Has.mono _ _ _
      | exact curtilageref13_Right.mono _ _ _
      | exact curtilageref13_Short.mono _ _ _
      | exact curtilageref21_Needed.mono _ _ _ _
      | exact LeO.none _
      | refine LeO.ite ?_ ?_
      | refine LeO.bind ?_ (fun _ => ?_)
theorem curtilagelaw21_DlNeeded.mono : ∀ a0 a1 a2 k, LeO (curtilagelaw21_DlNeeded.f k a0 a1 a2) (curtilagelaw21_DlNeeded.f (k + 1) a0 a1 a2) := by
  intro a0 a1 a2 k
  obtain ⟨ih0, ih1, ih2, ih3⟩ := curtilagelaw21_DlNeeded.mono_l k
  unfold curtilagelaw21_DlNeeded.f
  repeat' first
      | (with_reducible exact ih0 _ _ _ _ _)
      | (with_reducible exact ih1 _ _ _ _ _ _)
      | (with_reducible exact ih2 _ _ _ _ _ _)
      | (with_reducible exact ih3 _ _ _ _ _ _)
      | (with_reducible exact curtilagelaw21_awake.mono _)
      | (with_reducible exact curtilagelaw21_made.mono _ _ _ _)
      | (with_reducible exact curtilageref13_Has.mono _ _ _)
      | (with_reducible exact curtilageref13_Right.mono _ _ _)
      | (with_reducible exact curtilageref13_Short.mono _ _ _)
      | (with_reducible exact curtilageref21_Needed.mono _ _ _ _)
      | (with_reducible exact LeO.refl _)
      | (with_reducible exact LeO.none _)
      | (with_reducible refine LeO.ite ?_ ?_)
      | (with_reducible refine LeO.bind ?_ (fun _ => ?_))
      | exact ih0 _ _ _ _ _
      | exact ih1 _ _ _ _ _ _
      | exact ih2 _ _ _ _ _ _
      | exact ih3 _ _ _ _ _ _
      | exact curtilagelaw21_awake.mono _
      | exact curtilagelaw21_made.mono _ _ _ _
      | exact curtilageref13_Has.mono _ _ _
      | exact curtilageref13_Right.mono _ _ _
      | exact curtilageref13_Short.mono _ _ _
      | exact curtilageref21_Needed.mono _ _ _ _
      | exact LeO.none _
      | refine LeO.ite ?_ ?_
      | refine LeO.bind ?_ (fun _ => ?_)
set_option maxHeartbeats 8000000 in
set_option maxRecDepth 100000 in
theorem curtilagelaw21_DlNeeded.calls (k : Nat) (A0 : Option Addr) (c0 : Nat) (l0 : List (S38)) (a1 : ByteArray) (A2 : Option Addr) (c2 : Nat) (l2 : List (S58)) (r : Bool) (w : World) (hr0 : Kd.C k38 w A0 l0.length l0) (hc0 : l0.length ≤ c0) (hr2 : Kd.C k58 w A2 l2.length l2) (hc2 : l2.length ≤ c2) (h : curtilagelaw21_DlNeeded.f k l0 a1 l2 = some r) (hr0 : r = true) :
    Calls Try.prog 3 #[.slice A0 l0.length c0, .string a1, .slice A2 l2.length c2] w fun e w' => e = .returned (.bool r) ∧ Below w.heap.size w w' := by
  have HT := Aside0.mk hr0
  clear hr0
  have hu28 := Try.underlying28
  have HR0 := Aside0.mk hr0
  have HC0 := Aside0.mk hc0
  clear hr0 hc0
  have HR2 := Aside0.mk hr2
  have HC2 := Aside0.mk hc2
  clear hr2 hc2
  have HB := Aside0.mk (Below.refl w.heap.size w)
  have H : ((curtilagelaw21_awake.f k).bind fun t430 => ((curtilageref13_Short.f k l0 12).bind fun t431 => (if t431 = true then (curtilagelaw21_DlNeeded.j0 k l0 a1 l2 t430 (decide ((l2.length : Int) > 40))) else (curtilagelaw21_DlNeeded.j0 k l0 a1 l2 t430 true)))) = some r := h
  clear h
  replace H := Option.bind_eq_some_iff.mp H
  obtain ⟨t430, A40, H⟩ := H
  replace H : ((curtilageref13_Short.f k l0 12).bind fun t431 => (if t431 = true then (curtilagelaw21_DlNeeded.j0 k l0 a1 l2 t430 (decide ((l2.length : Int) > 40))) else (curtilagelaw21_DlNeeded.j0 k l0 a1 l2 t430 true))) = some r := H
  have A4 := Aside0.mk A40
  clear A40
  replace H := Option.bind_eq_some_iff.mp H
  obtain ⟨t431, A50, H⟩ := H
  replace H : (if t431 = true then (curtilagelaw21_DlNeeded.j0 k l0 a1 l2 t430 (decide ((l2.length : Int) > 40))) else (curtilagelaw21_DlNeeded.j0 k l0 a1 l2 t430 true)) = some r := H
  have A5 := Aside0.mk A50
  clear A50
  have HC6 := Aside0.mk H
  clear H
  go_enter Try.func3, Try.ntmps3
  go_upto_region 3 with (first | ((with_reducible refine gate_dst (N := 16) rfl ?_); (with_reducible refine gate_callee (f := 9) rfl ?_); refine goesL_ (some 16) rfl rfl Try.func9 (by kernel_rfl) rfl #[] rfl (by (try simp only [List.map_toArray, List.map_cons, List.map_nil]); first | done | rfl | (simp only [List.length_drop, List.length_take]; rfl)) ?_; (with_reducible refine (curtilagelaw21_awake.calls k  t430 _ A4.out).mono ?_); rintro e w7 ⟨rfl, hb⟩; refine ⟨_, rfl, ?_⟩; have n0_ := Aside0.mk (below_step (by repeat (first | (with_reducible first | exact HB.out | apply below_alloc | apply pw_below_drewN | apply below_drew1) | exact HB.out)) hb); clear HB; have HB := n0_; clear n0_; (try clear hb); (try clear hb2); (try clear hk); (try clear hi)) | ((with_reducible refine gate_dst (N := 18) rfl ?_); (with_reducible refine gate_callee (f := 10) rfl ?_); refine goesL_ (some 18) rfl rfl Try.func10 (by kernel_rfl) rfl #[.slice A0 l0.length c0, .int .i64 12] rfl (by (try simp only [List.map_toArray, List.map_cons, List.map_nil]); first | done | rfl | (simp only [List.length_drop, List.length_take]; rfl)) ?_; (with_reducible refine (curtilageref13_Short.calls k _ _ l0 12 t431 _ ?side1 ?side2 A5.out).mono ?_); (case side1 => repeat (first | exact (Kd.C_below HR0.out HB.out) | (with_reducible refine Kd.C_alloc ?_ _) | (with_reducible refine Kd.C_drewN ?_ _) | (with_reducible refine Kd.C_drew ?_))); (case side2 => exact HC0.out); rintro e w' ⟨rfl, ⟨nd, rfl⟩⟩; refine ⟨_, rfl, ?_⟩))
  (try simp only [Act.put, List.setIfInBounds_toArray, List.set_cons_zero, List.set_cons_succ])
  go_cut [25] (fun v25 wc => ∃ (kq : Nat) (x25_5 : Bool), v25 = .bool x25_5 ∧ Aside0 (curtilagelaw21_DlNeeded.j0 kq l0 a1 l2 t430 x25_5 = some r) ∧ Aside0 (kq ≤ k) ∧ Aside0 (Below w.heap.size w wc))
  case first =>
    have H := HC6.out
    clear HC6
    by_cases c8 : t431 = true
    · subst c8
      have H1 : (curtilagelaw21_DlNeeded.j0 k l0 a1 l2 t430 (decide ((l2.length : Int) > 40))) = some r := by rw [if_pos rfl] at H; exact H
      clear H
      have H := H1
      clear H1
      have H' := Aside0.mk H
      clear H
      go_wp2
      go_meet
      case rel => exact ⟨_, (decide ((l2.length : Int) > 40)), (by first | rfl | (simp; done) | (simp [*]; done)), H', ⟨by first | omega | exact Nat.le_refl _⟩, ⟨by repeat (first | (with_reducible first | exact HB.out | apply below_alloc | apply pw_below_drewN | apply below_drew1) | exact HB.out)⟩⟩
    · replace c8 := Bool.eq_false_iff.mpr c8
      subst c8
      have H1 : (curtilagelaw21_DlNeeded.j0 k l0 a1 l2 t430 true) = some r := by rw [if_neg (show ¬ (false = true) by decide)] at H; exact H
      clear H
      have H := H1
      clear H1
      have H' := Aside0.mk H
      clear H
      go_wp2
      go_meet
      case rel => exact ⟨_, (true), (by first | rfl | (simp; done) | (simp [*]; done)), H', ⟨by first | omega | exact Nat.le_refl _⟩, ⟨by repeat (first | (with_reducible first | exact HB.out | apply below_alloc | apply pw_below_drewN | apply below_drew1) | exact HB.out)⟩⟩
  case rest =>
    clear HC6
    try clear c1
    try clear c2
    try clear p2
    try clear c3
    try clear c8
    obtain ⟨kq, x25_5, rfl, HA, HJ5, HB⟩ := hcut
    cases kq with
    | zero => exact absurd HA.out (by simp [curtilagelaw21_DlNeeded.j0])
    | succ kj5 =>
      have H := HA.out
      clear HA
      simp only [curtilagelaw21_DlNeeded.j0] at H
      by_cases c9 : x25_5 = true
      · subst c9
        have H1 : (some t430) = some r := by rw [if_pos rfl] at H; exact H
        clear H
        have H := H1
        clear H1
        obtain rfl := Option.some.inj H
        go_wp2
        go_ret
        exact ⟨by first | rfl | (simp [errW_none, errW_some] <;> rfl) | (simp [*, errW_none, errW_some] <;> rfl), by repeat (first | (with_reducible first | exact HB.out | apply below_alloc | apply pw_below_drewN | apply below_drew1) | exact HB.out)⟩
      · replace c9 := Bool.eq_false_iff.mpr c9
        subst c9
        have H1 : ((curtilagelaw21_made.f kj5 l0 a1 l2).bind fun bt432 => (if bt432.2.2 = true then ((curtilageref13_Right.f kj5 bt432.1 (l0.length : Int)).bind fun t440 => (if t440 = true then (curtilagelaw21_DlNeeded.j1 kj5 l0 a1 t430 ((bt432.2.1.length : Int) == 0) bt432.1 bt432.2.1) else (curtilagelaw21_DlNeeded.j1 kj5 l0 a1 t430 true bt432.1 bt432.2.1))) else (some t430))) = some r := by rw [if_neg (show ¬ (false = true) by decide)] at H; exact H
        clear H
        have H := H1
        clear H1
        replace H := Option.bind_eq_some_iff.mp H
        obtain ⟨⟨t432, t435, t438⟩, A100, H⟩ := H
        replace H : (if t438 = true then ((curtilageref13_Right.f kj5 t432 (l0.length : Int)).bind fun t440 => (if t440 = true then (curtilagelaw21_DlNeeded.j1 kj5 l0 a1 t430 ((t435.length : Int) == 0) t432 t435) else (curtilagelaw21_DlNeeded.j1 kj5 l0 a1 t430 true t432 t435))) else (some t430)) = some r := H
        have A10 := Aside0.mk A100
        clear A100
        by_cases c11 : t438 = true
        · subst c11
          have H1 : ((curtilageref13_Right.f kj5 t432 (l0.length : Int)).bind fun t440 => (if t440 = true then (curtilagelaw21_DlNeeded.j1 kj5 l0 a1 t430 ((t435.length : Int) == 0) t432 t435) else (curtilagelaw21_DlNeeded.j1 kj5 l0 a1 t430 true t432 t435))) = some r := by rw [if_pos rfl] at H; exact H
          clear H
          have H := H1
          clear H1
          replace H := Option.bind_eq_some_iff.mp H
          obtain ⟨t440, A120, H⟩ := H
          replace H : (if t440 = true then (curtilagelaw21_DlNeeded.j1 kj5 l0 a1 t430 ((t435.length : Int) == 0) t432 t435) else (curtilagelaw21_DlNeeded.j1 kj5 l0 a1 t430 true t432 t435)) = some r := H
          have A12 := Aside0.mk A120
          clear A120
          have HC13 := Aside0.mk H
          clear H
          go_upto_region 9 with (first | ((with_reducible refine gate_dst (N := 31) rfl ?_); (with_reducible refine gate_callee (f := 11) rfl ?_); refine goesL_ (some 31) rfl rfl Try.func11 (by kernel_rfl) rfl #[.slice A0 l0.length c0, .string a1, .slice A2 l2.length c2] rfl (by (try simp only [List.map_toArray, List.map_cons, List.map_nil]); first | done | rfl | (simp only [List.length_drop, List.length_take]; rfl)) ?_; (with_reducible refine (curtilagelaw21_made.calls kj5 _ _ l0 a1 _ _ l2 t432 t435 true _ ?side1 ?side2 ?side3 ?side4 A10.out).mono ?_); (case side1 => repeat (first | exact (Kd.C_below HR0.out HB.out) | (with_reducible refine Kd.C_alloc ?_ _) | (with_reducible refine Kd.C_drewN ?_ _) | (with_reducible refine Kd.C_drew ?_))); (case side2 => exact HC0.out); (case side3 => repeat (first | exact (Kd.C_below HR2.out HB.out) | (with_reducible refine Kd.C_alloc ?_ _) | (with_reducible refine Kd.C_drewN ?_ _) | (with_reducible refine Kd.C_drew ?_))); (case side4 => exact HC2.out); rintro e w14 ⟨v433, v436, rfl, ho0, ho1, hb⟩; refine ⟨_, rfl, ?_⟩; have n0_ := Aside0.mk (Kd.R_lower ho0 (below_size (by repeat (first | (with_reducible first | exact HB.out | apply below_alloc | apply pw_below_drewN | apply below_drew1) | exact HB.out)))); have n1_ := Aside0.mk (Kd.R_lower ho1 (below_size (by repeat (first | (with_reducible first | exact HB.out | apply below_alloc | apply pw_below_drewN | apply below_drew1) | exact HB.out)))); have n2_ := Aside0.mk (below_step (by repeat (first | (with_reducible first | exact HB.out | apply below_alloc | apply pw_below_drewN | apply below_drew1) | exact HB.out)) hb); clear HB; have HO434 := n0_; have HO437 := n1_; have HB := n2_; clear n0_ n1_ n2_; (try clear hb); (try clear hb2); (try clear hk); (try clear hi); (try clear ho0); (try clear ho1)) | ((with_reducible refine gate_dst (N := 9) rfl ?_); (try (refine gate_guard (by rfl) ?_; dsimp only)); refine box_event ?hg (N := 9) ?hd (cs := #[.slice none 0 0, .slice none 0 0]) (t := 28) ?hr ?_; (case hd => rfl); (case hg => rfl); (case hr => first | (go_simp; done) | (go_simp; rfl)); intro gb439 hg w15 hbox hb; have n0_ := Aside0.mk (Kd.R_below (by (with_reducible repeat (first | apply Kd.R_alloc | apply Kd.R_drewN | apply Kd.R_drew)); exact HO434.out) hb); have n1_ := Aside0.mk (Kd.R_below (by (with_reducible repeat (first | apply Kd.R_alloc | apply Kd.R_drewN | apply Kd.R_drew)); exact HO437.out) hb); have n2_ := Aside0.mk (below_step (by repeat (first | (with_reducible first | exact HB.out | apply below_alloc | apply pw_below_drewN | apply below_drew1) | exact HB.out)) hb); have n3_ := Aside0.mk (hbox); have n4_ := Aside0.mk ((by rw [hg]; exact (below_size (by repeat (first | (with_reducible first | exact HB.out | apply below_alloc | apply pw_below_drewN | apply below_drew1) | exact HB.out))) : w.heap.size ≤ gb439)); have n5_ := n4_; clear HO434; clear HO437; clear HB; have HO434 := n0_; have HO437 := n1_; have HB := n2_; have BK439 := n3_; have GW439 := n4_; have GE439 := n5_; clear n0_ n1_ n2_ n3_ n4_ n5_; clear hb hbox hg; obtain ⟨Ao16, co16, eo16⟩ := Kd.R_slice HO434.out; subst eo16; obtain ⟨hcz17_0, hcz17_1, hfz17_0, hfz17_1⟩ := cells2 BK439.out; obtain ⟨Ao18, co18, eo18⟩ := Kd.R_slice HO437.out; subst eo18) | ((with_reducible refine gate_store (t := 28) (p := 9) rfl ?_); refine store_event (t := 28) (p := 9) (v := ?vo_w19) (w1 := ((w15.setCell ⟨gb439, 0, none⟩ (.slice Ao16 t432.length co16)).setCell ⟨gb439, 1, none⟩ (.slice Ao18 t435.length co18))) ?hg ?ho ?hn ?hr ?_; (case ho => rfl); (case hg => rfl); (case hn => rfl); (case hr => first | (go_simp; done) | (go_simp; rfl)); intro w19 hw; have n0_ : Aside0 (Kd.R (Kd.int .i64) 3 w19 w.heap.size (fun k_ => some k_ ≠ (.slice Ao18 t435.length co18 : Value).ownBlock) (.slice Ao16 t432.length co16) t432) := ⟨(by rw [hw]; exact (by (with_reducible repeat (first | apply Kd.R_alloc | apply Kd.R_drewN | apply Kd.R_drew)); exact Kd.R_mono (Kd.R_far (p := ⟨gb439, 1, none⟩) (Kd.R_far (p := ⟨gb439, 0, none⟩) (Kd.R_types HO434.out BK439.out (by decide)) (fun _ hk => hk.2) (.slice Ao16 t432.length co16)) (fun _ hk => hk.2) (.slice Ao18 t435.length co18)) (fun _ hk => hk.1)))⟩; have n1_ : Aside0 (Kd.R (Kd.int .i64) 3 w19 w.heap.size (fun k_ => some k_ ≠ (.slice Ao16 t432.length co16 : Value).ownBlock) (.slice Ao18 t435.length co18) t435) := ⟨(by rw [hw]; exact (by (with_reducible repeat (first | apply Kd.R_alloc | apply Kd.R_drewN | apply Kd.R_drew)); exact Kd.R_mono (Kd.R_far (p := ⟨gb439, 1, none⟩) (Kd.R_far (p := ⟨gb439, 0, none⟩) (Kd.R_types HO437.out BK439.out (by decide)) (fun _ hk => hk.2) (.slice Ao16 t432.length co16)) (fun _ hk => hk.2) (.slice Ao18 t435.length co18)) (fun _ hk => hk.1)))⟩; have n2_ : Aside0 (w19.heap[gb439]? = some (.cells #[.slice Ao16 t432.length co16, .slice Ao18 t435.length co18] 28 (0, 0))) := ⟨(by rw [hw]; exact (by (with_reducible repeat (first | refine blk_drewN ?_ _ | refine blk_drew ?_ | refine blk_alloc ?_ _)); refine blk_put (cs := #[.slice Ao16 t432.length co16, .slice none 0 0]) ?_ 1 _ rfl; (with_reducible repeat (first | refine blk_drewN ?_ _ | refine blk_drew ?_ | refine blk_alloc ?_ _)); refine blk_put (cs := #[.slice none 0 0, .slice none 0 0]) ?_ 0 _ rfl; (with_reducible repeat (first | refine blk_drewN ?_ _ | refine blk_drew ?_ | refine blk_alloc ?_ _)); exact BK439.out))⟩; have n3_ : Aside0 (Below w.heap.size w w19) := ⟨(by rw [hw]; exact (by repeat (first | (with_reducible first | exact HB.out | apply below_alloc | apply pw_below_drewN | apply below_drew1 | refine below_set ?_ GE439.out) | exact HB.out)))⟩; clear hw; clear HO434; clear HO437; clear BK439; clear HB; have HO434 := n0_; have HO437 := n1_; have BK439 := n2_; have HB := n3_; clear n0_ n1_ n2_ n3_; obtain ⟨hcz20_0, hcz20_1, hfz20_0, hfz20_1⟩ := cells2 BK439.out) | ((with_reducible refine gate_dst (N := 41) rfl ?_); (with_reducible refine gate_callee (f := 12) rfl ?_); refine goesL_ (some 41) rfl rfl Try.func12 (by kernel_rfl) rfl #[.slice Ao16 t432.length co16, .int .i64 (l0.length : Int)] rfl (by (try simp only [List.map_toArray, List.map_cons, List.map_nil]); first | done | rfl | (simp only [List.length_drop, List.length_take]; rfl)) ?_; (with_reducible refine (curtilageref13_Right.calls kj5 _ _ t432 (l0.length : Int) t440 _ ?side1 ?side2 A12.out).mono ?_); (case side1 => repeat (first | exact (Kd.R_reads' HO434.out).2.2 | (with_reducible refine Kd.C_alloc ?_ _) | (with_reducible refine Kd.C_drewN ?_ _) | (with_reducible refine Kd.C_drew ?_))); (case side2 => exact (Kd.R_reads' HO434.out).2.1); rintro e w' ⟨rfl, ⟨nd, rfl⟩⟩; refine ⟨_, rfl, ?_⟩))
          (try simp only [Act.put, List.setIfInBounds_toArray, List.set_cons_zero, List.set_cons_succ])
          go_cut [49] (fun v49 wc => ∃ (kq : Nat) (x49_12 : Bool), v49 = .bool x49_12 ∧ Aside0 (curtilagelaw21_DlNeeded.j1 kq l0 a1 t430 x49_12 t432 t435 = some r) ∧ Aside0 (kq ≤ kj5) ∧ Aside0 (Kd.R (Kd.int .i64) 3 wc w.heap.size (fun k_ => some k_ ≠ ((.slice Ao18 t435.length co18) : Value).ownBlock) (.slice Ao16 t432.length co16) t432) ∧ Aside0 (Kd.R (Kd.int .i64) 3 wc w.heap.size (fun k_ => some k_ ≠ ((.slice Ao16 t432.length co16) : Value).ownBlock) (.slice Ao18 t435.length co18) t435) ∧ Aside0 (wc.heap[gb439]? = some (.cells #[(.slice Ao16 t432.length co16), (.slice Ao18 t435.length co18)] 28 (0, 0))) ∧ Aside0 (Below w.heap.size w wc))
          case first =>
            have H := HC13.out
            clear HC13
            by_cases c21 : t440 = true
            · subst c21
              have H1 : (curtilagelaw21_DlNeeded.j1 kj5 l0 a1 t430 ((t435.length : Int) == 0) t432 t435) = some r := by rw [if_pos rfl] at H; exact H
              clear H
              have H := H1
              clear H1
              have H' := Aside0.mk H
              clear H
              have hcz22_0 : w19.cell? ⟨gb439, 0, none⟩ = some (.slice Ao16 t432.length co16) := (blk_cell BK439.out 0).trans rfl
              have hcz22_1 : w19.cell? ⟨gb439, 1, none⟩ = some (.slice Ao18 t435.length co18) := (blk_cell BK439.out 1).trans rfl
              have hfz22_0 := blk_frozen BK439.out 0
              have hfz22_1 := blk_frozen BK439.out 1
              go_wp2
              go_meet
              case rel => exact ⟨_, (((t435.length : Int) == 0)), (by first | rfl | (simp; done) | (simp [*]; done)), H', ⟨by have := HJ5.out; first | omega | exact Nat.le_refl _⟩, ⟨by (with_reducible repeat (first | apply Kd.R_alloc | apply Kd.R_drewN | apply Kd.R_drew)); exact HO434.out⟩, ⟨by (with_reducible repeat (first | apply Kd.R_alloc | apply Kd.R_drewN | apply Kd.R_drew)); exact HO437.out⟩, ⟨by (with_reducible repeat (first | refine blk_drewN ?_ _ | refine blk_drew ?_ | refine blk_alloc ?_ _)); exact BK439.out⟩, ⟨by repeat (first | (with_reducible first | exact HB.out | apply below_alloc | apply pw_below_drewN | apply below_drew1 | refine below_set ?_ GE439.out) | exact HB.out)⟩⟩
            · replace c21 := Bool.eq_false_iff.mpr c21
              subst c21
              have H1 : (curtilagelaw21_DlNeeded.j1 kj5 l0 a1 t430 true t432 t435) = some r := by rw [if_neg (show ¬ (false = true) by decide)] at H; exact H
              clear H
              have H := H1
              clear H1
              have H' := Aside0.mk H
              clear H
              go_wp2
              go_meet
              case rel => exact ⟨_, (true), (by first | rfl | (simp; done) | (simp [*]; done)), H', ⟨by have := HJ5.out; first | omega | exact Nat.le_refl _⟩, ⟨by (with_reducible repeat (first | apply Kd.R_alloc | apply Kd.R_drewN | apply Kd.R_drew)); exact HO434.out⟩, ⟨by (with_reducible repeat (first | apply Kd.R_alloc | apply Kd.R_drewN | apply Kd.R_drew)); exact HO437.out⟩, ⟨by (with_reducible repeat (first | refine blk_drewN ?_ _ | refine blk_drew ?_ | refine blk_alloc ?_ _)); exact BK439.out⟩, ⟨by repeat (first | (with_reducible first | exact HB.out | apply below_alloc | apply pw_below_drewN | apply below_drew1 | refine below_set ?_ GE439.out) | exact HB.out)⟩⟩
          case rest =>
            clear HC13
            try clear c1
            try clear c2
            try clear p2
            try clear c3
            try clear c8
            try clear c9
            try clear c10
            try clear c11
            try clear c12
            try clear c21
            try clear hcz17_0
            try clear hcz17_1
            try clear hcz20_0
            try clear hcz20_1
            try clear hcz22_0
            try clear hcz22_1
            try clear hfz17_0
            try clear hfz17_1
            try clear hfz20_0
            try clear hfz20_1
            try clear hfz22_0
            try clear hfz22_1
            try clear p2
            obtain ⟨kq, x49_12, rfl, HA, HJ12, HO_440000, HO_440001, BK439, HB⟩ := hcut
            cases kq with
            | zero => exact absurd HA.out (by simp [curtilagelaw21_DlNeeded.j1])
            | succ kj12 =>
              have H := HA.out
              clear HA
              simp only [curtilagelaw21_DlNeeded.j1] at H
              by_cases c23 : x49_12 = true
              · subst c23
                have H1 : (some false) = some r := by rw [if_pos rfl] at H; exact H
                clear H
                have H := H1
                clear H1
                exact absurd ((Option.some.inj H).trans HT.out) (by decide)
              · replace c23 := Bool.eq_false_iff.mpr c23
                subst c23
                have H1 : (curtilagelaw21_DlNeeded.l0 kj12 l0 a1 t430 0 t432 t435) = some r := by rw [if_neg (show ¬ (false = true) by decide)] at H; exact H
                clear H
                have H := H1
                clear H1
                have H' := Aside0.mk H
                clear H
                go_wp2
                go_loopg [12] kj12 (fun kq v12 w' => ∃ (x12_3 : Int), v12 = .int .i64 x12_3 ∧ Aside0 (curtilagelaw21_DlNeeded.l0 kq l0 a1 t430 x12_3 t432 t435 = some r) ∧ Aside0 (kq ≤ kj12) ∧ Aside0 (Kd.R (Kd.int .i64) 3 w' w.heap.size (fun k_ => some k_ ≠ ((.slice Ao18 t435.length co18) : Value).ownBlock) (.slice Ao16 t432.length co16) t432) ∧ Aside0 (Kd.R (Kd.int .i64) 3 w' w.heap.size (fun k_ => some k_ ≠ ((.slice Ao16 t432.length co16) : Value).ownBlock) (.slice Ao18 t435.length co18) t435) ∧ Aside0 (w'.heap[gb439]? = some (.cells #[(.slice Ao16 t432.length co16), (.slice Ao18 t435.length co18)] 28 (0, 0))) ∧ Aside0 (Below w.heap.size w w'))
                case atStart => exact ⟨(0), (by first | rfl | (simp; done) | (simp [*]; done)), H', ⟨Nat.le_refl _⟩, ⟨by (with_reducible repeat (first | apply Kd.R_alloc | apply Kd.R_drewN | apply Kd.R_drew)); exact HO_440000.out⟩, ⟨by (with_reducible repeat (first | apply Kd.R_alloc | apply Kd.R_drewN | apply Kd.R_drew)); exact HO_440001.out⟩, ⟨by (with_reducible repeat (first | refine blk_drewN ?_ _ | refine blk_drew ?_ | refine blk_alloc ?_ _)); exact BK439.out⟩, ⟨by repeat (first | (with_reducible first | exact HB.out | apply below_alloc | apply pw_below_drewN | apply below_drew1 | refine below_set ?_ GE439.out) | exact HB.out)⟩⟩
                case round =>
                  clear H'
                  try clear c1
                  try clear c2
                  try clear p2
                  try clear c3
                  try clear c8
                  try clear c9
                  try clear c10
                  try clear c11
                  try clear c12
                  try clear c21
                  try clear c23
                  try clear hcz17_0
                  try clear hcz17_1
                  try clear hcz20_0
                  try clear hcz20_1
                  try clear hcz22_0
                  try clear hcz22_1
                  try clear hfz17_0
                  try clear hfz17_1
                  try clear hfz20_0
                  try clear hfz20_1
                  try clear hfz22_0
                  try clear hfz22_1
                  try clear p2
                  obtain ⟨x12_3, rfl, HA, HK3, HO_440000, HO_440001, BK439, HB⟩ := hrel
                  cases gk with
                  | zero => exact absurd HA.out (by simp [curtilagelaw21_DlNeeded.l0])
                  | succ k3 =>
                    have H := HA.out
                    clear HA
                    simp only [curtilagelaw21_DlNeeded.l0] at H
                    by_cases c24 : x12_3 < (t435.length : Int)
                    · rw [if_pos c24] at H
                      have c24b0 : decide (x12_3 < (t435.length : Int)) = true := decide_eq_true c24
                      clear c24
                      by_cases c25 : 0 ≤ x12_3
                      · rw [if_pos c25] at H
                        have c25b0 : decide (0 ≤ x12_3) = true := decide_eq_true c25
                        clear c25
                        by_cases c26 : (rd t435 x12_3) < 0
                        · rw [if_pos c26] at H
                          have c26b0 : decide ((rd t435 x12_3) < 0) = true := decide_eq_true c26
                          clear c26
                          exact absurd ((Option.some.inj H).trans HT.out) (by decide)
                        · rw [if_neg c26] at H
                          have c26b0 : decide ((rd t435 x12_3) < 0) = false := decide_eq_false c26
                          clear c26
                          by_cases c28 : (rd t435 x12_3) ≥ (l0.length : Int)
                          · rw [if_pos c28] at H
                            have c28b0 : decide ((l0.length : Int) ≤ (rd t435 x12_3)) = true := decide_eq_true c28
                            clear c28
                            exact absurd ((Option.some.inj H).trans HT.out) (by decide)
                          · rw [if_neg c28] at H
                            have c28b0 : decide ((l0.length : Int) ≤ (rd t435 x12_3)) = false := decide_eq_false c28
                            clear c28
                            have H' := Aside0.mk H
                            clear H
                            have hcz30_0 : wr.cell? ⟨gb439, 0, none⟩ = some (.slice Ao16 t432.length co16) := (blk_cell BK439.out 0).trans rfl
                            have hcz30_1 : wr.cell? ⟨gb439, 1, none⟩ = some (.slice Ao18 t435.length co18) := (blk_cell BK439.out 1).trans rfl
                            have hfz30_0 := blk_frozen BK439.out 0
                            have hfz30_1 := blk_frozen BK439.out 1
                            have p441 : 0 ≤ (x12_3 : Int) := of_decide_eq_true (by first | (with_reducible assumption) | assumption)
                            have q441 : x12_3 < (t435.length : Int) := of_decide_eq_true (by first | (with_reducible assumption) | assumption)
                            obtain ⟨ad441, e441, hx441_0⟩ := Kd.at_int (Kd.R_reads' HO_440001.out).2.2 x12_3 p441 q441
                            cases e441
                            replace p441 := eq_true p441
                            replace q441 := eq_true q441
                            have p442 : 0 ≤ (x12_3 : Int) := of_decide_eq_true (by first | (with_reducible assumption) | assumption)
                            have q442 : x12_3 < (t435.length : Int) := of_decide_eq_true (by first | (with_reducible assumption) | assumption)
                            obtain ⟨ad442, e442, hx442_0⟩ := Kd.at_int (Kd.R_reads' HO_440001.out).2.2 x12_3 p442 q442
                            obtain rfl : ad441 = ad442 := (by injection e442)
                            replace p442 := eq_true p442
                            replace q442 := eq_true q442
                            go_wp2
                            go_roundg k3
                            case measure => have := HJ5.out; have := HJ12.out; have := HK3.out; omega
                            case rel => exact ⟨(wrap64 (x12_3 + 1)), (by first | rfl | (simp; done) | (simp [*]; done)), H', ⟨by have := HJ5.out; have := HJ12.out; have := HK3.out; omega⟩, ⟨by (with_reducible repeat (first | apply Kd.R_alloc | apply Kd.R_drewN | apply Kd.R_drew)); exact HO_440000.out⟩, ⟨by (with_reducible repeat (first | apply Kd.R_alloc | apply Kd.R_drewN | apply Kd.R_drew)); exact HO_440001.out⟩, ⟨by (with_reducible repeat (first | refine blk_drewN ?_ _ | refine blk_drew ?_ | refine blk_alloc ?_ _)); exact BK439.out⟩, ⟨by repeat (first | (with_reducible first | exact HB.out | apply below_alloc | apply pw_below_drewN | apply below_drew1 | refine below_set ?_ GE439.out) | exact HB.out)⟩⟩
                      · rw [if_neg c25] at H
                        exact absurd H (by simp)
                    · rw [if_neg c24] at H
                      have c24b0 : decide (x12_3 < (t435.length : Int)) = false := decide_eq_false c24
                      clear c24
                      have H' := Aside0.mk H
                      clear H
                      have hcz31_0 : wr.cell? ⟨gb439, 0, none⟩ = some (.slice Ao16 t432.length co16) := (blk_cell BK439.out 0).trans rfl
                      have hcz31_1 : wr.cell? ⟨gb439, 1, none⟩ = some (.slice Ao18 t435.length co18) := (blk_cell BK439.out 1).trans rfl
                      have hfz31_0 := blk_frozen BK439.out 0
                      have hfz31_1 := blk_frozen BK439.out 1
                      go_wp2
                      go_loopg [13] k3 (fun kq v13 w' => ∃ (x13_4 : Int), v13 = .int .i64 x13_4 ∧ Aside0 (curtilagelaw21_DlNeeded.l1 kq l0 a1 t430 x13_4 t432 t435 = some r) ∧ Aside0 (kq ≤ k3) ∧ Aside0 (Kd.R (Kd.int .i64) 3 w' w.heap.size (fun k_ => some k_ ≠ ((.slice Ao18 t435.length co18) : Value).ownBlock) (.slice Ao16 t432.length co16) t432) ∧ Aside0 (Kd.R (Kd.int .i64) 3 w' w.heap.size (fun k_ => some k_ ≠ ((.slice Ao16 t432.length co16) : Value).ownBlock) (.slice Ao18 t435.length co18) t435) ∧ Aside0 (w'.heap[gb439]? = some (.cells #[(.slice Ao16 t432.length co16), (.slice Ao18 t435.length co18)] 28 (0, 0))) ∧ Aside0 (Below w.heap.size w w'))
                      case atStart => exact ⟨(0), (by first | rfl | (simp; done) | (simp [*]; done)), H', ⟨Nat.le_refl _⟩, ⟨by (with_reducible repeat (first | apply Kd.R_alloc | apply Kd.R_drewN | apply Kd.R_drew)); exact HO_440000.out⟩, ⟨by (with_reducible repeat (first | apply Kd.R_alloc | apply Kd.R_drewN | apply Kd.R_drew)); exact HO_440001.out⟩, ⟨by (with_reducible repeat (first | refine blk_drewN ?_ _ | refine blk_drew ?_ | refine blk_alloc ?_ _)); exact BK439.out⟩, ⟨by repeat (first | (with_reducible first | exact HB.out | apply below_alloc | apply pw_below_drewN | apply below_drew1 | refine below_set ?_ GE439.out) | exact HB.out)⟩⟩
                      case round =>
                        clear H'
                        try clear c1
                        try clear c2
                        try clear p2
                        try clear c3
                        try clear p4
                        try clear q4
                        try clear hx4
                        try clear p6
                        try clear c8
                        try clear c9
                        try clear c10
                        try clear c11
                        try clear c12
                        try clear c21
                        try clear c23
                        try clear c24
                        try clear c24b0
                        try clear c25
                        try clear c25b0
                        try clear c26
                        try clear c26b0
                        try clear c28
                        try clear c28b0
                        try clear hcz17_0
                        try clear hcz17_1
                        try clear hcz20_0
                        try clear hcz20_1
                        try clear hcz22_0
                        try clear hcz22_1
                        try clear hcz27_0
                        try clear hcz27_1
                        try clear hcz29_0
                        try clear hcz29_1
                        try clear hcz30_0
                        try clear hcz30_1
                        try clear hcz31_0
                        try clear hcz31_1
                        try clear hfz17_0
                        try clear hfz17_1
                        try clear hfz20_0
                        try clear hfz20_1
                        try clear hfz22_0
                        try clear hfz22_1
                        try clear hfz27_0
                        try clear hfz27_1
                        try clear hfz29_0
                        try clear hfz29_1
                        try clear hfz30_0
                        try clear hfz30_1
                        try clear hfz31_0
                        try clear hfz31_1
                        try clear hx441_0
                        try clear hx442_0
                        try clear p2
                        try clear p441
                        try clear p442
                        try clear q441
                        try clear q442
                        obtain ⟨x13_4, rfl, HA, HK4, HO_440000, HO_440001, BK439, HB⟩ := hrel
                        cases gk with
                        | zero => exact absurd HA.out (by simp [curtilagelaw21_DlNeeded.l1])
                        | succ k4 =>
                          have H := HA.out
                          clear HA
                          simp only [curtilagelaw21_DlNeeded.l1] at H
                          by_cases c32 : x13_4 < (l0.length : Int)
                          · rw [if_pos c32] at H
                            have c32b0 : decide (x13_4 < (l0.length : Int)) = true := decide_eq_true c32
                            clear c32
                            replace H := Option.bind_eq_some_iff.mp H
                            obtain ⟨t445, A330, H⟩ := H
                            replace H : ((curtilageref21_Needed.f k4 l0 t435 x13_4).bind fun t446 => (if (t445 != t446) = true then (some false) else (curtilagelaw21_DlNeeded.l1 k4 l0 a1 t430 (wrap64 (x13_4 + 1)) t432 t435))) = some r := H
                            have A33 := Aside0.mk A330
                            clear A330
                            replace H := Option.bind_eq_some_iff.mp H
                            obtain ⟨t446, A340, H⟩ := H
                            replace H : (if (t445 != t446) = true then (some false) else (curtilagelaw21_DlNeeded.l1 k4 l0 a1 t430 (wrap64 (x13_4 + 1)) t432 t435)) = some r := H
                            have A34 := Aside0.mk A340
                            clear A340
                            by_cases c35 : (t445 != t446) = true
                            · rw [if_pos c35] at H
                              have c35b0 : (t445 != t446) = true := c35
                              (try (have c35b1 : decide (t445 = t446) = false := by simpa using c35))
                              (try (have c35b2 : (t445 == t446) = false := by simpa using c35))
                              (try (have c35b3 : ¬ (t445 = t446) := by simpa using c35))
                              clear c35
                              exact absurd ((Option.some.inj H).trans HT.out) (by decide)
                            · rw [if_neg c35] at H
                              have c35b0 : (t445 != t446) = false := by simpa using c35
                              (try (have c35b1 : decide (t445 = t446) = true := by simpa using c35))
                              (try (have c35b2 : (t445 == t446) = true := by simpa using c35))
                              clear c35
                              have H' := Aside0.mk H
                              clear H
                              have hcz38_0 : wr.cell? ⟨gb439, 0, none⟩ = some (.slice Ao16 t432.length co16) := (blk_cell BK439.out 0).trans rfl
                              have hcz38_1 : wr.cell? ⟨gb439, 1, none⟩ = some (.slice Ao18 t435.length co18) := (blk_cell BK439.out 1).trans rfl
                              have hfz38_0 := blk_frozen BK439.out 0
                              have hfz38_1 := blk_frozen BK439.out 1
                              go_wp2_with (first | ((with_reducible refine gate_dst (N := 82) rfl ?_); (with_reducible refine gate_callee (f := 13) rfl ?_); refine goesL_ (some 82) rfl rfl Try.func13 (by kernel_rfl) rfl #[.slice Ao16 t432.length co16, .int .i64 x13_4] rfl (by (try simp only [List.map_toArray, List.map_cons, List.map_nil]); first | done | rfl | (simp only [List.length_drop, List.length_take]; rfl)) ?_; (with_reducible refine (curtilageref13_Has.calls k4 _ _ t432 x13_4 t445 _ ?side1 ?side2 A33.out).mono ?_); (case side1 => repeat (first | exact (Kd.R_reads' HO_440000.out).2.2 | (with_reducible refine Kd.C_alloc ?_ _) | (with_reducible refine Kd.C_drewN ?_ _) | (with_reducible refine Kd.C_drew ?_))); (case side2 => exact (Kd.R_reads' HO_440000.out).2.1); rintro e w' ⟨rfl, ⟨nd, rfl⟩⟩; refine ⟨_, rfl, ?_⟩) | ((with_reducible refine gate_dst (N := 87) rfl ?_); (with_reducible refine gate_callee (f := 14) rfl ?_); refine goesL_ (some 87) rfl rfl Try.func14 (by kernel_rfl) rfl #[.slice A0 l0.length c0, .slice Ao18 t435.length co18, .int .i64 x13_4] rfl (by (try simp only [List.map_toArray, List.map_cons, List.map_nil]); first | done | rfl | (simp only [List.length_drop, List.length_take]; rfl)) ?_; (with_reducible refine (curtilageref21_Needed.calls k4 _ _ l0 _ _ t435 x13_4 t446 _ ?side1 ?side2 ?side3 ?side4 A34.out).mono ?_); (case side1 => repeat (first | exact (Kd.C_below HR0.out (by repeat (first | (with_reducible first | exact HB.out | apply below_alloc | apply pw_below_drewN | apply below_drew1 | refine below_set ?_ GE439.out) | exact HB.out))) | (with_reducible refine Kd.C_alloc ?_ _) | (with_reducible refine Kd.C_drewN ?_ _) | (with_reducible refine Kd.C_drew ?_))); (case side2 => exact HC0.out); (case side3 => repeat (first | exact (Kd.R_reads' HO_440001.out).2.2 | (with_reducible refine Kd.C_alloc ?_ _) | (with_reducible refine Kd.C_drewN ?_ _) | (with_reducible refine Kd.C_drew ?_))); (case side4 => exact (Kd.R_reads' HO_440001.out).2.1); rintro e w39 ⟨rfl, hb⟩; refine ⟨_, rfl, ?_⟩; have n0_ := Aside0.mk (Kd.R_below (by (with_reducible repeat (first | apply Kd.R_alloc | apply Kd.R_drewN | apply Kd.R_drew)); exact HO_440000.out) hb); have n1_ := Aside0.mk (Kd.R_below (by (with_reducible repeat (first | apply Kd.R_alloc | apply Kd.R_drewN | apply Kd.R_drew)); exact HO_440001.out) hb); have n2_ := Aside0.mk (blk_below (g := gb439) (o := .cells #[.slice Ao16 t432.length co16, .slice Ao18 t435.length co18] 28 (0, 0)) (by (with_reducible repeat (first | refine blk_drewN ?_ _ | refine blk_drew ?_ | refine blk_alloc ?_ _)); exact BK439.out) hb); have n3_ := Aside0.mk (below_step (by repeat (first | (with_reducible first | exact HB.out | apply below_alloc | apply pw_below_drewN | apply below_drew1 | refine below_set ?_ GE439.out) | exact HB.out)) hb); clear HO_440000; clear HO_440001; clear BK439; clear HB; have HO_440000 := n0_; have HO_440001 := n1_; have BK439 := n2_; have HB := n3_; clear n0_ n1_ n2_ n3_; (try clear hb); (try clear hb2); (try clear hk); (try clear hi)))
                              go_roundg k4
                              case measure => have := HJ5.out; have := HJ12.out; have := HK3.out; have := HK4.out; omega
                              case rel => exact ⟨(wrap64 (x13_4 + 1)), (by first | rfl | (simp; done) | (simp [*]; done)), H', ⟨by have := HJ5.out; have := HJ12.out; have := HK3.out; have := HK4.out; omega⟩, ⟨by (with_reducible repeat (first | apply Kd.R_alloc | apply Kd.R_drewN | apply Kd.R_drew)); exact HO_440000.out⟩, ⟨by (with_reducible repeat (first | apply Kd.R_alloc | apply Kd.R_drewN | apply Kd.R_drew)); exact HO_440001.out⟩, ⟨by (with_reducible repeat (first | refine blk_drewN ?_ _ | refine blk_drew ?_ | refine blk_alloc ?_ _)); exact BK439.out⟩, ⟨by repeat (first | (with_reducible first | exact HB.out | apply below_alloc | apply pw_below_drewN | apply below_drew1 | refine below_set ?_ GE439.out) | exact HB.out)⟩⟩
                          · rw [if_neg c32] at H
                            have c32b0 : decide (x13_4 < (l0.length : Int)) = false := decide_eq_false c32
                            clear c32
                            by_cases c40 : t430 = true
                            · subst c40
                              have H1 : (if 0 < (t435.length : Int) then (if 0 ≤ (rd t435 0) then (if (rd t435 0) < (l0.length : Int) then (some (((rd_T38 l0 (rd t435 0)).f0).toList == a1.toList)) else (none)) else (none)) else (none)) = some r := by rw [if_pos rfl] at H; exact H
                              clear H
                              have H := H1
                              clear H1
                              by_cases c41 : 0 < (t435.length : Int)
                              · rw [if_pos c41] at H
                                have c41b0 : decide (0 < (t435.length : Int)) = true := decide_eq_true c41
                                have c41b1 : decide (0 < t435.length) = true := decide_eq_true (by omega)
                                clear c41
                                by_cases c42 : 0 ≤ (rd t435 0)
                                · rw [if_pos c42] at H
                                  have c42b0 : decide (0 ≤ (rd t435 0)) = true := decide_eq_true c42
                                  clear c42
                                  by_cases c43 : (rd t435 0) < (l0.length : Int)
                                  · rw [if_pos c43] at H
                                    have c43b0 : decide ((rd t435 0) < (l0.length : Int)) = true := decide_eq_true c43
                                    clear c43
                                    obtain rfl := Option.some.inj H
                                    have hcz44_0 : wr.cell? ⟨gb439, 0, none⟩ = some (.slice Ao16 t432.length co16) := (blk_cell BK439.out 0).trans rfl
                                    have hcz44_1 : wr.cell? ⟨gb439, 1, none⟩ = some (.slice Ao18 t435.length co18) := (blk_cell BK439.out 1).trans rfl
                                    have hfz44_0 := blk_frozen BK439.out 0
                                    have hfz44_1 := blk_frozen BK439.out 1
                                    have p443 : 0 ≤ (0 : Int) := (by omega)
                                    have q443 : 0 < (t435.length : Int) := of_decide_eq_true (by first | (with_reducible assumption) | assumption)
                                    obtain ⟨ad443, e443, hx443_0⟩ := Kd.at_int (Kd.R_reads' HO_440001.out).2.2 0 p443 q443
                                    cases e443
                                    have qi443 : (0 < t435.length) = True := eq_true (by omega)
                                    (try rw [show ((0 : Int)).toNat = 0 from rfl] at hx443_0)
                                    (try rw [Addr.add_zero'] at hx443_0)
                                    replace p443 := eq_true p443
                                    replace q443 := eq_true q443
                                    have p444 : 0 ≤ ((rd t435 0) : Int) := of_decide_eq_true (by first | (with_reducible assumption) | assumption)
                                    have q444 : (rd t435 0) < (l0.length : Int) := of_decide_eq_true (by first | (with_reducible assumption) | assumption)
                                    obtain ⟨ad444, A444_1, c444_1, A444_2, c444_2, A444_3, c444_3, A444_4, c444_4, A444_5, c444_5, A444_6, c444_6, e444, hx444_0, hx444_1, hx444_2, hx444_3, hx444_4, hx444_5, hx444_6, hl444_1, hi444_1, hl444_2, hi444_2, hl444_3, hi444_3, hl444_4, hi444_4, hl444_5, hi444_5, hl444_6, hi444_6⟩ := at_T38 HR0.out (rd t435 0) p444 q444
                                    cases e444
                                    replace hx444_0 := (HB.out.cell (World.block_lt_of_cell? w _ hx444_0)).trans hx444_0
                                    replace hx444_1 := (HB.out.cell (World.block_lt_of_cell? w _ hx444_1)).trans hx444_1
                                    replace hx444_2 := (HB.out.cell (World.block_lt_of_cell? w _ hx444_2)).trans hx444_2
                                    replace hx444_3 := (HB.out.cell (World.block_lt_of_cell? w _ hx444_3)).trans hx444_3
                                    replace hx444_4 := (HB.out.cell (World.block_lt_of_cell? w _ hx444_4)).trans hx444_4
                                    replace hx444_5 := (HB.out.cell (World.block_lt_of_cell? w _ hx444_5)).trans hx444_5
                                    replace hx444_6 := (HB.out.cell (World.block_lt_of_cell? w _ hx444_6)).trans hx444_6
                                    have HR444_1 := Aside0.mk hi444_1
                                    have HC444_1 := Aside0.mk hl444_1
                                    clear hi444_1 hl444_1
                                    have HR444_2 := Aside0.mk hi444_2
                                    have HC444_2 := Aside0.mk hl444_2
                                    clear hi444_2 hl444_2
                                    have HR444_3 := Aside0.mk hi444_3
                                    have HC444_3 := Aside0.mk hl444_3
                                    clear hi444_3 hl444_3
                                    have HR444_4 := Aside0.mk hi444_4
                                    have HC444_4 := Aside0.mk hl444_4
                                    clear hi444_4 hl444_4
                                    have HR444_5 := Aside0.mk hi444_5
                                    have HC444_5 := Aside0.mk hl444_5
                                    clear hi444_5 hl444_5
                                    have HR444_6 := Aside0.mk hi444_6
                                    have HC444_6 := Aside0.mk hl444_6
                                    clear hi444_6 hl444_6
                                    replace p444 := eq_true p444
                                    replace q444 := eq_true q444
                                    go_wp2
                                    go_ret
                                    exact ⟨by first | rfl | (simp [errW_none, errW_some] <;> rfl) | (simp [*, errW_none, errW_some] <;> rfl), by repeat (first | (with_reducible first | exact HB.out | apply below_alloc | apply pw_below_drewN | apply below_drew1 | refine below_set ?_ GE439.out) | exact HB.out)⟩
                                  · rw [if_neg c43] at H
                                    exact absurd H (by simp)
                                · rw [if_neg c42] at H
                                  exact absurd H (by simp)
                              · rw [if_neg c41] at H
                                exact absurd H (by simp)
                            · replace c40 := Bool.eq_false_iff.mpr c40
                              subst c40
                              have H1 : (some false) = some r := by rw [if_neg (show ¬ (false = true) by decide)] at H; exact H
                              clear H
                              have H := H1
                              clear H1
                              exact absurd ((Option.some.inj H).trans HT.out) (by decide)
        · replace c11 := Bool.eq_false_iff.mpr c11
          subst c11
          have H1 : (some t430) = some r := by rw [if_neg (show ¬ (false = true) by decide)] at H; exact H
          clear H
          have H := H1
          clear H1
          obtain rfl := Option.some.inj H
          go_wp2_with (first | ((with_reducible refine gate_dst (N := 31) rfl ?_); (with_reducible refine gate_callee (f := 11) rfl ?_); refine goesL_ (some 31) rfl rfl Try.func11 (by kernel_rfl) rfl #[.slice A0 l0.length c0, .string a1, .slice A2 l2.length c2] rfl (by (try simp only [List.map_toArray, List.map_cons, List.map_nil]); first | done | rfl | (simp only [List.length_drop, List.length_take]; rfl)) ?_; (with_reducible refine (curtilagelaw21_made.calls kj5 _ _ l0 a1 _ _ l2 t432 t435 false _ ?side1 ?side2 ?side3 ?side4 A10.out).mono ?_); (case side1 => repeat (first | exact (Kd.C_below HR0.out HB.out) | (with_reducible refine Kd.C_alloc ?_ _) | (with_reducible refine Kd.C_drewN ?_ _) | (with_reducible refine Kd.C_drew ?_))); (case side2 => exact HC0.out); (case side3 => repeat (first | exact (Kd.C_below HR2.out HB.out) | (with_reducible refine Kd.C_alloc ?_ _) | (with_reducible refine Kd.C_drewN ?_ _) | (with_reducible refine Kd.C_drew ?_))); (case side4 => exact HC2.out); rintro e w45 ⟨v433, v436, rfl, ho0, ho1, hb⟩; refine ⟨_, rfl, ?_⟩; have n0_ := Aside0.mk (Kd.R_lower ho0 (below_size (by repeat (first | (with_reducible first | exact HB.out | apply below_alloc | apply pw_below_drewN | apply below_drew1) | exact HB.out)))); have n1_ := Aside0.mk (Kd.R_lower ho1 (below_size (by repeat (first | (with_reducible first | exact HB.out | apply below_alloc | apply pw_below_drewN | apply below_drew1) | exact HB.out)))); have n2_ := Aside0.mk (below_step (by repeat (first | (with_reducible first | exact HB.out | apply below_alloc | apply pw_below_drewN | apply below_drew1) | exact HB.out)) hb); clear HB; have HO434 := n0_; have HO437 := n1_; have HB := n2_; clear n0_ n1_ n2_; (try clear hb); (try clear hb2); (try clear hk); (try clear hi); (try clear ho0); (try clear ho1)) | ((with_reducible refine gate_dst (N := 9) rfl ?_); (try (refine gate_guard (by rfl) ?_; dsimp only)); refine box_event ?hg (N := 9) ?hd (cs := #[.slice none 0 0, .slice none 0 0]) (t := 28) ?hr ?_; (case hd => rfl); (case hg => rfl); (case hr => first | (go_simp; done) | (go_simp; rfl)); intro gb439 hg w46 hbox hb; have n0_ := Aside0.mk (Kd.R_below (by (with_reducible repeat (first | apply Kd.R_alloc | apply Kd.R_drewN | apply Kd.R_drew)); exact HO434.out) hb); have n1_ := Aside0.mk (Kd.R_below (by (with_reducible repeat (first | apply Kd.R_alloc | apply Kd.R_drewN | apply Kd.R_drew)); exact HO437.out) hb); have n2_ := Aside0.mk (below_step (by repeat (first | (with_reducible first | exact HB.out | apply below_alloc | apply pw_below_drewN | apply below_drew1) | exact HB.out)) hb); have n3_ := Aside0.mk (hbox); have n4_ := Aside0.mk ((by rw [hg]; exact (below_size (by repeat (first | (with_reducible first | exact HB.out | apply below_alloc | apply pw_below_drewN | apply below_drew1) | exact HB.out))) : w.heap.size ≤ gb439)); have n5_ := n4_; clear HO434; clear HO437; clear HB; have HO434 := n0_; have HO437 := n1_; have HB := n2_; have BK439 := n3_; have GW439 := n4_; have GE439 := n5_; clear n0_ n1_ n2_ n3_ n4_ n5_; clear hb hbox hg; obtain ⟨Ao47, co47, eo47⟩ := Kd.R_slice HO434.out; subst eo47; obtain ⟨hcz48_0, hcz48_1, hfz48_0, hfz48_1⟩ := cells2 BK439.out; obtain ⟨Ao49, co49, eo49⟩ := Kd.R_slice HO437.out; subst eo49) | ((with_reducible refine gate_store (t := 28) (p := 9) rfl ?_); refine store_event (t := 28) (p := 9) (v := ?vo_w50) (w1 := ((w46.setCell ⟨gb439, 0, none⟩ (.slice Ao47 t432.length co47)).setCell ⟨gb439, 1, none⟩ (.slice Ao49 t435.length co49))) ?hg ?ho ?hn ?hr ?_; (case ho => rfl); (case hg => rfl); (case hn => rfl); (case hr => first | (go_simp; done) | (go_simp; rfl)); intro w50 hw; have n0_ : Aside0 (Kd.R (Kd.int .i64) 3 w50 w.heap.size (fun k_ => some k_ ≠ (.slice Ao49 t435.length co49 : Value).ownBlock) (.slice Ao47 t432.length co47) t432) := ⟨(by rw [hw]; exact (by (with_reducible repeat (first | apply Kd.R_alloc | apply Kd.R_drewN | apply Kd.R_drew)); exact Kd.R_mono (Kd.R_far (p := ⟨gb439, 1, none⟩) (Kd.R_far (p := ⟨gb439, 0, none⟩) (Kd.R_types HO434.out BK439.out (by decide)) (fun _ hk => hk.2) (.slice Ao47 t432.length co47)) (fun _ hk => hk.2) (.slice Ao49 t435.length co49)) (fun _ hk => hk.1)))⟩; have n1_ : Aside0 (Kd.R (Kd.int .i64) 3 w50 w.heap.size (fun k_ => some k_ ≠ (.slice Ao47 t432.length co47 : Value).ownBlock) (.slice Ao49 t435.length co49) t435) := ⟨(by rw [hw]; exact (by (with_reducible repeat (first | apply Kd.R_alloc | apply Kd.R_drewN | apply Kd.R_drew)); exact Kd.R_mono (Kd.R_far (p := ⟨gb439, 1, none⟩) (Kd.R_far (p := ⟨gb439, 0, none⟩) (Kd.R_types HO437.out BK439.out (by decide)) (fun _ hk => hk.2) (.slice Ao47 t432.length co47)) (fun _ hk => hk.2) (.slice Ao49 t435.length co49)) (fun _ hk => hk.1)))⟩; have n2_ : Aside0 (w50.heap[gb439]? = some (.cells #[.slice Ao47 t432.length co47, .slice Ao49 t435.length co49] 28 (0, 0))) := ⟨(by rw [hw]; exact (by (with_reducible repeat (first | refine blk_drewN ?_ _ | refine blk_drew ?_ | refine blk_alloc ?_ _)); refine blk_put (cs := #[.slice Ao47 t432.length co47, .slice none 0 0]) ?_ 1 _ rfl; (with_reducible repeat (first | refine blk_drewN ?_ _ | refine blk_drew ?_ | refine blk_alloc ?_ _)); refine blk_put (cs := #[.slice none 0 0, .slice none 0 0]) ?_ 0 _ rfl; (with_reducible repeat (first | refine blk_drewN ?_ _ | refine blk_drew ?_ | refine blk_alloc ?_ _)); exact BK439.out))⟩; have n3_ : Aside0 (Below w.heap.size w w50) := ⟨(by rw [hw]; exact (by repeat (first | (with_reducible first | exact HB.out | apply below_alloc | apply pw_below_drewN | apply below_drew1 | refine below_set ?_ GE439.out) | exact HB.out)))⟩; clear hw; clear HO434; clear HO437; clear BK439; clear HB; have HO434 := n0_; have HO437 := n1_; have BK439 := n2_; have HB := n3_; clear n0_ n1_ n2_ n3_))
          go_ret
          exact ⟨by first | rfl | (simp [errW_none, errW_some] <;> rfl) | (simp [*, errW_none, errW_some] <;> rfl), by repeat (first | (with_reducible first | exact HB.out | apply below_alloc | apply pw_below_drewN | apply below_drew1 | refine below_set ?_ GE439.out) | exact HB.out)⟩

end Go.Proofs.Ytociaidhgefpiaa.P
