/- What functions of the program, and of its laws, give, each proved of its code by a walk; no condition. -/
import Derived.Test.YtdgmkmjmddjcfaaKLookupTwicePx0
import Derived.Test.YtdgmkmjmddjcfaaKLookupTwicePx6
import Derived.Test.YtdgmkmjmddjcfaaKLookupTwicePx8
import Derived.Test.YtdgmkmjmddjcfaaKLookupTwicePx9
import Derived.Test.YtdgmkmjmddjcfaaKLookupTwicePx10
import Derived.Test.YtdgmkmjmddjcfaaKLookupTwicePx14
namespace Go.Proofs.Ytdgmkmjmddjcfaa.P
open Go.RowKit Go.Proofs.YtdgmkmjmddjcfaaW.PrintWords Go.Proofs.YtdgmkmjmddjcfaaW.PrintLast Go.Proofs.YtdgmkmjmddjcfaaW.PrintMore
attribute [local go_sem] max2_int min2_int max_two min_two max_three min_three max_four min_four   -- for this text's walks alone
set_option linter.unusedVariables false
set_option linter.unusedSimpArgs false

def curtilageref10_Texts.l0 : Nat → List ByteArray → List ByteArray → Int → Option (Bool)
  | 0, _, _, _ => none
  | k + 1, x0, x1, x5 => if x5 < (x0.length : Int) then (if 0 ≤ x5 then (if x5 < (x1.length : Int) then (if (rdOf ByteArray.empty x0 x5).toList = (rdOf ByteArray.empty x1 x5).toList then (curtilageref10_Texts.l0 k x0 x1 (wrap64 (x5 + 1))) else (some false)) else (none)) else (none)) else (some true)
def curtilageref10_Texts.f (k : Nat) (l0 : List ByteArray) (l1 : List ByteArray) : Option (Bool) := if (l0.length : Int) = (l1.length : Int) then (curtilageref10_Texts.l0 k l0 l1 0) else (some false)
theorem curtilageref10_Texts.mono_l : ∀ k, (∀ y0 y1 y2, LeO (curtilageref10_Texts.l0 k y0 y1 y2) (curtilageref10_Texts.l0 (k + 1) y0 y1 y2))
  | 0 => fun _ _ _ r h => by simp [curtilageref10_Texts.l0] at h
  | k + 1 => by
    have ih0 := curtilageref10_Texts.mono_l k
    · intro y0 y1 y2
      unfold curtilageref10_Texts.l0
      repeat' first
      | (with_reducible exact ih0 _ _ _)
      | (with_reducible exact LeO.refl _)
      | (with_reducible exact LeO.none _)
      | (with_reducible refine LeO.ite ?_ ?_)
      | (with_reducible refine LeO.bind ?_ (fun _ => ?_))
      | exact ih0 _ _ _
      | exact LeO.none _
      | refine LeO.ite ?_ ?_
      | refine LeO.bind ?_ (fun _ => ?_)
theorem curtilageref10_Texts.mono : ∀ a0 a1 k, LeO (curtilageref10_Texts.f k a0 a1) (curtilageref10_Texts.f (k + 1) a0 a1) := by
  intro a0 a1 k
  have ih0 := curtilageref10_Texts.mono_l k
  unfold curtilageref10_Texts.f
  repeat' first
      | (with_reducible exact ih0 _ _ _)
      | (with_reducible exact LeO.refl _)
      | (with_reducible exact LeO.none _)
      | (with_reducible refine LeO.ite ?_ ?_)
      | (with_reducible refine LeO.bind ?_ (fun _ => ?_))
      | exact ih0 _ _ _
      | exact LeO.none _
      | refine LeO.ite ?_ ?_
      | refine LeO.bind ?_ (fun _ => ?_)
set_option maxHeartbeats 8000000 in
set_option maxRecDepth 100000 in
theorem curtilageref10_Texts.calls (k : Nat) (A0 : Option Addr) (c0 : Nat) (l0 : List ByteArray) (A1 : Option Addr) (c1 : Nat) (l1 : List ByteArray) (r : Bool) (w : World) (hr0 : Kd.C Kd.string w A0 l0.length l0) (hc0 : l0.length ≤ c0) (hr1 : Kd.C Kd.string w A1 l1.length l1) (hc1 : l1.length ≤ c1) (h : curtilageref10_Texts.f k l0 l1 = some r) :
    Calls Try.prog 19 #[.slice A0 l0.length c0, .slice A1 l1.length c1] w fun e w' => e = .returned (.bool r) ∧ Drawn0 w w' := by
  have HR0 := Aside0.mk hr0
  have HC0 := Aside0.mk hc0
  clear hr0 hc0
  have HR1 := Aside0.mk hr1
  have HC1 := Aside0.mk hc1
  clear hr1 hc1
  have H : (if (l0.length : Int) = (l1.length : Int) then (curtilageref10_Texts.l0 k l0 l1 0) else (some false)) = some r := h
  clear h
  by_cases c3 : (l0.length : Int) = (l1.length : Int)
  · rw [if_pos c3] at H
    have c3b0 : ((l0.length : Int) == (l1.length : Int)) = true := beq_iff_eq.mpr c3
    have c3b1 : ((l0.length : Int) != (l1.length : Int)) = false := bne_eq_false_iff_eq.mpr c3
    have c3b2 : (l0.length == l1.length) = true := by first | simpa using c3 | (simp at c3 ⊢; omega)
    clear c3
    have H' := Aside0.mk H
    clear H
    go_enter Try.func19, Try.ntmps19
    go_wp2
    repeat (go_quiet (fail); try go_wp2)
    go_loopg [5] k (fun kq v5 w' => ∃ (x5_1 : Int), v5 = .int .i64 x5_1 ∧ Aside0 (curtilageref10_Texts.l0 kq l0 l1 x5_1 = some r) ∧ Aside0 (kq ≤ k) ∧ Drawn0 w w')
    case atStart => exact ⟨(0), (by first | rfl | (simp; done) | (simp [*]; done)), H', ⟨Nat.le_refl _⟩, by repeat (first | exact Drawn0.refl _ | apply Drawn0.step)⟩
    case round =>
      clear H'
      try clear c1
      try clear p2
      try clear c3
      try clear c3b0
      try clear c3b1
      try clear c3b2
      obtain ⟨x5_1, rfl, HA, HK1, ⟨m1, rfl⟩⟩ := hrel
      cases gk with
      | zero => exact absurd HA.out (by simp [curtilageref10_Texts.l0])
      | succ k1 =>
        have H := HA.out
        clear HA
        simp only [curtilageref10_Texts.l0] at H
        by_cases c4 : x5_1 < (l0.length : Int)
        · rw [if_pos c4] at H
          have c4b0 : decide (x5_1 < (l0.length : Int)) = true := decide_eq_true c4
          clear c4
          by_cases c5 : 0 ≤ x5_1
          · rw [if_pos c5] at H
            have c5b0 : decide (0 ≤ x5_1) = true := decide_eq_true c5
            clear c5
            by_cases c6 : x5_1 < (l1.length : Int)
            · rw [if_pos c6] at H
              have c6b0 : decide (x5_1 < (l1.length : Int)) = true := decide_eq_true c6
              clear c6
              by_cases c7 : (rdOf ByteArray.empty l0 x5_1).toList = (rdOf ByteArray.empty l1 x5_1).toList
              · rw [if_pos c7] at H
                have c7b0 : ((rdOf ByteArray.empty l0 x5_1).toList == (rdOf ByteArray.empty l1 x5_1).toList) = true := beq_iff_eq.mpr c7
                have c7b1 : ((rdOf ByteArray.empty l0 x5_1).toList != (rdOf ByteArray.empty l1 x5_1).toList) = false := bne_eq_false_iff_eq.mpr c7
                clear c7
                have H' := Aside0.mk H
                clear H
                have p354 : 0 ≤ (x5_1 : Int) := of_decide_eq_true (by first | (with_reducible assumption) | assumption)
                have q354 : x5_1 < (l0.length : Int) := of_decide_eq_true (by first | (with_reducible assumption) | assumption)
                obtain ⟨ad354, e354, hx354_0⟩ := Kd.at_string HR0.out x5_1 p354 q354
                cases e354
                replace p354 := eq_true p354
                replace q354 := eq_true q354
                have p355 : 0 ≤ (x5_1 : Int) := of_decide_eq_true (by first | (with_reducible assumption) | assumption)
                have q355 : x5_1 < (l1.length : Int) := of_decide_eq_true (by first | (with_reducible assumption) | assumption)
                obtain ⟨ad355, e355, hx355_0⟩ := Kd.at_string HR1.out x5_1 p355 q355
                cases e355
                replace p355 := eq_true p355
                replace q355 := eq_true q355
                go_wp2
                repeat (go_quiet (fail); try go_wp2)
                go_roundg k1
                case measure => have := HK1.out; omega
                case rel => exact ⟨(wrap64 (x5_1 + 1)), (by first | rfl | (simp; done) | (simp [*]; done)), H', ⟨by have := HK1.out; omega⟩, by repeat (first | exact Drawn0.refl _ | apply Drawn0.step)⟩
              · rw [if_neg c7] at H
                have c7b0 : ((rdOf ByteArray.empty l0 x5_1).toList == (rdOf ByteArray.empty l1 x5_1).toList) = false := beq_eq_false_iff_ne.mpr c7
                have c7b1 : ((rdOf ByteArray.empty l0 x5_1).toList != (rdOf ByteArray.empty l1 x5_1).toList) = true := bne_iff_ne.mpr c7
                obtain rfl := Option.some.inj H
                have p354 : 0 ≤ (x5_1 : Int) := of_decide_eq_true (by first | (with_reducible assumption) | assumption)
                have q354 : x5_1 < (l0.length : Int) := of_decide_eq_true (by first | (with_reducible assumption) | assumption)
                obtain ⟨ad354, e354, hx354_0⟩ := Kd.at_string HR0.out x5_1 p354 q354
                cases e354
                replace p354 := eq_true p354
                replace q354 := eq_true q354
                have p355 : 0 ≤ (x5_1 : Int) := of_decide_eq_true (by first | (with_reducible assumption) | assumption)
                have q355 : x5_1 < (l1.length : Int) := of_decide_eq_true (by first | (with_reducible assumption) | assumption)
                obtain ⟨ad355, e355, hx355_0⟩ := Kd.at_string HR1.out x5_1 p355 q355
                cases e355
                replace p355 := eq_true p355
                replace q355 := eq_true q355
                go_wp2
                repeat (go_quiet (fail); try go_wp2)
                go_ret
                exact ⟨by first | rfl | (simp; done) | (simp [*]; done), by repeat (first | exact Drawn0.refl _ | apply Drawn0.step)⟩
            · rw [if_neg c6] at H
              exact absurd H (by simp)
          · rw [if_neg c5] at H
            exact absurd H (by simp)
        · rw [if_neg c4] at H
          have c4b0 : decide (x5_1 < (l0.length : Int)) = false := decide_eq_false c4
          clear c4
          obtain rfl := Option.some.inj H
          go_wp2
          repeat (go_quiet (fail); try go_wp2)
          go_ret
          exact ⟨by first | rfl | (simp; done) | (simp [*]; done), by repeat (first | exact Drawn0.refl _ | apply Drawn0.step)⟩
  · rw [if_neg c3] at H
    have c3b0 : ((l0.length : Int) == (l1.length : Int)) = false := beq_eq_false_iff_ne.mpr c3
    have c3b1 : ((l0.length : Int) != (l1.length : Int)) = true := bne_iff_ne.mpr c3
    have c3b2 : (l0.length == l1.length) = false := by first | simpa using c3 | (simp at c3 ⊢; omega)
    obtain rfl := Option.some.inj H
    go_enter Try.func19, Try.ntmps19
    go_wp2
    repeat (go_quiet (fail); try go_wp2)
    go_ret
    exact ⟨by first | rfl | (simp; done) | (simp [*]; done), by repeat (first | exact Drawn0.refl _ | apply Drawn0.step)⟩

def curtilagelaw14_LookupTwice.j0 : Nat → List (S32) → List Int → ByteArray → Bool → Bool → Option (Bool)
  | 0, _, _, _, _, _ => none
  | k + 1, x0, x1, x2, x7, x36 => if x36 = true then (some x7) else ((lookup_In.f k x0 x1 x2 (⟨#[]⟩ : ByteArray)).bind fun bt359 => ((some (([] : List Int) : List Int)).bind fun y361 => (if y361.length + x1.length < 17592186044416 then ((some (y361 ++ x1 : List Int)).bind fun y364 => (if y364.length + x1.length < 17592186044416 then ((lookup_In.f k x0 (y364 ++ x1) x2 (⟨#[]⟩ : ByteArray)).bind fun bt370 => ((lookup_In.f k x0 ([] : List Int) x2 (⟨#[]⟩ : ByteArray)).bind fun bt372 => ((lookup_All.f k x0 x1).bind fun t374 => ((some (([] : List Int) : List Int)).bind fun y377 => (if y377.length + x1.length < 17592186044416 then ((some (y377 ++ x1 : List Int)).bind fun y380 => (if y380.length + x1.length < 17592186044416 then ((lookup_All.f k x0 (y380 ++ x1)).bind fun t386 => ((lookup_All.f k x0 ([] : List Int)).bind fun t389 => (if x7 = true then (if bt359.1 = bt370.1 then (if bt359.2 = bt370.2 then (if bt372.1 = (-1) then (if bt372.2 = (-1) then ((curtilageref10_Texts.f k t374 t386).bind fun t392 => (if t392 = true then (some ((t389.length : Int) == 0)) else (some false))) else (some false)) else (some false)) else (some false)) else (some false)) else (some false)))) else (none))) else (none)))))) else (none))) else (none))))
def curtilagelaw14_LookupTwice.f (k : Nat) (l0 : List (S32)) (l1 : List Int) (a2 : ByteArray) : Option (Bool) := (curtilagelaw14_awake.f k).bind fun t356 => ((curtilageref14_Short.f k l0).bind fun t357 => ((curtilageref14_Right.f k l1 (l0.length : Int)).bind fun t358 => (if t357 = true then (if t358 = true then (curtilagelaw14_LookupTwice.j0 k l0 l1 a2 t356 (decide ((l1.length : Int) > 20))) else (curtilagelaw14_LookupTwice.j0 k l0 l1 a2 t356 true)) else (curtilagelaw14_LookupTwice.j0 k l0 l1 a2 t356 true))))
theorem curtilagelaw14_LookupTwice.mono_l : ∀ k, (∀ y0 y1 y2 y3 y4, LeO (curtilagelaw14_LookupTwice.j0 k y0 y1 y2 y3 y4) (curtilagelaw14_LookupTwice.j0 (k + 1) y0 y1 y2 y3 y4))
  | 0 => fun _ _ _ _ _ r h => by simp [curtilagelaw14_LookupTwice.j0] at h
  | k + 1 => by
    have ih0 := curtilagelaw14_LookupTwice.mono_l k
    · intro y0 y1 y2 y3 y4
      unfold curtilagelaw14_LookupTwice.j0
      repeat' first
      | (with_reducible exact ih0 _ _ _ _ _)
      | (with_reducible exact curtilagelaw14_awake.mono _)
      | (with_reducible exact curtilageref10_Texts.mono _ _ _)
      | (with_reducible exact curtilageref14_Right.mono _ _ _)
      | (with_reducible exact curtilageref14_Short.mono _ _)
      | (with_reducible exact lookup_All.mono _ _ _)
      | (with_reducible exact lookup_In.mono _ _ _ _ _)
      | (with_reducible exact LeO.refl _)
      | (with_reducible exact LeO.none _)
      | (with_reducible refine LeO.ite ?_ ?_)
      | (with_reducible refine LeO.bind ?_ (fun _ => ?_))
      | exact ih0 _ _ _ _ _
      | exact curtilagelaw14_awake.mono _
      | exact curtilageref10_Texts.mono _ _ _
      | exact curtilageref14_Right.mono _ _ _
      | exact curtilageref14_Short.mono _ _
      | exact lookup_All.mono _ _ _
      | exact lookup_In.mono _ _ _ _ _
      | exact LeO.none _
      | refine LeO.ite ?_ ?_
      | refine LeO.bind ?_ (fun _ => ?_)
theorem curtilagelaw14_LookupTwice.mono : ∀ a0 a1 a2 k, LeO (curtilagelaw14_LookupTwice.f k a0 a1 a2) (curtilagelaw14_LookupTwice.f (k + 1) a0 a1 a2) := by
  intro a0 a1 a2 k
  have ih0 := curtilagelaw14_LookupTwice.mono_l k
  unfold curtilagelaw14_LookupTwice.f
  repeat' first
      | (with_reducible exact ih0 _ _ _ _ _)
      | (with_reducible exact curtilagelaw14_awake.mono _)
      | (with_reducible exact curtilageref10_Texts.mono _ _ _)
      | (with_reducible exact curtilageref14_Right.mono _ _ _)
      | (with_reducible exact curtilageref14_Short.mono _ _)
      | (with_reducible exact lookup_All.mono _ _ _)
      | (with_reducible exact lookup_In.mono _ _ _ _ _)
      | (with_reducible exact LeO.refl _)
      | (with_reducible exact LeO.none _)
      | (with_reducible refine LeO.ite ?_ ?_)
      | (with_reducible refine LeO.bind ?_ (fun _ => ?_))
      | exact ih0 _ _ _ _ _
      | exact curtilagelaw14_awake.mono _
      | exact curtilageref10_Texts.mono _ _ _
      | exact curtilageref14_Right.mono _ _ _
      | exact curtilageref14_Short.mono _ _
      | exact lookup_All.mono _ _ _
      | exact lookup_In.mono _ _ _ _ _
      | exact LeO.none _
      | refine LeO.ite ?_ ?_
      | refine LeO.bind ?_ (fun _ => ?_)
set_option maxHeartbeats 8000000 in
set_option maxRecDepth 100000 in
theorem curtilagelaw14_LookupTwice.calls (k : Nat) (A0 : Option Addr) (c0 : Nat) (l0 : List (S32)) (A1 : Option Addr) (c1 : Nat) (l1 : List Int) (a2 : ByteArray) (r : Bool) (w : World) (hr0 : Kd.C k32 w A0 l0.length l0) (hc0 : l0.length ≤ c0) (hr1 : Kd.C (Kd.int .i64) w A1 l1.length l1) (hc1 : l1.length ≤ c1) (h : curtilagelaw14_LookupTwice.f k l0 l1 a2 = some r) (hr0 : r = true) :
    Calls Try.prog 7 #[.slice A0 l0.length c0, .slice A1 l1.length c1, .string a2] w fun e w' => e = .returned (.bool r) ∧ Below w.heap.size w w' := by
  have HT := Aside0.mk hr0
  clear hr0
  have HR0 := Aside0.mk hr0
  have HC0 := Aside0.mk hc0
  clear hr0 hc0
  have HR1 := Aside0.mk hr1
  have HC1 := Aside0.mk hc1
  clear hr1 hc1
  have HB := Aside0.mk (Below.refl w.heap.size w)
  have H : ((curtilagelaw14_awake.f k).bind fun t356 => ((curtilageref14_Short.f k l0).bind fun t357 => ((curtilageref14_Right.f k l1 (l0.length : Int)).bind fun t358 => (if t357 = true then (if t358 = true then (curtilagelaw14_LookupTwice.j0 k l0 l1 a2 t356 (decide ((l1.length : Int) > 20))) else (curtilagelaw14_LookupTwice.j0 k l0 l1 a2 t356 true)) else (curtilagelaw14_LookupTwice.j0 k l0 l1 a2 t356 true))))) = some r := h
  clear h
  replace H := Option.bind_eq_some_iff.mp H
  obtain ⟨t356, A40, H⟩ := H
  replace H : ((curtilageref14_Short.f k l0).bind fun t357 => ((curtilageref14_Right.f k l1 (l0.length : Int)).bind fun t358 => (if t357 = true then (if t358 = true then (curtilagelaw14_LookupTwice.j0 k l0 l1 a2 t356 (decide ((l1.length : Int) > 20))) else (curtilagelaw14_LookupTwice.j0 k l0 l1 a2 t356 true)) else (curtilagelaw14_LookupTwice.j0 k l0 l1 a2 t356 true)))) = some r := H
  have A4 := Aside0.mk A40
  clear A40
  replace H := Option.bind_eq_some_iff.mp H
  obtain ⟨t357, A50, H⟩ := H
  replace H : ((curtilageref14_Right.f k l1 (l0.length : Int)).bind fun t358 => (if t357 = true then (if t358 = true then (curtilagelaw14_LookupTwice.j0 k l0 l1 a2 t356 (decide ((l1.length : Int) > 20))) else (curtilagelaw14_LookupTwice.j0 k l0 l1 a2 t356 true)) else (curtilagelaw14_LookupTwice.j0 k l0 l1 a2 t356 true))) = some r := H
  have A5 := Aside0.mk A50
  clear A50
  replace H := Option.bind_eq_some_iff.mp H
  obtain ⟨t358, A60, H⟩ := H
  replace H : (if t357 = true then (if t358 = true then (curtilagelaw14_LookupTwice.j0 k l0 l1 a2 t356 (decide ((l1.length : Int) > 20))) else (curtilagelaw14_LookupTwice.j0 k l0 l1 a2 t356 true)) else (curtilagelaw14_LookupTwice.j0 k l0 l1 a2 t356 true)) = some r := H
  have A6 := Aside0.mk A60
  clear A60
  have HC7 := Aside0.mk H
  clear H
  go_enter Try.func7, Try.ntmps7
  go_upto_region 4 with (first | ((with_reducible refine gate_dst (N := 19) rfl ?_); (with_reducible refine gate_callee (f := 8) rfl ?_); refine goesL_ (some 19) rfl rfl Try.func8 (by kernel_rfl) rfl #[] rfl (by (try simp only [List.map_toArray, List.map_cons, List.map_nil]); first | done | rfl | (simp only [List.length_drop, List.length_take]; rfl)) ?_; (with_reducible refine (curtilagelaw14_awake.calls k  t356 _ A4.out).mono ?_); rintro e w8 ⟨rfl, hb⟩; refine ⟨_, rfl, ?_⟩; have n0_ := Aside0.mk (below_step (by repeat (first | (with_reducible first | exact HB.out | apply below_alloc | apply pw_below_drewN | apply below_drew1) | exact HB.out)) hb); clear HB; have HB := n0_; clear n0_; (try clear hb); (try clear hb2); (try clear hk); (try clear hi)) | ((with_reducible refine gate_dst (N := 21) rfl ?_); (with_reducible refine gate_callee (f := 9) rfl ?_); refine goesL_ (some 21) rfl rfl Try.func9 (by kernel_rfl) rfl #[.slice A0 l0.length c0] rfl (by (try simp only [List.map_toArray, List.map_cons, List.map_nil]); first | done | rfl | (simp only [List.length_drop, List.length_take]; rfl)) ?_; (with_reducible refine (curtilageref14_Short.calls k _ _ l0 t357 _ ?side1 ?side2 A5.out).mono ?_); (case side1 => repeat (first | exact (Kd.C_below HR0.out HB.out) | (with_reducible refine Kd.C_alloc ?_ _) | (with_reducible refine Kd.C_drewN ?_ _) | (with_reducible refine Kd.C_drew ?_))); (case side2 => exact HC0.out); rintro e w9 ⟨rfl, hb⟩; refine ⟨_, rfl, ?_⟩; have n0_ := Aside0.mk (below_step (by repeat (first | (with_reducible first | exact HB.out | apply below_alloc | apply pw_below_drewN | apply below_drew1) | exact HB.out)) hb); clear HB; have HB := n0_; clear n0_; (try clear hb); (try clear hb2); (try clear hk); (try clear hi)) | ((with_reducible refine gate_dst (N := 25) rfl ?_); (with_reducible refine gate_callee (f := 10) rfl ?_); refine goesL_ (some 25) rfl rfl Try.func10 (by kernel_rfl) rfl #[.slice A1 l1.length c1, .int .i64 (l0.length : Int)] rfl (by (try simp only [List.map_toArray, List.map_cons, List.map_nil]); first | done | rfl | (simp only [List.length_drop, List.length_take]; rfl)) ?_; (with_reducible refine (curtilageref14_Right.calls k _ _ l1 (l0.length : Int) t358 _ ?side1 ?side2 A6.out).mono ?_); (case side1 => repeat (first | exact (Kd.C_below HR1.out HB.out) | (with_reducible refine Kd.C_alloc ?_ _) | (with_reducible refine Kd.C_drewN ?_ _) | (with_reducible refine Kd.C_drew ?_))); (case side2 => exact HC1.out); rintro e w' ⟨rfl, ⟨nd, rfl⟩⟩; refine ⟨_, rfl, ?_⟩))
  (try simp only [Act.put, List.setIfInBounds_toArray, List.set_cons_zero, List.set_cons_succ])
  go_cut [36] (fun v36 wc => ∃ (kq : Nat) (x36_6 : Bool), v36 = .bool x36_6 ∧ Aside0 (curtilagelaw14_LookupTwice.j0 kq l0 l1 a2 t356 x36_6 = some r) ∧ Aside0 (kq ≤ k) ∧ Aside0 (Below w.heap.size w wc))
  case first =>
    have H := HC7.out
    clear HC7
    by_cases c10 : t357 = true
    · subst c10
      have H1 : (if t358 = true then (curtilagelaw14_LookupTwice.j0 k l0 l1 a2 t356 (decide ((l1.length : Int) > 20))) else (curtilagelaw14_LookupTwice.j0 k l0 l1 a2 t356 true)) = some r := by rw [if_pos rfl] at H; exact H
      clear H
      have H := H1
      clear H1
      by_cases c11 : t358 = true
      · subst c11
        have H1 : (curtilagelaw14_LookupTwice.j0 k l0 l1 a2 t356 (decide ((l1.length : Int) > 20))) = some r := by rw [if_pos rfl] at H; exact H
        clear H
        have H := H1
        clear H1
        have H' := Aside0.mk H
        clear H
        go_wp2
        go_meet
        case rel => exact ⟨_, (decide ((l1.length : Int) > 20)), (by first | rfl | (simp; done) | (simp [*]; done)), H', ⟨by first | omega | exact Nat.le_refl _⟩, ⟨by repeat (first | (with_reducible first | exact HB.out | apply below_alloc | apply pw_below_drewN | apply below_drew1) | exact HB.out)⟩⟩
      · replace c11 := Bool.eq_false_iff.mpr c11
        subst c11
        have H1 : (curtilagelaw14_LookupTwice.j0 k l0 l1 a2 t356 true) = some r := by rw [if_neg (show ¬ (false = true) by decide)] at H; exact H
        clear H
        have H := H1
        clear H1
        have H' := Aside0.mk H
        clear H
        go_wp2
        go_meet
        case rel => exact ⟨_, (true), (by first | rfl | (simp; done) | (simp [*]; done)), H', ⟨by first | omega | exact Nat.le_refl _⟩, ⟨by repeat (first | (with_reducible first | exact HB.out | apply below_alloc | apply pw_below_drewN | apply below_drew1) | exact HB.out)⟩⟩
    · replace c10 := Bool.eq_false_iff.mpr c10
      subst c10
      have H1 : (curtilagelaw14_LookupTwice.j0 k l0 l1 a2 t356 true) = some r := by rw [if_neg (show ¬ (false = true) by decide)] at H; exact H
      clear H
      have H := H1
      clear H1
      have H' := Aside0.mk H
      clear H
      go_wp2
      go_meet
      case rel => exact ⟨_, (true), (by first | rfl | (simp; done) | (simp [*]; done)), H', ⟨by first | omega | exact Nat.le_refl _⟩, ⟨by repeat (first | (with_reducible first | exact HB.out | apply below_alloc | apply pw_below_drewN | apply below_drew1) | exact HB.out)⟩⟩
  case rest =>
    clear HC7
    try clear c1
    try clear p2
    try clear c7
    try clear c8
    try clear c9
    try clear c10
    try clear c11
    obtain ⟨kq, x36_6, rfl, HA, HJ6, HB⟩ := hcut
    cases kq with
    | zero => exact absurd HA.out (by simp [curtilagelaw14_LookupTwice.j0])
    | succ kj6 =>
      have H := HA.out
      clear HA
      simp only [curtilagelaw14_LookupTwice.j0] at H
      by_cases c12 : x36_6 = true
      · subst c12
        have H1 : (some t356) = some r := by rw [if_pos rfl] at H; exact H
        clear H
        have H := H1
        clear H1
        obtain rfl := Option.some.inj H
        go_wp2
        go_ret
        exact ⟨by first | rfl | (simp [errW_none, errW_some] <;> rfl) | (simp [*, errW_none, errW_some] <;> rfl), by repeat (first | (with_reducible first | exact HB.out | apply below_alloc | apply pw_below_drewN | apply below_drew1) | exact HB.out)⟩
      · replace c12 := Bool.eq_false_iff.mpr c12
        subst c12
        have H1 : ((lookup_In.f kj6 l0 l1 a2 (⟨#[]⟩ : ByteArray)).bind fun bt359 => ((some (([] : List Int) : List Int)).bind fun y361 => (if y361.length + l1.length < 17592186044416 then ((some (y361 ++ l1 : List Int)).bind fun y364 => (if y364.length + l1.length < 17592186044416 then ((lookup_In.f kj6 l0 (y364 ++ l1) a2 (⟨#[]⟩ : ByteArray)).bind fun bt370 => ((lookup_In.f kj6 l0 ([] : List Int) a2 (⟨#[]⟩ : ByteArray)).bind fun bt372 => ((lookup_All.f kj6 l0 l1).bind fun t374 => ((some (([] : List Int) : List Int)).bind fun y377 => (if y377.length + l1.length < 17592186044416 then ((some (y377 ++ l1 : List Int)).bind fun y380 => (if y380.length + l1.length < 17592186044416 then ((lookup_All.f kj6 l0 (y380 ++ l1)).bind fun t386 => ((lookup_All.f kj6 l0 ([] : List Int)).bind fun t389 => (if t356 = true then (if bt359.1 = bt370.1 then (if bt359.2 = bt370.2 then (if bt372.1 = (-1) then (if bt372.2 = (-1) then ((curtilageref10_Texts.f kj6 t374 t386).bind fun t392 => (if t392 = true then (some ((t389.length : Int) == 0)) else (some false))) else (some false)) else (some false)) else (some false)) else (some false)) else (some false)))) else (none))) else (none)))))) else (none))) else (none)))) = some r := by rw [if_neg (show ¬ (false = true) by decide)] at H; exact H
        clear H
        have H := H1
        clear H1
        replace H := Option.bind_eq_some_iff.mp H
        obtain ⟨⟨t359, t360⟩, A130, H⟩ := H
        replace H : ((some (([] : List Int) : List Int)).bind fun y361 => (if y361.length + l1.length < 17592186044416 then ((some (y361 ++ l1 : List Int)).bind fun y364 => (if y364.length + l1.length < 17592186044416 then ((lookup_In.f kj6 l0 (y364 ++ l1) a2 (⟨#[]⟩ : ByteArray)).bind fun bt370 => ((lookup_In.f kj6 l0 ([] : List Int) a2 (⟨#[]⟩ : ByteArray)).bind fun bt372 => ((lookup_All.f kj6 l0 l1).bind fun t374 => ((some (([] : List Int) : List Int)).bind fun y377 => (if y377.length + l1.length < 17592186044416 then ((some (y377 ++ l1 : List Int)).bind fun y380 => (if y380.length + l1.length < 17592186044416 then ((lookup_All.f kj6 l0 (y380 ++ l1)).bind fun t386 => ((lookup_All.f kj6 l0 ([] : List Int)).bind fun t389 => (if t356 = true then (if t359 = bt370.1 then (if t360 = bt370.2 then (if bt372.1 = (-1) then (if bt372.2 = (-1) then ((curtilageref10_Texts.f kj6 t374 t386).bind fun t392 => (if t392 = true then (some ((t389.length : Int) == 0)) else (some false))) else (some false)) else (some false)) else (some false)) else (some false)) else (some false)))) else (none))) else (none)))))) else (none))) else (none))) = some r := H
        have A13 := Aside0.mk A130
        clear A130
        obtain ⟨y361, hy361⟩ : ∃ y_ : List Int, y_ = (([] : List Int)) := ⟨_, rfl⟩
        replace H : (if y361.length + l1.length < 17592186044416 then ((some (y361 ++ l1 : List Int)).bind fun y364 => (if y364.length + l1.length < 17592186044416 then ((lookup_In.f kj6 l0 (y364 ++ l1) a2 (⟨#[]⟩ : ByteArray)).bind fun bt370 => ((lookup_In.f kj6 l0 ([] : List Int) a2 (⟨#[]⟩ : ByteArray)).bind fun bt372 => ((lookup_All.f kj6 l0 l1).bind fun t374 => ((some (([] : List Int) : List Int)).bind fun y377 => (if y377.length + l1.length < 17592186044416 then ((some (y377 ++ l1 : List Int)).bind fun y380 => (if y380.length + l1.length < 17592186044416 then ((lookup_All.f kj6 l0 (y380 ++ l1)).bind fun t386 => ((lookup_All.f kj6 l0 ([] : List Int)).bind fun t389 => (if t356 = true then (if t359 = bt370.1 then (if t360 = bt370.2 then (if bt372.1 = (-1) then (if bt372.2 = (-1) then ((curtilageref10_Texts.f kj6 t374 t386).bind fun t392 => (if t392 = true then (some ((t389.length : Int) == 0)) else (some false))) else (some false)) else (some false)) else (some false)) else (some false)) else (some false)))) else (none))) else (none)))))) else (none))) else (none)) = some r := by first | (rw [hy361]; with_reducible exact H) | (have H2_ := (Option.bind_some _ _).symm.trans H; rw [hy361]; with_reducible exact H2_) | (have H2_ := (Option.bind_some _ _).symm.trans H; with_reducible exact H2_) | with_reducible exact H | (rw [hy361]; exact H) | exact H
        have Ny361 := Aside0.mk hy361
        clear hy361
        by_cases c14 : y361.length + l1.length < 17592186044416
        · rw [if_pos c14] at H
          have LMc14 := Aside0.mk c14
          clear c14
          obtain ⟨y364, hy364⟩ : ∃ y_ : List Int, y_ = (y361 ++ l1) := ⟨_, rfl⟩
          replace H : (if y364.length + l1.length < 17592186044416 then ((lookup_In.f kj6 l0 (y364 ++ l1) a2 (⟨#[]⟩ : ByteArray)).bind fun bt370 => ((lookup_In.f kj6 l0 ([] : List Int) a2 (⟨#[]⟩ : ByteArray)).bind fun bt372 => ((lookup_All.f kj6 l0 l1).bind fun t374 => ((some (([] : List Int) : List Int)).bind fun y377 => (if y377.length + l1.length < 17592186044416 then ((some (y377 ++ l1 : List Int)).bind fun y380 => (if y380.length + l1.length < 17592186044416 then ((lookup_All.f kj6 l0 (y380 ++ l1)).bind fun t386 => ((lookup_All.f kj6 l0 ([] : List Int)).bind fun t389 => (if t356 = true then (if t359 = bt370.1 then (if t360 = bt370.2 then (if bt372.1 = (-1) then (if bt372.2 = (-1) then ((curtilageref10_Texts.f kj6 t374 t386).bind fun t392 => (if t392 = true then (some ((t389.length : Int) == 0)) else (some false))) else (some false)) else (some false)) else (some false)) else (some false)) else (some false)))) else (none))) else (none)))))) else (none)) = some r := by first | (rw [hy364]; with_reducible exact H) | (have H2_ := (Option.bind_some _ _).symm.trans H; rw [hy364]; with_reducible exact H2_) | (have H2_ := (Option.bind_some _ _).symm.trans H; with_reducible exact H2_) | with_reducible exact H | (rw [hy364]; exact H) | exact H
          have Ny364 := Aside0.mk hy364
          clear hy364
          by_cases c15 : y364.length + l1.length < 17592186044416
          · rw [if_pos c15] at H
            have LMc15 := Aside0.mk c15
            clear c15
            obtain ⟨y367, hy367⟩ : ∃ y_ : List Int, y_ = (y364 ++ l1) := ⟨_, rfl⟩
            replace H : ((lookup_In.f kj6 l0 y367 a2 (⟨#[]⟩ : ByteArray)).bind fun bt370 => ((lookup_In.f kj6 l0 ([] : List Int) a2 (⟨#[]⟩ : ByteArray)).bind fun bt372 => ((lookup_All.f kj6 l0 l1).bind fun t374 => ((some (([] : List Int) : List Int)).bind fun y377 => (if y377.length + l1.length < 17592186044416 then ((some (y377 ++ l1 : List Int)).bind fun y380 => (if y380.length + l1.length < 17592186044416 then ((lookup_All.f kj6 l0 (y380 ++ l1)).bind fun t386 => ((lookup_All.f kj6 l0 ([] : List Int)).bind fun t389 => (if t356 = true then (if t359 = bt370.1 then (if t360 = bt370.2 then (if bt372.1 = (-1) then (if bt372.2 = (-1) then ((curtilageref10_Texts.f kj6 t374 t386).bind fun t392 => (if t392 = true then (some ((t389.length : Int) == 0)) else (some false))) else (some false)) else (some false)) else (some false)) else (some false)) else (some false)))) else (none))) else (none)))))) = some r := by first | (rw [hy367]; with_reducible exact H) | (have H2_ := (Option.bind_some _ _).symm.trans H; rw [hy367]; with_reducible exact H2_) | (have H2_ := (Option.bind_some _ _).symm.trans H; with_reducible exact H2_) | with_reducible exact H | (rw [hy367]; exact H) | exact H
            have Ny367 := Aside0.mk hy367
            clear hy367
            replace H := Option.bind_eq_some_iff.mp H
            obtain ⟨⟨t370, t371⟩, A160, H⟩ := H
            replace H : ((lookup_In.f kj6 l0 ([] : List Int) a2 (⟨#[]⟩ : ByteArray)).bind fun bt372 => ((lookup_All.f kj6 l0 l1).bind fun t374 => ((some (([] : List Int) : List Int)).bind fun y377 => (if y377.length + l1.length < 17592186044416 then ((some (y377 ++ l1 : List Int)).bind fun y380 => (if y380.length + l1.length < 17592186044416 then ((lookup_All.f kj6 l0 (y380 ++ l1)).bind fun t386 => ((lookup_All.f kj6 l0 ([] : List Int)).bind fun t389 => (if t356 = true then (if t359 = t370 then (if t360 = t371 then (if bt372.1 = (-1) then (if bt372.2 = (-1) then ((curtilageref10_Texts.f kj6 t374 t386).bind fun t392 => (if t392 = true then (some ((t389.length : Int) == 0)) else (some false))) else (some false)) else (some false)) else (some false)) else (some false)) else (some false)))) else (none))) else (none))))) = some r := H
            have A16 := Aside0.mk A160
            clear A160
            replace H := Option.bind_eq_some_iff.mp H
            obtain ⟨⟨t372, t373⟩, A170, H⟩ := H
            replace H : ((lookup_All.f kj6 l0 l1).bind fun t374 => ((some (([] : List Int) : List Int)).bind fun y377 => (if y377.length + l1.length < 17592186044416 then ((some (y377 ++ l1 : List Int)).bind fun y380 => (if y380.length + l1.length < 17592186044416 then ((lookup_All.f kj6 l0 (y380 ++ l1)).bind fun t386 => ((lookup_All.f kj6 l0 ([] : List Int)).bind fun t389 => (if t356 = true then (if t359 = t370 then (if t360 = t371 then (if t372 = (-1) then (if t373 = (-1) then ((curtilageref10_Texts.f kj6 t374 t386).bind fun t392 => (if t392 = true then (some ((t389.length : Int) == 0)) else (some false))) else (some false)) else (some false)) else (some false)) else (some false)) else (some false)))) else (none))) else (none)))) = some r := H
            have A17 := Aside0.mk A170
            clear A170
            replace H := Option.bind_eq_some_iff.mp H
            obtain ⟨t374, A180, H⟩ := H
            replace H : ((some (([] : List Int) : List Int)).bind fun y377 => (if y377.length + l1.length < 17592186044416 then ((some (y377 ++ l1 : List Int)).bind fun y380 => (if y380.length + l1.length < 17592186044416 then ((lookup_All.f kj6 l0 (y380 ++ l1)).bind fun t386 => ((lookup_All.f kj6 l0 ([] : List Int)).bind fun t389 => (if t356 = true then (if t359 = t370 then (if t360 = t371 then (if t372 = (-1) then (if t373 = (-1) then ((curtilageref10_Texts.f kj6 t374 t386).bind fun t392 => (if t392 = true then (some ((t389.length : Int) == 0)) else (some false))) else (some false)) else (some false)) else (some false)) else (some false)) else (some false)))) else (none))) else (none))) = some r := H
            have A18 := Aside0.mk A180
            clear A180
            obtain ⟨y377, hy377⟩ : ∃ y_ : List Int, y_ = (([] : List Int)) := ⟨_, rfl⟩
            replace H : (if y377.length + l1.length < 17592186044416 then ((some (y377 ++ l1 : List Int)).bind fun y380 => (if y380.length + l1.length < 17592186044416 then ((lookup_All.f kj6 l0 (y380 ++ l1)).bind fun t386 => ((lookup_All.f kj6 l0 ([] : List Int)).bind fun t389 => (if t356 = true then (if t359 = t370 then (if t360 = t371 then (if t372 = (-1) then (if t373 = (-1) then ((curtilageref10_Texts.f kj6 t374 t386).bind fun t392 => (if t392 = true then (some ((t389.length : Int) == 0)) else (some false))) else (some false)) else (some false)) else (some false)) else (some false)) else (some false)))) else (none))) else (none)) = some r := by first | (rw [hy377]; with_reducible exact H) | (have H2_ := (Option.bind_some _ _).symm.trans H; rw [hy377]; with_reducible exact H2_) | (have H2_ := (Option.bind_some _ _).symm.trans H; with_reducible exact H2_) | with_reducible exact H | (rw [hy377]; exact H) | exact H
            have Ny377 := Aside0.mk hy377
            clear hy377
            by_cases c19 : y377.length + l1.length < 17592186044416
            · rw [if_pos c19] at H
              have LMc19 := Aside0.mk c19
              clear c19
              obtain ⟨y380, hy380⟩ : ∃ y_ : List Int, y_ = (y377 ++ l1) := ⟨_, rfl⟩
              replace H : (if y380.length + l1.length < 17592186044416 then ((lookup_All.f kj6 l0 (y380 ++ l1)).bind fun t386 => ((lookup_All.f kj6 l0 ([] : List Int)).bind fun t389 => (if t356 = true then (if t359 = t370 then (if t360 = t371 then (if t372 = (-1) then (if t373 = (-1) then ((curtilageref10_Texts.f kj6 t374 t386).bind fun t392 => (if t392 = true then (some ((t389.length : Int) == 0)) else (some false))) else (some false)) else (some false)) else (some false)) else (some false)) else (some false)))) else (none)) = some r := by first | (rw [hy380]; with_reducible exact H) | (have H2_ := (Option.bind_some _ _).symm.trans H; rw [hy380]; with_reducible exact H2_) | (have H2_ := (Option.bind_some _ _).symm.trans H; with_reducible exact H2_) | with_reducible exact H | (rw [hy380]; exact H) | exact H
              have Ny380 := Aside0.mk hy380
              clear hy380
              by_cases c20 : y380.length + l1.length < 17592186044416
              · rw [if_pos c20] at H
                have LMc20 := Aside0.mk c20
                clear c20
                obtain ⟨y383, hy383⟩ : ∃ y_ : List Int, y_ = (y380 ++ l1) := ⟨_, rfl⟩
                replace H : ((lookup_All.f kj6 l0 y383).bind fun t386 => ((lookup_All.f kj6 l0 ([] : List Int)).bind fun t389 => (if t356 = true then (if t359 = t370 then (if t360 = t371 then (if t372 = (-1) then (if t373 = (-1) then ((curtilageref10_Texts.f kj6 t374 t386).bind fun t392 => (if t392 = true then (some ((t389.length : Int) == 0)) else (some false))) else (some false)) else (some false)) else (some false)) else (some false)) else (some false)))) = some r := by first | (rw [hy383]; with_reducible exact H) | (have H2_ := (Option.bind_some _ _).symm.trans H; rw [hy383]; with_reducible exact H2_) | (have H2_ := (Option.bind_some _ _).symm.trans H; with_reducible exact H2_) | with_reducible exact H | (rw [hy383]; exact H) | exact H
                have Ny383 := Aside0.mk hy383
                clear hy383
                replace H := Option.bind_eq_some_iff.mp H
                obtain ⟨t386, A210, H⟩ := H
                replace H : ((lookup_All.f kj6 l0 ([] : List Int)).bind fun t389 => (if t356 = true then (if t359 = t370 then (if t360 = t371 then (if t372 = (-1) then (if t373 = (-1) then ((curtilageref10_Texts.f kj6 t374 t386).bind fun t392 => (if t392 = true then (some ((t389.length : Int) == 0)) else (some false))) else (some false)) else (some false)) else (some false)) else (some false)) else (some false))) = some r := H
                have A21 := Aside0.mk A210
                clear A210
                replace H := Option.bind_eq_some_iff.mp H
                obtain ⟨t389, A220, H⟩ := H
                replace H : (if t356 = true then (if t359 = t370 then (if t360 = t371 then (if t372 = (-1) then (if t373 = (-1) then ((curtilageref10_Texts.f kj6 t374 t386).bind fun t392 => (if t392 = true then (some ((t389.length : Int) == 0)) else (some false))) else (some false)) else (some false)) else (some false)) else (some false)) else (some false)) = some r := H
                have A22 := Aside0.mk A220
                clear A220
                by_cases c23 : t356 = true
                · subst c23
                  have H1 : (if t359 = t370 then (if t360 = t371 then (if t372 = (-1) then (if t373 = (-1) then ((curtilageref10_Texts.f kj6 t374 t386).bind fun t392 => (if t392 = true then (some ((t389.length : Int) == 0)) else (some false))) else (some false)) else (some false)) else (some false)) else (some false)) = some r := by rw [if_pos rfl] at H; exact H
                  clear H
                  have H := H1
                  clear H1
                  by_cases c24 : t359 = t370
                  · rw [if_pos c24] at H
                    have c24b0 : (t359 == t370) = true := beq_iff_eq.mpr c24
                    have c24b1 : (t359 != t370) = false := bne_eq_false_iff_eq.mpr c24
                    clear c24
                    by_cases c25 : t360 = t371
                    · rw [if_pos c25] at H
                      have c25b0 : (t360 == t371) = true := beq_iff_eq.mpr c25
                      have c25b1 : (t360 != t371) = false := bne_eq_false_iff_eq.mpr c25
                      clear c25
                      by_cases c26 : t372 = (-1)
                      · rw [if_pos c26] at H
                        have c26b0 : (t372 == (-1)) = true := beq_iff_eq.mpr c26
                        have c26b1 : (t372 != (-1)) = false := bne_eq_false_iff_eq.mpr c26
                        clear c26
                        by_cases c27 : t373 = (-1)
                        · rw [if_pos c27] at H
                          have c27b0 : (t373 == (-1)) = true := beq_iff_eq.mpr c27
                          have c27b1 : (t373 != (-1)) = false := bne_eq_false_iff_eq.mpr c27
                          clear c27
                          replace H := Option.bind_eq_some_iff.mp H
                          obtain ⟨t392, A280, H⟩ := H
                          replace H : (if t392 = true then (some ((t389.length : Int) == 0)) else (some false)) = some r := H
                          have A28 := Aside0.mk A280
                          clear A280
                          by_cases c29 : t392 = true
                          · subst c29
                            have H1 : (some ((t389.length : Int) == 0)) = some r := by rw [if_pos rfl] at H; exact H
                            clear H
                            have H := H1
                            clear H1
                            obtain rfl := Option.some.inj H
                            go_wp2_with (first | ((with_reducible refine gate_dst (N := 42) rfl ?_); (with_reducible refine gate_callee (f := 13) rfl ?_); refine goesL_ (some 42) rfl rfl Try.func13 (by kernel_rfl) rfl #[.slice A0 l0.length c0, .slice A1 l1.length c1, .string a2, .string (⟨#[]⟩ : ByteArray)] rfl (by (try simp only [List.map_toArray, List.map_cons, List.map_nil]); first | done | rfl | (simp only [List.length_drop, List.length_take]; rfl)) ?_; (with_reducible refine (lookup_In.calls kj6 _ _ l0 _ _ l1 a2 (⟨#[]⟩ : ByteArray) t359 t360 _ ?side1 ?side2 ?side3 ?side4 A13.out).mono ?_); (case side1 => repeat (first | exact (Kd.C_below HR0.out HB.out) | (with_reducible refine Kd.C_alloc ?_ _) | (with_reducible refine Kd.C_drewN ?_ _) | (with_reducible refine Kd.C_drew ?_))); (case side2 => exact HC0.out); (case side3 => repeat (first | exact (Kd.C_below HR1.out HB.out) | (with_reducible refine Kd.C_alloc ?_ _) | (with_reducible refine Kd.C_drewN ?_ _) | (with_reducible refine Kd.C_drew ?_))); (case side4 => exact HC1.out); rintro e w30 ⟨rfl, hb⟩; refine ⟨_, rfl, ?_⟩; have n0_ := Aside0.mk (below_step (by repeat (first | (with_reducible first | exact HB.out | apply below_alloc | apply pw_below_drewN | apply below_drew1) | exact HB.out)) hb); clear HB; have HB := n0_; clear n0_; (try clear hb); (try clear hb2); (try clear hk); (try clear hi)) | ((with_reducible refine gate_dst (N := 47) rfl ?_); (try (refine gate_guard (by rfl) ?_; dsimp only)); refine Kd.R_lit (Kd.int .i64) _ 3 ?hg (N := 47) ?hd (xs := ([] : List Int)) (inner := []) (ok := fun _ => True) (okp := fun _ => True) ?hr ?hp (fun _ hk => hk) trivial (Below.refl _ _) (Nat.le_refl _) (by simp) ?_; (case hd => rfl); (case hg => rfl); (case hr => first | (go_simp; done) | (go_simp; rfl)); (case hp => exact (Reps.none _ _)); intro v362 w31 ho32 hb hg_ hnew_; clear hg_ hnew_; (first | rw [← Ny361.out] at ho32 | (simp only [Int.reduceToNat] at ho32; rw [← Ny361.out] at ho32)); have n0_ := Aside0.mk (Kd.R_lower ho32 (below_size (by repeat (first | (with_reducible first | exact HB.out | apply below_alloc | apply pw_below_drewN | apply below_drew1) | exact HB.out)))); have n1_ := Aside0.mk (below_step (by repeat (first | (with_reducible first | exact HB.out | apply below_alloc | apply pw_below_drewN | apply below_drew1) | exact HB.out)) hb); clear HB; have HO363 := n0_; have HB := n1_; clear n0_ n1_; clear hb ho32) | ((with_reducible refine gate_builtin (b := .append) (xs := #[.tmp 47, .tmp 48]) rfl ?_); (try (refine gate_guard (by rfl) ?_; dsimp only)); at_builtin; refine Kd.R_append_rows (Kd.int .i64) (w0 := w) w.heap.size rfl (.tmp 47) (.tmp 48) 23 3 (.int .i64 0) 8 rfl Try.underlying23 info3 rfl (by decide) (by omega) v362 y361 l1 _ _ _ (fun _ => True) (fun _ => False) rfl rfl ?aO ?aR (fun _ _ h => h) (fun _ h => h.elim) ?aF ?aB ?aS ?aL ?_; (case aR => repeat (first | exact (Kd.C_below HR1.out HB.out) | (with_reducible refine Kd.C_alloc ?_ _) | (with_reducible refine Kd.C_drewN ?_ _) | (with_reducible refine Kd.C_drew ?_))); (case aB => exact (by repeat (first | (with_reducible first | exact HB.out | apply below_alloc | apply pw_below_drewN | apply below_drew1) | exact HB.out))); (case aF => exact (fun _ _ => trivial)); (case aO => exact (by (with_reducible repeat (first | apply Kd.R_alloc | apply Kd.R_drewN | apply Kd.R_drew)); exact HO363.out)); (case aS => exact (below_size (by repeat (first | (with_reducible first | exact HB.out | apply below_alloc | apply pw_below_drewN | apply below_drew1) | exact HB.out)))); (case aL => have := LMc14.out; omega); intro v365 w33 ho hb hg hat; rw [← Ny364.out] at ho; have n0_ := Aside0.mk (hb); have n1_ := Aside0.mk (ho); clear HB; clear HO363; have HB := n0_; have HO366 := n1_; clear n0_ n1_; clear ho hb hg hat) | ((with_reducible refine gate_builtin (b := .append) (xs := #[.tmp 49, .tmp 50]) rfl ?_); (try (refine gate_guard (by rfl) ?_; dsimp only)); at_builtin; refine Kd.R_append_rows (Kd.int .i64) (w0 := w) w.heap.size rfl (.tmp 49) (.tmp 50) 23 3 (.int .i64 0) 8 rfl Try.underlying23 info3 rfl (by decide) (by omega) v365 y364 l1 _ _ _ (fun _ => True) (fun _ => False) rfl rfl ?aO ?aR (fun _ _ h => h) (fun _ h => h.elim) ?aF ?aB ?aS ?aL ?_; (case aR => repeat (first | exact (Kd.C_below HR1.out HB.out) | (with_reducible refine Kd.C_alloc ?_ _) | (with_reducible refine Kd.C_drewN ?_ _) | (with_reducible refine Kd.C_drew ?_))); (case aB => exact (by repeat (first | (with_reducible first | exact HB.out | apply below_alloc | apply pw_below_drewN | apply below_drew1) | exact HB.out))); (case aF => exact (fun _ _ => trivial)); (case aO => exact (by (with_reducible repeat (first | apply Kd.R_alloc | apply Kd.R_drewN | apply Kd.R_drew)); exact HO366.out)); (case aS => exact (below_size (by repeat (first | (with_reducible first | exact HB.out | apply below_alloc | apply pw_below_drewN | apply below_drew1) | exact HB.out)))); (case aL => have := LMc15.out; omega); intro v368 w34 ho hb hg hat; rw [← Ny367.out] at ho; have n0_ := Aside0.mk (hb); have n1_ := Aside0.mk (ho); clear HB; clear HO366; have HB := n0_; have HO369 := n1_; clear n0_ n1_; clear ho hb hg hat; obtain ⟨Ao35, co35, eo35⟩ := Kd.R_slice HO369.out; subst eo35) | ((with_reducible refine gate_dst (N := 53) rfl ?_); (with_reducible refine gate_callee (f := 13) rfl ?_); refine goesL_ (some 53) rfl rfl Try.func13 (by kernel_rfl) rfl #[.slice A0 l0.length c0, .slice Ao35 y367.length co35, .string a2, .string (⟨#[]⟩ : ByteArray)] rfl (by (try simp only [List.map_toArray, List.map_cons, List.map_nil]); first | done | rfl | (simp only [List.length_drop, List.length_take]; rfl)) ?_; (with_reducible refine (lookup_In.calls kj6 _ _ l0 _ _ y367 a2 (⟨#[]⟩ : ByteArray) t370 t371 _ ?side1 ?side2 ?side3 ?side4 A16.out).mono ?_); (case side1 => repeat (first | exact (Kd.C_below HR0.out HB.out) | (with_reducible refine Kd.C_alloc ?_ _) | (with_reducible refine Kd.C_drewN ?_ _) | (with_reducible refine Kd.C_drew ?_))); (case side2 => exact HC0.out); (case side3 => repeat (first | exact (Kd.R_reads' HO369.out).2.2 | (with_reducible refine Kd.C_alloc ?_ _) | (with_reducible refine Kd.C_drewN ?_ _) | (with_reducible refine Kd.C_drew ?_))); (case side4 => exact (Kd.R_reads' HO369.out).2.1); rintro e w36 ⟨rfl, hb⟩; refine ⟨_, rfl, ?_⟩; have n0_ := Aside0.mk (Kd.R_below (by (with_reducible repeat (first | apply Kd.R_alloc | apply Kd.R_drewN | apply Kd.R_drew)); exact HO369.out) hb); have n1_ := Aside0.mk (below_step (by repeat (first | (with_reducible first | exact HB.out | apply below_alloc | apply pw_below_drewN | apply below_drew1) | exact HB.out)) hb); clear HO369; clear HB; have HO369 := n0_; have HB := n1_; clear n0_ n1_; (try clear hb); (try clear hb2); (try clear hk); (try clear hi)) | ((with_reducible refine gate_dst (N := 59) rfl ?_); (with_reducible refine gate_callee (f := 13) rfl ?_); refine goesL_ (some 59) rfl rfl Try.func13 (by kernel_rfl) rfl #[.slice A0 l0.length c0, .slice none 0 0, .string a2, .string (⟨#[]⟩ : ByteArray)] rfl (by (try simp only [List.map_toArray, List.map_cons, List.map_nil]); first | done | rfl | (simp only [List.length_drop, List.length_take]; rfl)) ?_; (refine (lookup_In.calls kj6 _ _ l0 _ _ ([] : List Int) a2 (⟨#[]⟩ : ByteArray) t372 t373 _ ?side1 ?side2 ?side3 ?side4 A17.out).mono ?_); (case side1 => repeat (first | exact (Kd.C_below HR0.out HB.out) | (with_reducible refine Kd.C_alloc ?_ _) | (with_reducible refine Kd.C_drewN ?_ _) | (with_reducible refine Kd.C_drew ?_))); (case side2 => exact HC0.out); (case side3 => exact Kd.C_nil _ _); (case side4 => exact Nat.le_refl _); rintro e w37 ⟨rfl, hb⟩; refine ⟨_, rfl, ?_⟩; have n0_ := Aside0.mk (Kd.R_below (by (with_reducible repeat (first | apply Kd.R_alloc | apply Kd.R_drewN | apply Kd.R_drew)); exact HO369.out) hb); have n1_ := Aside0.mk (below_step (by repeat (first | (with_reducible first | exact HB.out | apply below_alloc | apply pw_below_drewN | apply below_drew1) | exact HB.out)) hb); clear HO369; clear HB; have HO369 := n0_; have HB := n1_; clear n0_ n1_; (try clear hb); (try clear hb2); (try clear hk); (try clear hi)) | ((with_reducible refine gate_dst (N := 64) rfl ?_); (with_reducible refine gate_callee (f := 17) rfl ?_); refine goesL_ (some 64) rfl rfl Try.func17 (by kernel_rfl) rfl #[.slice A0 l0.length c0, .slice A1 l1.length c1] rfl (by (try simp only [List.map_toArray, List.map_cons, List.map_nil]); first | done | rfl | (simp only [List.length_drop, List.length_take]; rfl)) ?_; (with_reducible refine (lookup_All.calls kj6 _ _ l0 _ _ l1 t374 _ ?side1 ?side2 ?side3 ?side4 A18.out).mono ?_); (case side1 => repeat (first | exact (Kd.C_below HR0.out HB.out) | (with_reducible refine Kd.C_alloc ?_ _) | (with_reducible refine Kd.C_drewN ?_ _) | (with_reducible refine Kd.C_drew ?_))); (case side2 => exact HC0.out); (case side3 => repeat (first | exact (Kd.C_below HR1.out HB.out) | (with_reducible refine Kd.C_alloc ?_ _) | (with_reducible refine Kd.C_drewN ?_ _) | (with_reducible refine Kd.C_drew ?_))); (case side4 => exact HC1.out); rintro e w38 ⟨v375, rfl, ho0, hb⟩; refine ⟨_, rfl, ?_⟩; have n0_ := Aside0.mk (Kd.R_below (by (with_reducible repeat (first | apply Kd.R_alloc | apply Kd.R_drewN | apply Kd.R_drew)); exact HO369.out) hb); have n1_ := Aside0.mk (Kd.R_lower ho0 (below_size (by repeat (first | (with_reducible first | exact HB.out | apply below_alloc | apply pw_below_drewN | apply below_drew1) | exact HB.out)))); have n2_ := Aside0.mk (below_step (by repeat (first | (with_reducible first | exact HB.out | apply below_alloc | apply pw_below_drewN | apply below_drew1) | exact HB.out)) hb); clear HO369; clear HB; have HO369 := n0_; have HO376 := n1_; have HB := n2_; clear n0_ n1_ n2_; (try clear hb); (try clear hb2); (try clear hk); (try clear hi); (try clear ho0)) | ((with_reducible refine gate_dst (N := 66) rfl ?_); (try (refine gate_guard (by rfl) ?_; dsimp only)); refine Kd.R_lit (Kd.int .i64) _ 3 ?hg (N := 66) ?hd (xs := ([] : List Int)) (inner := []) (ok := fun _ => True) (okp := fun _ => True) ?hr ?hp (fun _ hk => hk) trivial (Below.refl _ _) (Nat.le_refl _) (by simp) ?_; (case hd => rfl); (case hg => rfl); (case hr => first | (go_simp; done) | (go_simp; rfl)); (case hp => exact (Reps.none _ _)); intro v378 w39 ho40 hb hg_ hnew_; clear hg_ hnew_; (first | rw [← Ny377.out] at ho40 | (simp only [Int.reduceToNat] at ho40; rw [← Ny377.out] at ho40)); have n0_ := Aside0.mk (Kd.R_elder' (by (with_reducible repeat (first | apply Kd.R_alloc | apply Kd.R_drewN | apply Kd.R_drew)); exact HO369.out) (Kd.R_base ho40) hb); have n1_ := Aside0.mk (Kd.R_below (by (with_reducible repeat (first | apply Kd.R_alloc | apply Kd.R_drewN | apply Kd.R_drew)); exact HO376.out) hb); have n2_ := Aside0.mk (Kd.R_lower (Kd.R_new' ho40 (Kd.R_lt (by (with_reducible repeat (first | apply Kd.R_alloc | apply Kd.R_drewN | apply Kd.R_drew)); exact HO369.out))) (below_size (by repeat (first | (with_reducible first | exact HB.out | apply below_alloc | apply pw_below_drewN | apply below_drew1) | exact HB.out)))); have n3_ := Aside0.mk (below_step (by repeat (first | (with_reducible first | exact HB.out | apply below_alloc | apply pw_below_drewN | apply below_drew1) | exact HB.out)) hb); clear HO369; clear HO376; clear HB; have HO369 := n0_; have HO376 := n1_; have HO379 := n2_; have HB := n3_; clear n0_ n1_ n2_ n3_; clear hb ho40) | ((with_reducible refine gate_builtin (b := .append) (xs := #[.tmp 66, .tmp 67]) rfl ?_); (try (refine gate_guard (by rfl) ?_; dsimp only)); at_builtin; refine Kd.R_append_rows (Kd.int .i64) (w0 := w) w.heap.size rfl (.tmp 66) (.tmp 67) 23 3 (.int .i64 0) 8 rfl Try.underlying23 info3 rfl (by decide) (by omega) v378 y377 l1 _ _ _ (fun k_ => some k_ ≠ (.slice Ao35 y367.length co35 : Value).ownBlock) (fun _ => False) rfl rfl ?aO ?aR (fun _ _ h => h) (fun _ h => h.elim) ?aF ?aB ?aS ?aL ?_; (case aR => repeat (first | exact (Kd.C_below HR1.out HB.out) | (with_reducible refine Kd.C_alloc ?_ _) | (with_reducible refine Kd.C_drewN ?_ _) | (with_reducible refine Kd.C_drew ?_))); (case aB => exact (by repeat (first | (with_reducible first | exact HB.out | apply below_alloc | apply pw_below_drewN | apply below_drew1) | exact HB.out))); (case aF => exact (fun k_ hk => Kd.fresh' (Kd.R_lt (by (with_reducible repeat (first | apply Kd.R_alloc | apply Kd.R_drewN | apply Kd.R_drew)); exact HO369.out)) k_ hk)); (case aO => exact (by (with_reducible repeat (first | apply Kd.R_alloc | apply Kd.R_drewN | apply Kd.R_drew)); exact Kd.R_mono HO379.out (fun _ hk => hk.2))); (case aS => exact (below_size (by repeat (first | (with_reducible first | exact HB.out | apply below_alloc | apply pw_below_drewN | apply below_drew1) | exact HB.out)))); (case aL => have := LMc19.out; omega); intro v381 w41 ho hb hg hat; rw [← Ny380.out] at ho; have n0_ := Aside0.mk (Kd.R_after (ok := (fun _ => True)) (by (with_reducible repeat (first | apply Kd.R_alloc | apply Kd.R_drewN | apply Kd.R_drew)); exact HO369.out) hg hat); have n1_ := Aside0.mk (Kd.R_over' (by (with_reducible repeat (first | apply Kd.R_alloc | apply Kd.R_drewN | apply Kd.R_drew)); exact HO376.out) (Kd.R_typed (by (with_reducible repeat (first | apply Kd.R_alloc | apply Kd.R_drewN | apply Kd.R_drew)); exact HO379.out)) (by decide) hg); have n2_ := Aside0.mk (hb); have n3_ := Aside0.mk (ho); clear HO369; clear HO376; clear HB; clear HO379; have HO369 := n0_; have HO376 := n1_; have HB := n2_; have HO382 := n3_; clear n0_ n1_ n2_ n3_; clear ho hb hg hat) | ((with_reducible refine gate_builtin (b := .append) (xs := #[.tmp 68, .tmp 69]) rfl ?_); (try (refine gate_guard (by rfl) ?_; dsimp only)); at_builtin; refine Kd.R_append_rows (Kd.int .i64) (w0 := w) w.heap.size rfl (.tmp 68) (.tmp 69) 23 3 (.int .i64 0) 8 rfl Try.underlying23 info3 rfl (by decide) (by omega) v381 y380 l1 _ _ _ (fun k_ => some k_ ≠ (.slice Ao35 y367.length co35 : Value).ownBlock) (fun _ => False) rfl rfl ?aO ?aR (fun _ _ h => h) (fun _ h => h.elim) ?aF ?aB ?aS ?aL ?_; (case aR => repeat (first | exact (Kd.C_below HR1.out HB.out) | (with_reducible refine Kd.C_alloc ?_ _) | (with_reducible refine Kd.C_drewN ?_ _) | (with_reducible refine Kd.C_drew ?_))); (case aB => exact (by repeat (first | (with_reducible first | exact HB.out | apply below_alloc | apply pw_below_drewN | apply below_drew1) | exact HB.out))); (case aF => exact (fun k_ hk => Kd.fresh' (Kd.R_lt (by (with_reducible repeat (first | apply Kd.R_alloc | apply Kd.R_drewN | apply Kd.R_drew)); exact HO369.out)) k_ hk)); (case aO => exact (by (with_reducible repeat (first | apply Kd.R_alloc | apply Kd.R_drewN | apply Kd.R_drew)); exact HO382.out)); (case aS => exact (below_size (by repeat (first | (with_reducible first | exact HB.out | apply below_alloc | apply pw_below_drewN | apply below_drew1) | exact HB.out)))); (case aL => have := LMc20.out; omega); intro v384 w42 ho hb hg hat; rw [← Ny383.out] at ho; have n0_ := Aside0.mk (Kd.R_after (ok := (fun _ => True)) (by (with_reducible repeat (first | apply Kd.R_alloc | apply Kd.R_drewN | apply Kd.R_drew)); exact HO369.out) hg hat); have n1_ := Aside0.mk (Kd.R_over' (by (with_reducible repeat (first | apply Kd.R_alloc | apply Kd.R_drewN | apply Kd.R_drew)); exact HO376.out) (Kd.R_typed (by (with_reducible repeat (first | apply Kd.R_alloc | apply Kd.R_drewN | apply Kd.R_drew)); exact HO382.out)) (by decide) hg); have n2_ := Aside0.mk (hb); have n3_ := Aside0.mk (ho); clear HO369; clear HO376; clear HB; clear HO382; have HO369 := n0_; have HO376 := n1_; have HB := n2_; have HO385 := n3_; clear n0_ n1_ n2_ n3_; clear ho hb hg hat; obtain ⟨Ao43, co43, eo43⟩ := Kd.R_slice HO385.out; subst eo43) | ((with_reducible refine gate_dst (N := 71) rfl ?_); (with_reducible refine gate_callee (f := 17) rfl ?_); refine goesL_ (some 71) rfl rfl Try.func17 (by kernel_rfl) rfl #[.slice A0 l0.length c0, .slice Ao43 y383.length co43] rfl (by (try simp only [List.map_toArray, List.map_cons, List.map_nil]); first | done | rfl | (simp only [List.length_drop, List.length_take]; rfl)) ?_; (with_reducible refine (lookup_All.calls kj6 _ _ l0 _ _ y383 t386 _ ?side1 ?side2 ?side3 ?side4 A21.out).mono ?_); (case side1 => repeat (first | exact (Kd.C_below HR0.out HB.out) | (with_reducible refine Kd.C_alloc ?_ _) | (with_reducible refine Kd.C_drewN ?_ _) | (with_reducible refine Kd.C_drew ?_))); (case side2 => exact HC0.out); (case side3 => repeat (first | exact (Kd.R_reads' HO385.out).2.2 | (with_reducible refine Kd.C_alloc ?_ _) | (with_reducible refine Kd.C_drewN ?_ _) | (with_reducible refine Kd.C_drew ?_))); (case side4 => exact (Kd.R_reads' HO385.out).2.1); rintro e w44 ⟨v387, rfl, ho0, hb⟩; refine ⟨_, rfl, ?_⟩; have n0_ := Aside0.mk (Kd.R_below (by (with_reducible repeat (first | apply Kd.R_alloc | apply Kd.R_drewN | apply Kd.R_drew)); exact HO369.out) hb); have n1_ := Aside0.mk (Kd.R_elder' (by (with_reducible repeat (first | apply Kd.R_alloc | apply Kd.R_drewN | apply Kd.R_drew)); exact HO376.out) (Kd.R_base ho0) hb); have n2_ := Aside0.mk (Kd.R_below (by (with_reducible repeat (first | apply Kd.R_alloc | apply Kd.R_drewN | apply Kd.R_drew)); exact HO385.out) hb); have n3_ := Aside0.mk (Kd.R_lower (Kd.R_new' ho0 (Kd.R_lt (by (with_reducible repeat (first | apply Kd.R_alloc | apply Kd.R_drewN | apply Kd.R_drew)); exact HO376.out))) (below_size (by repeat (first | (with_reducible first | exact HB.out | apply below_alloc | apply pw_below_drewN | apply below_drew1) | exact HB.out)))); have n4_ := Aside0.mk (below_step (by repeat (first | (with_reducible first | exact HB.out | apply below_alloc | apply pw_below_drewN | apply below_drew1) | exact HB.out)) hb); clear HO369; clear HO376; clear HO385; clear HB; have HO369 := n0_; have HO376 := n1_; have HO385 := n2_; have HO388 := n3_; have HB := n4_; clear n0_ n1_ n2_ n3_ n4_; (try clear hb); (try clear hb2); (try clear hk); (try clear hi); (try clear ho0)) | ((with_reducible refine gate_dst (N := 73) rfl ?_); (with_reducible refine gate_callee (f := 17) rfl ?_); refine goesL_ (some 73) rfl rfl Try.func17 (by kernel_rfl) rfl #[.slice A0 l0.length c0, .slice none 0 0] rfl (by (try simp only [List.map_toArray, List.map_cons, List.map_nil]); first | done | rfl | (simp only [List.length_drop, List.length_take]; rfl)) ?_; (refine (lookup_All.calls kj6 _ _ l0 _ _ ([] : List Int) t389 _ ?side1 ?side2 ?side3 ?side4 A22.out).mono ?_); (case side1 => repeat (first | exact (Kd.C_below HR0.out HB.out) | (with_reducible refine Kd.C_alloc ?_ _) | (with_reducible refine Kd.C_drewN ?_ _) | (with_reducible refine Kd.C_drew ?_))); (case side2 => exact HC0.out); (case side3 => exact Kd.C_nil _ _); (case side4 => exact Nat.le_refl _); rintro e w45 ⟨v390, rfl, ho0, hb⟩; refine ⟨_, rfl, ?_⟩; have n0_ := Aside0.mk (Kd.R_below (by (with_reducible repeat (first | apply Kd.R_alloc | apply Kd.R_drewN | apply Kd.R_drew)); exact HO369.out) hb); have n1_ := Aside0.mk (Kd.R_elder' (by (with_reducible repeat (first | apply Kd.R_alloc | apply Kd.R_drewN | apply Kd.R_drew)); exact HO376.out) (Kd.R_base ho0) hb); have n2_ := Aside0.mk (Kd.R_below (by (with_reducible repeat (first | apply Kd.R_alloc | apply Kd.R_drewN | apply Kd.R_drew)); exact HO385.out) hb); have n3_ := Aside0.mk (Kd.R_elder' (by (with_reducible repeat (first | apply Kd.R_alloc | apply Kd.R_drewN | apply Kd.R_drew)); exact HO388.out) (Kd.R_base ho0) hb); have n4_ := Aside0.mk (Kd.R_lower (Kd.R_new' (Kd.R_new' ho0 (Kd.R_lt (by (with_reducible repeat (first | apply Kd.R_alloc | apply Kd.R_drewN | apply Kd.R_drew)); exact HO376.out))) (Kd.R_lt (by (with_reducible repeat (first | apply Kd.R_alloc | apply Kd.R_drewN | apply Kd.R_drew)); exact HO388.out))) (below_size (by repeat (first | (with_reducible first | exact HB.out | apply below_alloc | apply pw_below_drewN | apply below_drew1) | exact HB.out)))); have n5_ := Aside0.mk (below_step (by repeat (first | (with_reducible first | exact HB.out | apply below_alloc | apply pw_below_drewN | apply below_drew1) | exact HB.out)) hb); clear HO369; clear HO376; clear HO385; clear HO388; clear HB; have HO369 := n0_; have HO376 := n1_; have HO385 := n2_; have HO388 := n3_; have HO391 := n4_; have HB := n5_; clear n0_ n1_ n2_ n3_ n4_ n5_; (try clear hb); (try clear hb2); (try clear hk); (try clear hi); (try clear ho0); obtain ⟨Ao46, co46, eo46⟩ := Kd.R_slice HO376.out; subst eo46; obtain ⟨Ao47, co47, eo47⟩ := Kd.R_slice HO388.out; subst eo47) | (go_at_call 19; (with_reducible refine (curtilageref10_Texts.calls kj6 _ _ t374 _ _ t386 true _ ?side1 ?side2 ?side3 ?side4 A28.out).mono ?_); (case side1 => repeat (first | exact (Kd.R_reads' HO376.out).2.2 | (with_reducible refine Kd.C_alloc ?_ _) | (with_reducible refine Kd.C_drewN ?_ _) | (with_reducible refine Kd.C_drew ?_))); (case side2 => exact (Kd.R_reads' HO376.out).2.1); (case side3 => repeat (first | exact (Kd.R_reads' HO388.out).2.2 | (with_reducible refine Kd.C_alloc ?_ _) | (with_reducible refine Kd.C_drewN ?_ _) | (with_reducible refine Kd.C_drew ?_))); (case side4 => exact (Kd.R_reads' HO388.out).2.1); rintro e w' ⟨rfl, ⟨nd, rfl⟩⟩; obtain ⟨Ao48, co48, eo48⟩ := Kd.R_slice HO391.out; subst eo48))
                            go_ret
                            exact ⟨by first | rfl | (simp [errW_none, errW_some] <;> rfl) | (simp [*, errW_none, errW_some] <;> rfl), by repeat (first | (with_reducible first | exact HB.out | apply below_alloc | apply pw_below_drewN | apply below_drew1) | exact HB.out)⟩
                          · replace c29 := Bool.eq_false_iff.mpr c29
                            subst c29
                            have H1 : (some false) = some r := by rw [if_neg (show ¬ (false = true) by decide)] at H; exact H
                            clear H
                            have H := H1
                            clear H1
                            exact absurd ((Option.some.inj H).trans HT.out) (by decide)
                        · rw [if_neg c27] at H
                          have c27b0 : (t373 == (-1)) = false := beq_eq_false_iff_ne.mpr c27
                          have c27b1 : (t373 != (-1)) = true := bne_iff_ne.mpr c27
                          exact absurd ((Option.some.inj H).trans HT.out) (by decide)
                      · rw [if_neg c26] at H
                        have c26b0 : (t372 == (-1)) = false := beq_eq_false_iff_ne.mpr c26
                        have c26b1 : (t372 != (-1)) = true := bne_iff_ne.mpr c26
                        exact absurd ((Option.some.inj H).trans HT.out) (by decide)
                    · rw [if_neg c25] at H
                      have c25b0 : (t360 == t371) = false := beq_eq_false_iff_ne.mpr c25
                      have c25b1 : (t360 != t371) = true := bne_iff_ne.mpr c25
                      exact absurd ((Option.some.inj H).trans HT.out) (by decide)
                  · rw [if_neg c24] at H
                    have c24b0 : (t359 == t370) = false := beq_eq_false_iff_ne.mpr c24
                    have c24b1 : (t359 != t370) = true := bne_iff_ne.mpr c24
                    exact absurd ((Option.some.inj H).trans HT.out) (by decide)
                · replace c23 := Bool.eq_false_iff.mpr c23
                  subst c23
                  have H1 : (some false) = some r := by rw [if_neg (show ¬ (false = true) by decide)] at H; exact H
                  clear H
                  have H := H1
                  clear H1
                  exact absurd ((Option.some.inj H).trans HT.out) (by decide)
              · rw [if_neg c20] at H
                exact absurd H (by simp)
            · rw [if_neg c19] at H
              exact absurd H (by simp)
          · rw [if_neg c15] at H
            exact absurd H (by simp)
        · rw [if_neg c14] at H
          exact absurd H (by simp)

end Go.Proofs.Ytdgmkmjmddjcfaa.P
