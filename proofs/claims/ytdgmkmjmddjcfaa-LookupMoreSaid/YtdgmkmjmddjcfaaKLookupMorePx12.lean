/- What functions of the program, and of its laws, give, each proved of its code by a walk; no condition. -/
import Derived.Test.YtdgmkmjmddjcfaaKLookupMorePx0
import Derived.Test.YtdgmkmjmddjcfaaKLookupMorePx6
import Derived.Test.YtdgmkmjmddjcfaaKLookupMorePx8
import Derived.Test.YtdgmkmjmddjcfaaKLookupMorePx9
import Derived.Test.YtdgmkmjmddjcfaaKLookupMorePx10
namespace Go.Proofs.Ytdgmkmjmddjcfaa.P
open Go.RowKit Go.Proofs.YtdgmkmjmddjcfaaW.PrintWords Go.Proofs.YtdgmkmjmddjcfaaW.PrintLast Go.Proofs.YtdgmkmjmddjcfaaW.PrintMore
attribute [local go_sem] max2_int min2_int max_two min_two max_three min_three max_four min_four   -- for this text's walks alone
set_option linter.unusedVariables false
set_option linter.unusedSimpArgs false

def curtilagelaw14_LookupMore.j0 : Nat → List (S32) → List Int → Int → ByteArray → ByteArray → Bool → Bool → Option (Bool)
  | 0, _, _, _, _, _, _, _ => none
  | k + 1, x0, x1, x2, x3, x4, x11, x47 => if x47 = true then (some x11) else ((lookup_In.f k x0 x1 x3 x4).bind fun bt291 => ((some (([] : List Int) : List Int)).bind fun y293 => (if y293.length + x1.length < 17592186044416 then ((some (y293 ++ x1 : List Int)).bind fun y296 => (if y296.length < 17592186044416 then ((lookup_In.f k x0 (y296 ++ [x2]) x3 x4).bind fun bt302 => ((lookup_In.f k x0 (([x2] : List Int)) x3 x4).bind fun bt307 => (if bt291.1 ≥ 0 then (if x11 = true then (if bt291.1 = bt302.1 then (some (bt291.2 == bt302.2)) else (some false)) else (some false)) else (if x11 = true then (if bt291.2 = (-1) then (if bt302.1 = bt307.1 then (some (bt302.2 == bt307.2)) else (some false)) else (some false)) else (some false))))) else (none))) else (none))))
def curtilagelaw14_LookupMore.f (k : Nat) (l0 : List (S32)) (l1 : List Int) (a2 : Int) (a3 : ByteArray) (a4 : ByteArray) : Option (Bool) := (curtilagelaw14_awake.f k).bind fun t288 => ((curtilageref14_Short.f k l0).bind fun t289 => ((curtilageref14_Right.f k l1 (l0.length : Int)).bind fun t290 => (if t289 = true then (if t290 = true then (if a2 < 0 then (curtilagelaw14_LookupMore.j0 k l0 l1 a2 a3 a4 t288 true) else (if a2 ≥ (l0.length : Int) then (curtilagelaw14_LookupMore.j0 k l0 l1 a2 a3 a4 t288 true) else (curtilagelaw14_LookupMore.j0 k l0 l1 a2 a3 a4 t288 (decide ((l1.length : Int) > 39))))) else (curtilagelaw14_LookupMore.j0 k l0 l1 a2 a3 a4 t288 true)) else (curtilagelaw14_LookupMore.j0 k l0 l1 a2 a3 a4 t288 true))))
theorem curtilagelaw14_LookupMore.mono_l : ∀ k, (∀ y0 y1 y2 y3 y4 y5 y6, LeO (curtilagelaw14_LookupMore.j0 k y0 y1 y2 y3 y4 y5 y6) (curtilagelaw14_LookupMore.j0 (k + 1) y0 y1 y2 y3 y4 y5 y6))
  | 0 => fun _ _ _ _ _ _ _ r h => by simp [curtilagelaw14_LookupMore.j0] at h
  | k + 1 => by
    have ih0 := curtilagelaw14_LookupMore.mono_l k
    · intro y0 y1 y2 y3 y4 y5 y6
      unfold curtilagelaw14_LookupMore.j0
      repeat' first
      | (with_reducible exact ih0 _ _ _ _ _ _ _)
      | (with_reducible exact curtilagelaw14_awake.mono _)
      | (with_reducible exact curtilageref14_Right.mono _ _ _)
      | (with_reducible exact curtilageref14_Short.mono _ _)
      | (with_reducible exact lookup_In.mono _ _ _ _ _)
      | (with_reducible exact LeO.refl _)
      | (with_reducible exact LeO.none _)
      | (with_reducible refine LeO.ite ?_ ?_)
      | (with_reducible refine LeO.bind ?_ (fun _ => ?_))
      | exact ih0 _ _ _ _ _ _ _
      | exact curtilagelaw14_awake.mono _
      | exact curtilageref14_Right.mono _ _ _
      | exact curtilageref14_Short.mono _ _
      | exact lookup_In.mono _ _ _ _ _
      | exact LeO.none _
      | refine LeO.ite ?_ ?_
      | refine LeO.bind ?_ (fun _ => ?_)
theorem curtilagelaw14_LookupMore.mono : ∀ a0 a1 a2 a3 a4 k, LeO (curtilagelaw14_LookupMore.f k a0 a1 a2 a3 a4) (curtilagelaw14_LookupMore.f (k + 1) a0 a1 a2 a3 a4) := by
  intro a0 a1 a2 a3 a4 k
  have ih0 := curtilagelaw14_LookupMore.mono_l k
  unfold curtilagelaw14_LookupMore.f
  repeat' first
      | (with_reducible exact ih0 _ _ _ _ _ _ _)
      | (with_reducible exact curtilagelaw14_awake.mono _)
      | (with_reducible exact curtilageref14_Right.mono _ _ _)
      | (with_reducible exact curtilageref14_Short.mono _ _)
      | (with_reducible exact lookup_In.mono _ _ _ _ _)
      | (with_reducible exact LeO.refl _)
      | (with_reducible exact LeO.none _)
      | (with_reducible refine LeO.ite ?_ ?_)
      | (with_reducible refine LeO.bind ?_ (fun _ => ?_))
      | exact ih0 _ _ _ _ _ _ _
      | exact curtilagelaw14_awake.mono _
      | exact curtilageref14_Right.mono _ _ _
      | exact curtilageref14_Short.mono _ _
      | exact lookup_In.mono _ _ _ _ _
      | exact LeO.none _
      | refine LeO.ite ?_ ?_
      | refine LeO.bind ?_ (fun _ => ?_)
set_option maxHeartbeats 8000000 in
set_option maxRecDepth 100000 in
theorem curtilagelaw14_LookupMore.calls (k : Nat) (A0 : Option Addr) (c0 : Nat) (l0 : List (S32)) (A1 : Option Addr) (c1 : Nat) (l1 : List Int) (a2 : Int) (a3 : ByteArray) (a4 : ByteArray) (r : Bool) (w : World) (hr0 : Kd.C k32 w A0 l0.length l0) (hc0 : l0.length ≤ c0) (hr1 : Kd.C (Kd.int .i64) w A1 l1.length l1) (hc1 : l1.length ≤ c1) (h : curtilagelaw14_LookupMore.f k l0 l1 a2 a3 a4 = some r) (hr0 : r = true) :
    Calls Try.prog 4 #[.slice A0 l0.length c0, .slice A1 l1.length c1, .int .i64 a2, .string a3, .string a4] w fun e w' => e = .returned (.bool r) ∧ Below w.heap.size w w' := by
  have HT := Aside0.mk hr0
  clear hr0
  have HR0 := Aside0.mk hr0
  have HC0 := Aside0.mk hc0
  clear hr0 hc0
  have HR1 := Aside0.mk hr1
  have HC1 := Aside0.mk hc1
  clear hr1 hc1
  have HB := Aside0.mk (Below.refl w.heap.size w)
  have H : ((curtilagelaw14_awake.f k).bind fun t288 => ((curtilageref14_Short.f k l0).bind fun t289 => ((curtilageref14_Right.f k l1 (l0.length : Int)).bind fun t290 => (if t289 = true then (if t290 = true then (if a2 < 0 then (curtilagelaw14_LookupMore.j0 k l0 l1 a2 a3 a4 t288 true) else (if a2 ≥ (l0.length : Int) then (curtilagelaw14_LookupMore.j0 k l0 l1 a2 a3 a4 t288 true) else (curtilagelaw14_LookupMore.j0 k l0 l1 a2 a3 a4 t288 (decide ((l1.length : Int) > 39))))) else (curtilagelaw14_LookupMore.j0 k l0 l1 a2 a3 a4 t288 true)) else (curtilagelaw14_LookupMore.j0 k l0 l1 a2 a3 a4 t288 true))))) = some r := h
  clear h
  replace H := Option.bind_eq_some_iff.mp H
  obtain ⟨t288, A60, H⟩ := H
  replace H : ((curtilageref14_Short.f k l0).bind fun t289 => ((curtilageref14_Right.f k l1 (l0.length : Int)).bind fun t290 => (if t289 = true then (if t290 = true then (if a2 < 0 then (curtilagelaw14_LookupMore.j0 k l0 l1 a2 a3 a4 t288 true) else (if a2 ≥ (l0.length : Int) then (curtilagelaw14_LookupMore.j0 k l0 l1 a2 a3 a4 t288 true) else (curtilagelaw14_LookupMore.j0 k l0 l1 a2 a3 a4 t288 (decide ((l1.length : Int) > 39))))) else (curtilagelaw14_LookupMore.j0 k l0 l1 a2 a3 a4 t288 true)) else (curtilagelaw14_LookupMore.j0 k l0 l1 a2 a3 a4 t288 true)))) = some r := H
  have A6 := Aside0.mk A60
  clear A60
  replace H := Option.bind_eq_some_iff.mp H
  obtain ⟨t289, A70, H⟩ := H
  replace H : ((curtilageref14_Right.f k l1 (l0.length : Int)).bind fun t290 => (if t289 = true then (if t290 = true then (if a2 < 0 then (curtilagelaw14_LookupMore.j0 k l0 l1 a2 a3 a4 t288 true) else (if a2 ≥ (l0.length : Int) then (curtilagelaw14_LookupMore.j0 k l0 l1 a2 a3 a4 t288 true) else (curtilagelaw14_LookupMore.j0 k l0 l1 a2 a3 a4 t288 (decide ((l1.length : Int) > 39))))) else (curtilagelaw14_LookupMore.j0 k l0 l1 a2 a3 a4 t288 true)) else (curtilagelaw14_LookupMore.j0 k l0 l1 a2 a3 a4 t288 true))) = some r := H
  have A7 := Aside0.mk A70
  clear A70
  replace H := Option.bind_eq_some_iff.mp H
  obtain ⟨t290, A80, H⟩ := H
  replace H : (if t289 = true then (if t290 = true then (if a2 < 0 then (curtilagelaw14_LookupMore.j0 k l0 l1 a2 a3 a4 t288 true) else (if a2 ≥ (l0.length : Int) then (curtilagelaw14_LookupMore.j0 k l0 l1 a2 a3 a4 t288 true) else (curtilagelaw14_LookupMore.j0 k l0 l1 a2 a3 a4 t288 (decide ((l1.length : Int) > 39))))) else (curtilagelaw14_LookupMore.j0 k l0 l1 a2 a3 a4 t288 true)) else (curtilagelaw14_LookupMore.j0 k l0 l1 a2 a3 a4 t288 true)) = some r := H
  have A8 := Aside0.mk A80
  clear A80
  have HC9 := Aside0.mk H
  clear H
  go_enter Try.func4, Try.ntmps4
  go_upto_region 4 with (first | ((with_reducible refine gate_dst (N := 20) rfl ?_); (with_reducible refine gate_callee (f := 8) rfl ?_); refine goesL_ (some 20) rfl rfl Try.func8 (by kernel_rfl) rfl #[] rfl (by (try simp only [List.map_toArray, List.map_cons, List.map_nil]); first | done | rfl | (simp only [List.length_drop, List.length_take]; rfl)) ?_; (with_reducible refine (curtilagelaw14_awake.calls k  t288 _ A6.out).mono ?_); rintro e w10 ⟨rfl, hb⟩; refine ⟨_, rfl, ?_⟩; have n0_ := Aside0.mk (below_step (by repeat (first | (with_reducible first | exact HB.out | apply below_alloc | apply pw_below_drewN | apply below_drew1) | exact HB.out)) hb); clear HB; have HB := n0_; clear n0_; (try clear hb); (try clear hb2); (try clear hk); (try clear hi)) | ((with_reducible refine gate_dst (N := 22) rfl ?_); (with_reducible refine gate_callee (f := 9) rfl ?_); refine goesL_ (some 22) rfl rfl Try.func9 (by kernel_rfl) rfl #[.slice A0 l0.length c0] rfl (by (try simp only [List.map_toArray, List.map_cons, List.map_nil]); first | done | rfl | (simp only [List.length_drop, List.length_take]; rfl)) ?_; (with_reducible refine (curtilageref14_Short.calls k _ _ l0 t289 _ ?side1 ?side2 A7.out).mono ?_); (case side1 => repeat (first | exact (Kd.C_below HR0.out HB.out) | (with_reducible refine Kd.C_alloc ?_ _) | (with_reducible refine Kd.C_drewN ?_ _) | (with_reducible refine Kd.C_drew ?_))); (case side2 => exact HC0.out); rintro e w11 ⟨rfl, hb⟩; refine ⟨_, rfl, ?_⟩; have n0_ := Aside0.mk (below_step (by repeat (first | (with_reducible first | exact HB.out | apply below_alloc | apply pw_below_drewN | apply below_drew1) | exact HB.out)) hb); clear HB; have HB := n0_; clear n0_; (try clear hb); (try clear hb2); (try clear hk); (try clear hi)) | ((with_reducible refine gate_dst (N := 26) rfl ?_); (with_reducible refine gate_callee (f := 10) rfl ?_); refine goesL_ (some 26) rfl rfl Try.func10 (by kernel_rfl) rfl #[.slice A1 l1.length c1, .int .i64 (l0.length : Int)] rfl (by (try simp only [List.map_toArray, List.map_cons, List.map_nil]); first | done | rfl | (simp only [List.length_drop, List.length_take]; rfl)) ?_; (with_reducible refine (curtilageref14_Right.calls k _ _ l1 (l0.length : Int) t290 _ ?side1 ?side2 A8.out).mono ?_); (case side1 => repeat (first | exact (Kd.C_below HR1.out HB.out) | (with_reducible refine Kd.C_alloc ?_ _) | (with_reducible refine Kd.C_drewN ?_ _) | (with_reducible refine Kd.C_drew ?_))); (case side2 => exact HC1.out); rintro e w' ⟨rfl, ⟨nd, rfl⟩⟩; refine ⟨_, rfl, ?_⟩))
  (try simp only [Act.put, List.setIfInBounds_toArray, List.set_cons_zero, List.set_cons_succ])
  go_cut [47] (fun v47 wc => ∃ (kq : Nat) (x47_8 : Bool), v47 = .bool x47_8 ∧ Aside0 (curtilagelaw14_LookupMore.j0 kq l0 l1 a2 a3 a4 t288 x47_8 = some r) ∧ Aside0 (kq ≤ k) ∧ Aside0 (Below w.heap.size w wc))
  case first =>
    have H := HC9.out
    clear HC9
    by_cases c12 : t289 = true
    · subst c12
      have H1 : (if t290 = true then (if a2 < 0 then (curtilagelaw14_LookupMore.j0 k l0 l1 a2 a3 a4 t288 true) else (if a2 ≥ (l0.length : Int) then (curtilagelaw14_LookupMore.j0 k l0 l1 a2 a3 a4 t288 true) else (curtilagelaw14_LookupMore.j0 k l0 l1 a2 a3 a4 t288 (decide ((l1.length : Int) > 39))))) else (curtilagelaw14_LookupMore.j0 k l0 l1 a2 a3 a4 t288 true)) = some r := by rw [if_pos rfl] at H; exact H
      clear H
      have H := H1
      clear H1
      by_cases c13 : t290 = true
      · subst c13
        have H1 : (if a2 < 0 then (curtilagelaw14_LookupMore.j0 k l0 l1 a2 a3 a4 t288 true) else (if a2 ≥ (l0.length : Int) then (curtilagelaw14_LookupMore.j0 k l0 l1 a2 a3 a4 t288 true) else (curtilagelaw14_LookupMore.j0 k l0 l1 a2 a3 a4 t288 (decide ((l1.length : Int) > 39))))) = some r := by rw [if_pos rfl] at H; exact H
        clear H
        have H := H1
        clear H1
        by_cases c14 : a2 < 0
        · rw [if_pos c14] at H
          have c14b0 : decide (a2 < 0) = true := decide_eq_true c14
          clear c14
          (first | rw [c14b0] | (simp only [i64_w, i32_w]; rw [c14b0]) | skip)
          have H' := Aside0.mk H
          clear H
          go_wp2
          go_meet
          case rel => exact ⟨_, (true), (by first | rfl | (simp; done) | (simp [*]; done)), H', ⟨by first | omega | exact Nat.le_refl _⟩, ⟨by repeat (first | (with_reducible first | exact HB.out | apply below_alloc | apply pw_below_drewN | apply below_drew1) | exact HB.out)⟩⟩
        · rw [if_neg c14] at H
          have c14b0 : decide (a2 < 0) = false := decide_eq_false c14
          clear c14
          (first | rw [c14b0] | (simp only [i64_w, i32_w]; rw [c14b0]) | skip)
          by_cases c15 : a2 ≥ (l0.length : Int)
          · rw [if_pos c15] at H
            have c15b0 : decide ((l0.length : Int) ≤ a2) = true := decide_eq_true c15
            clear c15
            have H' := Aside0.mk H
            clear H
            go_wp2
            go_meet
            case rel => exact ⟨_, (true), (by first | rfl | (simp; done) | (simp [*]; done)), H', ⟨by first | omega | exact Nat.le_refl _⟩, ⟨by repeat (first | (with_reducible first | exact HB.out | apply below_alloc | apply pw_below_drewN | apply below_drew1) | exact HB.out)⟩⟩
          · rw [if_neg c15] at H
            have c15b0 : decide ((l0.length : Int) ≤ a2) = false := decide_eq_false c15
            clear c15
            have H' := Aside0.mk H
            clear H
            go_wp2
            go_meet
            case rel => exact ⟨_, (decide ((l1.length : Int) > 39)), (by first | rfl | (simp; done) | (simp [*]; done)), H', ⟨by first | omega | exact Nat.le_refl _⟩, ⟨by repeat (first | (with_reducible first | exact HB.out | apply below_alloc | apply pw_below_drewN | apply below_drew1) | exact HB.out)⟩⟩
      · replace c13 := Bool.eq_false_iff.mpr c13
        subst c13
        have H1 : (curtilagelaw14_LookupMore.j0 k l0 l1 a2 a3 a4 t288 true) = some r := by rw [if_neg (show ¬ (false = true) by decide)] at H; exact H
        clear H
        have H := H1
        clear H1
        have H' := Aside0.mk H
        clear H
        go_wp2
        go_meet
        case rel => exact ⟨_, (true), (by first | rfl | (simp; done) | (simp [*]; done)), H', ⟨by first | omega | exact Nat.le_refl _⟩, ⟨by repeat (first | (with_reducible first | exact HB.out | apply below_alloc | apply pw_below_drewN | apply below_drew1) | exact HB.out)⟩⟩
    · replace c12 := Bool.eq_false_iff.mpr c12
      subst c12
      have H1 : (curtilagelaw14_LookupMore.j0 k l0 l1 a2 a3 a4 t288 true) = some r := by rw [if_neg (show ¬ (false = true) by decide)] at H; exact H
      clear H
      have H := H1
      clear H1
      have H' := Aside0.mk H
      clear H
      go_wp2
      go_meet
      case rel => exact ⟨_, (true), (by first | rfl | (simp; done) | (simp [*]; done)), H', ⟨by first | omega | exact Nat.le_refl _⟩, ⟨by repeat (first | (with_reducible first | exact HB.out | apply below_alloc | apply pw_below_drewN | apply below_drew1) | exact HB.out)⟩⟩
  case rest =>
    clear HC9
    try clear c1
    try clear p2
    try clear c4
    try clear c8
    try clear c9
    try clear c10
    try clear c12
    try clear c13
    try clear c14
    try clear c14b0
    try clear c15
    try clear c15b0
    obtain ⟨kq, x47_8, rfl, HA, HJ8, HB⟩ := hcut
    cases kq with
    | zero => exact absurd HA.out (by simp [curtilagelaw14_LookupMore.j0])
    | succ kj8 =>
      have H := HA.out
      clear HA
      simp only [curtilagelaw14_LookupMore.j0] at H
      by_cases c16 : x47_8 = true
      · subst c16
        have H1 : (some t288) = some r := by rw [if_pos rfl] at H; exact H
        clear H
        have H := H1
        clear H1
        obtain rfl := Option.some.inj H
        go_wp2
        go_ret
        exact ⟨by first | rfl | (simp [errW_none, errW_some] <;> rfl) | (simp [*, errW_none, errW_some] <;> rfl), by repeat (first | (with_reducible first | exact HB.out | apply below_alloc | apply pw_below_drewN | apply below_drew1) | exact HB.out)⟩
      · replace c16 := Bool.eq_false_iff.mpr c16
        subst c16
        have H1 : ((lookup_In.f kj8 l0 l1 a3 a4).bind fun bt291 => ((some (([] : List Int) : List Int)).bind fun y293 => (if y293.length + l1.length < 17592186044416 then ((some (y293 ++ l1 : List Int)).bind fun y296 => (if y296.length < 17592186044416 then ((lookup_In.f kj8 l0 (y296 ++ [a2]) a3 a4).bind fun bt302 => ((lookup_In.f kj8 l0 (([a2] : List Int)) a3 a4).bind fun bt307 => (if bt291.1 ≥ 0 then (if t288 = true then (if bt291.1 = bt302.1 then (some (bt291.2 == bt302.2)) else (some false)) else (some false)) else (if t288 = true then (if bt291.2 = (-1) then (if bt302.1 = bt307.1 then (some (bt302.2 == bt307.2)) else (some false)) else (some false)) else (some false))))) else (none))) else (none)))) = some r := by rw [if_neg (show ¬ (false = true) by decide)] at H; exact H
        clear H
        have H := H1
        clear H1
        replace H := Option.bind_eq_some_iff.mp H
        obtain ⟨⟨t291, t292⟩, A170, H⟩ := H
        replace H : ((some (([] : List Int) : List Int)).bind fun y293 => (if y293.length + l1.length < 17592186044416 then ((some (y293 ++ l1 : List Int)).bind fun y296 => (if y296.length < 17592186044416 then ((lookup_In.f kj8 l0 (y296 ++ [a2]) a3 a4).bind fun bt302 => ((lookup_In.f kj8 l0 (([a2] : List Int)) a3 a4).bind fun bt307 => (if t291 ≥ 0 then (if t288 = true then (if t291 = bt302.1 then (some (t292 == bt302.2)) else (some false)) else (some false)) else (if t288 = true then (if t292 = (-1) then (if bt302.1 = bt307.1 then (some (bt302.2 == bt307.2)) else (some false)) else (some false)) else (some false))))) else (none))) else (none))) = some r := H
        have A17 := Aside0.mk A170
        clear A170
        obtain ⟨y293, hy293⟩ : ∃ y_ : List Int, y_ = (([] : List Int)) := ⟨_, rfl⟩
        replace H : (if y293.length + l1.length < 17592186044416 then ((some (y293 ++ l1 : List Int)).bind fun y296 => (if y296.length < 17592186044416 then ((lookup_In.f kj8 l0 (y296 ++ [a2]) a3 a4).bind fun bt302 => ((lookup_In.f kj8 l0 (([a2] : List Int)) a3 a4).bind fun bt307 => (if t291 ≥ 0 then (if t288 = true then (if t291 = bt302.1 then (some (t292 == bt302.2)) else (some false)) else (some false)) else (if t288 = true then (if t292 = (-1) then (if bt302.1 = bt307.1 then (some (bt302.2 == bt307.2)) else (some false)) else (some false)) else (some false))))) else (none))) else (none)) = some r := by first | (rw [hy293]; with_reducible exact H) | (have H2_ := (Option.bind_some _ _).symm.trans H; rw [hy293]; with_reducible exact H2_) | (have H2_ := (Option.bind_some _ _).symm.trans H; with_reducible exact H2_) | with_reducible exact H | (rw [hy293]; exact H) | exact H
        have Ny293 := Aside0.mk hy293
        clear hy293
        by_cases c18 : y293.length + l1.length < 17592186044416
        · rw [if_pos c18] at H
          have LMc18 := Aside0.mk c18
          clear c18
          obtain ⟨y296, hy296⟩ : ∃ y_ : List Int, y_ = (y293 ++ l1) := ⟨_, rfl⟩
          replace H : (if y296.length < 17592186044416 then ((lookup_In.f kj8 l0 (y296 ++ [a2]) a3 a4).bind fun bt302 => ((lookup_In.f kj8 l0 (([a2] : List Int)) a3 a4).bind fun bt307 => (if t291 ≥ 0 then (if t288 = true then (if t291 = bt302.1 then (some (t292 == bt302.2)) else (some false)) else (some false)) else (if t288 = true then (if t292 = (-1) then (if bt302.1 = bt307.1 then (some (bt302.2 == bt307.2)) else (some false)) else (some false)) else (some false))))) else (none)) = some r := by first | (rw [hy296]; with_reducible exact H) | (have H2_ := (Option.bind_some _ _).symm.trans H; rw [hy296]; with_reducible exact H2_) | (have H2_ := (Option.bind_some _ _).symm.trans H; with_reducible exact H2_) | with_reducible exact H | (rw [hy296]; exact H) | exact H
          have Ny296 := Aside0.mk hy296
          clear hy296
          by_cases c19 : y296.length < 17592186044416
          · rw [if_pos c19] at H
            have LMc19 := Aside0.mk c19
            clear c19
            obtain ⟨y299, hy299⟩ : ∃ y_ : List Int, y_ = (y296 ++ [a2]) := ⟨_, rfl⟩
            replace H : ((lookup_In.f kj8 l0 y299 a3 a4).bind fun bt302 => ((lookup_In.f kj8 l0 (([a2] : List Int)) a3 a4).bind fun bt307 => (if t291 ≥ 0 then (if t288 = true then (if t291 = bt302.1 then (some (t292 == bt302.2)) else (some false)) else (some false)) else (if t288 = true then (if t292 = (-1) then (if bt302.1 = bt307.1 then (some (bt302.2 == bt307.2)) else (some false)) else (some false)) else (some false))))) = some r := by first | (rw [hy299]; with_reducible exact H) | (have H2_ := (Option.bind_some _ _).symm.trans H; rw [hy299]; with_reducible exact H2_) | (have H2_ := (Option.bind_some _ _).symm.trans H; with_reducible exact H2_) | with_reducible exact H | (rw [hy299]; exact H) | exact H
            have Ny299 := Aside0.mk hy299
            clear hy299
            replace H := Option.bind_eq_some_iff.mp H
            obtain ⟨⟨t302, t303⟩, A200, H⟩ := H
            replace H : ((lookup_In.f kj8 l0 (([a2] : List Int)) a3 a4).bind fun bt307 => (if t291 ≥ 0 then (if t288 = true then (if t291 = t302 then (some (t292 == t303)) else (some false)) else (some false)) else (if t288 = true then (if t292 = (-1) then (if t302 = bt307.1 then (some (t303 == bt307.2)) else (some false)) else (some false)) else (some false)))) = some r := H
            have A20 := Aside0.mk A200
            clear A200
            obtain ⟨y304, hy304⟩ : ∃ y_ : List Int, y_ = (([a2] : List Int)) := ⟨_, rfl⟩
            replace H : ((lookup_In.f kj8 l0 y304 a3 a4).bind fun bt307 => (if t291 ≥ 0 then (if t288 = true then (if t291 = t302 then (some (t292 == t303)) else (some false)) else (some false)) else (if t288 = true then (if t292 = (-1) then (if t302 = bt307.1 then (some (t303 == bt307.2)) else (some false)) else (some false)) else (some false)))) = some r := by first | (rw [hy304]; with_reducible exact H) | (have H2_ := (Option.bind_some _ _).symm.trans H; rw [hy304]; with_reducible exact H2_) | (have H2_ := (Option.bind_some _ _).symm.trans H; with_reducible exact H2_) | with_reducible exact H | (rw [hy304]; exact H) | exact H
            have Ny304 := Aside0.mk hy304
            clear hy304
            replace H := Option.bind_eq_some_iff.mp H
            obtain ⟨⟨t307, t308⟩, A210, H⟩ := H
            replace H : (if t291 ≥ 0 then (if t288 = true then (if t291 = t302 then (some (t292 == t303)) else (some false)) else (some false)) else (if t288 = true then (if t292 = (-1) then (if t302 = t307 then (some (t303 == t308)) else (some false)) else (some false)) else (some false))) = some r := H
            have A21 := Aside0.mk A210
            clear A210
            by_cases c22 : t291 ≥ 0
            · rw [if_pos c22] at H
              have c22b0 : decide (0 ≤ t291) = true := decide_eq_true c22
              clear c22
              by_cases c23 : t288 = true
              · subst c23
                have H1 : (if t291 = t302 then (some (t292 == t303)) else (some false)) = some r := by rw [if_pos rfl] at H; exact H
                clear H
                have H := H1
                clear H1
                by_cases c24 : t291 = t302
                · rw [if_pos c24] at H
                  have c24b0 : (t291 == t302) = true := beq_iff_eq.mpr c24
                  have c24b1 : (t291 != t302) = false := bne_eq_false_iff_eq.mpr c24
                  clear c24
                  obtain rfl := Option.some.inj H
                  go_wp2_with (first | ((with_reducible refine gate_dst (N := 54) rfl ?_); (with_reducible refine gate_callee (f := 13) rfl ?_); refine goesL_ (some 54) rfl rfl Try.func13 (by kernel_rfl) rfl #[.slice A0 l0.length c0, .slice A1 l1.length c1, .string a3, .string a4] rfl (by (try simp only [List.map_toArray, List.map_cons, List.map_nil]); first | done | rfl | (simp only [List.length_drop, List.length_take]; rfl)) ?_; (with_reducible refine (lookup_In.calls kj8 _ _ l0 _ _ l1 a3 a4 t291 t292 _ ?side1 ?side2 ?side3 ?side4 A17.out).mono ?_); (case side1 => repeat (first | exact (Kd.C_below HR0.out HB.out) | (with_reducible refine Kd.C_alloc ?_ _) | (with_reducible refine Kd.C_drewN ?_ _) | (with_reducible refine Kd.C_drew ?_))); (case side2 => exact HC0.out); (case side3 => repeat (first | exact (Kd.C_below HR1.out HB.out) | (with_reducible refine Kd.C_alloc ?_ _) | (with_reducible refine Kd.C_drewN ?_ _) | (with_reducible refine Kd.C_drew ?_))); (case side4 => exact HC1.out); rintro e w25 ⟨rfl, hb⟩; refine ⟨_, rfl, ?_⟩; have n0_ := Aside0.mk (below_step (by repeat (first | (with_reducible first | exact HB.out | apply below_alloc | apply pw_below_drewN | apply below_drew1) | exact HB.out)) hb); clear HB; have HB := n0_; clear n0_; (try clear hb); (try clear hb2); (try clear hk); (try clear hi)) | ((with_reducible refine gate_dst (N := 59) rfl ?_); (try (refine gate_guard (by rfl) ?_; dsimp only)); refine Kd.R_lit (Kd.int .i64) _ 3 ?hg (N := 59) ?hd (xs := ([] : List Int)) (inner := []) (ok := fun _ => True) (okp := fun _ => True) ?hr ?hp (fun _ hk => hk) trivial (Below.refl _ _) (Nat.le_refl _) (by simp) ?_; (case hd => rfl); (case hg => rfl); (case hr => first | (go_simp; done) | (go_simp; rfl)); (case hp => exact (Reps.none _ _)); intro v294 w26 ho27 hb hg_ hnew_; clear hg_ hnew_; (first | rw [← Ny293.out] at ho27 | (simp only [Int.reduceToNat] at ho27; rw [← Ny293.out] at ho27)); have n0_ := Aside0.mk (Kd.R_lower ho27 (below_size (by repeat (first | (with_reducible first | exact HB.out | apply below_alloc | apply pw_below_drewN | apply below_drew1) | exact HB.out)))); have n1_ := Aside0.mk (below_step (by repeat (first | (with_reducible first | exact HB.out | apply below_alloc | apply pw_below_drewN | apply below_drew1) | exact HB.out)) hb); clear HB; have HO295 := n0_; have HB := n1_; clear n0_ n1_; clear hb ho27) | ((with_reducible refine gate_builtin (b := .append) (xs := #[.tmp 59, .tmp 60]) rfl ?_); (try (refine gate_guard (by rfl) ?_; dsimp only)); at_builtin; refine Kd.R_append_rows (Kd.int .i64) (w0 := w) w.heap.size rfl (.tmp 59) (.tmp 60) 23 3 (.int .i64 0) 8 rfl Try.underlying23 info3 rfl (by decide) (by omega) v294 y293 l1 _ _ _ (fun _ => True) (fun _ => False) rfl rfl ?aO ?aR (fun _ _ h => h) (fun _ h => h.elim) ?aF ?aB ?aS ?aL ?_; (case aR => repeat (first | exact (Kd.C_below HR1.out HB.out) | (with_reducible refine Kd.C_alloc ?_ _) | (with_reducible refine Kd.C_drewN ?_ _) | (with_reducible refine Kd.C_drew ?_))); (case aB => exact (by repeat (first | (with_reducible first | exact HB.out | apply below_alloc | apply pw_below_drewN | apply below_drew1) | exact HB.out))); (case aF => exact (fun _ _ => trivial)); (case aO => exact (by (with_reducible repeat (first | apply Kd.R_alloc | apply Kd.R_drewN | apply Kd.R_drew)); exact HO295.out)); (case aS => exact (below_size (by repeat (first | (with_reducible first | exact HB.out | apply below_alloc | apply pw_below_drewN | apply below_drew1) | exact HB.out)))); (case aL => have := LMc18.out; omega); intro v297 w28 ho hb hg hat; rw [← Ny296.out] at ho; have n0_ := Aside0.mk (hb); have n1_ := Aside0.mk (ho); clear HB; clear HO295; have HB := n0_; have HO298 := n1_; clear n0_ n1_; clear ho hb hg hat) | ((with_reducible refine gate_builtin (b := .append) (xs := #[.tmp 61, .tmp 63]) rfl ?_); (try (refine gate_guard (by rfl) ?_; dsimp only)); at_builtin; refine Kd.R_append (Kd.int .i64) (w0 := w) w.heap.size rfl (.tmp 61) (.tmp 63) 23 3 (.int .i64 0) 8 rfl Try.underlying23 info3 rfl (by decide) (by omega) v297 y296 a2 [.int .i64 a2] (fun _ => True) (fun _ => False) rfl rfl ?aP (fun _ hk => hk.elim) ?aF ?aO ?aB ?aS ?aL ?_; (case aP => exact rfl); (case aB => exact (by repeat (first | (with_reducible first | exact HB.out | apply below_alloc | apply pw_below_drewN | apply below_drew1) | exact HB.out))); (case aF => exact (fun _ _ => trivial)); (case aO => exact (by (with_reducible repeat (first | apply Kd.R_alloc | apply Kd.R_drewN | apply Kd.R_drew)); exact HO298.out)); (case aS => exact (below_size (by repeat (first | (with_reducible first | exact HB.out | apply below_alloc | apply pw_below_drewN | apply below_drew1) | exact HB.out)))); (case aL => have := LMc19.out; omega); intro v300 w29 ho hb hg hat; rw [← Ny299.out] at ho; have n0_ := Aside0.mk (hb); have n1_ := Aside0.mk (ho); clear HB; clear HO298; have HB := n0_; have HO301 := n1_; clear n0_ n1_; clear ho hb hg hat; obtain ⟨Ao30, co30, eo30⟩ := Kd.R_slice HO301.out; subst eo30) | ((with_reducible refine gate_dst (N := 67) rfl ?_); (with_reducible refine gate_callee (f := 13) rfl ?_); refine goesL_ (some 67) rfl rfl Try.func13 (by kernel_rfl) rfl #[.slice A0 l0.length c0, .slice Ao30 y299.length co30, .string a3, .string a4] rfl (by (try simp only [List.map_toArray, List.map_cons, List.map_nil]); first | done | rfl | (simp only [List.length_drop, List.length_take]; rfl)) ?_; (with_reducible refine (lookup_In.calls kj8 _ _ l0 _ _ y299 a3 a4 t302 t303 _ ?side1 ?side2 ?side3 ?side4 A20.out).mono ?_); (case side1 => repeat (first | exact (Kd.C_below HR0.out HB.out) | (with_reducible refine Kd.C_alloc ?_ _) | (with_reducible refine Kd.C_drewN ?_ _) | (with_reducible refine Kd.C_drew ?_))); (case side2 => exact HC0.out); (case side3 => repeat (first | exact (Kd.R_reads' HO301.out).2.2 | (with_reducible refine Kd.C_alloc ?_ _) | (with_reducible refine Kd.C_drewN ?_ _) | (with_reducible refine Kd.C_drew ?_))); (case side4 => exact (Kd.R_reads' HO301.out).2.1); rintro e w31 ⟨rfl, hb⟩; refine ⟨_, rfl, ?_⟩; have n0_ := Aside0.mk (Kd.R_below (by (with_reducible repeat (first | apply Kd.R_alloc | apply Kd.R_drewN | apply Kd.R_drew)); exact HO301.out) hb); have n1_ := Aside0.mk (below_step (by repeat (first | (with_reducible first | exact HB.out | apply below_alloc | apply pw_below_drewN | apply below_drew1) | exact HB.out)) hb); clear HO301; clear HB; have HO301 := n0_; have HB := n1_; clear n0_ n1_; (try clear hb); (try clear hb2); (try clear hk); (try clear hi)) | ((with_reducible refine gate_dst (N := 73) rfl ?_); (try (refine gate_guard (by rfl) ?_; dsimp only)); refine Kd.R_lit (Kd.int .i64) _ 3 ?hg (N := 73) ?hd (xs := ([a2] : List Int)) (inner := [.int .i64 a2]) (ok := fun _ => True) (okp := fun _ => True) ?hr ?hp (fun _ hk => hk) trivial (Below.refl _ _) (Nat.le_refl _) (by simp) ?_; (case hd => rfl); (case hg => rfl); (case hr => first | (go_simp; done) | (go_simp; rfl)); (case hp => exact (Reps.one (show Kd.M (Kd.int .i64) _ _ _ a2 [.int .i64 a2] from rfl) (Reps.none _ _))); intro v305 w32 ho33 hb hg_ hnew_; clear hg_ hnew_; (first | rw [← Ny304.out] at ho33 | (simp only [Int.reduceToNat] at ho33; rw [← Ny304.out] at ho33)); have n0_ := Aside0.mk (Kd.R_elder' (by (with_reducible repeat (first | apply Kd.R_alloc | apply Kd.R_drewN | apply Kd.R_drew)); exact HO301.out) (Kd.R_base ho33) hb); have n1_ := Aside0.mk (Kd.R_lower (Kd.R_new' ho33 (Kd.R_lt (by (with_reducible repeat (first | apply Kd.R_alloc | apply Kd.R_drewN | apply Kd.R_drew)); exact HO301.out))) (below_size (by repeat (first | (with_reducible first | exact HB.out | apply below_alloc | apply pw_below_drewN | apply below_drew1) | exact HB.out)))); have n2_ := Aside0.mk (below_step (by repeat (first | (with_reducible first | exact HB.out | apply below_alloc | apply pw_below_drewN | apply below_drew1) | exact HB.out)) hb); clear HO301; clear HB; have HO301 := n0_; have HO306 := n1_; have HB := n2_; clear n0_ n1_ n2_; clear hb ho33; obtain ⟨Ao34, co34, eo34⟩ := Kd.R_slice HO306.out; subst eo34) | ((with_reducible refine gate_dst (N := 76) rfl ?_); (with_reducible refine gate_callee (f := 13) rfl ?_); refine goesL_ (some 76) rfl rfl Try.func13 (by kernel_rfl) rfl #[.slice A0 l0.length c0, .slice Ao34 y304.length co34, .string a3, .string a4] rfl (by (try simp only [List.map_toArray, List.map_cons, List.map_nil]); first | done | rfl | (simp only [List.length_drop, List.length_take]; rfl)) ?_; (with_reducible refine (lookup_In.calls kj8 _ _ l0 _ _ y304 a3 a4 t307 t308 _ ?side1 ?side2 ?side3 ?side4 A21.out).mono ?_); (case side1 => repeat (first | exact (Kd.C_below HR0.out HB.out) | (with_reducible refine Kd.C_alloc ?_ _) | (with_reducible refine Kd.C_drewN ?_ _) | (with_reducible refine Kd.C_drew ?_))); (case side2 => exact HC0.out); (case side3 => repeat (first | exact (Kd.R_reads' HO306.out).2.2 | (with_reducible refine Kd.C_alloc ?_ _) | (with_reducible refine Kd.C_drewN ?_ _) | (with_reducible refine Kd.C_drew ?_))); (case side4 => exact (Kd.R_reads' HO306.out).2.1); rintro e w35 ⟨rfl, hb⟩; refine ⟨_, rfl, ?_⟩; have n0_ := Aside0.mk (Kd.R_below (by (with_reducible repeat (first | apply Kd.R_alloc | apply Kd.R_drewN | apply Kd.R_drew)); exact HO301.out) hb); have n1_ := Aside0.mk (Kd.R_below (by (with_reducible repeat (first | apply Kd.R_alloc | apply Kd.R_drewN | apply Kd.R_drew)); exact HO306.out) hb); have n2_ := Aside0.mk (below_step (by repeat (first | (with_reducible first | exact HB.out | apply below_alloc | apply pw_below_drewN | apply below_drew1) | exact HB.out)) hb); clear HO301; clear HO306; clear HB; have HO301 := n0_; have HO306 := n1_; have HB := n2_; clear n0_ n1_ n2_; (try clear hb); (try clear hb2); (try clear hk); (try clear hi)))
                  go_ret
                  exact ⟨by first | rfl | (simp [errW_none, errW_some] <;> rfl) | (simp [*, errW_none, errW_some] <;> rfl), by repeat (first | (with_reducible first | exact HB.out | apply below_alloc | apply pw_below_drewN | apply below_drew1) | exact HB.out)⟩
                · rw [if_neg c24] at H
                  have c24b0 : (t291 == t302) = false := beq_eq_false_iff_ne.mpr c24
                  have c24b1 : (t291 != t302) = true := bne_iff_ne.mpr c24
                  exact absurd ((Option.some.inj H).trans HT.out) (by decide)
              · replace c23 := Bool.eq_false_iff.mpr c23
                subst c23
                have H1 : (some false) = some r := by rw [if_neg (show ¬ (false = true) by decide)] at H; exact H
                clear H
                have H := H1
                clear H1
                exact absurd ((Option.some.inj H).trans HT.out) (by decide)
            · rw [if_neg c22] at H
              have c22b0 : decide (0 ≤ t291) = false := decide_eq_false c22
              clear c22
              by_cases c58 : t288 = true
              · subst c58
                have H1 : (if t292 = (-1) then (if t302 = t307 then (some (t303 == t308)) else (some false)) else (some false)) = some r := by rw [if_pos rfl] at H; exact H
                clear H
                have H := H1
                clear H1
                by_cases c59 : t292 = (-1)
                · rw [if_pos c59] at H
                  have c59b0 : (t292 == (-1)) = true := beq_iff_eq.mpr c59
                  have c59b1 : (t292 != (-1)) = false := bne_eq_false_iff_eq.mpr c59
                  clear c59
                  by_cases c60 : t302 = t307
                  · rw [if_pos c60] at H
                    have c60b0 : (t302 == t307) = true := beq_iff_eq.mpr c60
                    have c60b1 : (t302 != t307) = false := bne_eq_false_iff_eq.mpr c60
                    clear c60
                    obtain rfl := Option.some.inj H
                    go_wp2_with (first | ((with_reducible refine gate_dst (N := 54) rfl ?_); (with_reducible refine gate_callee (f := 13) rfl ?_); refine goesL_ (some 54) rfl rfl Try.func13 (by kernel_rfl) rfl #[.slice A0 l0.length c0, .slice A1 l1.length c1, .string a3, .string a4] rfl (by (try simp only [List.map_toArray, List.map_cons, List.map_nil]); first | done | rfl | (simp only [List.length_drop, List.length_take]; rfl)) ?_; (with_reducible refine (lookup_In.calls kj8 _ _ l0 _ _ l1 a3 a4 t291 t292 _ ?side1 ?side2 ?side3 ?side4 A17.out).mono ?_); (case side1 => repeat (first | exact (Kd.C_below HR0.out HB.out) | (with_reducible refine Kd.C_alloc ?_ _) | (with_reducible refine Kd.C_drewN ?_ _) | (with_reducible refine Kd.C_drew ?_))); (case side2 => exact HC0.out); (case side3 => repeat (first | exact (Kd.C_below HR1.out HB.out) | (with_reducible refine Kd.C_alloc ?_ _) | (with_reducible refine Kd.C_drewN ?_ _) | (with_reducible refine Kd.C_drew ?_))); (case side4 => exact HC1.out); rintro e w61 ⟨rfl, hb⟩; refine ⟨_, rfl, ?_⟩; have n0_ := Aside0.mk (below_step (by repeat (first | (with_reducible first | exact HB.out | apply below_alloc | apply pw_below_drewN | apply below_drew1) | exact HB.out)) hb); clear HB; have HB := n0_; clear n0_; (try clear hb); (try clear hb2); (try clear hk); (try clear hi)) | ((with_reducible refine gate_dst (N := 59) rfl ?_); (try (refine gate_guard (by rfl) ?_; dsimp only)); refine Kd.R_lit (Kd.int .i64) _ 3 ?hg (N := 59) ?hd (xs := ([] : List Int)) (inner := []) (ok := fun _ => True) (okp := fun _ => True) ?hr ?hp (fun _ hk => hk) trivial (Below.refl _ _) (Nat.le_refl _) (by simp) ?_; (case hd => rfl); (case hg => rfl); (case hr => first | (go_simp; done) | (go_simp; rfl)); (case hp => exact (Reps.none _ _)); intro v294 w62 ho63 hb hg_ hnew_; clear hg_ hnew_; (first | rw [← Ny293.out] at ho63 | (simp only [Int.reduceToNat] at ho63; rw [← Ny293.out] at ho63)); have n0_ := Aside0.mk (Kd.R_lower ho63 (below_size (by repeat (first | (with_reducible first | exact HB.out | apply below_alloc | apply pw_below_drewN | apply below_drew1) | exact HB.out)))); have n1_ := Aside0.mk (below_step (by repeat (first | (with_reducible first | exact HB.out | apply below_alloc | apply pw_below_drewN | apply below_drew1) | exact HB.out)) hb); clear HB; have HO295 := n0_; have HB := n1_; clear n0_ n1_; clear hb ho63) | ((with_reducible refine gate_builtin (b := .append) (xs := #[.tmp 59, .tmp 60]) rfl ?_); (try (refine gate_guard (by rfl) ?_; dsimp only)); at_builtin; refine Kd.R_append_rows (Kd.int .i64) (w0 := w) w.heap.size rfl (.tmp 59) (.tmp 60) 23 3 (.int .i64 0) 8 rfl Try.underlying23 info3 rfl (by decide) (by omega) v294 y293 l1 _ _ _ (fun _ => True) (fun _ => False) rfl rfl ?aO ?aR (fun _ _ h => h) (fun _ h => h.elim) ?aF ?aB ?aS ?aL ?_; (case aR => repeat (first | exact (Kd.C_below HR1.out HB.out) | (with_reducible refine Kd.C_alloc ?_ _) | (with_reducible refine Kd.C_drewN ?_ _) | (with_reducible refine Kd.C_drew ?_))); (case aB => exact (by repeat (first | (with_reducible first | exact HB.out | apply below_alloc | apply pw_below_drewN | apply below_drew1) | exact HB.out))); (case aF => exact (fun _ _ => trivial)); (case aO => exact (by (with_reducible repeat (first | apply Kd.R_alloc | apply Kd.R_drewN | apply Kd.R_drew)); exact HO295.out)); (case aS => exact (below_size (by repeat (first | (with_reducible first | exact HB.out | apply below_alloc | apply pw_below_drewN | apply below_drew1) | exact HB.out)))); (case aL => have := LMc18.out; omega); intro v297 w64 ho hb hg hat; rw [← Ny296.out] at ho; have n0_ := Aside0.mk (hb); have n1_ := Aside0.mk (ho); clear HB; clear HO295; have HB := n0_; have HO298 := n1_; clear n0_ n1_; clear ho hb hg hat) | ((with_reducible refine gate_builtin (b := .append) (xs := #[.tmp 61, .tmp 63]) rfl ?_); (try (refine gate_guard (by rfl) ?_; dsimp only)); at_builtin; refine Kd.R_append (Kd.int .i64) (w0 := w) w.heap.size rfl (.tmp 61) (.tmp 63) 23 3 (.int .i64 0) 8 rfl Try.underlying23 info3 rfl (by decide) (by omega) v297 y296 a2 [.int .i64 a2] (fun _ => True) (fun _ => False) rfl rfl ?aP (fun _ hk => hk.elim) ?aF ?aO ?aB ?aS ?aL ?_; (case aP => exact rfl); (case aB => exact (by repeat (first | (with_reducible first | exact HB.out | apply below_alloc | apply pw_below_drewN | apply below_drew1) | exact HB.out))); (case aF => exact (fun _ _ => trivial)); (case aO => exact (by (with_reducible repeat (first | apply Kd.R_alloc | apply Kd.R_drewN | apply Kd.R_drew)); exact HO298.out)); (case aS => exact (below_size (by repeat (first | (with_reducible first | exact HB.out | apply below_alloc | apply pw_below_drewN | apply below_drew1) | exact HB.out)))); (case aL => have := LMc19.out; omega); intro v300 w65 ho hb hg hat; rw [← Ny299.out] at ho; have n0_ := Aside0.mk (hb); have n1_ := Aside0.mk (ho); clear HB; clear HO298; have HB := n0_; have HO301 := n1_; clear n0_ n1_; clear ho hb hg hat; obtain ⟨Ao66, co66, eo66⟩ := Kd.R_slice HO301.out; subst eo66) | ((with_reducible refine gate_dst (N := 67) rfl ?_); (with_reducible refine gate_callee (f := 13) rfl ?_); refine goesL_ (some 67) rfl rfl Try.func13 (by kernel_rfl) rfl #[.slice A0 l0.length c0, .slice Ao66 y299.length co66, .string a3, .string a4] rfl (by (try simp only [List.map_toArray, List.map_cons, List.map_nil]); first | done | rfl | (simp only [List.length_drop, List.length_take]; rfl)) ?_; (with_reducible refine (lookup_In.calls kj8 _ _ l0 _ _ y299 a3 a4 t302 t303 _ ?side1 ?side2 ?side3 ?side4 A20.out).mono ?_); (case side1 => repeat (first | exact (Kd.C_below HR0.out HB.out) | (with_reducible refine Kd.C_alloc ?_ _) | (with_reducible refine Kd.C_drewN ?_ _) | (with_reducible refine Kd.C_drew ?_))); (case side2 => exact HC0.out); (case side3 => repeat (first | exact (Kd.R_reads' HO301.out).2.2 | (with_reducible refine Kd.C_alloc ?_ _) | (with_reducible refine Kd.C_drewN ?_ _) | (with_reducible refine Kd.C_drew ?_))); (case side4 => exact (Kd.R_reads' HO301.out).2.1); rintro e w67 ⟨rfl, hb⟩; refine ⟨_, rfl, ?_⟩; have n0_ := Aside0.mk (Kd.R_below (by (with_reducible repeat (first | apply Kd.R_alloc | apply Kd.R_drewN | apply Kd.R_drew)); exact HO301.out) hb); have n1_ := Aside0.mk (below_step (by repeat (first | (with_reducible first | exact HB.out | apply below_alloc | apply pw_below_drewN | apply below_drew1) | exact HB.out)) hb); clear HO301; clear HB; have HO301 := n0_; have HB := n1_; clear n0_ n1_; (try clear hb); (try clear hb2); (try clear hk); (try clear hi)) | ((with_reducible refine gate_dst (N := 73) rfl ?_); (try (refine gate_guard (by rfl) ?_; dsimp only)); refine Kd.R_lit (Kd.int .i64) _ 3 ?hg (N := 73) ?hd (xs := ([a2] : List Int)) (inner := [.int .i64 a2]) (ok := fun _ => True) (okp := fun _ => True) ?hr ?hp (fun _ hk => hk) trivial (Below.refl _ _) (Nat.le_refl _) (by simp) ?_; (case hd => rfl); (case hg => rfl); (case hr => first | (go_simp; done) | (go_simp; rfl)); (case hp => exact (Reps.one (show Kd.M (Kd.int .i64) _ _ _ a2 [.int .i64 a2] from rfl) (Reps.none _ _))); intro v305 w68 ho69 hb hg_ hnew_; clear hg_ hnew_; (first | rw [← Ny304.out] at ho69 | (simp only [Int.reduceToNat] at ho69; rw [← Ny304.out] at ho69)); have n0_ := Aside0.mk (Kd.R_elder' (by (with_reducible repeat (first | apply Kd.R_alloc | apply Kd.R_drewN | apply Kd.R_drew)); exact HO301.out) (Kd.R_base ho69) hb); have n1_ := Aside0.mk (Kd.R_lower (Kd.R_new' ho69 (Kd.R_lt (by (with_reducible repeat (first | apply Kd.R_alloc | apply Kd.R_drewN | apply Kd.R_drew)); exact HO301.out))) (below_size (by repeat (first | (with_reducible first | exact HB.out | apply below_alloc | apply pw_below_drewN | apply below_drew1) | exact HB.out)))); have n2_ := Aside0.mk (below_step (by repeat (first | (with_reducible first | exact HB.out | apply below_alloc | apply pw_below_drewN | apply below_drew1) | exact HB.out)) hb); clear HO301; clear HB; have HO301 := n0_; have HO306 := n1_; have HB := n2_; clear n0_ n1_ n2_; clear hb ho69; obtain ⟨Ao70, co70, eo70⟩ := Kd.R_slice HO306.out; subst eo70) | ((with_reducible refine gate_dst (N := 76) rfl ?_); (with_reducible refine gate_callee (f := 13) rfl ?_); refine goesL_ (some 76) rfl rfl Try.func13 (by kernel_rfl) rfl #[.slice A0 l0.length c0, .slice Ao70 y304.length co70, .string a3, .string a4] rfl (by (try simp only [List.map_toArray, List.map_cons, List.map_nil]); first | done | rfl | (simp only [List.length_drop, List.length_take]; rfl)) ?_; (with_reducible refine (lookup_In.calls kj8 _ _ l0 _ _ y304 a3 a4 t307 t308 _ ?side1 ?side2 ?side3 ?side4 A21.out).mono ?_); (case side1 => repeat (first | exact (Kd.C_below HR0.out HB.out) | (with_reducible refine Kd.C_alloc ?_ _) | (with_reducible refine Kd.C_drewN ?_ _) | (with_reducible refine Kd.C_drew ?_))); (case side2 => exact HC0.out); (case side3 => repeat (first | exact (Kd.R_reads' HO306.out).2.2 | (with_reducible refine Kd.C_alloc ?_ _) | (with_reducible refine Kd.C_drewN ?_ _) | (with_reducible refine Kd.C_drew ?_))); (case side4 => exact (Kd.R_reads' HO306.out).2.1); rintro e w71 ⟨rfl, hb⟩; refine ⟨_, rfl, ?_⟩; have n0_ := Aside0.mk (Kd.R_below (by (with_reducible repeat (first | apply Kd.R_alloc | apply Kd.R_drewN | apply Kd.R_drew)); exact HO301.out) hb); have n1_ := Aside0.mk (Kd.R_below (by (with_reducible repeat (first | apply Kd.R_alloc | apply Kd.R_drewN | apply Kd.R_drew)); exact HO306.out) hb); have n2_ := Aside0.mk (below_step (by repeat (first | (with_reducible first | exact HB.out | apply below_alloc | apply pw_below_drewN | apply below_drew1) | exact HB.out)) hb); clear HO301; clear HO306; clear HB; have HO301 := n0_; have HO306 := n1_; have HB := n2_; clear n0_ n1_ n2_; (try clear hb); (try clear hb2); (try clear hk); (try clear hi)))
                    go_ret
                    exact ⟨by first | rfl | (simp [errW_none, errW_some] <;> rfl) | (simp [*, errW_none, errW_some] <;> rfl), by repeat (first | (with_reducible first | exact HB.out | apply below_alloc | apply pw_below_drewN | apply below_drew1) | exact HB.out)⟩
                  · rw [if_neg c60] at H
                    have c60b0 : (t302 == t307) = false := beq_eq_false_iff_ne.mpr c60
                    have c60b1 : (t302 != t307) = true := bne_iff_ne.mpr c60
                    exact absurd ((Option.some.inj H).trans HT.out) (by decide)
                · rw [if_neg c59] at H
                  have c59b0 : (t292 == (-1)) = false := beq_eq_false_iff_ne.mpr c59
                  have c59b1 : (t292 != (-1)) = true := bne_iff_ne.mpr c59
                  exact absurd ((Option.some.inj H).trans HT.out) (by decide)
              · replace c58 := Bool.eq_false_iff.mpr c58
                subst c58
                have H1 : (some false) = some r := by rw [if_neg (show ¬ (false = true) by decide)] at H; exact H
                clear H
                have H := H1
                clear H1
                exact absurd ((Option.some.inj H).trans HT.out) (by decide)
          · rw [if_neg c19] at H
            exact absurd H (by simp)
        · rw [if_neg c18] at H
          exact absurd H (by simp)

end Go.Proofs.Ytdgmkmjmddjcfaa.P
