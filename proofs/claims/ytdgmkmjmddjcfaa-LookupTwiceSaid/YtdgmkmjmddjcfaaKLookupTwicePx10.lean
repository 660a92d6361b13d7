/- What functions of the program, and of its laws, give, each proved of its code by a walk; no condition. -/
import Derived.Test.YtdgmkmjmddjcfaaKLookupTwicePx0
namespace Go.Proofs.Ytdgmkmjmddjcfaa.P
open Go.RowKit Go.Proofs.YtdgmkmjmddjcfaaW.PrintWords Go.Proofs.YtdgmkmjmddjcfaaW.PrintLast Go.Proofs.YtdgmkmjmddjcfaaW.PrintMore
attribute [local go_sem] max2_int min2_int max_two min_two max_three min_three max_four min_four   -- for this text's walks alone
set_option linter.unusedVariables false
set_option linter.unusedSimpArgs false

def curtilageref14_Right.l0 : Nat → List Int → Int → Int → Option (Bool)
  | 0, _, _, _ => none
  | k + 1, x0, x1, x5 => if x5 < (x0.length : Int) then (if 0 ≤ x5 then (if (rd x0 x5) < 0 then (some false) else (if (rd x0 x5) ≥ x1 then (some false) else (curtilageref14_Right.l0 k x0 x1 (wrap64 (x5 + 1))))) else (none)) else (some (decide ((x0.length : Int) ≤ 40)))
def curtilageref14_Right.f (k : Nat) (l0 : List Int) (a1 : Int) : Option (Bool) := curtilageref14_Right.l0 k l0 a1 0
theorem curtilageref14_Right.mono_l : ∀ k, (∀ y0 y1 y2, LeO (curtilageref14_Right.l0 k y0 y1 y2) (curtilageref14_Right.l0 (k + 1) y0 y1 y2))
  | 0 => fun _ _ _ r h => by simp [curtilageref14_Right.l0] at h
  | k + 1 => by
    have ih0 := curtilageref14_Right.mono_l k
    · intro y0 y1 y2
      unfold curtilageref14_Right.l0
      repeat' first
      | (with_reducible exact ih0 _ _ _)
      | (with_reducible exact LeO.refl _)
      | (with_reducible exact LeO.none _)
      | (with_reducible refine LeO.ite ?_ ?_)
      | (with_reducible refine LeO.bind ?_ (fun _ => ?_))
      | exact ih0 _ _ _
      | exact LeO.none _
      | refine LeO.ite ?_ ?_
      | refine LeO.bind ?_ (fun _ => ?_)
theorem curtilageref14_Right.mono : ∀ a0 a1 k, LeO (curtilageref14_Right.f k a0 a1) (curtilageref14_Right.f (k + 1) a0 a1) := by
  intro a0 a1 k
  have ih0 := curtilageref14_Right.mono_l k
  unfold curtilageref14_Right.f
  repeat' first
      | (with_reducible exact ih0 _ _ _)
      | (with_reducible exact LeO.refl _)
      | (with_reducible exact LeO.none _)
      | (with_reducible refine LeO.ite ?_ ?_)
      | (with_reducible refine LeO.bind ?_ (fun _ => ?_))
      | exact ih0 _ _ _
      | exact LeO.none _
      | refine LeO.ite ?_ ?_
      | refine LeO.bind ?_ (fun _ => ?_)
set_option maxHeartbeats 8000000 in
set_option maxRecDepth 100000 in
theorem curtilageref14_Right.calls (k : Nat) (A0 : Option Addr) (c0 : Nat) (l0 : List Int) (a1 : Int) (r : Bool) (w : World) (hr0 : Kd.C (Kd.int .i64) w A0 l0.length l0) (hc0 : l0.length ≤ c0) (h : curtilageref14_Right.f k l0 a1 = some r) :
    Calls Try.prog 10 #[.slice A0 l0.length c0, .int .i64 a1] w fun e w' => e = .returned (.bool r) ∧ Drawn0 w w' := by
  have HR0 := Aside0.mk hr0
  have HC0 := Aside0.mk hc0
  clear hr0 hc0
  have H : (curtilageref14_Right.l0 k l0 a1 0) = some r := h
  clear h
  have H' := Aside0.mk H
  clear H
  go_enter Try.func10, Try.ntmps10
  go_wp2
  go_loopg [5] k (fun kq v5 w' => ∃ (x5_1 : Int), v5 = .int .i64 x5_1 ∧ Aside0 (curtilageref14_Right.l0 kq l0 a1 x5_1 = some r) ∧ Aside0 (kq ≤ k) ∧ Drawn0 w w')
  case atStart => exact ⟨(0), (by first | rfl | (simp; done) | (simp [*]; done)), H', ⟨Nat.le_refl _⟩, by repeat (first | exact Drawn0.refl _ | apply Drawn0.step)⟩
  case round =>
    clear H'
    try clear c1
    try clear p2
    obtain ⟨x5_1, rfl, HA, HK1, ⟨m1, rfl⟩⟩ := hrel
    cases gk with
    | zero => exact absurd HA.out (by simp [curtilageref14_Right.l0])
    | succ k1 =>
      have H := HA.out
      clear HA
      simp only [curtilageref14_Right.l0] at H
      by_cases c3 : x5_1 < (l0.length : Int)
      · rw [if_pos c3] at H
        have c3b0 : decide (x5_1 < (l0.length : Int)) = true := decide_eq_true c3
        clear c3
        by_cases c4 : 0 ≤ x5_1
        · rw [if_pos c4] at H
          have c4b0 : decide (0 ≤ x5_1) = true := decide_eq_true c4
          clear c4
          by_cases c5 : (rd l0 x5_1) < 0
          · rw [if_pos c5] at H
            have c5b0 : decide ((rd l0 x5_1) < 0) = true := decide_eq_true c5
            clear c5
            obtain rfl := Option.some.inj H
            have p256 : 0 ≤ (x5_1 : Int) := of_decide_eq_true (by first | (with_reducible assumption) | assumption)
            have q256 : x5_1 < (l0.length : Int) := of_decide_eq_true (by first | (with_reducible assumption) | assumption)
            obtain ⟨ad256, e256, hx256_0⟩ := Kd.at_int HR0.out x5_1 p256 q256
            cases e256
            replace p256 := eq_true p256
            replace q256 := eq_true q256
            go_wp2
            go_ret
            exact ⟨by first | rfl | (simp; done) | (simp [*]; done), by repeat (first | exact Drawn0.refl _ | apply Drawn0.step)⟩
          · rw [if_neg c5] at H
            have c5b0 : decide ((rd l0 x5_1) < 0) = false := decide_eq_false c5
            clear c5
            by_cases c6 : (rd l0 x5_1) ≥ a1
            · rw [if_pos c6] at H
              have c6b0 : decide (a1 ≤ (rd l0 x5_1)) = true := decide_eq_true c6
              clear c6
              obtain rfl := Option.some.inj H
              have p256 : 0 ≤ (x5_1 : Int) := of_decide_eq_true (by first | (with_reducible assumption) | assumption)
              have q256 : x5_1 < (l0.length : Int) := of_decide_eq_true (by first | (with_reducible assumption) | assumption)
              obtain ⟨ad256, e256, hx256_0⟩ := Kd.at_int HR0.out x5_1 p256 q256
              cases e256
              replace p256 := eq_true p256
              replace q256 := eq_true q256
              have p257 : 0 ≤ (x5_1 : Int) := of_decide_eq_true (by first | (with_reducible assumption) | assumption)
              have q257 : x5_1 < (l0.length : Int) := of_decide_eq_true (by first | (with_reducible assumption) | assumption)
              obtain ⟨ad257, e257, hx257_0⟩ := Kd.at_int HR0.out x5_1 p257 q257
              obtain rfl : ad256 = ad257 := (by injection e257)
              replace p257 := eq_true p257
              replace q257 := eq_true q257
              go_wp2
              go_ret
              exact ⟨by first | rfl | (simp; done) | (simp [*]; done), by repeat (first | exact Drawn0.refl _ | apply Drawn0.step)⟩
            · rw [if_neg c6] at H
              have c6b0 : decide (a1 ≤ (rd l0 x5_1)) = false := decide_eq_false c6
              clear c6
              have H' := Aside0.mk H
              clear H
              have p256 : 0 ≤ (x5_1 : Int) := of_decide_eq_true (by first | (with_reducible assumption) | assumption)
              have q256 : x5_1 < (l0.length : Int) := of_decide_eq_true (by first | (with_reducible assumption) | assumption)
              obtain ⟨ad256, e256, hx256_0⟩ := Kd.at_int HR0.out x5_1 p256 q256
              cases e256
              replace p256 := eq_true p256
              replace q256 := eq_true q256
              have p257 : 0 ≤ (x5_1 : Int) := of_decide_eq_true (by first | (with_reducible assumption) | assumption)
              have q257 : x5_1 < (l0.length : Int) := of_decide_eq_true (by first | (with_reducible assumption) | assumption)
              obtain ⟨ad257, e257, hx257_0⟩ := Kd.at_int HR0.out x5_1 p257 q257
              obtain rfl : ad256 = ad257 := (by injection e257)
              replace p257 := eq_true p257
              replace q257 := eq_true q257
              go_wp2
              go_roundg k1
              case measure => have := HK1.out; omega
              case rel => exact ⟨(wrap64 (x5_1 + 1)), (by first | rfl | (simp; done) | (simp [*]; done)), H', ⟨by have := HK1.out; omega⟩, by repeat (first | exact Drawn0.refl _ | apply Drawn0.step)⟩
        · rw [if_neg c4] at H
          exact absurd H (by simp)
      · rw [if_neg c3] at H
        have c3b0 : decide (x5_1 < (l0.length : Int)) = false := decide_eq_false c3
        clear c3
        obtain rfl := Option.some.inj H
        go_wp2
        go_ret
        exact ⟨by first | rfl | (simp; done) | (simp [*]; done), by repeat (first | exact Drawn0.refl _ | apply Drawn0.step)⟩

def curtilageref12_Shown.f (a0_0 : ByteArray) (a0_1 : ByteArray) (a0_2 : Int) (a0_3 : Int) (a0_4 : Int) (a0_5 : Int) (a0_6 : Int) (a0_7 : Bool) : Option (Bool) := if a0_7 = true then (if a0_5 = 1 then (some false) else (some (a0_6 == 1))) else (some false)
def curtilageref12_Find.l0 : Nat → List (S42) → ByteArray → ByteArray → Int → Option (Int)
  | 0, _, _, _, _ => none
  | k + 1, x0, x1, x2, x7 => if x7 < (x0.length : Int) then (if 0 ≤ x7 then ((curtilageref12_Shown.f ((rd_T42 x0 x7).f0) ((rd_T42 x0 x7).f1) ((rd_T42 x0 x7).f2) ((rd_T42 x0 x7).f3) ((rd_T42 x0 x7).f4) ((rd_T42 x0 x7).f5) ((rd_T42 x0 x7).f6) ((rd_T42 x0 x7).f7)).bind fun t260 => (if t260 = true then (if ((rd_T42 x0 x7).f0).toList = x1.toList then (if x2.toList = ([] : List UInt8) then (some x7) else (if ((rd_T42 x0 x7).f1).toList = x2.toList then (some x7) else (curtilageref12_Find.l0 k x0 x1 x2 (wrap64 (x7 + 1))))) else (curtilageref12_Find.l0 k x0 x1 x2 (wrap64 (x7 + 1)))) else (curtilageref12_Find.l0 k x0 x1 x2 (wrap64 (x7 + 1))))) else (none)) else (some (-1))
def curtilageref12_Find.f (k : Nat) (l0 : List (S42)) (a1 : ByteArray) (a2 : ByteArray) : Option (Int) := curtilageref12_Find.l0 k l0 a1 a2 0
theorem curtilageref12_Find.mono_l : ∀ k, (∀ y0 y1 y2 y3, LeO (curtilageref12_Find.l0 k y0 y1 y2 y3) (curtilageref12_Find.l0 (k + 1) y0 y1 y2 y3))
  | 0 => fun _ _ _ _ r h => by simp [curtilageref12_Find.l0] at h
  | k + 1 => by
    have ih0 := curtilageref12_Find.mono_l k
    · intro y0 y1 y2 y3
      unfold curtilageref12_Find.l0
      repeat' first
      | (with_reducible exact ih0 _ _ _ _)
      | (with_reducible exact LeO.refl _)
      | (with_reducible exact LeO.none _)
      | (with_reducible refine LeO.ite ?_ ?_)
      | (with_reducible refine LeO.bind ?_ (fun _ => ?_))
      | exact ih0 _ _ _ _
      | exact LeO.none _
      | refine LeO.ite ?_ ?_
      | refine LeO.bind ?_ (fun _ => ?_)
theorem curtilageref12_Find.mono : ∀ a0 a1 a2 k, LeO (curtilageref12_Find.f k a0 a1 a2) (curtilageref12_Find.f (k + 1) a0 a1 a2) := by
  intro a0 a1 a2 k
  have ih0 := curtilageref12_Find.mono_l k
  unfold curtilageref12_Find.f
  repeat' first
      | (with_reducible exact ih0 _ _ _ _)
      | (with_reducible exact LeO.refl _)
      | (with_reducible exact LeO.none _)
      | (with_reducible refine LeO.ite ?_ ?_)
      | (with_reducible refine LeO.bind ?_ (fun _ => ?_))
      | exact ih0 _ _ _ _
      | exact LeO.none _
      | refine LeO.ite ?_ ?_
      | refine LeO.bind ?_ (fun _ => ?_)
def curtilageref14_In.l0 : Nat → List (S32) → List Int → ByteArray → ByteArray → Int → Option (Int × Int)
  | 0, _, _, _, _, _ => none
  | k + 1, x0, x1, x2, x3, x10 => if x10 < (x1.length : Int) then (if 0 ≤ x10 then (if 0 ≤ (rd x1 x10) then (if (rd x1 x10) < (x0.length : Int) then ((curtilageref12_Find.f k ((rd_T32 x0 (rd x1 x10)).f3) x2 x3).bind fun t265 => (if t265 ≥ 0 then (some (rd x1 x10, t265)) else (curtilageref14_In.l0 k x0 x1 x2 x3 (wrap64 (x10 + 1))))) else (none)) else (none)) else (none)) else (some ((-1), (-1)))
def curtilageref14_In.f (k : Nat) (l0 : List (S32)) (l1 : List Int) (a2 : ByteArray) (a3 : ByteArray) : Option (Int × Int) := curtilageref14_In.l0 k l0 l1 a2 a3 0
theorem curtilageref14_In.mono_l : ∀ k, (∀ y0 y1 y2 y3 y4, LeO (curtilageref14_In.l0 k y0 y1 y2 y3 y4) (curtilageref14_In.l0 (k + 1) y0 y1 y2 y3 y4))
  | 0 => fun _ _ _ _ _ r h => by simp [curtilageref14_In.l0] at h
  | k + 1 => by
    have ih0 := curtilageref14_In.mono_l k
    · intro y0 y1 y2 y3 y4
      unfold curtilageref14_In.l0
      repeat' first
      | (with_reducible exact ih0 _ _ _ _ _)
      | (with_reducible exact curtilageref12_Find.mono _ _ _ _)
      | (with_reducible exact LeO.refl _)
      | (with_reducible exact LeO.none _)
      | (with_reducible refine LeO.ite ?_ ?_)
      | (with_reducible refine LeO.bind ?_ (fun _ => ?_))
      | exact ih0 _ _ _ _ _
      | exact curtilageref12_Find.mono _ _ _ _
      | exact LeO.none _
      | refine LeO.ite ?_ ?_
      | refine LeO.bind ?_ (fun _ => ?_)
theorem curtilageref14_In.mono : ∀ a0 a1 a2 a3 k, LeO (curtilageref14_In.f k a0 a1 a2 a3) (curtilageref14_In.f (k + 1) a0 a1 a2 a3) := by
  intro a0 a1 a2 a3 k
  have ih0 := curtilageref14_In.mono_l k
  unfold curtilageref14_In.f
  repeat' first
      | (with_reducible exact ih0 _ _ _ _ _)
      | (with_reducible exact curtilageref12_Find.mono _ _ _ _)
      | (with_reducible exact LeO.refl _)
      | (with_reducible exact LeO.none _)
      | (with_reducible refine LeO.ite ?_ ?_)
      | (with_reducible refine LeO.bind ?_ (fun _ => ?_))
      | exact ih0 _ _ _ _ _
      | exact curtilageref12_Find.mono _ _ _ _
      | exact LeO.none _
      | refine LeO.ite ?_ ?_
      | refine LeO.bind ?_ (fun _ => ?_)
mutual
def curtilageref14_Known.l0 : Nat → List (S32) → List Int → ByteArray → Int → Option (Bool)
  | 0, _, _, _, _ => none
  | k + 1, x0, x1, x2, x7 => if x7 < (x1.length : Int) then (if 0 ≤ x7 then (if 0 ≤ (rd x1 x7) then (if (rd x1 x7) < (x0.length : Int) then (curtilageref14_Known.l1 k x0 x1 x2 x7 ((rd_T32 x0 (rd x1 x7)).f3) 0) else (none)) else (none)) else (none)) else (some false)
def curtilageref14_Known.l1 : Nat → List (S32) → List Int → ByteArray → Int → List (S42) → Int → Option (Bool)
  | 0, _, _, _, _, _, _ => none
  | k + 1, x0, x1, x2, x7, x8, x9 => if x9 < (x8.length : Int) then (if 0 ≤ x9 then ((curtilageref12_Shown.f ((rd_T42 x8 x9).f0) ((rd_T42 x8 x9).f1) ((rd_T42 x8 x9).f2) ((rd_T42 x8 x9).f3) ((rd_T42 x8 x9).f4) ((rd_T42 x8 x9).f5) ((rd_T42 x8 x9).f6) ((rd_T42 x8 x9).f7)).bind fun t270 => (if t270 = true then (if ((rd_T42 x8 x9).f0).toList = x2.toList then (some true) else (curtilageref14_Known.l1 k x0 x1 x2 x7 x8 (wrap64 (x9 + 1)))) else (curtilageref14_Known.l1 k x0 x1 x2 x7 x8 (wrap64 (x9 + 1))))) else (none)) else (curtilageref14_Known.l0 k x0 x1 x2 (wrap64 (x7 + 1)))
end
def curtilageref14_Known.f (k : Nat) (l0 : List (S32)) (l1 : List Int) (a2 : ByteArray) : Option (Bool) := curtilageref14_Known.l0 k l0 l1 a2 0
theorem curtilageref14_Known.mono_l : ∀ k, (∀ y0 y1 y2 y3, LeO (curtilageref14_Known.l0 k y0 y1 y2 y3) (curtilageref14_Known.l0 (k + 1) y0 y1 y2 y3)) ∧ (∀ y0 y1 y2 y3 y4 y5, LeO (curtilageref14_Known.l1 k y0 y1 y2 y3 y4 y5) (curtilageref14_Known.l1 (k + 1) y0 y1 y2 y3 y4 y5))
  | 0 => ⟨fun _ _ _ _ r h => by simp [curtilageref14_Known.l0] at h, fun _ _ _ _ _ _ r h => by simp [curtilageref14_Known.l1] at h⟩
  | k + 1 => by
    obtain ⟨ih0, ih1⟩ := curtilageref14_Known.mono_l k
    refine ⟨?_, ?_⟩
    · intro y0 y1 y2 y3
      unfold curtilageref14_Known.l0
      repeat' first
      | (with_reducible exact ih0 _ _ _ _)
      | (with_reducible exact ih1 _ _ _ _ _ _)
      | (with_reducible exact LeO.refl _)
      | (with_reducible exact LeO.none _)
      | (with_reducible refine LeO.ite ?_ ?_)
      | (with_reducible refine LeO.bind ?_ (fun _ => ?_))
      | exact ih0 _ _ _ _
      | exact ih1 _ _ _ _ _ _
      | exact LeO.none _
      | refine LeO.ite ?_ ?_
      | refine LeO.bind ?_ (fun _ => ?_)
    · intro y0 y1 y2 y3 y4 y5
      unfold curtilageref14_Known.l1
      repeat' first
      | (with_reducible exact ih0 _ _ _ _)
      | (with_reducible exact ih1 _ _ _ _ _ _)
      | (with_reducible exact LeO.refl _)
      | (with_reducible exact LeO.none _)
      | (with_reducible refine LeO.ite ?_ ?_)
      | (with_reducible refine LeO.bind ?_ (fun _ => ?_))
      | exact ih0 _ _ _ _
      | exact ih1 _ _ _ _ _ _
      | exact LeO.none _
      | refine LeO.ite ?_ ?_
      | refine LeO.bind ?_ (fun _ => ?_)
theorem curtilageref14_Known.mono : ∀ a0 a1 a2 k, LeO (curtilageref14_Known.f k a0 a1 a2) (curtilageref14_Known.f (k + 1) a0 a1 a2) := by
  intro a0 a1 a2 k
  obtain ⟨ih0, ih1⟩ := curtilageref14_Known.mono_l k
  unfold curtilageref14_Known.f
  repeat' first
      | (with_reducible exact ih0 _ _ _ _)
      | (with_reducible exact ih1 _ _ _ _ _ _)
      | (with_reducible exact LeO.refl _)
      | (with_reducible exact LeO.none _)
      | (with_reducible refine LeO.ite ?_ ?_)
      | (with_reducible refine LeO.bind ?_ (fun _ => ?_))
      | exact ih0 _ _ _ _
      | exact ih1 _ _ _ _ _ _
      | exact LeO.none _
      | refine LeO.ite ?_ ?_
      | refine LeO.bind ?_ (fun _ => ?_)
end Go.Proofs.Ytdgmkmjmddjcfaa.P
