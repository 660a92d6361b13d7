/- What functions of the program, and of its laws, give, each proved of its code by a walk; no condition. -/
import Derived.Test.YtdgmkmjmddjcfaaKLookupFindsPx0
import Derived.Test.YtdgmkmjmddjcfaaKLookupFindsPx6
import Derived.Test.YtdgmkmjmddjcfaaKLookupFindsPx7
import Derived.Test.YtdgmkmjmddjcfaaKLookupFindsPx8
import Derived.Test.YtdgmkmjmddjcfaaKLookupFindsPx9
import Derived.Test.YtdgmkmjmddjcfaaKLookupFindsPx10
import Derived.Test.YtdgmkmjmddjcfaaKLookupFindsPx14
import Derived.Laws.Cover1
namespace Go.Proofs.Ytdgmkmjmddjcfaa.P
open Go.RowKit Go.Proofs.YtdgmkmjmddjcfaaW.PrintWords Go.Proofs.YtdgmkmjmddjcfaaW.PrintLast Go.Proofs.YtdgmkmjmddjcfaaW.PrintMore
attribute [local go_sem] max2_int min2_int max_two min_two max_three min_three max_four min_four   -- for this text's walks alone
set_option linter.unusedVariables false
set_option linter.unusedSimpArgs false

mutual
def curtilagelaw14_LookupFinds.j0 : Nat → List (S32) → List Int → ByteArray → ByteArray → Bool → Bool → Option (Bool)
  | 0, _, _, _, _, _, _ => none
  | k + 1, x0, x1, x2, x3, x9, x33 => if x33 = true then (some x9) else ((lookup_In.f k x0 x1 x2 x3).bind fun bt339 => ((curtilageref14_In.f k x0 x1 x2 x3).bind fun bt341 => ((lookup_Known.f k x0 x1 x2).bind fun t343 => ((lookup_All.f k x0 x1).bind fun t344 => (curtilagelaw14_LookupFinds.l0 k x0 x1 x2 x9 bt339.1 bt339.2 bt341.1 bt341.2 t343 t344 false 0)))))
def curtilagelaw14_LookupFinds.l0 : Nat → List (S32) → List Int → ByteArray → Bool → Int → Int → Int → Int → Bool → List ByteArray → Bool → Int → Option (Bool)
  | 0, _, _, _, _, _, _, _, _, _, _, _, _ => none
  | k + 1, x0, x1, x2, x9, x12, x13, x14, x15, x16, x17, x18, x19 => if x19 < (x17.length : Int) then (if 0 ≤ x19 then ((curtilageref14_Known.f k x0 x1 (rdOf ByteArray.empty x17 x19)).bind fun t348 => (if t348 = true then (if x19 > 0 then (if 0 ≤ (wrap64 (x19 - 1)) then (if (wrap64 (x19 - 1)) < (x17.length : Int) then (if ((Op.bytesLess ((rdOf ByteArray.empty x17 (wrap64 (x19 - 1))).toList) ((rdOf ByteArray.empty x17 x19).toList)) = true) then (if x18 = true then (curtilagelaw14_LookupFinds.l0 k x0 x1 x2 x9 x12 x13 x14 x15 x16 x17 true (wrap64 (x19 + 1))) else (curtilagelaw14_LookupFinds.l0 k x0 x1 x2 x9 x12 x13 x14 x15 x16 x17 ((rdOf ByteArray.empty x17 x19).toList == x2.toList) (wrap64 (x19 + 1)))) else (some false)) else (none)) else (none)) else (if x18 = true then (curtilagelaw14_LookupFinds.l0 k x0 x1 x2 x9 x12 x13 x14 x15 x16 x17 true (wrap64 (x19 + 1))) else (curtilagelaw14_LookupFinds.l0 k x0 x1 x2 x9 x12 x13 x14 x15 x16 x17 ((rdOf ByteArray.empty x17 x19).toList == x2.toList) (wrap64 (x19 + 1))))) else (some false))) else (none)) else (if x9 = true then (if x12 = x14 then (if x13 = x15 then ((curtilageref14_Known.f k x0 x1 x2).bind fun t353 => (if (x16 == t353) = true then (some (x18 == x16)) else (some false))) else (some false)) else (some false)) else (some false))
end
def curtilagelaw14_LookupFinds.f (k : Nat) (l0 : List (S32)) (l1 : List Int) (a2 : ByteArray) (a3 : ByteArray) : Option (Bool) := (curtilagelaw14_awake.f k).bind fun t336 => ((curtilageref14_Short.f k l0).bind fun t337 => ((curtilageref14_Right.f k l1 (l0.length : Int)).bind fun t338 => (if t337 = true then (curtilagelaw14_LookupFinds.j0 k l0 l1 a2 a3 t336 (!t338)) else (curtilagelaw14_LookupFinds.j0 k l0 l1 a2 a3 t336 true))))
theorem curtilagelaw14_LookupFinds.mono_l : ∀ k, (∀ y0 y1 y2 y3 y4 y5, LeO (curtilagelaw14_LookupFinds.j0 k y0 y1 y2 y3 y4 y5) (curtilagelaw14_LookupFinds.j0 (k + 1) y0 y1 y2 y3 y4 y5)) ∧ (∀ y0 y1 y2 y3 y4 y5 y6 y7 y8 y9 y10 y11, LeO (curtilagelaw14_LookupFinds.l0 k y0 y1 y2 y3 y4 y5 y6 y7 y8 y9 y10 y11) (curtilagelaw14_LookupFinds.l0 (k + 1) y0 y1 y2 y3 y4 y5 y6 y7 y8 y9 y10 y11))
  | 0 => ⟨fun _ _ _ _ _ _ r h => by simp [curtilagelaw14_LookupFinds.j0] at h, fun _ _ _ _ _ _ _ _ _ _ _ _ r h => by simp [curtilagelaw14_LookupFinds.l0] at h⟩
  | k + 1 => by
    obtain ⟨ih0, ih1⟩ := curtilagelaw14_LookupFinds.mono_l k
    refine ⟨?_, ?_⟩
    · intro y0 y1 y2 y3 y4 y5
      unfold curtilagelaw14_LookupFinds.j0
      repeat' first
      | (with_reducible exact ih0 _ _ _ _ _ _)
      | (with_reducible exact ih1 _ _ _ _ _ _ _ _ _ _ _ _)
      | (with_reducible exact curtilagelaw14_awake.mono _)
      | (with_reducible exact curtilageref14_In.mono _ _ _ _ _)
      | (with_reducible exact curtilageref14_Known.mono _ _ _ _)
      | (with_reducible exact curtilageref14_Right.mono _ _ _)
      | (with_reducible exact curtilageref14_Short.mono _ _)
      | (with_reducible exact lookup_All.mono _ _ _)
      | (with_reducible exact lookup_In.mono _ _ _ _ _)
      | (with_reducible exact lookup_Known.mono _ _ _ _)
      | (with_reducible exact LeO.refl _)
      | (with_reducible exact LeO.none _)
      | (with_reducible refine LeO.ite ?_ ?_)
      | (with_reducible refine LeO.bind ?_ (fun _ => ?_))
      | exact ih0 _ _ _ _ _ _
      | exact ih1 _ _ _ _ _ _ _ _ _ _ _ _
      | exact curtilagelaw14_awake.mono _
      | exact curtilageref14_In.mono _ _ _ _ _
      | exact curtilageref14_Known.mono _ _ _ _
      | exact curtilageref14_Right.mono _ _ _
      | exact curtilageref14_Short.mono _ _
      | exact lookup_All.mono _ _ _
      | exact lookup_In.mono _ _ _ _ _
      | exact lookup_Known.mono _ _ _ _
      | exact LeO.none _
      | refine LeO.ite ?_ ?_
      | refine LeO.bind ?_ (fun _ => ?_)
    · intro y0 y1 y2 y3 y4 y5 y6 y7 y8 y9 y10 y11
      unfold curtilagelaw14_LookupFinds.l0
      repeat' first
      | (with_reducible exact ih0 _ _ _ _ _ _)
      | (with_reducible exact ih1 _ _ _ _ _ _ _ _ _ _ _ _)
      | (with_reducible exact curtilagelaw14_awake.mono _)
      | (with_reducible exact curtilageref14_In.mono _ _ _ _ _)
      | (with_reducible exact curtilageref14_Known.mono _ _ _ _)
      | (with_reducible exact curtilageref14_Right.mono _ _ _)
      | (with_reducible exact curtilageref14_Short.mono _ _)
      | (with_reducible exact lookup_All.mono _ _ _)
      | (with_reducible exact lookup_In.mono _ _ _ _ _)
      | (with_reducible exact lookup_Known.mono _ _ _ _)
      | (with_reducible exact LeO.refl _)
      | (with_reducible exact LeO.none _)
      | (with_reducible refine LeO.ite ?_ ?_)
      | (with_reducible refine LeO.bind ?_ (fun _ => ?_))
      | exact ih0 _ _ _ _ _ _
      | exact ih1 _ _ _ _ _ _ _ _ _ _ _ _
      | exact curtilagelaw14_awake.mono _
      | exact curtilageref14_In.mono _ _ _ _ _
      | exact curtilageref14_Known.mono _ _ _ _
      | exact curtilageref14_Right.mono _ _ _
      | exact curtilageref14_Short.mono _ _
      | exact lookup_All.mono _ _ _
      | exact lookup_In.mono _ _ _ _ _
      | exact lookup_Known.mono _ _ _ _
      | exact LeO.none _
      | refine LeO.ite ?_ ?_
      | refine LeO.bind ?_ (fun _ => ?_)
theorem curtilagelaw14_LookupFinds.mono : ∀ a0 a1 a2 a3 k, LeO (curtilagelaw14_LookupFinds.f k a0 a1 a2 a3) (curtilagelaw14_LookupFinds.f (k + 1) a0 a1 a2 a3) := by
  intro a0 a1 a2 a3 k
  obtain ⟨ih0, ih1⟩ := curtilagelaw14_LookupFinds.mono_l k
  unfold curtilagelaw14_LookupFinds.f
  repeat' first
      | (with_reducible exact ih0 _ _ _ _ _ _)
      | (with_reducible exact ih1 _ _ _ _ _ _ _ _ _ _ _ _)
      | (with_reducible exact curtilagelaw14_awake.mono _)
      | (with_reducible exact curtilageref14_In.mono _ _ _ _ _)
      | (with_reducible exact curtilageref14_Known.mono _ _ _ _)
      | (with_reducible exact curtilageref14_Right.mono _ _ _)
      | (with_reducible exact curtilageref14_Short.mono _ _)
      | (with_reducible exact lookup_All.mono _ _ _)
      | (with_reducible exact lookup_In.mono _ _ _ _ _)
      | (with_reducible exact lookup_Known.mono _ _ _ _)
      | (with_reducible exact LeO.refl _)
      | (with_reducible exact LeO.none _)
      | (with_reducible refine LeO.ite ?_ ?_)
      | (with_reducible refine LeO.bind ?_ (fun _ => ?_))
      | exact ih0 _ _ _ _ _ _
      | exact ih1 _ _ _ _ _ _ _ _ _ _ _ _
      | exact curtilagelaw14_awake.mono _
      | exact curtilageref14_In.mono _ _ _ _ _
      | exact curtilageref14_Known.mono _ _ _ _
      | exact curtilageref14_Right.mono _ _ _
      | exact curtilageref14_Short.mono _ _
      | exact lookup_All.mono _ _ _
      | exact lookup_In.mono _ _ _ _ _
      | exact lookup_Known.mono _ _ _ _
      | exact LeO.none _
      | refine LeO.ite ?_ ?_
      | refine LeO.bind ?_ (fun _ => ?_)
set_option maxHeartbeats 8000000 in
set_option maxRecDepth 100000 in
theorem curtilagelaw14_LookupFinds.calls (k : Nat) (A0 : Option Addr) (c0 : Nat) (l0 : List (S32)) (A1 : Option Addr) (c1 : Nat) (l1 : List Int) (a2 : ByteArray) (a3 : ByteArray) (r : Bool) (w : World) (hr0 : Kd.C k32 w A0 l0.length l0) (hc0 : l0.length ≤ c0) (hr1 : Kd.C (Kd.int .i64) w A1 l1.length l1) (hc1 : l1.length ≤ c1) (h : curtilagelaw14_LookupFinds.f k l0 l1 a2 a3 = some r) (hr0 : r = true) :
    Calls Try.prog 6 #[.slice A0 l0.length c0, .slice A1 l1.length c1, .string a2, .string a3] w fun e w' => e = .returned (.bool r) ∧ Below w.heap.size w w' := by
  have HT := Aside0.mk hr0
  clear hr0
  have HR0 := Aside0.mk hr0
  have HC0 := Aside0.mk hc0
  clear hr0 hc0
  have HR1 := Aside0.mk hr1
  have HC1 := Aside0.mk hc1
  clear hr1 hc1
  have HB := Aside0.mk (Below.refl w.heap.size w)
  have H : ((curtilagelaw14_awake.f k).bind fun t336 => ((curtilageref14_Short.f k l0).bind fun t337 => ((curtilageref14_Right.f k l1 (l0.length : Int)).bind fun t338 => (if t337 = true then (curtilagelaw14_LookupFinds.j0 k l0 l1 a2 a3 t336 (!t338)) else (curtilagelaw14_LookupFinds.j0 k l0 l1 a2 a3 t336 true))))) = some r := h
  clear h
  replace H := Option.bind_eq_some_iff.mp H
  obtain ⟨t336, A50, H⟩ := H
  replace H : ((curtilageref14_Short.f k l0).bind fun t337 => ((curtilageref14_Right.f k l1 (l0.length : Int)).bind fun t338 => (if t337 = true then (curtilagelaw14_LookupFinds.j0 k l0 l1 a2 a3 t336 (!t338)) else (curtilagelaw14_LookupFinds.j0 k l0 l1 a2 a3 t336 true)))) = some r := H
  have A5 := Aside0.mk A50
  clear A50
  replace H := Option.bind_eq_some_iff.mp H
  obtain ⟨t337, A60, H⟩ := H
  replace H : ((curtilageref14_Right.f k l1 (l0.length : Int)).bind fun t338 => (if t337 = true then (curtilagelaw14_LookupFinds.j0 k l0 l1 a2 a3 t336 (!t338)) else (curtilagelaw14_LookupFinds.j0 k l0 l1 a2 a3 t336 true))) = some r := H
  have A6 := Aside0.mk A60
  clear A60
  replace H := Option.bind_eq_some_iff.mp H
  obtain ⟨t338, A70, H⟩ := H
  replace H : (if t337 = true then (curtilagelaw14_LookupFinds.j0 k l0 l1 a2 a3 t336 (!t338)) else (curtilagelaw14_LookupFinds.j0 k l0 l1 a2 a3 t336 true)) = some r := H
  have A7 := Aside0.mk A70
  clear A70
  have HC8 := Aside0.mk H
  clear H
  go_enter Try.func6, Try.ntmps6
  go_upto_region 4 with (first | (go_at_call 8; (with_reducible refine (curtilagelaw14_awake.calls k  t336 _ A5.out).mono ?_); rintro e w9 ⟨rfl, hb⟩; have n0_ := Aside0.mk (below_step (by repeat (first | (with_reducible first | exact HB.out | apply below_alloc | apply pw_below_drewN | apply below_drew1) | exact HB.out)) hb); clear HB; have HB := n0_; clear n0_; (try clear hb); (try clear hb2); (try clear hk); (try clear hi)) | (go_at_call 9; (with_reducible refine (curtilageref14_Short.calls k _ _ l0 t337 _ ?side1 ?side2 A6.out).mono ?_); (case side1 => repeat (first | exact (Kd.C_below HR0.out HB.out) | (with_reducible refine Kd.C_alloc ?_ _) | (with_reducible refine Kd.C_drewN ?_ _) | (with_reducible refine Kd.C_drew ?_))); (case side2 => exact HC0.out); rintro e w10 ⟨rfl, hb⟩; have n0_ := Aside0.mk (below_step (by repeat (first | (with_reducible first | exact HB.out | apply below_alloc | apply pw_below_drewN | apply below_drew1) | exact HB.out)) hb); clear HB; have HB := n0_; clear n0_; (try clear hb); (try clear hb2); (try clear hk); (try clear hi)) | (go_at_call 10; (with_reducible refine (curtilageref14_Right.calls k _ _ l1 (l0.length : Int) t338 _ ?side1 ?side2 A7.out).mono ?_); (case side1 => repeat (first | exact (Kd.C_below HR1.out HB.out) | (with_reducible refine Kd.C_alloc ?_ _) | (with_reducible refine Kd.C_drewN ?_ _) | (with_reducible refine Kd.C_drew ?_))); (case side2 => exact HC1.out); rintro e w' ⟨rfl, ⟨nd, rfl⟩⟩; (try first | exact ⟨rfl, _, World.drewN_drewN _ _ _⟩ | exact ⟨rfl, _, Eq.trans (World.drewN_drewN _ _ _) (congrArg (World.drewN _) (Nat.add_assoc _ _ _))⟩)))
  repeat (go_quiet (first | (go_at_call 8; (with_reducible refine (curtilagelaw14_awake.calls k  t336 _ A5.out).mono ?_); rintro e w9 ⟨rfl, hb⟩; have n0_ := Aside0.mk (below_step (by repeat (first | (with_reducible first | exact HB.out | apply below_alloc | apply pw_below_drewN | apply below_drew1) | exact HB.out)) hb); clear HB; have HB := n0_; clear n0_; (try clear hb); (try clear hb2); (try clear hk); (try clear hi)) | (go_at_call 9; (with_reducible refine (curtilageref14_Short.calls k _ _ l0 t337 _ ?side1 ?side2 A6.out).mono ?_); (case side1 => repeat (first | exact (Kd.C_below HR0.out HB.out) | (with_reducible refine Kd.C_alloc ?_ _) | (with_reducible refine Kd.C_drewN ?_ _) | (with_reducible refine Kd.C_drew ?_))); (case side2 => exact HC0.out); rintro e w10 ⟨rfl, hb⟩; have n0_ := Aside0.mk (below_step (by repeat (first | (with_reducible first | exact HB.out | apply below_alloc | apply pw_below_drewN | apply below_drew1) | exact HB.out)) hb); clear HB; have HB := n0_; clear n0_; (try clear hb); (try clear hb2); (try clear hk); (try clear hi)) | (go_at_call 10; (with_reducible refine (curtilageref14_Right.calls k _ _ l1 (l0.length : Int) t338 _ ?side1 ?side2 A7.out).mono ?_); (case side1 => repeat (first | exact (Kd.C_below HR1.out HB.out) | (with_reducible refine Kd.C_alloc ?_ _) | (with_reducible refine Kd.C_drewN ?_ _) | (with_reducible refine Kd.C_drew ?_))); (case side2 => exact HC1.out); rintro e w' ⟨rfl, ⟨nd, rfl⟩⟩; (try first | exact ⟨rfl, _, World.drewN_drewN _ _ _⟩ | exact ⟨rfl, _, Eq.trans (World.drewN_drewN _ _ _) (congrArg (World.drewN _) (Nat.add_assoc _ _ _))⟩))); go_upto_region 4 with (first | (go_at_call 8; (with_reducible refine (curtilagelaw14_awake.calls k  t336 _ A5.out).mono ?_); rintro e w9 ⟨rfl, hb⟩; have n0_ := Aside0.mk (below_step (by repeat (first | (with_reducible first | exact HB.out | apply below_alloc | apply pw_below_drewN | apply below_drew1) | exact HB.out)) hb); clear HB; have HB := n0_; clear n0_; (try clear hb); (try clear hb2); (try clear hk); (try clear hi)) | (go_at_call 9; (with_reducible refine (curtilageref14_Short.calls k _ _ l0 t337 _ ?side1 ?side2 A6.out).mono ?_); (case side1 => repeat (first | exact (Kd.C_below HR0.out HB.out) | (with_reducible refine Kd.C_alloc ?_ _) | (with_reducible refine Kd.C_drewN ?_ _) | (with_reducible refine Kd.C_drew ?_))); (case side2 => exact HC0.out); rintro e w10 ⟨rfl, hb⟩; have n0_ := Aside0.mk (below_step (by repeat (first | (with_reducible first | exact HB.out | apply below_alloc | apply pw_below_drewN | apply below_drew1) | exact HB.out)) hb); clear HB; have HB := n0_; clear n0_; (try clear hb); (try clear hb2); (try clear hk); (try clear hi)) | (go_at_call 10; (with_reducible refine (curtilageref14_Right.calls k _ _ l1 (l0.length : Int) t338 _ ?side1 ?side2 A7.out).mono ?_); (case side1 => repeat (first | exact (Kd.C_below HR1.out HB.out) | (with_reducible refine Kd.C_alloc ?_ _) | (with_reducible refine Kd.C_drewN ?_ _) | (with_reducible refine Kd.C_drew ?_))); (case side2 => exact HC1.out); rintro e w' ⟨rfl, ⟨nd, rfl⟩⟩; (try first | exact ⟨rfl, _, World.drewN_drewN _ _ _⟩ | exact ⟨rfl, _, Eq.trans (World.drewN_drewN _ _ _) (congrArg (World.drewN _) (Nat.add_assoc _ _ _))⟩))))
  (try simp only [Act.put, List.setIfInBounds_toArray, List.set_cons_zero, List.set_cons_succ])
  go_cut [33] (fun v33 wc => ∃ (kq : Nat) (x33_7 : Bool), v33 = .bool x33_7 ∧ Aside0 (curtilagelaw14_LookupFinds.j0 kq l0 l1 a2 a3 t336 x33_7 = some r) ∧ Aside0 (kq ≤ k) ∧ Aside0 (Below w.heap.size w wc))
  case first =>
    have H := HC8.out
    clear HC8
    by_cases c11 : t337 = true
    · subst c11
      have H1 : (curtilagelaw14_LookupFinds.j0 k l0 l1 a2 a3 t336 (!t338)) = some r := by rw [if_pos rfl] at H; exact H
      clear H
      have H := H1
      clear H1
      have H' := Aside0.mk H
      clear H
      go_wp2
      repeat (go_quiet (fail); try go_wp2)
      go_meet
      case rel => exact ⟨_, (!t338), (by first | rfl | (simp; done) | (simp [*]; done)), H', ⟨by first | omega | exact Nat.le_refl _⟩, ⟨by repeat (first | (with_reducible first | exact HB.out | apply below_alloc | apply pw_below_drewN | apply below_drew1) | exact HB.out)⟩⟩
    · replace c11 := Bool.eq_false_iff.mpr c11
      subst c11
      have H1 : (curtilagelaw14_LookupFinds.j0 k l0 l1 a2 a3 t336 true) = some r := by rw [if_neg (show ¬ (false = true) by decide)] at H; exact H
      clear H
      have H := H1
      clear H1
      have H' := Aside0.mk H
      clear H
      go_wp2
      repeat (go_quiet (fail); try go_wp2)
      go_meet
      case rel => exact ⟨_, (true), (by first | rfl | (simp; done) | (simp [*]; done)), H', ⟨by first | omega | exact Nat.le_refl _⟩, ⟨by repeat (first | (with_reducible first | exact HB.out | apply below_alloc | apply pw_below_drewN | apply below_drew1) | exact HB.out)⟩⟩
  case rest =>
    clear HC8
    try clear c1
    try clear p2
    try clear c6
    try clear c11
    obtain ⟨kq, x33_7, rfl, HA, HJ7, HB⟩ := hcut
    cases kq with
    | zero => exact absurd HA.out (by simp [curtilagelaw14_LookupFinds.j0])
    | succ kj7 =>
      have H := HA.out
      clear HA
      simp only [curtilagelaw14_LookupFinds.j0] at H
      by_cases c12 : x33_7 = true
      · subst c12
        have H1 : (some t336) = some r := by rw [if_pos rfl] at H; exact H
        clear H
        have H := H1
        clear H1
        obtain rfl := Option.some.inj H
        go_wp2
        repeat (go_quiet (fail); try go_wp2)
        go_ret
        exact ⟨by first | rfl | (simp [errW_none, errW_some] <;> rfl) | (simp [*, errW_none, errW_some] <;> rfl), by repeat (first | (with_reducible first | exact HB.out | apply below_alloc | apply pw_below_drewN | apply below_drew1) | exact HB.out)⟩
      · replace c12 := Bool.eq_false_iff.mpr c12
        subst c12
        have H1 : ((lookup_In.f kj7 l0 l1 a2 a3).bind fun bt339 => ((curtilageref14_In.f kj7 l0 l1 a2 a3).bind fun bt341 => ((lookup_Known.f kj7 l0 l1 a2).bind fun t343 => ((lookup_All.f kj7 l0 l1).bind fun t344 => (curtilagelaw14_LookupFinds.l0 kj7 l0 l1 a2 t336 bt339.1 bt339.2 bt341.1 bt341.2 t343 t344 false 0))))) = some r := by rw [if_neg (show ¬ (false = true) by decide)] at H; exact H
        clear H
        have H := H1
        clear H1
        replace H := Option.bind_eq_some_iff.mp H
        obtain ⟨⟨t339, t340⟩, A130, H⟩ := H
        replace H : ((curtilageref14_In.f kj7 l0 l1 a2 a3).bind fun bt341 => ((lookup_Known.f kj7 l0 l1 a2).bind fun t343 => ((lookup_All.f kj7 l0 l1).bind fun t344 => (curtilagelaw14_LookupFinds.l0 kj7 l0 l1 a2 t336 t339 t340 bt341.1 bt341.2 t343 t344 false 0)))) = some r := H
        have A13 := Aside0.mk A130
        clear A130
        replace H := Option.bind_eq_some_iff.mp H
        obtain ⟨⟨t341, t342⟩, A140, H⟩ := H
        replace H : ((lookup_Known.f kj7 l0 l1 a2).bind fun t343 => ((lookup_All.f kj7 l0 l1).bind fun t344 => (curtilagelaw14_LookupFinds.l0 kj7 l0 l1 a2 t336 t339 t340 t341 t342 t343 t344 false 0))) = some r := H
        have A14 := Aside0.mk A140
        clear A140
        replace H := Option.bind_eq_some_iff.mp H
        obtain ⟨t343, A150, H⟩ := H
        replace H : ((lookup_All.f kj7 l0 l1).bind fun t344 => (curtilagelaw14_LookupFinds.l0 kj7 l0 l1 a2 t336 t339 t340 t341 t342 t343 t344 false 0)) = some r := H
        have A15 := Aside0.mk A150
        clear A150
        replace H := Option.bind_eq_some_iff.mp H
        obtain ⟨t344, A160, H⟩ := H
        replace H : (curtilagelaw14_LookupFinds.l0 kj7 l0 l1 a2 t336 t339 t340 t341 t342 t343 t344 false 0) = some r := H
        have A16 := Aside0.mk A160
        clear A160
        have H' := Aside0.mk H
        clear H
        go_wp2_with (first | (go_at_call 13; (with_reducible refine (lookup_In.calls kj7 _ _ l0 _ _ l1 a2 a3 t339 t340 _ ?side1 ?side2 ?side3 ?side4 A13.out).mono ?_); (case side1 => repeat (first | exact (Kd.C_below HR0.out HB.out) | (with_reducible refine Kd.C_alloc ?_ _) | (with_reducible refine Kd.C_drewN ?_ _) | (with_reducible refine Kd.C_drew ?_))); (case side2 => exact HC0.out); (case side3 => repeat (first | exact (Kd.C_below HR1.out HB.out) | (with_reducible refine Kd.C_alloc ?_ _) | (with_reducible refine Kd.C_drewN ?_ _) | (with_reducible refine Kd.C_drew ?_))); (case side4 => exact HC1.out); rintro e w17 ⟨rfl, hb⟩; have n0_ := Aside0.mk (below_step (by repeat (first | (with_reducible first | exact HB.out | apply below_alloc | apply pw_below_drewN | apply below_drew1) | exact HB.out)) hb); clear HB; have HB := n0_; clear n0_; (try clear hb); (try clear hb2); (try clear hk); (try clear hi)) | (go_at_call 15; (with_reducible refine (curtilageref14_In.calls kj7 _ _ l0 _ _ l1 a2 a3 t341 t342 _ ?side1 ?side2 ?side3 ?side4 A14.out).mono ?_); (case side1 => repeat (first | exact (Kd.C_below HR0.out HB.out) | (with_reducible refine Kd.C_alloc ?_ _) | (with_reducible refine Kd.C_drewN ?_ _) | (with_reducible refine Kd.C_drew ?_))); (case side2 => exact HC0.out); (case side3 => repeat (first | exact (Kd.C_below HR1.out HB.out) | (with_reducible refine Kd.C_alloc ?_ _) | (with_reducible refine Kd.C_drewN ?_ _) | (with_reducible refine Kd.C_drew ?_))); (case side4 => exact HC1.out); rintro e w18 ⟨rfl, hb⟩; have n0_ := Aside0.mk (below_step (by repeat (first | (with_reducible first | exact HB.out | apply below_alloc | apply pw_below_drewN | apply below_drew1) | exact HB.out)) hb); clear HB; have HB := n0_; clear n0_; (try clear hb); (try clear hb2); (try clear hk); (try clear hi)) | (go_at_call 16; (with_reducible refine (lookup_Known.calls kj7 _ _ l0 _ _ l1 a2 t343 _ ?side1 ?side2 ?side3 ?side4 A15.out).mono ?_); (case side1 => repeat (first | exact (Kd.C_below HR0.out HB.out) | (with_reducible refine Kd.C_alloc ?_ _) | (with_reducible refine Kd.C_drewN ?_ _) | (with_reducible refine Kd.C_drew ?_))); (case side2 => exact HC0.out); (case side3 => repeat (first | exact (Kd.C_below HR1.out HB.out) | (with_reducible refine Kd.C_alloc ?_ _) | (with_reducible refine Kd.C_drewN ?_ _) | (with_reducible refine Kd.C_drew ?_))); (case side4 => exact HC1.out); rintro e w19 ⟨rfl, hb⟩; have n0_ := Aside0.mk (below_step (by repeat (first | (with_reducible first | exact HB.out | apply below_alloc | apply pw_below_drewN | apply below_drew1) | exact HB.out)) hb); clear HB; have HB := n0_; clear n0_; (try clear hb); (try clear hb2); (try clear hk); (try clear hi)) | (go_at_call 17; (with_reducible refine (lookup_All.calls kj7 _ _ l0 _ _ l1 t344 _ ?side1 ?side2 ?side3 ?side4 A16.out).mono ?_); (case side1 => repeat (first | exact (Kd.C_below HR0.out HB.out) | (with_reducible refine Kd.C_alloc ?_ _) | (with_reducible refine Kd.C_drewN ?_ _) | (with_reducible refine Kd.C_drew ?_))); (case side2 => exact HC0.out); (case side3 => repeat (first | exact (Kd.C_below HR1.out HB.out) | (with_reducible refine Kd.C_alloc ?_ _) | (with_reducible refine Kd.C_drewN ?_ _) | (with_reducible refine Kd.C_drew ?_))); (case side4 => exact HC1.out); rintro e w20 ⟨v345, rfl, ho0, hb⟩; have n0_ := Aside0.mk (Kd.R_lower ho0 (below_size (by repeat (first | (with_reducible first | exact HB.out | apply below_alloc | apply pw_below_drewN | apply below_drew1) | exact HB.out)))); have n1_ := Aside0.mk (below_step (by repeat (first | (with_reducible first | exact HB.out | apply below_alloc | apply pw_below_drewN | apply below_drew1) | exact HB.out)) hb); clear HB; have HO346 := n0_; have HB := n1_; clear n0_ n1_; (try clear hb); (try clear hb2); (try clear hk); (try clear hi); (try clear ho0)))
        repeat (go_quiet (first | (go_at_call 13; (with_reducible refine (lookup_In.calls kj7 _ _ l0 _ _ l1 a2 a3 t339 t340 _ ?side1 ?side2 ?side3 ?side4 A13.out).mono ?_); (case side1 => repeat (first | exact (Kd.C_below HR0.out HB.out) | (with_reducible refine Kd.C_alloc ?_ _) | (with_reducible refine Kd.C_drewN ?_ _) | (with_reducible refine Kd.C_drew ?_))); (case side2 => exact HC0.out); (case side3 => repeat (first | exact (Kd.C_below HR1.out HB.out) | (with_reducible refine Kd.C_alloc ?_ _) | (with_reducible refine Kd.C_drewN ?_ _) | (with_reducible refine Kd.C_drew ?_))); (case side4 => exact HC1.out); rintro e w17 ⟨rfl, hb⟩; have n0_ := Aside0.mk (below_step (by repeat (first | (with_reducible first | exact HB.out | apply below_alloc | apply pw_below_drewN | apply below_drew1) | exact HB.out)) hb); clear HB; have HB := n0_; clear n0_; (try clear hb); (try clear hb2); (try clear hk); (try clear hi)) | (go_at_call 15; (with_reducible refine (curtilageref14_In.calls kj7 _ _ l0 _ _ l1 a2 a3 t341 t342 _ ?side1 ?side2 ?side3 ?side4 A14.out).mono ?_); (case side1 => repeat (first | exact (Kd.C_below HR0.out HB.out) | (with_reducible refine Kd.C_alloc ?_ _) | (with_reducible refine Kd.C_drewN ?_ _) | (with_reducible refine Kd.C_drew ?_))); (case side2 => exact HC0.out); (case side3 => repeat (first | exact (Kd.C_below HR1.out HB.out) | (with_reducible refine Kd.C_alloc ?_ _) | (with_reducible refine Kd.C_drewN ?_ _) | (with_reducible refine Kd.C_drew ?_))); (case side4 => exact HC1.out); rintro e w18 ⟨rfl, hb⟩; have n0_ := Aside0.mk (below_step (by repeat (first | (with_reducible first | exact HB.out | apply below_alloc | apply pw_below_drewN | apply below_drew1) | exact HB.out)) hb); clear HB; have HB := n0_; clear n0_; (try clear hb); (try clear hb2); (try clear hk); (try clear hi)) | (go_at_call 16; (with_reducible refine (lookup_Known.calls kj7 _ _ l0 _ _ l1 a2 t343 _ ?side1 ?side2 ?side3 ?side4 A15.out).mono ?_); (case side1 => repeat (first | exact (Kd.C_below HR0.out HB.out) | (with_reducible refine Kd.C_alloc ?_ _) | (with_reducible refine Kd.C_drewN ?_ _) | (with_reducible refine Kd.C_drew ?_))); (case side2 => exact HC0.out); (case side3 => repeat (first | exact (Kd.C_below HR1.out HB.out) | (with_reducible refine Kd.C_alloc ?_ _) | (with_reducible refine Kd.C_drewN ?_ _) | (with_reducible refine Kd.C_drew ?_))); (case side4 => exact HC1.out); rintro e w19 ⟨rfl, hb⟩; have n0_ := Aside0.mk (below_step (by repeat (first | (with_reducible first | exact HB.out | apply below_alloc | apply pw_below_drewN | apply below_drew1) | exact HB.out)) hb); clear HB; have HB := n0_; clear n0_; (try clear hb); (try clear hb2); (try clear hk); (try clear hi)) | (go_at_call 17; (with_reducible refine (lookup_All.calls kj7 _ _ l0 _ _ l1 t344 _ ?side1 ?side2 ?side3 ?side4 A16.out).mono ?_); (case side1 => repeat (first | exact (Kd.C_below HR0.out HB.out) | (with_reducible refine Kd.C_alloc ?_ _) | (with_reducible refine Kd.C_drewN ?_ _) | (with_reducible refine Kd.C_drew ?_))); (case side2 => exact HC0.out); (case side3 => repeat (first | exact (Kd.C_below HR1.out HB.out) | (with_reducible refine Kd.C_alloc ?_ _) | (with_reducible refine Kd.C_drewN ?_ _) | (with_reducible refine Kd.C_drew ?_))); (case side4 => exact HC1.out); rintro e w20 ⟨v345, rfl, ho0, hb⟩; have n0_ := Aside0.mk (Kd.R_lower ho0 (below_size (by repeat (first | (with_reducible first | exact HB.out | apply below_alloc | apply pw_below_drewN | apply below_drew1) | exact HB.out)))); have n1_ := Aside0.mk (below_step (by repeat (first | (with_reducible first | exact HB.out | apply below_alloc | apply pw_below_drewN | apply below_drew1) | exact HB.out)) hb); clear HB; have HO346 := n0_; have HB := n1_; clear n0_ n1_; (try clear hb); (try clear hb2); (try clear hk); (try clear hi); (try clear ho0))); try go_wp2_with (first | (go_at_call 13; (with_reducible refine (lookup_In.calls kj7 _ _ l0 _ _ l1 a2 a3 t339 t340 _ ?side1 ?side2 ?side3 ?side4 A13.out).mono ?_); (case side1 => repeat (first | exact (Kd.C_below HR0.out HB.out) | (with_reducible refine Kd.C_alloc ?_ _) | (with_reducible refine Kd.C_drewN ?_ _) | (with_reducible refine Kd.C_drew ?_))); (case side2 => exact HC0.out); (case side3 => repeat (first | exact (Kd.C_below HR1.out HB.out) | (with_reducible refine Kd.C_alloc ?_ _) | (with_reducible refine Kd.C_drewN ?_ _) | (with_reducible refine Kd.C_drew ?_))); (case side4 => exact HC1.out); rintro e w17 ⟨rfl, hb⟩; have n0_ := Aside0.mk (below_step (by repeat (first | (with_reducible first | exact HB.out | apply below_alloc | apply pw_below_drewN | apply below_drew1) | exact HB.out)) hb); clear HB; have HB := n0_; clear n0_; (try clear hb); (try clear hb2); (try clear hk); (try clear hi)) | (go_at_call 15; (with_reducible refine (curtilageref14_In.calls kj7 _ _ l0 _ _ l1 a2 a3 t341 t342 _ ?side1 ?side2 ?side3 ?side4 A14.out).mono ?_); (case side1 => repeat (first | exact (Kd.C_below HR0.out HB.out) | (with_reducible refine Kd.C_alloc ?_ _) | (with_reducible refine Kd.C_drewN ?_ _) | (with_reducible refine Kd.C_drew ?_))); (case side2 => exact HC0.out); (case side3 => repeat (first | exact (Kd.C_below HR1.out HB.out) | (with_reducible refine Kd.C_alloc ?_ _) | (with_reducible refine Kd.C_drewN ?_ _) | (with_reducible refine Kd.C_drew ?_))); (case side4 => exact HC1.out); rintro e w18 ⟨rfl, hb⟩; have n0_ := Aside0.mk (below_step (by repeat (first | (with_reducible first | exact HB.out | apply below_alloc | apply pw_below_drewN | apply below_drew1) | exact HB.out)) hb); clear HB; have HB := n0_; clear n0_; (try clear hb); (try clear hb2); (try clear hk); (try clear hi)) | (go_at_call 16; (with_reducible refine (lookup_Known.calls kj7 _ _ l0 _ _ l1 a2 t343 _ ?side1 ?side2 ?side3 ?side4 A15.out).mono ?_); (case side1 => repeat (first | exact (Kd.C_below HR0.out HB.out) | (with_reducible refine Kd.C_alloc ?_ _) | (with_reducible refine Kd.C_drewN ?_ _) | (with_reducible refine Kd.C_drew ?_))); (case side2 => exact HC0.out); (case side3 => repeat (first | exact (Kd.C_below HR1.out HB.out) | (with_reducible refine Kd.C_alloc ?_ _) | (with_reducible refine Kd.C_drewN ?_ _) | (with_reducible refine Kd.C_drew ?_))); (case side4 => exact HC1.out); rintro e w19 ⟨rfl, hb⟩; have n0_ := Aside0.mk (below_step (by repeat (first | (with_reducible first | exact HB.out | apply below_alloc | apply pw_below_drewN | apply below_drew1) | exact HB.out)) hb); clear HB; have HB := n0_; clear n0_; (try clear hb); (try clear hb2); (try clear hk); (try clear hi)) | (go_at_call 17; (with_reducible refine (lookup_All.calls kj7 _ _ l0 _ _ l1 t344 _ ?side1 ?side2 ?side3 ?side4 A16.out).mono ?_); (case side1 => repeat (first | exact (Kd.C_below HR0.out HB.out) | (with_reducible refine Kd.C_alloc ?_ _) | (with_reducible refine Kd.C_drewN ?_ _) | (with_reducible refine Kd.C_drew ?_))); (case side2 => exact HC0.out); (case side3 => repeat (first | exact (Kd.C_below HR1.out HB.out) | (with_reducible refine Kd.C_alloc ?_ _) | (with_reducible refine Kd.C_drewN ?_ _) | (with_reducible refine Kd.C_drew ?_))); (case side4 => exact HC1.out); rintro e w20 ⟨v345, rfl, ho0, hb⟩; have n0_ := Aside0.mk (Kd.R_lower ho0 (below_size (by repeat (first | (with_reducible first | exact HB.out | apply below_alloc | apply pw_below_drewN | apply below_drew1) | exact HB.out)))); have n1_ := Aside0.mk (below_step (by repeat (first | (with_reducible first | exact HB.out | apply below_alloc | apply pw_below_drewN | apply below_drew1) | exact HB.out)) hb); clear HB; have HO346 := n0_; have HB := n1_; clear n0_ n1_; (try clear hb); (try clear hb2); (try clear hk); (try clear hi); (try clear ho0))))
        go_loopg [18, 19] kj7 (fun kq v18 v19 w' => ∃ (x18_2 : Bool) (x19_2 : Int), v18 = .bool x18_2 ∧ v19 = .int .i64 x19_2 ∧ Aside0 (curtilagelaw14_LookupFinds.l0 kq l0 l1 a2 t336 t339 t340 t341 t342 t343 t344 x18_2 x19_2 = some r) ∧ Aside0 (kq ≤ kj7) ∧ Aside0 (Kd.R Kd.string 9 w' w.heap.size (fun _ => True) v345 t344) ∧ Aside0 (Below w.heap.size w w'))
        case atStart => exact ⟨(false), (0), (by first | rfl | (simp; done) | (simp [*]; done)), (by first | rfl | (simp; done) | (simp [*]; done)), H', ⟨Nat.le_refl _⟩, ⟨by (with_reducible repeat (first | apply Kd.R_alloc | apply Kd.R_drewN | apply Kd.R_drew)); exact HO346.out⟩, ⟨by repeat (first | (with_reducible first | exact HB.out | apply below_alloc | apply pw_below_drewN | apply below_drew1) | exact HB.out)⟩⟩
        case round =>
          clear H'
          try clear c1
          try clear p2
          try clear c6
          try clear c11
          try clear c12
          try clear p2
          obtain ⟨x18_2, x19_2, rfl, rfl, HA, HK2, HO_17, HB⟩ := hrel
          cases gk with
          | zero => exact absurd HA.out (by simp [curtilagelaw14_LookupFinds.l0])
          | succ k2 =>
            have H := HA.out
            clear HA
            simp only [curtilagelaw14_LookupFinds.l0] at H
            by_cases c21 : x19_2 < (t344.length : Int)
            · rw [if_pos c21] at H
              have c21b0 : decide (x19_2 < (t344.length : Int)) = true := decide_eq_true c21
              clear c21
              by_cases c22 : 0 ≤ x19_2
              · rw [if_pos c22] at H
                have c22b0 : decide (0 ≤ x19_2) = true := decide_eq_true c22
                clear c22
                replace H := Option.bind_eq_some_iff.mp H
                obtain ⟨t348, A230, H⟩ := H
                replace H : (if t348 = true then (if x19_2 > 0 then (if 0 ≤ (wrap64 (x19_2 - 1)) then (if (wrap64 (x19_2 - 1)) < (t344.length : Int) then (if ((Op.bytesLess ((rdOf ByteArray.empty t344 (wrap64 (x19_2 - 1))).toList) ((rdOf ByteArray.empty t344 x19_2).toList)) = true) then (if x18_2 = true then (curtilagelaw14_LookupFinds.l0 k2 l0 l1 a2 t336 t339 t340 t341 t342 t343 t344 true (wrap64 (x19_2 + 1))) else (curtilagelaw14_LookupFinds.l0 k2 l0 l1 a2 t336 t339 t340 t341 t342 t343 t344 ((rdOf ByteArray.empty t344 x19_2).toList == a2.toList) (wrap64 (x19_2 + 1)))) else (some false)) else (none)) else (none)) else (if x18_2 = true then (curtilagelaw14_LookupFinds.l0 k2 l0 l1 a2 t336 t339 t340 t341 t342 t343 t344 true (wrap64 (x19_2 + 1))) else (curtilagelaw14_LookupFinds.l0 k2 l0 l1 a2 t336 t339 t340 t341 t342 t343 t344 ((rdOf ByteArray.empty t344 x19_2).toList == a2.toList) (wrap64 (x19_2 + 1))))) else (some false)) = some r := H
                have A23 := Aside0.mk A230
                clear A230
                by_cases c24 : t348 = true
                · subst c24
                  have H1 : (if x19_2 > 0 then (if 0 ≤ (wrap64 (x19_2 - 1)) then (if (wrap64 (x19_2 - 1)) < (t344.length : Int) then (if ((Op.bytesLess ((rdOf ByteArray.empty t344 (wrap64 (x19_2 - 1))).toList) ((rdOf ByteArray.empty t344 x19_2).toList)) = true) then (if x18_2 = true then (curtilagelaw14_LookupFinds.l0 k2 l0 l1 a2 t336 t339 t340 t341 t342 t343 t344 true (wrap64 (x19_2 + 1))) else (curtilagelaw14_LookupFinds.l0 k2 l0 l1 a2 t336 t339 t340 t341 t342 t343 t344 ((rdOf ByteArray.empty t344 x19_2).toList == a2.toList) (wrap64 (x19_2 + 1)))) else (some false)) else (none)) else (none)) else (if x18_2 = true then (curtilagelaw14_LookupFinds.l0 k2 l0 l1 a2 t336 t339 t340 t341 t342 t343 t344 true (wrap64 (x19_2 + 1))) else (curtilagelaw14_LookupFinds.l0 k2 l0 l1 a2 t336 t339 t340 t341 t342 t343 t344 ((rdOf ByteArray.empty t344 x19_2).toList == a2.toList) (wrap64 (x19_2 + 1))))) = some r := by rw [if_pos rfl] at H; exact H
                  clear H
                  have H := H1
                  clear H1
                  by_cases c25 : x19_2 > 0
                  · rw [if_pos c25] at H
                    have c25b0 : decide (0 < x19_2) = true := decide_eq_true c25
                    clear c25
                    obtain ⟨ji26, hji26⟩ : ∃ j_ : Int, (wrap64 (x19_2 - 1)) = j_ := ⟨_, rfl⟩
                    replace H : (if 0 ≤ (ji26) then (if (ji26) < (t344.length : Int) then (if ((Op.bytesLess ((rdOf ByteArray.empty t344 (ji26)).toList) ((rdOf ByteArray.empty t344 x19_2).toList)) = true) then (if x18_2 = true then (curtilagelaw14_LookupFinds.l0 k2 l0 l1 a2 t336 t339 t340 t341 t342 t343 t344 true (wrap64 (x19_2 + 1))) else (curtilagelaw14_LookupFinds.l0 k2 l0 l1 a2 t336 t339 t340 t341 t342 t343 t344 ((rdOf ByteArray.empty t344 x19_2).toList == a2.toList) (wrap64 (x19_2 + 1)))) else (some false)) else (none)) else (none)) = some r := by first | (rw [hji26] at H; exact H) | (simp only [hji26] at H ⊢; exact H)
                    (try rw [hji26] at A23)
                    have hji26w : (IntKind.i64.wrap (x19_2 - 1)) = ji26 := (i64_w _).trans hji26
                    by_cases c27 : 0 ≤ (ji26)
                    · rw [if_pos c27] at H
                      have c27b0 : decide (0 ≤ (ji26)) = true := decide_eq_true c27
                      clear c27
                      by_cases c28 : (ji26) < (t344.length : Int)
                      · rw [if_pos c28] at H
                        have c28b0 : decide ((ji26) < (t344.length : Int)) = true := decide_eq_true c28
                        clear c28
                        by_cases c29 : ((Op.bytesLess ((rdOf ByteArray.empty t344 (ji26)).toList) ((rdOf ByteArray.empty t344 x19_2).toList)) = true)
                        · rw [if_pos c29] at H
                          have c29b0 : (Op.bytesLess ((rdOf ByteArray.empty t344 (ji26)).toList) ((rdOf ByteArray.empty t344 x19_2).toList)) = true := c29
                          clear c29
                          by_cases c30 : x18_2 = true
                          · subst c30
                            have H1 : (curtilagelaw14_LookupFinds.l0 k2 l0 l1 a2 t336 t339 t340 t341 t342 t343 t344 true (wrap64 (x19_2 + 1))) = some r := by rw [if_pos rfl] at H; exact H
                            clear H
                            have H := H1
                            clear H1
                            have H' := Aside0.mk H
                            clear H
                            obtain ⟨Ao31, co31, eo31⟩ := Kd.R_slice HO_17.out
                            subst eo31
                            have p347 : 0 ≤ (x19_2 : Int) := of_decide_eq_true (by first | (with_reducible assumption) | assumption)
                            have q347 : x19_2 < (t344.length : Int) := of_decide_eq_true (by first | (with_reducible assumption) | assumption)
                            obtain ⟨ad347, e347, hx347_0⟩ := Kd.at_string (Kd.R_reads' HO_17.out).2.2 x19_2 p347 q347
                            cases e347
                            replace p347 := eq_true p347
                            replace q347 := eq_true q347
                            go_wp2_with (first | (go_at_call 18; (with_reducible refine (curtilageref14_Known.calls k2 _ _ l0 _ _ l1 (rdOf ByteArray.empty t344 x19_2) true _ ?side1 ?side2 ?side3 ?side4 A23.out).mono ?_); (case side1 => repeat (first | exact (Kd.C_below HR0.out HB.out) | (with_reducible refine Kd.C_alloc ?_ _) | (with_reducible refine Kd.C_drewN ?_ _) | (with_reducible refine Kd.C_drew ?_))); (case side2 => exact HC0.out); (case side3 => repeat (first | exact (Kd.C_below HR1.out HB.out) | (with_reducible refine Kd.C_alloc ?_ _) | (with_reducible refine Kd.C_drewN ?_ _) | (with_reducible refine Kd.C_drew ?_))); (case side4 => exact HC1.out); rintro e w32 ⟨rfl, hb⟩; have n0_ := Aside0.mk (Kd.R_below (by (with_reducible repeat (first | apply Kd.R_alloc | apply Kd.R_drewN | apply Kd.R_drew)); exact HO_17.out) hb); have n1_ := Aside0.mk (below_step (by repeat (first | (with_reducible first | exact HB.out | apply below_alloc | apply pw_below_drewN | apply below_drew1) | exact HB.out)) hb); clear HO_17; clear HB; have HO_17 := n0_; have HB := n1_; clear n0_ n1_; (try clear hb); (try clear hb2); (try clear hk); (try clear hi); have p349 : 0 ≤ ((ji26) : Int) := of_decide_eq_true (by first | (with_reducible assumption) | assumption); have q349 : (ji26) < (t344.length : Int) := of_decide_eq_true (by first | (with_reducible assumption) | assumption); obtain ⟨ad349, e349, hx349_0⟩ := Kd.at_string (Kd.R_reads' HO_17.out).2.2 (ji26) p349 q349; obtain rfl : ad347 = ad349 := (by injection e349); replace p349 := eq_true p349; replace q349 := eq_true q349; have p350 : 0 ≤ (x19_2 : Int) := of_decide_eq_true (by first | (with_reducible assumption) | assumption); have q350 : x19_2 < (t344.length : Int) := of_decide_eq_true (by first | (with_reducible assumption) | assumption); obtain ⟨ad350, e350, hx350_0⟩ := Kd.at_string (Kd.R_reads' HO_17.out).2.2 x19_2 p350 q350; obtain rfl : ad347 = ad350 := (by injection e350); replace p350 := eq_true p350; replace q350 := eq_true q350))
                            repeat (go_quiet (first | (go_at_call 18; (with_reducible refine (curtilageref14_Known.calls k2 _ _ l0 _ _ l1 (rdOf ByteArray.empty t344 x19_2) true _ ?side1 ?side2 ?side3 ?side4 A23.out).mono ?_); (case side1 => repeat (first | exact (Kd.C_below HR0.out HB.out) | (with_reducible refine Kd.C_alloc ?_ _) | (with_reducible refine Kd.C_drewN ?_ _) | (with_reducible refine Kd.C_drew ?_))); (case side2 => exact HC0.out); (case side3 => repeat (first | exact (Kd.C_below HR1.out HB.out) | (with_reducible refine Kd.C_alloc ?_ _) | (with_reducible refine Kd.C_drewN ?_ _) | (with_reducible refine Kd.C_drew ?_))); (case side4 => exact HC1.out); rintro e w32 ⟨rfl, hb⟩; have n0_ := Aside0.mk (Kd.R_below (by (with_reducible repeat (first | apply Kd.R_alloc | apply Kd.R_drewN | apply Kd.R_drew)); exact HO_17.out) hb); have n1_ := Aside0.mk (below_step (by repeat (first | (with_reducible first | exact HB.out | apply below_alloc | apply pw_below_drewN | apply below_drew1) | exact HB.out)) hb); clear HO_17; clear HB; have HO_17 := n0_; have HB := n1_; clear n0_ n1_; (try clear hb); (try clear hb2); (try clear hk); (try clear hi); have p349 : 0 ≤ ((ji26) : Int) := of_decide_eq_true (by first | (with_reducible assumption) | assumption); have q349 : (ji26) < (t344.length : Int) := of_decide_eq_true (by first | (with_reducible assumption) | assumption); obtain ⟨ad349, e349, hx349_0⟩ := Kd.at_string (Kd.R_reads' HO_17.out).2.2 (ji26) p349 q349; obtain rfl : ad347 = ad349 := (by injection e349); replace p349 := eq_true p349; replace q349 := eq_true q349; have p350 : 0 ≤ (x19_2 : Int) := of_decide_eq_true (by first | (with_reducible assumption) | assumption); have q350 : x19_2 < (t344.length : Int) := of_decide_eq_true (by first | (with_reducible assumption) | assumption); obtain ⟨ad350, e350, hx350_0⟩ := Kd.at_string (Kd.R_reads' HO_17.out).2.2 x19_2 p350 q350; obtain rfl : ad347 = ad350 := (by injection e350); replace p350 := eq_true p350; replace q350 := eq_true q350)); try go_wp2_with (first | (go_at_call 18; (with_reducible refine (curtilageref14_Known.calls k2 _ _ l0 _ _ l1 (rdOf ByteArray.empty t344 x19_2) true _ ?side1 ?side2 ?side3 ?side4 A23.out).mono ?_); (case side1 => repeat (first | exact (Kd.C_below HR0.out HB.out) | (with_reducible refine Kd.C_alloc ?_ _) | (with_reducible refine Kd.C_drewN ?_ _) | (with_reducible refine Kd.C_drew ?_))); (case side2 => exact HC0.out); (case side3 => repeat (first | exact (Kd.C_below HR1.out HB.out) | (with_reducible refine Kd.C_alloc ?_ _) | (with_reducible refine Kd.C_drewN ?_ _) | (with_reducible refine Kd.C_drew ?_))); (case side4 => exact HC1.out); rintro e w32 ⟨rfl, hb⟩; have n0_ := Aside0.mk (Kd.R_below (by (with_reducible repeat (first | apply Kd.R_alloc | apply Kd.R_drewN | apply Kd.R_drew)); exact HO_17.out) hb); have n1_ := Aside0.mk (below_step (by repeat (first | (with_reducible first | exact HB.out | apply below_alloc | apply pw_below_drewN | apply below_drew1) | exact HB.out)) hb); clear HO_17; clear HB; have HO_17 := n0_; have HB := n1_; clear n0_ n1_; (try clear hb); (try clear hb2); (try clear hk); (try clear hi); have p349 : 0 ≤ ((ji26) : Int) := of_decide_eq_true (by first | (with_reducible assumption) | assumption); have q349 : (ji26) < (t344.length : Int) := of_decide_eq_true (by first | (with_reducible assumption) | assumption); obtain ⟨ad349, e349, hx349_0⟩ := Kd.at_string (Kd.R_reads' HO_17.out).2.2 (ji26) p349 q349; obtain rfl : ad347 = ad349 := (by injection e349); replace p349 := eq_true p349; replace q349 := eq_true q349; have p350 : 0 ≤ (x19_2 : Int) := of_decide_eq_true (by first | (with_reducible assumption) | assumption); have q350 : x19_2 < (t344.length : Int) := of_decide_eq_true (by first | (with_reducible assumption) | assumption); obtain ⟨ad350, e350, hx350_0⟩ := Kd.at_string (Kd.R_reads' HO_17.out).2.2 x19_2 p350 q350; obtain rfl : ad347 = ad350 := (by injection e350); replace p350 := eq_true p350; replace q350 := eq_true q350)))
                            go_roundg k2
                            case measure => have := HJ7.out; have := HK2.out; omega
                            case rel => exact ⟨(true), (wrap64 (x19_2 + 1)), (by first | rfl | (simp; done) | (simp [*]; done)), (by first | rfl | (simp; done) | (simp [*]; done)), H', ⟨by have := HJ7.out; have := HK2.out; omega⟩, ⟨by (with_reducible repeat (first | apply Kd.R_alloc | apply Kd.R_drewN | apply Kd.R_drew)); exact HO_17.out⟩, ⟨by repeat (first | (with_reducible first | exact HB.out | apply below_alloc | apply pw_below_drewN | apply below_drew1) | exact HB.out)⟩⟩
                          · replace c30 := Bool.eq_false_iff.mpr c30
                            subst c30
                            have H1 : (curtilagelaw14_LookupFinds.l0 k2 l0 l1 a2 t336 t339 t340 t341 t342 t343 t344 ((rdOf ByteArray.empty t344 x19_2).toList == a2.toList) (wrap64 (x19_2 + 1))) = some r := by rw [if_neg (show ¬ (false = true) by decide)] at H; exact H
                            clear H
                            have H := H1
                            clear H1
                            have H' := Aside0.mk H
                            clear H
                            obtain ⟨Ao33, co33, eo33⟩ := Kd.R_slice HO_17.out
                            subst eo33
                            have p347 : 0 ≤ (x19_2 : Int) := of_decide_eq_true (by first | (with_reducible assumption) | assumption)
                            have q347 : x19_2 < (t344.length : Int) := of_decide_eq_true (by first | (with_reducible assumption) | assumption)
                            obtain ⟨ad347, e347, hx347_0⟩ := Kd.at_string (Kd.R_reads' HO_17.out).2.2 x19_2 p347 q347
                            cases e347
                            replace p347 := eq_true p347
                            replace q347 := eq_true q347
                            go_wp2_with (first | (go_at_call 18; (with_reducible refine (curtilageref14_Known.calls k2 _ _ l0 _ _ l1 (rdOf ByteArray.empty t344 x19_2) true _ ?side1 ?side2 ?side3 ?side4 A23.out).mono ?_); (case side1 => repeat (first | exact (Kd.C_below HR0.out HB.out) | (with_reducible refine Kd.C_alloc ?_ _) | (with_reducible refine Kd.C_drewN ?_ _) | (with_reducible refine Kd.C_drew ?_))); (case side2 => exact HC0.out); (case side3 => repeat (first | exact (Kd.C_below HR1.out HB.out) | (with_reducible refine Kd.C_alloc ?_ _) | (with_reducible refine Kd.C_drewN ?_ _) | (with_reducible refine Kd.C_drew ?_))); (case side4 => exact HC1.out); rintro e w34 ⟨rfl, hb⟩; have n0_ := Aside0.mk (Kd.R_below (by (with_reducible repeat (first | apply Kd.R_alloc | apply Kd.R_drewN | apply Kd.R_drew)); exact HO_17.out) hb); have n1_ := Aside0.mk (below_step (by repeat (first | (with_reducible first | exact HB.out | apply below_alloc | apply pw_below_drewN | apply below_drew1) | exact HB.out)) hb); clear HO_17; clear HB; have HO_17 := n0_; have HB := n1_; clear n0_ n1_; (try clear hb); (try clear hb2); (try clear hk); (try clear hi); have p349 : 0 ≤ ((ji26) : Int) := of_decide_eq_true (by first | (with_reducible assumption) | assumption); have q349 : (ji26) < (t344.length : Int) := of_decide_eq_true (by first | (with_reducible assumption) | assumption); obtain ⟨ad349, e349, hx349_0⟩ := Kd.at_string (Kd.R_reads' HO_17.out).2.2 (ji26) p349 q349; obtain rfl : ad347 = ad349 := (by injection e349); replace p349 := eq_true p349; replace q349 := eq_true q349; have p350 : 0 ≤ (x19_2 : Int) := of_decide_eq_true (by first | (with_reducible assumption) | assumption); have q350 : x19_2 < (t344.length : Int) := of_decide_eq_true (by first | (with_reducible assumption) | assumption); obtain ⟨ad350, e350, hx350_0⟩ := Kd.at_string (Kd.R_reads' HO_17.out).2.2 x19_2 p350 q350; obtain rfl : ad347 = ad350 := (by injection e350); replace p350 := eq_true p350; replace q350 := eq_true q350; have p351 : 0 ≤ (x19_2 : Int) := of_decide_eq_true (by first | (with_reducible assumption) | assumption); have q351 : x19_2 < (t344.length : Int) := of_decide_eq_true (by first | (with_reducible assumption) | assumption); obtain ⟨ad351, e351, hx351_0⟩ := Kd.at_string (Kd.R_reads' HO_17.out).2.2 x19_2 p351 q351; obtain rfl : ad347 = ad351 := (by injection e351); replace p351 := eq_true p351; replace q351 := eq_true q351))
                            repeat (go_quiet (first | (go_at_call 18; (with_reducible refine (curtilageref14_Known.calls k2 _ _ l0 _ _ l1 (rdOf ByteArray.empty t344 x19_2) true _ ?side1 ?side2 ?side3 ?side4 A23.out).mono ?_); (case side1 => repeat (first | exact (Kd.C_below HR0.out HB.out) | (with_reducible refine Kd.C_alloc ?_ _) | (with_reducible refine Kd.C_drewN ?_ _) | (with_reducible refine Kd.C_drew ?_))); (case side2 => exact HC0.out); (case side3 => repeat (first | exact (Kd.C_below HR1.out HB.out) | (with_reducible refine Kd.C_alloc ?_ _) | (with_reducible refine Kd.C_drewN ?_ _) | (with_reducible refine Kd.C_drew ?_))); (case side4 => exact HC1.out); rintro e w34 ⟨rfl, hb⟩; have n0_ := Aside0.mk (Kd.R_below (by (with_reducible repeat (first | apply Kd.R_alloc | apply Kd.R_drewN | apply Kd.R_drew)); exact HO_17.out) hb); have n1_ := Aside0.mk (below_step (by repeat (first | (with_reducible first | exact HB.out | apply below_alloc | apply pw_below_drewN | apply below_drew1) | exact HB.out)) hb); clear HO_17; clear HB; have HO_17 := n0_; have HB := n1_; clear n0_ n1_; (try clear hb); (try clear hb2); (try clear hk); (try clear hi); have p349 : 0 ≤ ((ji26) : Int) := of_decide_eq_true (by first | (with_reducible assumption) | assumption); have q349 : (ji26) < (t344.length : Int) := of_decide_eq_true (by first | (with_reducible assumption) | assumption); obtain ⟨ad349, e349, hx349_0⟩ := Kd.at_string (Kd.R_reads' HO_17.out).2.2 (ji26) p349 q349; obtain rfl : ad347 = ad349 := (by injection e349); replace p349 := eq_true p349; replace q349 := eq_true q349; have p350 : 0 ≤ (x19_2 : Int) := of_decide_eq_true (by first | (with_reducible assumption) | assumption); have q350 : x19_2 < (t344.length : Int) := of_decide_eq_true (by first | (with_reducible assumption) | assumption); obtain ⟨ad350, e350, hx350_0⟩ := Kd.at_string (Kd.R_reads' HO_17.out).2.2 x19_2 p350 q350; obtain rfl : ad347 = ad350 := (by injection e350); replace p350 := eq_true p350; replace q350 := eq_true q350; have p351 : 0 ≤ (x19_2 : Int) := of_decide_eq_true (by first | (with_reducible assumption) | assumption); have q351 : x19_2 < (t344.length : Int) := of_decide_eq_true (by first | (with_reducible assumption) | assumption); obtain ⟨ad351, e351, hx351_0⟩ := Kd.at_string (Kd.R_reads' HO_17.out).2.2 x19_2 p351 q351; obtain rfl : ad347 = ad351 := (by injection e351); replace p351 := eq_true p351; replace q351 := eq_true q351)); try go_wp2_with (first | (go_at_call 18; (with_reducible refine (curtilageref14_Known.calls k2 _ _ l0 _ _ l1 (rdOf ByteArray.empty t344 x19_2) true _ ?side1 ?side2 ?side3 ?side4 A23.out).mono ?_); (case side1 => repeat (first | exact (Kd.C_below HR0.out HB.out) | (with_reducible refine Kd.C_alloc ?_ _) | (with_reducible refine Kd.C_drewN ?_ _) | (with_reducible refine Kd.C_drew ?_))); (case side2 => exact HC0.out); (case side3 => repeat (first | exact (Kd.C_below HR1.out HB.out) | (with_reducible refine Kd.C_alloc ?_ _) | (with_reducible refine Kd.C_drewN ?_ _) | (with_reducible refine Kd.C_drew ?_))); (case side4 => exact HC1.out); rintro e w34 ⟨rfl, hb⟩; have n0_ := Aside0.mk (Kd.R_below (by (with_reducible repeat (first | apply Kd.R_alloc | apply Kd.R_drewN | apply Kd.R_drew)); exact HO_17.out) hb); have n1_ := Aside0.mk (below_step (by repeat (first | (with_reducible first | exact HB.out | apply below_alloc | apply pw_below_drewN | apply below_drew1) | exact HB.out)) hb); clear HO_17; clear HB; have HO_17 := n0_; have HB := n1_; clear n0_ n1_; (try clear hb); (try clear hb2); (try clear hk); (try clear hi); have p349 : 0 ≤ ((ji26) : Int) := of_decide_eq_true (by first | (with_reducible assumption) | assumption); have q349 : (ji26) < (t344.length : Int) := of_decide_eq_true (by first | (with_reducible assumption) | assumption); obtain ⟨ad349, e349, hx349_0⟩ := Kd.at_string (Kd.R_reads' HO_17.out).2.2 (ji26) p349 q349; obtain rfl : ad347 = ad349 := (by injection e349); replace p349 := eq_true p349; replace q349 := eq_true q349; have p350 : 0 ≤ (x19_2 : Int) := of_decide_eq_true (by first | (with_reducible assumption) | assumption); have q350 : x19_2 < (t344.length : Int) := of_decide_eq_true (by first | (with_reducible assumption) | assumption); obtain ⟨ad350, e350, hx350_0⟩ := Kd.at_string (Kd.R_reads' HO_17.out).2.2 x19_2 p350 q350; obtain rfl : ad347 = ad350 := (by injection e350); replace p350 := eq_true p350; replace q350 := eq_true q350; have p351 : 0 ≤ (x19_2 : Int) := of_decide_eq_true (by first | (with_reducible assumption) | assumption); have q351 : x19_2 < (t344.length : Int) := of_decide_eq_true (by first | (with_reducible assumption) | assumption); obtain ⟨ad351, e351, hx351_0⟩ := Kd.at_string (Kd.R_reads' HO_17.out).2.2 x19_2 p351 q351; obtain rfl : ad347 = ad351 := (by injection e351); replace p351 := eq_true p351; replace q351 := eq_true q351)))
                            go_roundg k2
                            case measure => have := HJ7.out; have := HK2.out; omega
                            case rel => exact ⟨(((rdOf ByteArray.empty t344 x19_2).toList == a2.toList)), (wrap64 (x19_2 + 1)), (by first | rfl | (simp; done) | (simp [*]; done)), (by first | rfl | (simp; done) | (simp [*]; done)), H', ⟨by have := HJ7.out; have := HK2.out; omega⟩, ⟨by (with_reducible repeat (first | apply Kd.R_alloc | apply Kd.R_drewN | apply Kd.R_drew)); exact HO_17.out⟩, ⟨by repeat (first | (with_reducible first | exact HB.out | apply below_alloc | apply pw_below_drewN | apply below_drew1) | exact HB.out)⟩⟩
                        · rw [if_neg c29] at H
                          have c29b0 : (Op.bytesLess ((rdOf ByteArray.empty t344 (ji26)).toList) ((rdOf ByteArray.empty t344 x19_2).toList)) = false := by simpa using c29
                          clear c29
                          exact absurd ((Option.some.inj H).trans HT.out) (by decide)
                      · rw [if_neg c28] at H
                        exact absurd H (by simp)
                    · rw [if_neg c27] at H
                      exact absurd H (by simp)
                  · rw [if_neg c25] at H
                    have c25b0 : decide (0 < x19_2) = false := decide_eq_false c25
                    clear c25
                    by_cases c37 : x18_2 = true
                    · subst c37
                      have H1 : (curtilagelaw14_LookupFinds.l0 k2 l0 l1 a2 t336 t339 t340 t341 t342 t343 t344 true (wrap64 (x19_2 + 1))) = some r := by rw [if_pos rfl] at H; exact H
                      clear H
                      have H := H1
                      clear H1
                      have H' := Aside0.mk H
                      clear H
                      obtain ⟨Ao38, co38, eo38⟩ := Kd.R_slice HO_17.out
                      subst eo38
                      have p347 : 0 ≤ (x19_2 : Int) := of_decide_eq_true (by first | (with_reducible assumption) | assumption)
                      have q347 : x19_2 < (t344.length : Int) := of_decide_eq_true (by first | (with_reducible assumption) | assumption)
                      obtain ⟨ad347, e347, hx347_0⟩ := Kd.at_string (Kd.R_reads' HO_17.out).2.2 x19_2 p347 q347
                      cases e347
                      replace p347 := eq_true p347
                      replace q347 := eq_true q347
                      go_wp2_with (first | (go_at_call 18; (with_reducible refine (curtilageref14_Known.calls k2 _ _ l0 _ _ l1 (rdOf ByteArray.empty t344 x19_2) true _ ?side1 ?side2 ?side3 ?side4 A23.out).mono ?_); (case side1 => repeat (first | exact (Kd.C_below HR0.out HB.out) | (with_reducible refine Kd.C_alloc ?_ _) | (with_reducible refine Kd.C_drewN ?_ _) | (with_reducible refine Kd.C_drew ?_))); (case side2 => exact HC0.out); (case side3 => repeat (first | exact (Kd.C_below HR1.out HB.out) | (with_reducible refine Kd.C_alloc ?_ _) | (with_reducible refine Kd.C_drewN ?_ _) | (with_reducible refine Kd.C_drew ?_))); (case side4 => exact HC1.out); rintro e w39 ⟨rfl, hb⟩; have n0_ := Aside0.mk (Kd.R_below (by (with_reducible repeat (first | apply Kd.R_alloc | apply Kd.R_drewN | apply Kd.R_drew)); exact HO_17.out) hb); have n1_ := Aside0.mk (below_step (by repeat (first | (with_reducible first | exact HB.out | apply below_alloc | apply pw_below_drewN | apply below_drew1) | exact HB.out)) hb); clear HO_17; clear HB; have HO_17 := n0_; have HB := n1_; clear n0_ n1_; (try clear hb); (try clear hb2); (try clear hk); (try clear hi)))
                      repeat (go_quiet (first | (go_at_call 18; (with_reducible refine (curtilageref14_Known.calls k2 _ _ l0 _ _ l1 (rdOf ByteArray.empty t344 x19_2) true _ ?side1 ?side2 ?side3 ?side4 A23.out).mono ?_); (case side1 => repeat (first | exact (Kd.C_below HR0.out HB.out) | (with_reducible refine Kd.C_alloc ?_ _) | (with_reducible refine Kd.C_drewN ?_ _) | (with_reducible refine Kd.C_drew ?_))); (case side2 => exact HC0.out); (case side3 => repeat (first | exact (Kd.C_below HR1.out HB.out) | (with_reducible refine Kd.C_alloc ?_ _) | (with_reducible refine Kd.C_drewN ?_ _) | (with_reducible refine Kd.C_drew ?_))); (case side4 => exact HC1.out); rintro e w39 ⟨rfl, hb⟩; have n0_ := Aside0.mk (Kd.R_below (by (with_reducible repeat (first | apply Kd.R_alloc | apply Kd.R_drewN | apply Kd.R_drew)); exact HO_17.out) hb); have n1_ := Aside0.mk (below_step (by repeat (first | (with_reducible first | exact HB.out | apply below_alloc | apply pw_below_drewN | apply below_drew1) | exact HB.out)) hb); clear HO_17; clear HB; have HO_17 := n0_; have HB := n1_; clear n0_ n1_; (try clear hb); (try clear hb2); (try clear hk); (try clear hi))); try go_wp2_with (first | (go_at_call 18; (with_reducible refine (curtilageref14_Known.calls k2 _ _ l0 _ _ l1 (rdOf ByteArray.empty t344 x19_2) true _ ?side1 ?side2 ?side3 ?side4 A23.out).mono ?_); (case side1 => repeat (first | exact (Kd.C_below HR0.out HB.out) | (with_reducible refine Kd.C_alloc ?_ _) | (with_reducible refine Kd.C_drewN ?_ _) | (with_reducible refine Kd.C_drew ?_))); (case side2 => exact HC0.out); (case side3 => repeat (first | exact (Kd.C_below HR1.out HB.out) | (with_reducible refine Kd.C_alloc ?_ _) | (with_reducible refine Kd.C_drewN ?_ _) | (with_reducible refine Kd.C_drew ?_))); (case side4 => exact HC1.out); rintro e w39 ⟨rfl, hb⟩; have n0_ := Aside0.mk (Kd.R_below (by (with_reducible repeat (first | apply Kd.R_alloc | apply Kd.R_drewN | apply Kd.R_drew)); exact HO_17.out) hb); have n1_ := Aside0.mk (below_step (by repeat (first | (with_reducible first | exact HB.out | apply below_alloc | apply pw_below_drewN | apply below_drew1) | exact HB.out)) hb); clear HO_17; clear HB; have HO_17 := n0_; have HB := n1_; clear n0_ n1_; (try clear hb); (try clear hb2); (try clear hk); (try clear hi))))
                      go_roundg k2
                      case measure => have := HJ7.out; have := HK2.out; omega
                      case rel => exact ⟨(true), (wrap64 (x19_2 + 1)), (by first | rfl | (simp; done) | (simp [*]; done)), (by first | rfl | (simp; done) | (simp [*]; done)), H', ⟨by have := HJ7.out; have := HK2.out; omega⟩, ⟨by (with_reducible repeat (first | apply Kd.R_alloc | apply Kd.R_drewN | apply Kd.R_drew)); exact HO_17.out⟩, ⟨by repeat (first | (with_reducible first | exact HB.out | apply below_alloc | apply pw_below_drewN | apply below_drew1) | exact HB.out)⟩⟩
                    · replace c37 := Bool.eq_false_iff.mpr c37
                      subst c37
                      have H1 : (curtilagelaw14_LookupFinds.l0 k2 l0 l1 a2 t336 t339 t340 t341 t342 t343 t344 ((rdOf ByteArray.empty t344 x19_2).toList == a2.toList) (wrap64 (x19_2 + 1))) = some r := by rw [if_neg (show ¬ (false = true) by decide)] at H; exact H
                      clear H
                      have H := H1
                      clear H1
                      have H' := Aside0.mk H
                      clear H
                      obtain ⟨Ao40, co40, eo40⟩ := Kd.R_slice HO_17.out
                      subst eo40
                      have p347 : 0 ≤ (x19_2 : Int) := of_decide_eq_true (by first | (with_reducible assumption) | assumption)
                      have q347 : x19_2 < (t344.length : Int) := of_decide_eq_true (by first | (with_reducible assumption) | assumption)
                      obtain ⟨ad347, e347, hx347_0⟩ := Kd.at_string (Kd.R_reads' HO_17.out).2.2 x19_2 p347 q347
                      cases e347
                      replace p347 := eq_true p347
                      replace q347 := eq_true q347
                      go_wp2_with (first | (go_at_call 18; (with_reducible refine (curtilageref14_Known.calls k2 _ _ l0 _ _ l1 (rdOf ByteArray.empty t344 x19_2) true _ ?side1 ?side2 ?side3 ?side4 A23.out).mono ?_); (case side1 => repeat (first | exact (Kd.C_below HR0.out HB.out) | (with_reducible refine Kd.C_alloc ?_ _) | (with_reducible refine Kd.C_drewN ?_ _) | (with_reducible refine Kd.C_drew ?_))); (case side2 => exact HC0.out); (case side3 => repeat (first | exact (Kd.C_below HR1.out HB.out) | (with_reducible refine Kd.C_alloc ?_ _) | (with_reducible refine Kd.C_drewN ?_ _) | (with_reducible refine Kd.C_drew ?_))); (case side4 => exact HC1.out); rintro e w41 ⟨rfl, hb⟩; have n0_ := Aside0.mk (Kd.R_below (by (with_reducible repeat (first | apply Kd.R_alloc | apply Kd.R_drewN | apply Kd.R_drew)); exact HO_17.out) hb); have n1_ := Aside0.mk (below_step (by repeat (first | (with_reducible first | exact HB.out | apply below_alloc | apply pw_below_drewN | apply below_drew1) | exact HB.out)) hb); clear HO_17; clear HB; have HO_17 := n0_; have HB := n1_; clear n0_ n1_; (try clear hb); (try clear hb2); (try clear hk); (try clear hi); have p352 : 0 ≤ (x19_2 : Int) := of_decide_eq_true (by first | (with_reducible assumption) | assumption); have q352 : x19_2 < (t344.length : Int) := of_decide_eq_true (by first | (with_reducible assumption) | assumption); obtain ⟨ad352, e352, hx352_0⟩ := Kd.at_string (Kd.R_reads' HO_17.out).2.2 x19_2 p352 q352; obtain rfl : ad347 = ad352 := (by injection e352); replace p352 := eq_true p352; replace q352 := eq_true q352))
                      repeat (go_quiet (first | (go_at_call 18; (with_reducible refine (curtilageref14_Known.calls k2 _ _ l0 _ _ l1 (rdOf ByteArray.empty t344 x19_2) true _ ?side1 ?side2 ?side3 ?side4 A23.out).mono ?_); (case side1 => repeat (first | exact (Kd.C_below HR0.out HB.out) | (with_reducible refine Kd.C_alloc ?_ _) | (with_reducible refine Kd.C_drewN ?_ _) | (with_reducible refine Kd.C_drew ?_))); (case side2 => exact HC0.out); (case side3 => repeat (first | exact (Kd.C_below HR1.out HB.out) | (with_reducible refine Kd.C_alloc ?_ _) | (with_reducible refine Kd.C_drewN ?_ _) | (with_reducible refine Kd.C_drew ?_))); (case side4 => exact HC1.out); rintro e w41 ⟨rfl, hb⟩; have n0_ := Aside0.mk (Kd.R_below (by (with_reducible repeat (first | apply Kd.R_alloc | apply Kd.R_drewN | apply Kd.R_drew)); exact HO_17.out) hb); have n1_ := Aside0.mk (below_step (by repeat (first | (with_reducible first | exact HB.out | apply below_alloc | apply pw_below_drewN | apply below_drew1) | exact HB.out)) hb); clear HO_17; clear HB; have HO_17 := n0_; have HB := n1_; clear n0_ n1_; (try clear hb); (try clear hb2); (try clear hk); (try clear hi); have p352 : 0 ≤ (x19_2 : Int) := of_decide_eq_true (by first | (with_reducible assumption) | assumption); have q352 : x19_2 < (t344.length : Int) := of_decide_eq_true (by first | (with_reducible assumption) | assumption); obtain ⟨ad352, e352, hx352_0⟩ := Kd.at_string (Kd.R_reads' HO_17.out).2.2 x19_2 p352 q352; obtain rfl : ad347 = ad352 := (by injection e352); replace p352 := eq_true p352; replace q352 := eq_true q352)); try go_wp2_with (first | (go_at_call 18; (with_reducible refine (curtilageref14_Known.calls k2 _ _ l0 _ _ l1 (rdOf ByteArray.empty t344 x19_2) true _ ?side1 ?side2 ?side3 ?side4 A23.out).mono ?_); (case side1 => repeat (first | exact (Kd.C_below HR0.out HB.out) | (with_reducible refine Kd.C_alloc ?_ _) | (with_reducible refine Kd.C_drewN ?_ _) | (with_reducible refine Kd.C_drew ?_))); (case side2 => exact HC0.out); (case side3 => repeat (first | exact (Kd.C_below HR1.out HB.out) | (with_reducible refine Kd.C_alloc ?_ _) | (with_reducible refine Kd.C_drewN ?_ _) | (with_reducible refine Kd.C_drew ?_))); (case side4 => exact HC1.out); rintro e w41 ⟨rfl, hb⟩; have n0_ := Aside0.mk (Kd.R_below (by (with_reducible repeat (first | apply Kd.R_alloc | apply Kd.R_drewN | apply Kd.R_drew)); exact HO_17.out) hb); have n1_ := Aside0.mk (below_step (by repeat (first | (with_reducible first | exact HB.out | apply below_alloc | apply pw_below_drewN | apply below_drew1) | exact HB.out)) hb); clear HO_17; clear HB; have HO_17 := n0_; have HB := n1_; clear n0_ n1_; (try clear hb); (try clear hb2); (try clear hk); (try clear hi); have p352 : 0 ≤ (x19_2 : Int) := of_decide_eq_true (by first | (with_reducible assumption) | assumption); have q352 : x19_2 < (t344.length : Int) := of_decide_eq_true (by first | (with_reducible assumption) | assumption); obtain ⟨ad352, e352, hx352_0⟩ := Kd.at_string (Kd.R_reads' HO_17.out).2.2 x19_2 p352 q352; obtain rfl : ad347 = ad352 := (by injection e352); replace p352 := eq_true p352; replace q352 := eq_true q352)))
                      go_roundg k2
                      case measure => have := HJ7.out; have := HK2.out; omega
                      case rel => exact ⟨(((rdOf ByteArray.empty t344 x19_2).toList == a2.toList)), (wrap64 (x19_2 + 1)), (by first | rfl | (simp; done) | (simp [*]; done)), (by first | rfl | (simp; done) | (simp [*]; done)), H', ⟨by have := HJ7.out; have := HK2.out; omega⟩, ⟨by (with_reducible repeat (first | apply Kd.R_alloc | apply Kd.R_drewN | apply Kd.R_drew)); exact HO_17.out⟩, ⟨by repeat (first | (with_reducible first | exact HB.out | apply below_alloc | apply pw_below_drewN | apply below_drew1) | exact HB.out)⟩⟩
                · replace c24 := Bool.eq_false_iff.mpr c24
                  subst c24
                  have H1 : (some false) = some r := by rw [if_neg (show ¬ (false = true) by decide)] at H; exact H
                  clear H
                  have H := H1
                  clear H1
                  exact absurd ((Option.some.inj H).trans HT.out) (by decide)
              · rw [if_neg c22] at H
                exact absurd H (by simp)
            · rw [if_neg c21] at H
              have c21b0 : decide (x19_2 < (t344.length : Int)) = false := decide_eq_false c21
              clear c21
              by_cases c44 : t336 = true
              · subst c44
                have H1 : (if t339 = t341 then (if t340 = t342 then ((curtilageref14_Known.f k2 l0 l1 a2).bind fun t353 => (if (t343 == t353) = true then (some (x18_2 == t343)) else (some false))) else (some false)) else (some false)) = some r := by rw [if_pos rfl] at H; exact H
                clear H
                have H := H1
                clear H1
                by_cases c45 : t339 = t341
                · rw [if_pos c45] at H
                  have c45b0 : (t339 == t341) = true := beq_iff_eq.mpr c45
                  have c45b1 : (t339 != t341) = false := bne_eq_false_iff_eq.mpr c45
                  clear c45
                  by_cases c46 : t340 = t342
                  · rw [if_pos c46] at H
                    have c46b0 : (t340 == t342) = true := beq_iff_eq.mpr c46
                    have c46b1 : (t340 != t342) = false := bne_eq_false_iff_eq.mpr c46
                    clear c46
                    replace H := Option.bind_eq_some_iff.mp H
                    obtain ⟨t353, A470, H⟩ := H
                    replace H : (if (t343 == t353) = true then (some (x18_2 == t343)) else (some false)) = some r := H
                    have A47 := Aside0.mk A470
                    clear A470
                    by_cases c48 : (t343 == t353) = true
                    · rw [if_pos c48] at H
                      have c48b0 : (t343 == t353) = true := c48
                      (try (have c48b1 : decide (t343 = t353) = true := by simpa using c48))
                      (try (have c48b2 : (t343 == t353) = true := by simpa using c48))
                      clear c48
                      obtain rfl := Option.some.inj H
                      obtain ⟨Ao49, co49, eo49⟩ := Kd.R_slice HO_17.out
                      subst eo49
                      go_wp2_with (first | (go_at_call 18; (with_reducible refine (curtilageref14_Known.calls k2 _ _ l0 _ _ l1 a2 t353 _ ?side1 ?side2 ?side3 ?side4 A47.out).mono ?_); (case side1 => repeat (first | exact (Kd.C_below HR0.out HB.out) | (with_reducible refine Kd.C_alloc ?_ _) | (with_reducible refine Kd.C_drewN ?_ _) | (with_reducible refine Kd.C_drew ?_))); (case side2 => exact HC0.out); (case side3 => repeat (first | exact (Kd.C_below HR1.out HB.out) | (with_reducible refine Kd.C_alloc ?_ _) | (with_reducible refine Kd.C_drewN ?_ _) | (with_reducible refine Kd.C_drew ?_))); (case side4 => exact HC1.out); rintro e w50 ⟨rfl, hb⟩; have n0_ := Aside0.mk (Kd.R_below (by (with_reducible repeat (first | apply Kd.R_alloc | apply Kd.R_drewN | apply Kd.R_drew)); exact HO_17.out) hb); have n1_ := Aside0.mk (below_step (by repeat (first | (with_reducible first | exact HB.out | apply below_alloc | apply pw_below_drewN | apply below_drew1) | exact HB.out)) hb); clear HO_17; clear HB; have HO_17 := n0_; have HB := n1_; clear n0_ n1_; (try clear hb); (try clear hb2); (try clear hk); (try clear hi)))
                      repeat (go_quiet (first | (go_at_call 18; (with_reducible refine (curtilageref14_Known.calls k2 _ _ l0 _ _ l1 a2 t353 _ ?side1 ?side2 ?side3 ?side4 A47.out).mono ?_); (case side1 => repeat (first | exact (Kd.C_below HR0.out HB.out) | (with_reducible refine Kd.C_alloc ?_ _) | (with_reducible refine Kd.C_drewN ?_ _) | (with_reducible refine Kd.C_drew ?_))); (case side2 => exact HC0.out); (case side3 => repeat (first | exact (Kd.C_below HR1.out HB.out) | (with_reducible refine Kd.C_alloc ?_ _) | (with_reducible refine Kd.C_drewN ?_ _) | (with_reducible refine Kd.C_drew ?_))); (case side4 => exact HC1.out); rintro e w50 ⟨rfl, hb⟩; have n0_ := Aside0.mk (Kd.R_below (by (with_reducible repeat (first | apply Kd.R_alloc | apply Kd.R_drewN | apply Kd.R_drew)); exact HO_17.out) hb); have n1_ := Aside0.mk (below_step (by repeat (first | (with_reducible first | exact HB.out | apply below_alloc | apply pw_below_drewN | apply below_drew1) | exact HB.out)) hb); clear HO_17; clear HB; have HO_17 := n0_; have HB := n1_; clear n0_ n1_; (try clear hb); (try clear hb2); (try clear hk); (try clear hi))); try go_wp2_with (first | (go_at_call 18; (with_reducible refine (curtilageref14_Known.calls k2 _ _ l0 _ _ l1 a2 t353 _ ?side1 ?side2 ?side3 ?side4 A47.out).mono ?_); (case side1 => repeat (first | exact (Kd.C_below HR0.out HB.out) | (with_reducible refine Kd.C_alloc ?_ _) | (with_reducible refine Kd.C_drewN ?_ _) | (with_reducible refine Kd.C_drew ?_))); (case side2 => exact HC0.out); (case side3 => repeat (first | exact (Kd.C_below HR1.out HB.out) | (with_reducible refine Kd.C_alloc ?_ _) | (with_reducible refine Kd.C_drewN ?_ _) | (with_reducible refine Kd.C_drew ?_))); (case side4 => exact HC1.out); rintro e w50 ⟨rfl, hb⟩; have n0_ := Aside0.mk (Kd.R_below (by (with_reducible repeat (first | apply Kd.R_alloc | apply Kd.R_drewN | apply Kd.R_drew)); exact HO_17.out) hb); have n1_ := Aside0.mk (below_step (by repeat (first | (with_reducible first | exact HB.out | apply below_alloc | apply pw_below_drewN | apply below_drew1) | exact HB.out)) hb); clear HO_17; clear HB; have HO_17 := n0_; have HB := n1_; clear n0_ n1_; (try clear hb); (try clear hb2); (try clear hk); (try clear hi))))
                      go_ret
                      exact ⟨by first | rfl | (simp [errW_none, errW_some] <;> rfl) | (simp [*, errW_none, errW_some] <;> rfl), by repeat (first | (with_reducible first | exact HB.out | apply below_alloc | apply pw_below_drewN | apply below_drew1) | exact HB.out)⟩
                    · rw [if_neg c48] at H
                      have c48b0 : (t343 == t353) = false := by simpa using c48
                      (try (have c48b1 : decide (t343 = t353) = false := by simpa using c48))
                      (try (have c48b2 : (t343 == t353) = false := by simpa using c48))
                      (try (have c48b3 : ¬ (t343 = t353) := by simpa using c48))
                      clear c48
                      exact absurd ((Option.some.inj H).trans HT.out) (by decide)
                  · rw [if_neg c46] at H
                    have c46b0 : (t340 == t342) = false := beq_eq_false_iff_ne.mpr c46
                    have c46b1 : (t340 != t342) = true := bne_iff_ne.mpr c46
                    exact absurd ((Option.some.inj H).trans HT.out) (by decide)
                · rw [if_neg c45] at H
                  have c45b0 : (t339 == t341) = false := beq_eq_false_iff_ne.mpr c45
                  have c45b1 : (t339 != t341) = true := bne_iff_ne.mpr c45
                  exact absurd ((Option.some.inj H).trans HT.out) (by decide)
              · replace c44 := Bool.eq_false_iff.mpr c44
                subst c44
                have H1 : (some false) = some r := by rw [if_neg (show ¬ (false = true) by decide)] at H; exact H
                clear H
                have H := H1
                clear H1
                exact absurd ((Option.some.inj H).trans HT.out) (by decide)

end Go.Proofs.Ytdgmkmjmddjcfaa.P
