/- What functions of the program, and of its laws, give, each proved of its code by a walk; no condition. -/
import Derived.Test.YtlbfeklpncoccaaKTableLessPx0
import Derived.Test.YtlbfeklpncoccaaKTableLessSq
import Derived.Test.YtlbfeklpncoccaaKTableLessUsh
import Derived.Test.YtlbfeklpncoccaaKTableLessUs4
namespace Go.Proofs.Ytlbfeklpncoccaa.P
open Go.RowKit Go.Proofs.YtlbfeklpncoccaaW.PrintWords Go.Proofs.YtlbfeklpncoccaaW.PrintLast Go.Proofs.YtlbfeklpncoccaaW.PrintMore
attribute [local go_sem] max2_int min2_int max_two min_two max_three min_three max_four min_four   -- for this text's walks alone
set_option linter.unusedVariables false
set_option linter.unusedSimpArgs false

mutual
def curtilageref10_lists.l0 : Nat → List Int → Int → ByteArray → List ByteArray → List (S67) → List (S35) → List (S72) → List Int → List Int → Option (Bool)
  | 0, _, _, _, _, _, _, _, _, _ => none
  | k + 1, x1, x5, x430000, x430001, x430002, x430003, x430004, x430005, x430006 => if x5 < (x1.length : Int) then (if 0 ≤ x5 then (if (rd x1 x5) < 0 then (curtilageref10_lists.j1 k x1 x5 true x430000 x430001 x430002 x430003 x430004 x430005 x430006) else (curtilageref10_lists.j1 k x1 x5 (decide ((rd x1 x5) ≥ (x430003.length : Int))) x430000 x430001 x430002 x430003 x430004 x430005 x430006)) else (none)) else (some true)
def curtilageref10_lists.j1 : Nat → List Int → Int → Bool → ByteArray → List ByteArray → List (S67) → List (S35) → List (S72) → List Int → List Int → Option (Bool)
  | 0, _, _, _, _, _, _, _, _, _, _ => none
  | k + 1, x1, x5, x27, x430000, x430001, x430002, x430003, x430004, x430005, x430006 => if x27 = true then (some false) else (if 0 ≤ x5 then (if x5 < (x1.length : Int) then (if 0 ≤ (rd x1 x5) then (if (rd x1 x5) < (x430003.length : Int) then (if ((rd_T35 x430003 (rd x1 x5)).f7 = true) then (if ((rd_T35 x430003 (rd x1 x5)).f4) = 1 then (curtilageref10_lists.l0 k x1 (wrap64 (x5 + 1)) x430000 x430001 x430002 x430003 x430004 x430005 x430006) else (some false)) else (some false)) else (none)) else (none)) else (none)) else (none))
end
def curtilageref10_lists.f (k : Nat) (a0_0 : ByteArray) (l0_1 : List ByteArray) (l0_2 : List (S67)) (l0_3 : List (S35)) (l0_4 : List (S72)) (l0_5 : List Int) (l0_6 : List Int) (l1 : List Int) : Option (Bool) := curtilageref10_lists.l0 k l1 0 a0_0 l0_1 l0_2 l0_3 l0_4 l0_5 l0_6
theorem curtilageref10_lists.mono_l : ∀ k, (∀ y0 y1 y2 y3 y4 y5 y6 y7 y8, LeO (curtilageref10_lists.l0 k y0 y1 y2 y3 y4 y5 y6 y7 y8) (curtilageref10_lists.l0 (k + 1) y0 y1 y2 y3 y4 y5 y6 y7 y8)) ∧ (∀ y0 y1 y2 y3 y4 y5 y6 y7 y8 y9, LeO (curtilageref10_lists.j1 k y0 y1 y2 y3 y4 y5 y6 y7 y8 y9) (curtilageref10_lists.j1 (k + 1) y0 y1 y2 y3 y4 y5 y6 y7 y8 y9))
  | 0 => ⟨fun _ _ _ _ _ _ _ _ _ r h => by simp [curtilageref10_lists.l0] at h, fun _ _ _ _ _ _ _ _ _ _ r h => by simp [curtilageref10_lists.j1] at h⟩
  | k + 1 => by
    obtain ⟨ih0, ih1⟩ := curtilageref10_lists.mono_l k
    refine ⟨?_, ?_⟩
    · intro y0 y1 y2 y3 y4 y5 y6 y7 y8
      unfold curtilageref10_lists.l0
      repeat' first
      | (with_reducible exact ih0 _ _ _ _ _ _ _ _ _)
      | (with_reducible exact ih1 _ _ _ _ _ _ _ _ _ _)
      | (with_reducible exact LeO.refl _)
      | (with_reducible exact LeO.none _)
      | (with_reducible refine LeO.ite ?_ ?_)
      | (with_reducible refine LeO.bind ?_ (fun _ => ?_))
      | exact ih0 _ _ _ _ _ _ _ _ _
      | exact ih1 _ _ _ _ _ _ _ _ _ _
      | exact LeO.none _
      | refine LeO.ite ?_ ?_
      | refine LeO.bind ?_ (fun _ => ?_)
    · intro y0 y1 y2 y3 y4 y5 y6 y7 y8 y9
      unfold curtilageref10_lists.j1
      repeat' first
      | (with_reducible exact ih0 _ _ _ _ _ _ _ _ _)
      | (with_reducible exact ih1 _ _ _ _ _ _ _ _ _ _)
      | (with_reducible exact LeO.refl _)
      | (with_reducible exact LeO.none _)
      | (with_reducible refine LeO.ite ?_ ?_)
      | (with_reducible refine LeO.bind ?_ (fun _ => ?_))
      | exact ih0 _ _ _ _ _ _ _ _ _
      | exact ih1 _ _ _ _ _ _ _ _ _ _
      | exact LeO.none _
      | refine LeO.ite ?_ ?_
      | refine LeO.bind ?_ (fun _ => ?_)
theorem curtilageref10_lists.mono : ∀ a0 a1 a2 a3 a4 a5 a6 a7 k, LeO (curtilageref10_lists.f k a0 a1 a2 a3 a4 a5 a6 a7) (curtilageref10_lists.f (k + 1) a0 a1 a2 a3 a4 a5 a6 a7) := by
  intro a0 a1 a2 a3 a4 a5 a6 a7 k
  obtain ⟨ih0, ih1⟩ := curtilageref10_lists.mono_l k
  unfold curtilageref10_lists.f
  repeat' first
      | (with_reducible exact ih0 _ _ _ _ _ _ _ _ _)
      | (with_reducible exact ih1 _ _ _ _ _ _ _ _ _ _)
      | (with_reducible exact LeO.refl _)
      | (with_reducible exact LeO.none _)
      | (with_reducible refine LeO.ite ?_ ?_)
      | (with_reducible refine LeO.bind ?_ (fun _ => ?_))
      | exact ih0 _ _ _ _ _ _ _ _ _
      | exact ih1 _ _ _ _ _ _ _ _ _ _
      | exact LeO.none _
      | refine LeO.ite ?_ ?_
      | refine LeO.bind ?_ (fun _ => ?_)
def curtilageref10_lists.T4 : Bool × List (List Nat × List Nat) := (true, [([], []), ([], []), ([0, 1], [0, 1]), ([2], [2]), ([3], [3]), ([4], [4]), ([5], [5]), ([5], [5]), ([6, 7, 5], [5, 6, 7]), ([8, 5], [5, 8]), ([5], [5]), ([10, 5], [5, 10]), ([11, 5], [5, 11]), ([9, 12, 5], [5, 9, 12]), ([5, 13], [5, 13])])
def curtilageref10_lists.B4 : List Nat := [0, 0, 3, 7, 15, 31, 63, 63, 255, 511, 63, 1087, 3135, 8191, 16383]
theorem curtilageref10_lists.tab4 : rtab .any (opsOf Try.f44 4) = curtilageref10_lists.T4 := by kernel_rfl
theorem curtilageref10_lists.bits4 : waitsOk curtilageref10_lists.T4.2 curtilageref10_lists.B4 = true := by kernel_rfl
def curtilageref10_lists.T6 : Bool × List (List Nat × List Nat) := (true, [([], []), ([0], [0]), ([], []), ([], []), ([2, 3], [2, 3]), ([4], [4]), ([1, 5], [1, 5]), ([6], [6]), ([], []), ([8, 7, 0, 1, 2, 3, 4, 5, 6, 7, 8], [7, 8])])
def curtilageref10_lists.B6 : List Nat := [0, 1, 0, 0, 12, 28, 63, 127, 0, 511]
theorem curtilageref10_lists.tab6 : rtab .any (opsOf Try.f44 6) = curtilageref10_lists.T6 := by kernel_rfl
theorem curtilageref10_lists.bits6 : waitsOk curtilageref10_lists.T6.2 curtilageref10_lists.B6 = true := by kernel_rfl
set_option maxHeartbeats 8000000 in
set_option maxRecDepth 100000 in
theorem curtilageref10_lists.calls (k : Nat) (a0_0 : ByteArray) (A0_1 : Option Addr) (c0_1 : Nat) (l0_1 : List ByteArray) (A0_2 : Option Addr) (c0_2 : Nat) (l0_2 : List (S67)) (A0_3 : Option Addr) (c0_3 : Nat) (l0_3 : List (S35)) (A0_4 : Option Addr) (c0_4 : Nat) (l0_4 : List (S72)) (A0_5 : Option Addr) (c0_5 : Nat) (l0_5 : List Int) (A0_6 : Option Addr) (c0_6 : Nat) (l0_6 : List Int) (A1 : Option Addr) (c1 : Nat) (l1 : List Int) (r : Bool) (w : World) (hr0_1 : Kd.C Kd.string w A0_1 l0_1.length l0_1) (hc0_1 : l0_1.length ≤ c0_1) (hr0_2 : Kd.C k67 w A0_2 l0_2.length l0_2) (hc0_2 : l0_2.length ≤ c0_2) (hr0_3 : Kd.C k35 w A0_3 l0_3.length l0_3) (hc0_3 : l0_3.length ≤ c0_3) (hr0_4 : Kd.C k72 w A0_4 l0_4.length l0_4) (hc0_4 : l0_4.length ≤ c0_4) (hr0_5 : Kd.C (Kd.int .i64) w A0_5 l0_5.length l0_5) (hc0_5 : l0_5.length ≤ c0_5) (hr0_6 : Kd.C (Kd.int .i64) w A0_6 l0_6.length l0_6) (hc0_6 : l0_6.length ≤ c0_6) (hr1 : Kd.C (Kd.int .i64) w A1 l1.length l1) (hc1 : l1.length ≤ c1) (h : curtilageref10_lists.f k a0_0 l0_1 l0_2 l0_3 l0_4 l0_5 l0_6 l1 = some r) :
  Calls Try.prog 44 #[.agg #[.string a0_0, .slice A0_1 l0_1.length c0_1, .slice A0_2 l0_2.length c0_2, .slice A0_3 l0_3.length c0_3, .slice A0_4 l0_4.length c0_4, .slice A0_5 l0_5.length c0_5, .slice A0_6 l0_6.length c0_6], .slice A1 l1.length c1] w fun e w' => e = .returned (.bool r) ∧ Below w.heap.size w w' := by
 have hu28 := Try.underlying28
 have hu35 := Try.underlying35
 have HR0_1 := am hr0_1
 have HC0_1 := am hc0_1
 clear hr0_1 hc0_1
 have HR0_2 := am hr0_2
 have HC0_2 := am hc0_2
 clear hr0_2 hc0_2
 have HR0_3 := am hr0_3
 have HC0_3 := am hc0_3
 clear hr0_3 hc0_3
 have HR0_4 := am hr0_4
 have HC0_4 := am hc0_4
 clear hr0_4 hc0_4
 have HR0_5 := am hr0_5
 have HC0_5 := am hc0_5
 clear hr0_5 hc0_5
 have HR0_6 := am hr0_6
 have HC0_6 := am hc0_6
 clear hr0_6 hc0_6
 have HR1 := am hr1
 have HC1 := am hc1
 clear hr1 hc1
 have HB := am (Below.refl w.heap.size w)
 have H : (curtilageref10_lists.l0 k l1 0 a0_0 l0_1 l0_2 l0_3 l0_4 l0_5 l0_6) = some r := h
 clear h
 have H' := am H
 clear H
 go_enter Try.func44, Try.ntmps44
 go_wp2_with (first | ((with_reducible refine gate_dst (N := 2) rfl ?_); (try (refine gate_guard (by rfl) ?_; dsimp only)); refine box_event ?hg (N := 2) ?hd (cs := #[.string a0_0, .slice A0_1 l0_1.length c0_1, .slice A0_2 l0_2.length c0_2, .slice A0_3 l0_3.length c0_3, .slice A0_4 l0_4.length c0_4, .slice A0_5 l0_5.length c0_5, .slice A0_6 l0_6.length c0_6]) (t := 28) ?hr ?_; (case hd => rfl); (case hg => rfl); (case hr => first | (go_simp; done) | (go_simp; rfl)); intro gb429 hg w3 hbox hb; have n0_ := bs HB hb; have n1_ := am (hbox); have n2_ := nz HB hg; have n3_ := nz HB hg; revert n0_ n1_ n2_ n3_; clear HB; intro HB BK429 GW429 GE429; clear hb hbox hg))
 go_loopg [5] k (fun kq v5 w' => ∃ (x5_1 : Int), v5 = .int .i64 x5_1 ∧ Aside0 (curtilageref10_lists.l0 kq l1 x5_1 a0_0 l0_1 l0_2 l0_3 l0_4 l0_5 l0_6 = some r) ∧ Aside0 (kq ≤ k) ∧ Aside0 (w'.heap[gb429]? = some (.cells #[.string a0_0, (.slice A0_1 l0_1.length c0_1), (.slice A0_2 l0_2.length c0_2), (.slice A0_3 l0_3.length c0_3), (.slice A0_4 l0_4.length c0_4), (.slice A0_5 l0_5.length c0_5), (.slice A0_6 l0_6.length c0_6)] 28 (0, 0))) ∧ Aside0 (Below w.heap.size w w'))
 case atStart => exact ⟨(0), uf, H', ⟨Nat.le_refl _⟩, ⟨ub BK429.out⟩, ⟨uc HB.out⟩⟩
 case round =>
  clear H'
  obtain ⟨x5_1, rfl, HA, HK1, BK429, HB⟩ := hrel
  cases gk with
  | zero => exact absurd HA.out (by simp [curtilageref10_lists.l0])
  | succ k1 =>
   have H := HA.out
   clear HA
   simp only [curtilageref10_lists.l0] at H
   by_cases c4 : x5_1 < (l1.length : Int)
   ·rw [if_pos c4] at H
    have c4b0 := decide_eq_true c4
    clear c4
    have HC5 := am H
    clear H
    go_upto_region 4 with (fail)
    go_cut [27] (fun v27 wc => ∃ (kq : Nat) (x27_4 : Bool), v27 = .bool x27_4 ∧ Aside0 (curtilageref10_lists.j1 kq l1 x5_1 x27_4 a0_0 l0_1 l0_2 l0_3 l0_4 l0_5 l0_6 = some r) ∧ Aside0 (kq ≤ k1) ∧ Aside0 (wc.heap[gb429]? = some (.cells #[.string a0_0, (.slice A0_1 l0_1.length c0_1), (.slice A0_2 l0_2.length c0_2), (.slice A0_3 l0_3.length c0_3), (.slice A0_4 l0_4.length c0_4), (.slice A0_5 l0_5.length c0_5), (.slice A0_6 l0_6.length c0_6)] 28 (0, 0))) ∧ Aside0 (Below w.heap.size w wc))
    case first =>
     have H := HC5.out
     clear HC5
     obtain ⟨c6, H⟩ := ic H
     have c6b0 : decide (0 ≤ x5_1) = true := decide_eq_true c6
     clear c6
     (first | rw [c6b0] | (simp only [i64_w, i32_w]; rw [c6b0]) | skip)
     by_cases c7 : (rd l1 x5_1) < 0
     ·rw [if_pos c7] at H
      have c7b0 := decide_eq_true c7
      clear c7
      have H' := am H
      clear H
      try go_wp2
      have n0_ := am (blk_drew BK429.out)
      have n1_ := am (below_drew1 HB.out)
      revert n0_ n1_
      clear BK429 HB
      intro BK429 HB
      have p430 : 0 ≤ (x5_1 : Int) := ud
      have q430 : x5_1 < (l1.length : Int) := ud
      obtain ⟨ad430, e430, hx430_0⟩ := Kd.at_int HR1.out x5_1 p430 q430
      have hw430_0 := hx430_0
      cases e430
      replace hx430_0 := bcel HB hx430_0
      replace p430 := eq_true p430
      replace q430 := eq_true q430
      refine start_ (n := 15) (S := fun w' => w'.cell? (ad430.add (x5_1).toNat) = some (.int .i64 (rd l1 x5_1))) (ds := []) (bA 15 0) (by kernel_rfl) rfl rfl ((bcel HB hw430_0 :)) (fun hHeld => ?_); refine with_tabW curtilageref10_lists.tab4 curtilageref10_lists.bits4 (fun HT_ HW_ => ?_)
      generalize wr.drew = w8 at BK429 HB hx430_0 hHeld ⊢
      refine pv 0 13 (bA 15 1) HT_ ?_
      refine pv 1 14 (bA 15 3) HT_ ?_
      refine pv 2 15 (bA 15 7) HT_ ?_
      refine tv 3 16 (bA 15 15) HT_ HW_ hHeld ?_ (hy := by intro w' s0; go_simp; with_reducible rfl)
      refine pv 4 17 (bA 15 31) HT_ ?_
      refine pv 5 18 (bA 15 63) HT_ ?_
      refine pn 6 19 (bA 15 127) HT_ ?_ ?_ ?_; rotate_left; (simp only [Act.put, s1, s2, s3, i64_w, i32_w]; rfl)
      refine pn 7 20 (bA 15 255) HT_ ?_ ?_ ?_; rotate_left; (simp only [Act.put, s1, s2, s3, i64_w, i32_w]; rfl)
      refine pn 8 21 (bA 15 511) HT_ ?_ ?_ ?_; rotate_left; (simp only [Act.put, s1, s2, s3, i64_w, i32_w]; rfl)
      refine pn 9 22 (bA 15 1023) HT_ ?_ ?_ ?_; rotate_left; (simp only [Act.put, s1, s2, s3, i64_w, i32_w]; rfl)
      refine pn 10 23 (bA 15 2047) HT_ ?_ ?_ ?_; rotate_left; (simp only [Act.put, s1, s2, s3, i64_w, i32_w]; rfl)
      refine pn 11 24 (bA 15 4095) HT_ ?_ ?_ ?_; rotate_left; (simp only [Act.put, s1, s2, s3, i64_w, i32_w]; rfl)
      refine pn 12 25 (bA 15 8191) HT_ ?_ ?_ ?_; rotate_left; (simp only [Act.put, s1, s2, s3, i64_w, i32_w]; rfl)
      refine pn 13 26 (bA 15 16383) HT_ ?_ ?_ ?_; rotate_left; (simp only [Act.put, s1, s2, s3, i64_w, i32_w]; rfl)
      refine pv 14 27 (bA 15 32767) HT_ ?_
      refine done_ (done_of HT_.out (by kernel_rfl)) ?_
      try go_wp2
      go_meet
      case rel => exact ⟨_, (true), uf, H', ⟨by have := HK1.out; first | omega | exact Nat.le_refl _⟩, ⟨ub BK429.out⟩, ⟨uc HB.out⟩⟩
     ·rw [if_neg c7] at H
      have c7b0 := decide_eq_false c7
      clear c7
      have H' := am H
      clear H
      try go_wp2
      have n0_ := am (blk_drew BK429.out)
      have n1_ := am (below_drew1 HB.out)
      revert n0_ n1_
      clear BK429 HB
      intro BK429 HB
      have p430 : 0 ≤ (x5_1 : Int) := ud
      have q430 : x5_1 < (l1.length : Int) := ud
      obtain ⟨ad430, e430, hx430_0⟩ := Kd.at_int HR1.out x5_1 p430 q430
      have hw430_0 := hx430_0
      cases e430
      replace hx430_0 := bcel HB hx430_0
      replace p430 := eq_true p430
      replace q430 := eq_true q430
      have p431 : 0 ≤ (x5_1 : Int) := ud
      have q431 : x5_1 < (l1.length : Int) := ud
      obtain ⟨ad431, e431, hx431_0⟩ := Kd.at_int HR1.out x5_1 p431 q431
      have hw431_0 := hx431_0
      obtain rfl : ad430 = ad431 := (by injection e431)
      replace hx431_0 := bcel HB hx431_0
      replace p431 := eq_true p431
      replace q431 := eq_true q431
      refine sr 15 [] (hB7 BK429 (hA (bcel HB hw430_0 :) (hZ (bcel HB hw431_0 :)))) (fun hHeld => ?_); refine with_tabW curtilageref10_lists.tab4 curtilageref10_lists.bits4 (fun HT_ HW_ => ?_)
      generalize wr.drew = w9 at BK429 HB hx430_0 hx431_0 hHeld ⊢
      refine pv 0 13 (bA 15 1) HT_ ?_
      refine pv 1 14 (bA 15 3) HT_ ?_
      refine pv 2 15 (bA 15 7) HT_ ?_
      refine tv 3 16 (bA 15 15) HT_ HW_ hHeld ?_ (hy := by rintro w' ⟨s0, s1, s2, s3, s4, s5, s6, s7, s8⟩; go_simp; with_reducible rfl)
      refine pv 4 17 (bA 15 31) HT_ ?_
      refine pv 5 18 (bA 15 63) HT_ ?_
      refine pv 6 19 (bA 15 127) HT_ ?_
      refine pv 7 20 (bA 15 255) HT_ ?_
      refine pv 8 21 (bA 15 511) HT_ ?_
      refine pv 10 23 (bA 15 1535) HT_ ?_
      refine tv 9 22 (bA 15 2047) HT_ HW_ hHeld ?_ (hy := by rintro w' ⟨s0, s1, s2, s3, s4, s5, s6, s7, s8⟩; go_simp; with_reducible rfl)
      refine tv 11 24 (bA 15 4095) HT_ HW_ hHeld ?_ (hy := by rintro w' ⟨s0, s1, s2, s3, s4, s5, s6, s7, s8⟩; go_simp; with_reducible rfl)
      refine pv 12 25 (bA 15 8191) HT_ ?_
      refine pv 13 26 (bA 15 16383) HT_ ?_
      refine pv 14 27 (bA 15 32767) HT_ ?_
      refine done_ (done_of HT_.out (by kernel_rfl)) ?_
      try go_wp2
      go_meet
      case rel => exact ⟨_, (decide ((rd l1 x5_1) ≥ (l0_3.length : Int))), uf, H', ⟨by have := HK1.out; first | omega | exact Nat.le_refl _⟩, ⟨ub BK429.out⟩, ⟨uc HB.out⟩⟩
    case rest =>
     clear HC5
     clear c4b0
     obtain ⟨kq, x27_4, rfl, HA, HJ4, BK429, HB⟩ := hcut
     cases kq with
     | zero => exact absurd HA.out (by simp [curtilageref10_lists.j1])
     | succ kj4 =>
      have H := HA.out
      clear HA
      simp only [curtilageref10_lists.j1] at H
      by_cases c10 : x27_4 = true
      ·subst c10
       have H1 : (some false) = some r := by rw [if_pos rfl] at H; exact H
       clear H
       have H := H1
       clear H1
       obtain rfl := Option.some.inj H
       go_wp2
       go_ret
       exact ur (uc HB.out)
      ·replace c10 := Bool.eq_false_iff.mpr c10
       subst c10
       have H1 : (if 0 ≤ x5_1 then (if x5_1 < (l1.length : Int) then (if 0 ≤ (rd l1 x5_1) then (if (rd l1 x5_1) < (l0_3.length : Int) then (if ((rd_T35 l0_3 (rd l1 x5_1)).f7 = true) then (if ((rd_T35 l0_3 (rd l1 x5_1)).f4) = 1 then (curtilageref10_lists.l0 kj4 l1 (wrap64 (x5_1 + 1)) a0_0 l0_1 l0_2 l0_3 l0_4 l0_5 l0_6) else (some false)) else (some false)) else (none)) else (none)) else (none)) else (none)) = some r := by rw [if_neg (show ¬ (false = true) by decide)] at H; exact H
       clear H
       have H := H1
       clear H1
       obtain ⟨c11, H⟩ := ic H
       have c11b0 : decide (0 ≤ x5_1) = true := decide_eq_true c11
       clear c11
       obtain ⟨c12, H⟩ := ic H
       have c12b0 : decide (x5_1 < (l1.length : Int)) = true := decide_eq_true c12
       clear c12
       obtain ⟨c13, H⟩ := ic H
       have c13b0 : decide (0 ≤ (rd l1 x5_1)) = true := decide_eq_true c13
       clear c13
       obtain ⟨c14, H⟩ := ic H
       have c14b0 : decide ((rd l1 x5_1) < (l0_3.length : Int)) = true := decide_eq_true c14
       clear c14
       obtain ⟨bq15, hbq15⟩ : ∃ b_ : Bool, b_ = ((rd_T35 l0_3 (rd l1 x5_1)).f7) := ⟨_, rfl⟩
       replace H : (if (bq15 = true) then (if ((rd_T35 l0_3 (rd l1 x5_1)).f4) = 1 then (curtilageref10_lists.l0 kj4 l1 (wrap64 (x5_1 + 1)) a0_0 l0_1 l0_2 l0_3 l0_4 l0_5 l0_6) else (some false)) else (some false)) = some r := by rw [← hbq15] at H; exact H
       have Nbq15 := am hbq15
       clear hbq15
       by_cases c16 : (bq15 = true)
       ·subst c16
        have H1 : (if ((rd_T35 l0_3 (rd l1 x5_1)).f4) = 1 then (curtilageref10_lists.l0 kj4 l1 (wrap64 (x5_1 + 1)) a0_0 l0_1 l0_2 l0_3 l0_4 l0_5 l0_6) else (some false)) = some r := by rw [if_pos rfl] at H; exact H
        clear H
        have H := H1
        clear H1
        by_cases c17 : ((rd_T35 l0_3 (rd l1 x5_1)).f4) = 1
        ·rw [if_pos c17] at H
         have c17b0 := beq_iff_eq.mpr c17
         have c17b1 := bne_eq_false_iff_eq.mpr c17
         clear c17
         have H' := am H
         clear H
         try go_wp2
         have n0_ := am (blk_drew BK429.out)
         have n1_ := am (below_drew1 HB.out)
         revert n0_ n1_
         clear BK429 HB
         intro BK429 HB
         have p432 : 0 ≤ (x5_1 : Int) := ud
         have q432 : x5_1 < (l1.length : Int) := ud
         obtain ⟨ad432, e432, hx432_0⟩ := Kd.at_int HR1.out x5_1 p432 q432
         have hw432_0 := hx432_0
         cases e432
         replace hx432_0 := bcel HB hx432_0
         replace p432 := eq_true p432
         replace q432 := eq_true q432
         have p433 : 0 ≤ ((rd l1 x5_1) : Int) := ud
         have q433 : (rd l1 x5_1) < (l0_3.length : Int) := ud
         obtain ⟨ad433, e433, hx433_0, hx433_1, hx433_2, hx433_3, hx433_4, hx433_5, hx433_6, hx433_7⟩ := at_T35 HR0_3.out (rd l1 x5_1) p433 q433
         have hw433_7 := hx433_7
         have hw433_6 := hx433_6
         have hw433_5 := hx433_5
         have hw433_4 := hx433_4
         have hw433_3 := hx433_3
         have hw433_2 := hx433_2
         have hw433_1 := hx433_1
         have hw433_0 := hx433_0
         (try rw [← Nbq15.out] at hx433_7)
         (try rw [← Nbq15.out] at hw433_7)
         cases e433
         replace hx433_0 := bcel HB hx433_0
         replace hx433_1 := bcel HB hx433_1
         replace hx433_2 := bcel HB hx433_2
         replace hx433_3 := bcel HB hx433_3
         replace hx433_4 := bcel HB hx433_4
         replace hx433_5 := bcel HB hx433_5
         replace hx433_6 := bcel HB hx433_6
         replace hx433_7 := bcel HB hx433_7
         replace p433 := eq_true p433
         replace q433 := eq_true q433
         refine sr 10 [] (hB7 BK429 (hA (bcel HB hw432_0 :) (hA (bcel HB hw433_0 :) (hA (bcel HB hw433_1 :) (hA (bcel HB hw433_2 :) (hA (bcel HB hw433_3 :) (hA (bcel HB hw433_4 :) (hA (bcel HB hw433_5 :) (hA (bcel HB hw433_6 :) (hZ (bcel HB hw433_7 :))))))))))) (fun hHeld => ?_); refine with_tabW curtilageref10_lists.tab6 curtilageref10_lists.bits6 (fun HT_ HW_ => ?_)
         generalize wc.drew = w18 at BK429 HB hx432_0 hx433_0 hx433_1 hx433_2 hx433_3 hx433_4 hx433_5 hx433_6 hx433_7 hHeld ⊢
         refine pv 0 28 (bA 10 1) HT_ ?_
         refine pv 2 30 (bA 10 5) HT_ ?_
         refine pv 3 31 (bA 10 13) HT_ ?_
         refine pv 4 32 (bA 10 29) HT_ ?_
         refine tv 1 29 (bA 10 31) HT_ HW_ hHeld ?_ (hy := by rintro w' ⟨s0, s1, s2, s3, s4, s5, s6, s7, s8, s9, s10, s11, s12, s13, s14, s15⟩; go_simp; with_reducible rfl)
         refine tv 5 33 (bA 10 63) HT_ HW_ hHeld ?_ (hy := by rintro w' ⟨s0, s1, s2, s3, s4, s5, s6, s7, s8, s9, s10, s11, s12, s13, s14, s15⟩; go_simp; with_reducible rfl)
         refine pv 6 34 (bA 10 127) HT_ ?_
         refine tv 7 35 (bA 10 255) HT_ HW_ hHeld ?_ (hy := by rintro w' ⟨s0, s1, s2, s3, s4, s5, s6, s7, s8, s9, s10, s11, s12, s13, s14, s15⟩; go_simp; with_reducible rfl)
         refine one_ (i := 8) (N := some 6) (bA 10 511) rfl rfl (one_of HT_.out (by kernel_rfl)) (by decide) (fun K hK => ?_)
         refine box_step ?hg (N := 6) ?hd (cs := #[.string (⟨#[]⟩ : ByteArray), .string (⟨#[]⟩ : ByteArray), .int .u64 0, .int .u64 0, .int .i64 0, .int .i64 0, .int .i64 0, .bool false]) (t := 35) ?hr ?_; (case hd => rfl); (case hg => rfl); (case hr => first | (go_simp; done) | (go_simp; rfl))
         intro gb434 hg w19 hbox hb
         have n0_ := bw BK429 hb
         have n1_ := bs HB hb
         have n2_ := am (hbox)
         have n3_ := nz HB hg
         have n4_ := nz HB hg
         have n5_ := nl BK429 hg
         have n6_ := nr BK429 hg
         revert n0_ n1_ n2_ n3_ n4_ n5_ n6_
         clear BK429 HB
         intro BK429 HB BK434 GW434 GE434 NB429_434 NB434_429
         clear hb hbox hg
         refine hK.out _ _ ⟨cz BK429 0, cz BK429 1, cz BK429 2, cz BK429 3, cz BK429 4, cz BK429 5, cz BK429 6, (bcel HB hw432_0 :), (bcel HB hw433_0 :), (bcel HB hw433_1 :), (bcel HB hw433_2 :), (bcel HB hw433_3 :), (bcel HB hw433_4 :), (bcel HB hw433_5 :), (bcel HB hw433_6 :), (bcel HB hw433_7 :)⟩ (fun hHeld => ?_)
         clear hK K
         refine norm_ (a' := ?_) ?_ ?_
         rotate_left
         ·show Act.put _ (some 6) _ = _
          simp only [Act.put, List.setIfInBounds_toArray, List.set_cons_zero, List.set_cons_succ, i64_w, i32_w]
          rfl
         refine one_ (i := 9) (N := none) (bA 10 1023) rfl rfl (one_of HT_.out (by kernel_rfl)) (by decide) (fun K hK => ?_)
         have hs20 : w19.cell? ⟨gb434, 0, none⟩ = some (.string (⟨#[]⟩ : ByteArray)) := cz BK434 0
         have hfs20 := fz BK434 0
         have hns20_0 := NB429_434.out
         have hms20_0 := NB434_429.out
         have hs21 : w19.cell? ⟨gb434, 1, none⟩ = some (.string (⟨#[]⟩ : ByteArray)) := cz BK434 1
         have hfs21 := fz BK434 1
         have hns21_0 := NB429_434.out
         have hms21_0 := NB434_429.out
         have hs22 : w19.cell? ⟨gb434, 2, none⟩ = some (.int .u64 0) := cz BK434 2
         have hfs22 := fz BK434 2
         have hns22_0 := NB429_434.out
         have hms22_0 := NB434_429.out
         have hs23 : w19.cell? ⟨gb434, 3, none⟩ = some (.int .u64 0) := cz BK434 3
         have hfs23 := fz BK434 3
         have hns23_0 := NB429_434.out
         have hms23_0 := NB434_429.out
         have hs24 : w19.cell? ⟨gb434, 4, none⟩ = some (.int .i64 0) := cz BK434 4
         have hfs24 := fz BK434 4
         have hns24_0 := NB429_434.out
         have hms24_0 := NB434_429.out
         have hs25 : w19.cell? ⟨gb434, 5, none⟩ = some (.int .i64 0) := cz BK434 5
         have hfs25 := fz BK434 5
         have hns25_0 := NB429_434.out
         have hms25_0 := NB434_429.out
         have hs26 : w19.cell? ⟨gb434, 6, none⟩ = some (.int .i64 0) := cz BK434 6
         have hfs26 := fz BK434 6
         have hns26_0 := NB429_434.out
         have hms26_0 := NB434_429.out
         have hs27 : w19.cell? ⟨gb434, 7, none⟩ = some (.bool false) := (blk_cell BK434.out 7).trans (by first | with_reducible rfl | (rw [← Nbq15.out]; rfl) | rfl)
         have hfs27 := fz BK434 7
         have hns27_0 := NB429_434.out
         have hms27_0 := NB434_429.out
         refine skip_ (w1 := ?_) (by rfl) rfl ?_ ?_
         rotate_left
         ·go_simp
          rfl
         refine hK.out _ _ ⟨((cnf8 (NB429_434.out)).trans (hHeld.1)), ((cnf8 (NB429_434.out)).trans (hHeld.2.1)), ((cnf8 (NB429_434.out)).trans (hHeld.2.2.1)), ((cnf8 (NB429_434.out)).trans (hHeld.2.2.2.1)), ((cnf8 (NB429_434.out)).trans (hHeld.2.2.2.2.1)), ((cnf8 (NB429_434.out)).trans (hHeld.2.2.2.2.2.1)), ((cnf8 (NB429_434.out)).trans (hHeld.2.2.2.2.2.2.1)), ((cfar8 hw432_0 GW434.out).trans (hHeld.2.2.2.2.2.2.2.1)), ((cfar8 hw433_0 GW434.out).trans (hHeld.2.2.2.2.2.2.2.2.1)), ((cfar8 hw433_1 GW434.out).trans (hHeld.2.2.2.2.2.2.2.2.2.1)), ((cfar8 hw433_2 GW434.out).trans (hHeld.2.2.2.2.2.2.2.2.2.2.1)), ((cfar8 hw433_3 GW434.out).trans (hHeld.2.2.2.2.2.2.2.2.2.2.2.1)), ((cfar8 hw433_4 GW434.out).trans (hHeld.2.2.2.2.2.2.2.2.2.2.2.2.1)), ((cfar8 hw433_5 GW434.out).trans (hHeld.2.2.2.2.2.2.2.2.2.2.2.2.2.1)), ((cfar8 hw433_6 GW434.out).trans (hHeld.2.2.2.2.2.2.2.2.2.2.2.2.2.2.1)), ((cfar8 hw433_7 GW434.out).trans (hHeld.2.2.2.2.2.2.2.2.2.2.2.2.2.2.2))⟩ (fun hHeld => ?_)
         clear hK K
         refine done_ (done_of HT_.out (by kernel_rfl)) ?_
         have hnb28 := NB434_429.out
         have hnc28 := NB429_434.out
         obtain ⟨hcz29_0, hcz29_1, hcz29_2, hcz29_3, hcz29_4, hcz29_5, hcz29_6, -, -, -, -, -, -, -, -, -⟩ := cl8 BK434
         have hcz29_7 : w19.cell? ⟨gb434, 7, none⟩ = some (.bool false) := (blk_cell BK434.out 7).trans (by first | with_reducible rfl | (rw [← Nbq15.out]; rfl) | rfl)
         have hfz29_0 := fz BK434 0
         have hfz29_1 := fz BK434 1
         have hfz29_2 := fz BK434 2
         have hfz29_3 := fz BK434 3
         have hfz29_4 := fz BK434 4
         have hfz29_5 := fz BK434 5
         have hfz29_6 := fz BK434 6
         have hfz29_7 := fz BK434 7
         try go_wp2
         go_roundg kj4
         case measure => have := HK1.out; have := HJ4.out; omega
         case rel => exact ⟨(wrap64 (x5_1 + 1)), uf, (by first | exact H' | (rw [← Nbq15.out]; exact H')), ⟨by have := HK1.out; have := HJ4.out; omega⟩, ⟨by (iterate 8 ((with_reducible repeat (first | refine blk_drewN ?_ _ | refine blk_drew ?_ | refine blk_alloc ?_ _)); refine blk_far ?_ NB429_434.out _)); (with_reducible repeat (first | refine blk_drewN ?_ _ | refine blk_drew ?_ | refine blk_alloc ?_ _)); first | exact BK429.out | (rw [← Nbq15.out]; exact BK429.out)⟩, ⟨uc HB.out⟩⟩
        ·rw [if_neg c17] at H
         have c17b0 := beq_eq_false_iff_ne.mpr c17
         have c17b1 := bne_iff_ne.mpr c17
         obtain rfl := Option.some.inj H
         try go_wp2
         have n0_ := am (blk_drew BK429.out)
         have n1_ := am (below_drew1 HB.out)
         revert n0_ n1_
         clear BK429 HB
         intro BK429 HB
         have p432 : 0 ≤ (x5_1 : Int) := ud
         have q432 : x5_1 < (l1.length : Int) := ud
         obtain ⟨ad432, e432, hx432_0⟩ := Kd.at_int HR1.out x5_1 p432 q432
         have hw432_0 := hx432_0
         cases e432
         replace hx432_0 := bcel HB hx432_0
         replace p432 := eq_true p432
         replace q432 := eq_true q432
         have p433 : 0 ≤ ((rd l1 x5_1) : Int) := ud
         have q433 : (rd l1 x5_1) < (l0_3.length : Int) := ud
         obtain ⟨ad433, e433, hx433_0, hx433_1, hx433_2, hx433_3, hx433_4, hx433_5, hx433_6, hx433_7⟩ := at_T35 HR0_3.out (rd l1 x5_1) p433 q433
         have hw433_7 := hx433_7
         have hw433_6 := hx433_6
         have hw433_5 := hx433_5
         have hw433_4 := hx433_4
         have hw433_3 := hx433_3
         have hw433_2 := hx433_2
         have hw433_1 := hx433_1
         have hw433_0 := hx433_0
         (try rw [← Nbq15.out] at hx433_7)
         (try rw [← Nbq15.out] at hw433_7)
         cases e433
         replace hx433_0 := bcel HB hx433_0
         replace hx433_1 := bcel HB hx433_1
         replace hx433_2 := bcel HB hx433_2
         replace hx433_3 := bcel HB hx433_3
         replace hx433_4 := bcel HB hx433_4
         replace hx433_5 := bcel HB hx433_5
         replace hx433_6 := bcel HB hx433_6
         replace hx433_7 := bcel HB hx433_7
         replace p433 := eq_true p433
         replace q433 := eq_true q433
         refine sr 10 [] (hB7 BK429 (hA (bcel HB hw432_0 :) (hA (bcel HB hw433_0 :) (hA (bcel HB hw433_1 :) (hA (bcel HB hw433_2 :) (hA (bcel HB hw433_3 :) (hA (bcel HB hw433_4 :) (hA (bcel HB hw433_5 :) (hA (bcel HB hw433_6 :) (hZ (bcel HB hw433_7 :))))))))))) (fun hHeld => ?_); refine with_tabW curtilageref10_lists.tab6 curtilageref10_lists.bits6 (fun HT_ HW_ => ?_)
         generalize wc.drew = w30 at BK429 HB hx432_0 hx433_0 hx433_1 hx433_2 hx433_3 hx433_4 hx433_5 hx433_6 hx433_7 hHeld ⊢
         refine pv 0 28 (bA 10 1) HT_ ?_
         refine pv 2 30 (bA 10 5) HT_ ?_
         refine pv 3 31 (bA 10 13) HT_ ?_
         refine pv 4 32 (bA 10 29) HT_ ?_
         refine tv 1 29 (bA 10 31) HT_ HW_ hHeld ?_ (hy := by rintro w' ⟨s0, s1, s2, s3, s4, s5, s6, s7, s8, s9, s10, s11, s12, s13, s14, s15⟩; go_simp; with_reducible rfl)
         refine tv 5 33 (bA 10 63) HT_ HW_ hHeld ?_ (hy := by rintro w' ⟨s0, s1, s2, s3, s4, s5, s6, s7, s8, s9, s10, s11, s12, s13, s14, s15⟩; go_simp; with_reducible rfl)
         refine pv 6 34 (bA 10 127) HT_ ?_
         refine tv 7 35 (bA 10 255) HT_ HW_ hHeld ?_ (hy := by rintro w' ⟨s0, s1, s2, s3, s4, s5, s6, s7, s8, s9, s10, s11, s12, s13, s14, s15⟩; go_simp; with_reducible rfl)
         refine one_ (i := 8) (N := some 6) (bA 10 511) rfl rfl (one_of HT_.out (by kernel_rfl)) (by decide) (fun K hK => ?_)
         refine box_step ?hg (N := 6) ?hd (cs := #[.string (⟨#[]⟩ : ByteArray), .string (⟨#[]⟩ : ByteArray), .int .u64 0, .int .u64 0, .int .i64 0, .int .i64 0, .int .i64 0, .bool false]) (t := 35) ?hr ?_; (case hd => rfl); (case hg => rfl); (case hr => first | (go_simp; done) | (go_simp; rfl))
         intro gb434 hg w31 hbox hb
         have n0_ := bw BK429 hb
         have n1_ := bs HB hb
         have n2_ := am (hbox)
         have n3_ := nz HB hg
         have n4_ := nz HB hg
         have n5_ := nl BK429 hg
         have n6_ := nr BK429 hg
         revert n0_ n1_ n2_ n3_ n4_ n5_ n6_
         clear BK429 HB
         intro BK429 HB BK434 GW434 GE434 NB429_434 NB434_429
         clear hb hbox hg
         refine hK.out _ _ ⟨cz BK429 0, cz BK429 1, cz BK429 2, cz BK429 3, cz BK429 4, cz BK429 5, cz BK429 6, (bcel HB hw432_0 :), (bcel HB hw433_0 :), (bcel HB hw433_1 :), (bcel HB hw433_2 :), (bcel HB hw433_3 :), (bcel HB hw433_4 :), (bcel HB hw433_5 :), (bcel HB hw433_6 :), (bcel HB hw433_7 :)⟩ (fun hHeld => ?_)
         clear hK K
         refine norm_ (a' := ?_) ?_ ?_
         rotate_left
         ·show Act.put _ (some 6) _ = _
          simp only [Act.put, List.setIfInBounds_toArray, List.set_cons_zero, List.set_cons_succ, i64_w, i32_w]
          rfl
         refine one_ (i := 9) (N := none) (bA 10 1023) rfl rfl (one_of HT_.out (by kernel_rfl)) (by decide) (fun K hK => ?_)
         have hs32 : w31.cell? ⟨gb434, 0, none⟩ = some (.string (⟨#[]⟩ : ByteArray)) := cz BK434 0
         have hfs32 := fz BK434 0
         have hns32_0 := NB429_434.out
         have hms32_0 := NB434_429.out
         have hs33 : w31.cell? ⟨gb434, 1, none⟩ = some (.string (⟨#[]⟩ : ByteArray)) := cz BK434 1
         have hfs33 := fz BK434 1
         have hns33_0 := NB429_434.out
         have hms33_0 := NB434_429.out
         have hs34 : w31.cell? ⟨gb434, 2, none⟩ = some (.int .u64 0) := cz BK434 2
         have hfs34 := fz BK434 2
         have hns34_0 := NB429_434.out
         have hms34_0 := NB434_429.out
         have hs35 : w31.cell? ⟨gb434, 3, none⟩ = some (.int .u64 0) := cz BK434 3
         have hfs35 := fz BK434 3
         have hns35_0 := NB429_434.out
         have hms35_0 := NB434_429.out
         have hs36 : w31.cell? ⟨gb434, 4, none⟩ = some (.int .i64 0) := cz BK434 4
         have hfs36 := fz BK434 4
         have hns36_0 := NB429_434.out
         have hms36_0 := NB434_429.out
         have hs37 : w31.cell? ⟨gb434, 5, none⟩ = some (.int .i64 0) := cz BK434 5
         have hfs37 := fz BK434 5
         have hns37_0 := NB429_434.out
         have hms37_0 := NB434_429.out
         have hs38 : w31.cell? ⟨gb434, 6, none⟩ = some (.int .i64 0) := cz BK434 6
         have hfs38 := fz BK434 6
         have hns38_0 := NB429_434.out
         have hms38_0 := NB434_429.out
         have hs39 : w31.cell? ⟨gb434, 7, none⟩ = some (.bool false) := (blk_cell BK434.out 7).trans (by first | with_reducible rfl | (rw [← Nbq15.out]; rfl) | rfl)
         have hfs39 := fz BK434 7
         have hns39_0 := NB429_434.out
         have hms39_0 := NB434_429.out
         refine skip_ (w1 := ?_) (by rfl) rfl ?_ ?_
         rotate_left
         ·go_simp
          rfl
         refine hK.out _ _ ⟨((cnf8 (NB429_434.out)).trans (hHeld.1)), ((cnf8 (NB429_434.out)).trans (hHeld.2.1)), ((cnf8 (NB429_434.out)).trans (hHeld.2.2.1)), ((cnf8 (NB429_434.out)).trans (hHeld.2.2.2.1)), ((cnf8 (NB429_434.out)).trans (hHeld.2.2.2.2.1)), ((cnf8 (NB429_434.out)).trans (hHeld.2.2.2.2.2.1)), ((cnf8 (NB429_434.out)).trans (hHeld.2.2.2.2.2.2.1)), ((cfar8 hw432_0 GW434.out).trans (hHeld.2.2.2.2.2.2.2.1)), ((cfar8 hw433_0 GW434.out).trans (hHeld.2.2.2.2.2.2.2.2.1)), ((cfar8 hw433_1 GW434.out).trans (hHeld.2.2.2.2.2.2.2.2.2.1)), ((cfar8 hw433_2 GW434.out).trans (hHeld.2.2.2.2.2.2.2.2.2.2.1)), ((cfar8 hw433_3 GW434.out).trans (hHeld.2.2.2.2.2.2.2.2.2.2.2.1)), ((cfar8 hw433_4 GW434.out).trans (hHeld.2.2.2.2.2.2.2.2.2.2.2.2.1)), ((cfar8 hw433_5 GW434.out).trans (hHeld.2.2.2.2.2.2.2.2.2.2.2.2.2.1)), ((cfar8 hw433_6 GW434.out).trans (hHeld.2.2.2.2.2.2.2.2.2.2.2.2.2.2.1)), ((cfar8 hw433_7 GW434.out).trans (hHeld.2.2.2.2.2.2.2.2.2.2.2.2.2.2.2))⟩ (fun hHeld => ?_)
         clear hK K
         refine done_ (done_of HT_.out (by kernel_rfl)) ?_
         have hnb40 := NB434_429.out
         have hnc40 := NB429_434.out
         obtain ⟨hcz41_0, hcz41_1, hcz41_2, hcz41_3, hcz41_4, hcz41_5, hcz41_6, -, -, -, -, -, -, -, -, -⟩ := cl8 BK434
         have hcz41_7 : w31.cell? ⟨gb434, 7, none⟩ = some (.bool false) := (blk_cell BK434.out 7).trans (by first | with_reducible rfl | (rw [← Nbq15.out]; rfl) | rfl)
         have hfz41_0 := fz BK434 0
         have hfz41_1 := fz BK434 1
         have hfz41_2 := fz BK434 2
         have hfz41_3 := fz BK434 3
         have hfz41_4 := fz BK434 4
         have hfz41_5 := fz BK434 5
         have hfz41_6 := fz BK434 6
         have hfz41_7 := fz BK434 7
         try go_wp2
         go_ret
         exact ur (uc HB.out)
       ·replace c16 := Bool.eq_false_iff.mpr c16
        subst c16
        have H1 : (some false) = some r := by rw [if_neg (show ¬ (false = true) by decide)] at H; exact H
        clear H
        have H := H1
        clear H1
        obtain rfl := Option.some.inj H
        try go_wp2
        have n0_ := am (blk_drew BK429.out)
        have n1_ := am (below_drew1 HB.out)
        revert n0_ n1_
        clear BK429 HB
        intro BK429 HB
        have p432 : 0 ≤ (x5_1 : Int) := ud
        have q432 : x5_1 < (l1.length : Int) := ud
        obtain ⟨ad432, e432, hx432_0⟩ := Kd.at_int HR1.out x5_1 p432 q432
        have hw432_0 := hx432_0
        cases e432
        replace hx432_0 := bcel HB hx432_0
        replace p432 := eq_true p432
        replace q432 := eq_true q432
        have p433 : 0 ≤ ((rd l1 x5_1) : Int) := ud
        have q433 : (rd l1 x5_1) < (l0_3.length : Int) := ud
        obtain ⟨ad433, e433, hx433_0, hx433_1, hx433_2, hx433_3, hx433_4, hx433_5, hx433_6, hx433_7⟩ := at_T35 HR0_3.out (rd l1 x5_1) p433 q433
        have hw433_7 := hx433_7
        have hw433_6 := hx433_6
        have hw433_5 := hx433_5
        have hw433_4 := hx433_4
        have hw433_3 := hx433_3
        have hw433_2 := hx433_2
        have hw433_1 := hx433_1
        have hw433_0 := hx433_0
        (try rw [← Nbq15.out] at hx433_7)
        (try rw [← Nbq15.out] at hw433_7)
        cases e433
        replace hx433_0 := bcel HB hx433_0
        replace hx433_1 := bcel HB hx433_1
        replace hx433_2 := bcel HB hx433_2
        replace hx433_3 := bcel HB hx433_3
        replace hx433_4 := bcel HB hx433_4
        replace hx433_5 := bcel HB hx433_5
        replace hx433_6 := bcel HB hx433_6
        replace hx433_7 := bcel HB hx433_7
        replace p433 := eq_true p433
        replace q433 := eq_true q433
        refine sr 10 [] (hB7 BK429 (hA (bcel HB hw432_0 :) (hA (bcel HB hw433_0 :) (hA (bcel HB hw433_1 :) (hA (bcel HB hw433_2 :) (hA (bcel HB hw433_3 :) (hA (bcel HB hw433_4 :) (hA (bcel HB hw433_5 :) (hA (bcel HB hw433_6 :) (hZ (bcel HB hw433_7 :))))))))))) (fun hHeld => ?_); refine with_tabW curtilageref10_lists.tab6 curtilageref10_lists.bits6 (fun HT_ HW_ => ?_)
        generalize wc.drew = w42 at BK429 HB hx432_0 hx433_0 hx433_1 hx433_2 hx433_3 hx433_4 hx433_5 hx433_6 hx433_7 hHeld ⊢
        refine pv 0 28 (bA 10 1) HT_ ?_
        refine pv 2 30 (bA 10 5) HT_ ?_
        refine pv 3 31 (bA 10 13) HT_ ?_
        refine pv 4 32 (bA 10 29) HT_ ?_
        refine tv 1 29 (bA 10 31) HT_ HW_ hHeld ?_ (hy := by rintro w' ⟨s0, s1, s2, s3, s4, s5, s6, s7, s8, s9, s10, s11, s12, s13, s14, s15⟩; go_simp; with_reducible rfl)
        refine tv 5 33 (bA 10 63) HT_ HW_ hHeld ?_ (hy := by rintro w' ⟨s0, s1, s2, s3, s4, s5, s6, s7, s8, s9, s10, s11, s12, s13, s14, s15⟩; go_simp; with_reducible rfl)
        refine pv 6 34 (bA 10 127) HT_ ?_
        refine tv 7 35 (bA 10 255) HT_ HW_ hHeld ?_ (hy := by rintro w' ⟨s0, s1, s2, s3, s4, s5, s6, s7, s8, s9, s10, s11, s12, s13, s14, s15⟩; go_simp; with_reducible rfl)
        refine one_ (i := 8) (N := some 6) (bA 10 511) rfl rfl (one_of HT_.out (by kernel_rfl)) (by decide) (fun K hK => ?_)
        refine box_step ?hg (N := 6) ?hd (cs := #[.string (⟨#[]⟩ : ByteArray), .string (⟨#[]⟩ : ByteArray), .int .u64 0, .int .u64 0, .int .i64 0, .int .i64 0, .int .i64 0, .bool false]) (t := 35) ?hr ?_; (case hd => rfl); (case hg => rfl); (case hr => first | (go_simp; done) | (go_simp; rfl))
        intro gb434 hg w43 hbox hb
        have n0_ := bw BK429 hb
        have n1_ := bs HB hb
        have n2_ := am (hbox)
        have n3_ := nz HB hg
        have n4_ := nz HB hg
        have n5_ := nl BK429 hg
        have n6_ := nr BK429 hg
        revert n0_ n1_ n2_ n3_ n4_ n5_ n6_
        clear BK429 HB
        intro BK429 HB BK434 GW434 GE434 NB429_434 NB434_429
        clear hb hbox hg
        refine hK.out _ _ ⟨cz BK429 0, cz BK429 1, cz BK429 2, cz BK429 3, cz BK429 4, cz BK429 5, cz BK429 6, (bcel HB hw432_0 :), (bcel HB hw433_0 :), (bcel HB hw433_1 :), (bcel HB hw433_2 :), (bcel HB hw433_3 :), (bcel HB hw433_4 :), (bcel HB hw433_5 :), (bcel HB hw433_6 :), (bcel HB hw433_7 :)⟩ (fun hHeld => ?_)
        clear hK K
        refine norm_ (a' := ?_) ?_ ?_
        rotate_left
        ·show Act.put _ (some 6) _ = _
         simp only [Act.put, List.setIfInBounds_toArray, List.set_cons_zero, List.set_cons_succ, i64_w, i32_w]
         rfl
        refine one_ (i := 9) (N := none) (bA 10 1023) rfl rfl (one_of HT_.out (by kernel_rfl)) (by decide) (fun K hK => ?_)
        have hs44 : w43.cell? ⟨gb434, 0, none⟩ = some (.string (⟨#[]⟩ : ByteArray)) := cz BK434 0
        have hfs44 := fz BK434 0
        have hns44_0 := NB429_434.out
        have hms44_0 := NB434_429.out
        have hs45 : w43.cell? ⟨gb434, 1, none⟩ = some (.string (⟨#[]⟩ : ByteArray)) := cz BK434 1
        have hfs45 := fz BK434 1
        have hns45_0 := NB429_434.out
        have hms45_0 := NB434_429.out
        have hs46 : w43.cell? ⟨gb434, 2, none⟩ = some (.int .u64 0) := cz BK434 2
        have hfs46 := fz BK434 2
        have hns46_0 := NB429_434.out
        have hms46_0 := NB434_429.out
        have hs47 : w43.cell? ⟨gb434, 3, none⟩ = some (.int .u64 0) := cz BK434 3
        have hfs47 := fz BK434 3
        have hns47_0 := NB429_434.out
        have hms47_0 := NB434_429.out
        have hs48 : w43.cell? ⟨gb434, 4, none⟩ = some (.int .i64 0) := cz BK434 4
        have hfs48 := fz BK434 4
        have hns48_0 := NB429_434.out
        have hms48_0 := NB434_429.out
        have hs49 : w43.cell? ⟨gb434, 5, none⟩ = some (.int .i64 0) := cz BK434 5
        have hfs49 := fz BK434 5
        have hns49_0 := NB429_434.out
        have hms49_0 := NB434_429.out
        have hs50 : w43.cell? ⟨gb434, 6, none⟩ = some (.int .i64 0) := cz BK434 6
        have hfs50 := fz BK434 6
        have hns50_0 := NB429_434.out
        have hms50_0 := NB434_429.out
        have hs51 : w43.cell? ⟨gb434, 7, none⟩ = some (.bool false) := (blk_cell BK434.out 7).trans (by first | with_reducible rfl | (rw [← Nbq15.out]; rfl) | rfl)
        have hfs51 := fz BK434 7
        have hns51_0 := NB429_434.out
        have hms51_0 := NB434_429.out
        refine skip_ (w1 := ?_) (by rfl) rfl ?_ ?_
        rotate_left
        ·go_simp
         rfl
        refine hK.out _ _ ⟨((cnf8 (NB429_434.out)).trans (hHeld.1)), ((cnf8 (NB429_434.out)).trans (hHeld.2.1)), ((cnf8 (NB429_434.out)).trans (hHeld.2.2.1)), ((cnf8 (NB429_434.out)).trans (hHeld.2.2.2.1)), ((cnf8 (NB429_434.out)).trans (hHeld.2.2.2.2.1)), ((cnf8 (NB429_434.out)).trans (hHeld.2.2.2.2.2.1)), ((cnf8 (NB429_434.out)).trans (hHeld.2.2.2.2.2.2.1)), ((cfar8 hw432_0 GW434.out).trans (hHeld.2.2.2.2.2.2.2.1)), ((cfar8 hw433_0 GW434.out).trans (hHeld.2.2.2.2.2.2.2.2.1)), ((cfar8 hw433_1 GW434.out).trans (hHeld.2.2.2.2.2.2.2.2.2.1)), ((cfar8 hw433_2 GW434.out).trans (hHeld.2.2.2.2.2.2.2.2.2.2.1)), ((cfar8 hw433_3 GW434.out).trans (hHeld.2.2.2.2.2.2.2.2.2.2.2.1)), ((cfar8 hw433_4 GW434.out).trans (hHeld.2.2.2.2.2.2.2.2.2.2.2.2.1)), ((cfar8 hw433_5 GW434.out).trans (hHeld.2.2.2.2.2.2.2.2.2.2.2.2.2.1)), ((cfar8 hw433_6 GW434.out).trans (hHeld.2.2.2.2.2.2.2.2.2.2.2.2.2.2.1)), ((cfar8 hw433_7 GW434.out).trans (hHeld.2.2.2.2.2.2.2.2.2.2.2.2.2.2.2))⟩ (fun hHeld => ?_)
        clear hK K
        refine done_ (done_of HT_.out (by kernel_rfl)) ?_
        have hnb52 := NB434_429.out
        have hnc52 := NB429_434.out
        obtain ⟨hcz53_0, hcz53_1, hcz53_2, hcz53_3, hcz53_4, hcz53_5, hcz53_6, -, -, -, -, -, -, -, -, -⟩ := cl8 BK434
        have hcz53_7 : w43.cell? ⟨gb434, 7, none⟩ = some (.bool false) := (blk_cell BK434.out 7).trans (by first | with_reducible rfl | (rw [← Nbq15.out]; rfl) | rfl)
        have hfz53_0 := fz BK434 0
        have hfz53_1 := fz BK434 1
        have hfz53_2 := fz BK434 2
        have hfz53_3 := fz BK434 3
        have hfz53_4 := fz BK434 4
        have hfz53_5 := fz BK434 5
        have hfz53_6 := fz BK434 6
        have hfz53_7 := fz BK434 7
        try go_wp2
        go_ret
        exact ur (uc HB.out)
   ·rw [if_neg c4] at H
    have c4b0 := decide_eq_false c4
    clear c4
    obtain rfl := Option.some.inj H
    go_wp2
    go_ret
    exact ur (uc HB.out)

end Go.Proofs.Ytlbfeklpncoccaa.P
