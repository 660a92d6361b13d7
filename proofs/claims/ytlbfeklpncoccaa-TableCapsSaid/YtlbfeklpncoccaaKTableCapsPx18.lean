/- What functions of the program, and of its laws, give, each proved of its code by a walk; no condition. -/
import Derived.Test.YtlbfeklpncoccaaKTableCapsPx0
import Derived.Test.YtlbfeklpncoccaaKTableCapsPx11
import Derived.Test.YtlbfeklpncoccaaKTableCapsSq
import Derived.Test.YtlbfeklpncoccaaKTableCapsUsh
namespace Go.Proofs.Ytlbfeklpncoccaa.P
open Go.RowKit Go.Proofs.YtlbfeklpncoccaaW.PrintWords Go.Proofs.YtlbfeklpncoccaaW.PrintLast Go.Proofs.YtlbfeklpncoccaaW.PrintMore
attribute [local go_sem] max2_int min2_int max_two min_two max_three min_three max_four min_four   -- for this text's walks alone
set_option linter.unusedVariables false
set_option linter.unusedSimpArgs false

def curtilageref17_Perms.j0 : Nat → Int → Int → Option (Int)
  | 0, _, _ => none
  | k + 1, x0, x3 => if (Int.tmod (wrap64 (Int.tdiv x0 2)) 2) = 1 then (if (Int.tmod (wrap64 (Int.tdiv x0 4)) 2) = 1 then (some (wrap64 ((wrap64 (x3 + 18)) + 4))) else (some (wrap64 (x3 + 18)))) else (if (Int.tmod (wrap64 (Int.tdiv x0 4)) 2) = 1 then (some (wrap64 (x3 + 4))) else (some x3))
def curtilageref17_Perms.f (k : Nat) (a0 : Int) : Option (Int) := if (Int.tmod a0 2) = 1 then (curtilageref17_Perms.j0 k a0 (0 + 9)) else (curtilageref17_Perms.j0 k a0 0)
theorem curtilageref17_Perms.mono_l : ∀ k, (∀ y0 y1, LeO (curtilageref17_Perms.j0 k y0 y1) (curtilageref17_Perms.j0 (k + 1) y0 y1))
  | 0 => fun _ _ r h => by simp [curtilageref17_Perms.j0] at h
  | k + 1 => by
    have ih0 := curtilageref17_Perms.mono_l k
    · intro y0 y1
      unfold curtilageref17_Perms.j0
      repeat' first
      | (with_reducible exact ih0 _ _)
      | (with_reducible exact LeO.refl _)
      | (with_reducible exact LeO.none _)
      | (with_reducible refine LeO.ite ?_ ?_)
      | (with_reducible refine LeO.bind ?_ (fun _ => ?_))
      | exact ih0 _ _
      | exact LeO.none _
      | refine LeO.ite ?_ ?_
      | refine LeO.bind ?_ (fun _ => ?_)
theorem curtilageref17_Perms.mono : ∀ a0 k, LeO (curtilageref17_Perms.f k a0) (curtilageref17_Perms.f (k + 1) a0) := by
  intro a0 k
  have ih0 := curtilageref17_Perms.mono_l k
  unfold curtilageref17_Perms.f
  repeat' first
      | (with_reducible exact ih0 _ _)
      | (with_reducible exact LeO.refl _)
      | (with_reducible exact LeO.none _)
      | (with_reducible refine LeO.ite ?_ ?_)
      | (with_reducible refine LeO.bind ?_ (fun _ => ?_))
      | exact ih0 _ _
      | exact LeO.none _
      | refine LeO.ite ?_ ?_
      | refine LeO.bind ?_ (fun _ => ?_)
set_option maxHeartbeats 8000000 in
set_option maxRecDepth 100000 in
theorem curtilageref17_Perms.calls (k : Nat) (a0 : Int) (r : Int) (w : World) (h : curtilageref17_Perms.f k a0 = some r) :
  Calls Try.prog 27 #[.int .i64 a0] w fun e w' => e = .returned (.int .i64 r) ∧ Drawn0 w w' := by
 have H : (if (Int.tmod a0 2) = 1 then (curtilageref17_Perms.j0 k a0 (0 + 9)) else (curtilageref17_Perms.j0 k a0 0)) = some r := h
 clear h
 have HC2 := am H
 clear H
 go_enter Try.func27, Try.ntmps27
 go_upto_if 6 with (fail)
 go_cut [3] (fun v3 wc => ∃ (kq : Nat) (x3_1 : Int), v3 = .int .i64 x3_1 ∧ Aside0 (curtilageref17_Perms.j0 kq a0 x3_1 = some r) ∧ Aside0 (kq ≤ k) ∧ Drawn0 w wc)
 case first =>
  have H := HC2.out
  clear HC2
  by_cases c3 : (Int.tmod a0 2) = 1
  ·rw [if_pos c3] at H
   have c3b0 : ((Int.tmod a0 2) == 1) = true := beq_iff_eq.mpr c3
   have c3b1 : ((Int.tmod a0 2) != 1) = false := bne_eq_false_iff_eq.mpr c3
   clear c3
   (first | rw [c3b0] | (simp only [i64_w, i32_w]; rw [c3b0]) | skip)
   have H' := am H
   clear H
   go_wp2
   go_meet
   case rel => exact ⟨_, (0 + 9), uf, H', ⟨by first | omega | exact Nat.le_refl _⟩, by repeat (first | exact Drawn0.refl _ | apply Drawn0.step)⟩
  ·rw [if_neg c3] at H
   have c3b0 : ((Int.tmod a0 2) == 1) = false := beq_eq_false_iff_ne.mpr c3
   have c3b1 : ((Int.tmod a0 2) != 1) = true := bne_iff_ne.mpr c3
   (first | rw [c3b0] | (simp only [i64_w, i32_w]; rw [c3b0]) | skip)
   have H' := am H
   clear H
   go_wp2
   go_meet
   case rel => exact ⟨_, (0), uf, H', ⟨by first | omega | exact Nat.le_refl _⟩, by repeat (first | exact Drawn0.refl _ | apply Drawn0.step)⟩
 case rest =>
  clear HC2
  try clear c2
  try clear p2
  try clear c3
  try clear c3b0
  try clear c3b1
  obtain ⟨kq, x3_1, rfl, HA, HJ1, ⟨mc1, rfl⟩⟩ := hcut
  cases kq with
  | zero => exact absurd HA.out (by simp [curtilageref17_Perms.j0])
  | succ kj1 =>
   have H := HA.out
   clear HA
   simp only [curtilageref17_Perms.j0] at H
   by_cases c4 : (Int.tmod (wrap64 (Int.tdiv a0 2)) 2) = 1
   ·rw [if_pos c4] at H
    have c4b0 : ((Int.tmod (wrap64 (Int.tdiv a0 2)) 2) == 1) = true := beq_iff_eq.mpr c4
    have c4b1 : ((Int.tmod (wrap64 (Int.tdiv a0 2)) 2) != 1) = false := bne_eq_false_iff_eq.mpr c4
    clear c4
    by_cases c5 : (Int.tmod (wrap64 (Int.tdiv a0 4)) 2) = 1
    ·rw [if_pos c5] at H
     have c5b0 : ((Int.tmod (wrap64 (Int.tdiv a0 4)) 2) == 1) = true := beq_iff_eq.mpr c5
     have c5b1 : ((Int.tmod (wrap64 (Int.tdiv a0 4)) 2) != 1) = false := bne_eq_false_iff_eq.mpr c5
     clear c5
     obtain rfl := Option.some.inj H
     go_wp2
     go_ret
     exact ⟨by first | rfl | (simp; done) | (simp [*]; done), by repeat (first | exact Drawn0.refl _ | apply Drawn0.step)⟩
    ·rw [if_neg c5] at H
     have c5b0 : ((Int.tmod (wrap64 (Int.tdiv a0 4)) 2) == 1) = false := beq_eq_false_iff_ne.mpr c5
     have c5b1 : ((Int.tmod (wrap64 (Int.tdiv a0 4)) 2) != 1) = true := bne_iff_ne.mpr c5
     obtain rfl := Option.some.inj H
     go_wp2
     go_ret
     exact ⟨by first | rfl | (simp; done) | (simp [*]; done), by repeat (first | exact Drawn0.refl _ | apply Drawn0.step)⟩
   ·rw [if_neg c4] at H
    have c4b0 : ((Int.tmod (wrap64 (Int.tdiv a0 2)) 2) == 1) = false := beq_eq_false_iff_ne.mpr c4
    have c4b1 : ((Int.tmod (wrap64 (Int.tdiv a0 2)) 2) != 1) = true := bne_iff_ne.mpr c4
    by_cases c6 : (Int.tmod (wrap64 (Int.tdiv a0 4)) 2) = 1
    ·rw [if_pos c6] at H
     have c6b0 : ((Int.tmod (wrap64 (Int.tdiv a0 4)) 2) == 1) = true := beq_iff_eq.mpr c6
     have c6b1 : ((Int.tmod (wrap64 (Int.tdiv a0 4)) 2) != 1) = false := bne_eq_false_iff_eq.mpr c6
     clear c6
     obtain rfl := Option.some.inj H
     go_wp2
     go_ret
     exact ⟨by first | rfl | (simp; done) | (simp [*]; done), by repeat (first | exact Drawn0.refl _ | apply Drawn0.step)⟩
    ·rw [if_neg c6] at H
     have c6b0 : ((Int.tmod (wrap64 (Int.tdiv a0 4)) 2) == 1) = false := beq_eq_false_iff_ne.mpr c6
     have c6b1 : ((Int.tmod (wrap64 (Int.tdiv a0 4)) 2) != 1) = true := bne_iff_ne.mpr c6
     obtain rfl := Option.some.inj H
     go_wp2
     go_ret
     exact ⟨by first | rfl | (simp; done) | (simp [*]; done), by repeat (first | exact Drawn0.refl _ | apply Drawn0.step)⟩

def curtilageref18_Data.f (k : Nat) (a0_0 : ByteArray) (l0_1 : List ByteArray) (l0_2 : List (S67)) (l0_3 : List (S35)) (l0_4 : List (S72)) (l0_5 : List Int) (l0_6 : List Int) (a1 : Int) (a2 : Int) : Option (Int × Int × Int × Int × Int × Bool) := if 0 ≤ a2 then (if a2 < (l0_3.length : Int) then ((curtilageref10_At.f k a0_0 l0_1 l0_2 l0_3 l0_4 l0_5 l0_6 ((rd_T35 l0_3 a2).f2) ((rd_T35 l0_3 a2).f3)).bind fun t459 => (if 0 ≤ t459 then (if t459 < (l0_2.length : Int) then ((curtilageref17_Perms.f k ((rd_T67 l0_2 t459).f2)).bind fun t461 => (some (IntKind.u64.wrap (a1 + ((rd_T35 l0_3 a2).f2)), IntKind.u64.wrap ((IntKind.u64.wrap (a1 + ((rd_T35 l0_3 a2).f2))) + ((rd_T35 l0_3 a2).f3)), IntKind.u64.wrap (a1 + ((rd_T35 l0_3 a2).f2)), t461, (-1), true))) else (none)) else (none))) else (none)) else (none)
theorem curtilageref18_Data.mono : ∀ a0 a1 a2 a3 a4 a5 a6 a7 a8 k, LeO (curtilageref18_Data.f k a0 a1 a2 a3 a4 a5 a6 a7 a8) (curtilageref18_Data.f (k + 1) a0 a1 a2 a3 a4 a5 a6 a7 a8) := by
  intro a0 a1 a2 a3 a4 a5 a6 a7 a8 k
  unfold curtilageref18_Data.f
  repeat' first
      | (with_reducible exact curtilageref10_At.mono _ _ _ _ _ _ _ _ _ _)
      | (with_reducible exact curtilageref17_Perms.mono _ _)
      | (with_reducible exact LeO.refl _)
      | (with_reducible exact LeO.none _)
      | (with_reducible refine LeO.ite ?_ ?_)
      | (with_reducible refine LeO.bind ?_ (fun _ => ?_))
      | exact curtilageref10_At.mono _ _ _ _ _ _ _ _ _ _
      | exact curtilageref17_Perms.mono _ _
      | exact LeO.none _
      | refine LeO.ite ?_ ?_
      | refine LeO.bind ?_ (fun _ => ?_)
def curtilageref18_Data.T3 : Bool × List (List Nat × List Nat) := (true, [([], []), ([0], [0]), ([], []), ([], []), ([3], [3]), ([], []), ([5], [5]), ([2, 4, 6], [2, 4, 6]), ([1, 7], [1, 7]), ([8], [8]), ([9], [9]), ([10, 7], [10]), ([11, 11, 0, 1, 2, 3, 4, 5, 6, 7, 8, 9, 10, 11], [11])])
def curtilageref18_Data.B3 : List Nat := [0, 1, 0, 0, 8, 0, 32, 124, 255, 511, 1023, 2047, 4095]
theorem curtilageref18_Data.tab3 : rtab .any (opsOf Try.f9 3) = curtilageref18_Data.T3 := by kernel_rfl
theorem curtilageref18_Data.bits3 : waitsOk curtilageref18_Data.T3.2 curtilageref18_Data.B3 = true := by kernel_rfl
set_option maxHeartbeats 8000000 in
set_option maxRecDepth 100000 in
theorem curtilageref18_Data.calls (k : Nat) (a0_0 : ByteArray) (A0_1 : Option Addr) (c0_1 : Nat) (l0_1 : List ByteArray) (A0_2 : Option Addr) (c0_2 : Nat) (l0_2 : List (S67)) (A0_3 : Option Addr) (c0_3 : Nat) (l0_3 : List (S35)) (A0_4 : Option Addr) (c0_4 : Nat) (l0_4 : List (S72)) (A0_5 : Option Addr) (c0_5 : Nat) (l0_5 : List Int) (A0_6 : Option Addr) (c0_6 : Nat) (l0_6 : List Int) (a1 : Int) (a2 : Int) (r1 : Int) (r2 : Int) (r3 : Int) (r4 : Int) (r5 : Int) (r6 : Bool) (w : World) (hr0_1 : Kd.C Kd.string w A0_1 l0_1.length l0_1) (hc0_1 : l0_1.length ≤ c0_1) (hr0_2 : Kd.C k67 w A0_2 l0_2.length l0_2) (hc0_2 : l0_2.length ≤ c0_2) (hr0_3 : Kd.C k35 w A0_3 l0_3.length l0_3) (hc0_3 : l0_3.length ≤ c0_3) (hr0_4 : Kd.C k72 w A0_4 l0_4.length l0_4) (hc0_4 : l0_4.length ≤ c0_4) (hr0_5 : Kd.C (Kd.int .i64) w A0_5 l0_5.length l0_5) (hc0_5 : l0_5.length ≤ c0_5) (hr0_6 : Kd.C (Kd.int .i64) w A0_6 l0_6.length l0_6) (hc0_6 : l0_6.length ≤ c0_6) (h : curtilageref18_Data.f k a0_0 l0_1 l0_2 l0_3 l0_4 l0_5 l0_6 a1 a2 = some (r1, r2, r3, r4, r5, r6)) :
  Calls Try.prog 9 #[.agg #[.string a0_0, .slice A0_1 l0_1.length c0_1, .slice A0_2 l0_2.length c0_2, .slice A0_3 l0_3.length c0_3, .slice A0_4 l0_4.length c0_4, .slice A0_5 l0_5.length c0_5, .slice A0_6 l0_6.length c0_6], .int .u64 a1, .int .i64 a2] w fun e w' => e = .returned (.agg #[.int .u64 r1, .int .u64 r2, .int .u64 r3, .int .i64 r4, .int .i64 r5, .bool r6]) ∧ Below w.heap.size w w' := by
 have hu28 := Try.underlying28
 have hu37 := Try.underlying37
 have hu35 := Try.underlying35
 have HR0_1 := am hr0_1
 have HC0_1 := am hc0_1
 clear hr0_1 hc0_1
 have HR0_2 := am hr0_2
 have HC0_2 := am hc0_2
 clear hr0_2 hc0_2
 have HR0_3 := am hr0_3
 have HC0_3 := am hc0_3
 clear hr0_3 hc0_3
 have HR0_4 := am hr0_4
 have HC0_4 := am hc0_4
 clear hr0_4 hc0_4
 have HR0_5 := am hr0_5
 have HC0_5 := am hc0_5
 clear hr0_5 hc0_5
 have HR0_6 := am hr0_6
 have HC0_6 := am hc0_6
 clear hr0_6 hc0_6
 have HB := am (Below.refl w.heap.size w)
 have H : (if 0 ≤ a2 then (if a2 < (l0_3.length : Int) then ((curtilageref10_At.f k a0_0 l0_1 l0_2 l0_3 l0_4 l0_5 l0_6 ((rd_T35 l0_3 a2).f2) ((rd_T35 l0_3 a2).f3)).bind fun t459 => (if 0 ≤ t459 then (if t459 < (l0_2.length : Int) then ((curtilageref17_Perms.f k ((rd_T67 l0_2 t459).f2)).bind fun t461 => (some (IntKind.u64.wrap (a1 + ((rd_T35 l0_3 a2).f2)), IntKind.u64.wrap ((IntKind.u64.wrap (a1 + ((rd_T35 l0_3 a2).f2))) + ((rd_T35 l0_3 a2).f3)), IntKind.u64.wrap (a1 + ((rd_T35 l0_3 a2).f2)), t461, (-1), true))) else (none)) else (none))) else (none)) else (none)) = some (r1, r2, r3, r4, r5, r6) := h
 clear h
 by_cases c4 : 0 ≤ a2
 ·rw [if_pos c4] at H
  have c4b0 : decide (0 ≤ a2) = true := decide_eq_true c4
  clear c4
  by_cases c5 : a2 < (l0_3.length : Int)
  ·rw [if_pos c5] at H
   have c5b0 : decide (a2 < (l0_3.length : Int)) = true := decide_eq_true c5
   clear c5
   replace H := Option.bind_eq_some_iff.mp H
   obtain ⟨t459, A60, H⟩ := H
   replace H : (if 0 ≤ t459 then (if t459 < (l0_2.length : Int) then ((curtilageref17_Perms.f k ((rd_T67 l0_2 t459).f2)).bind fun t461 => (some (IntKind.u64.wrap (a1 + ((rd_T35 l0_3 a2).f2)), IntKind.u64.wrap ((IntKind.u64.wrap (a1 + ((rd_T35 l0_3 a2).f2))) + ((rd_T35 l0_3 a2).f3)), IntKind.u64.wrap (a1 + ((rd_T35 l0_3 a2).f2)), t461, (-1), true))) else (none)) else (none)) = some (r1, r2, r3, r4, r5, r6) := H
   have A6 := am A60
   clear A60
   by_cases c7 : 0 ≤ t459
   ·rw [if_pos c7] at H
    have c7b0 : decide (0 ≤ t459) = true := decide_eq_true c7
    clear c7
    by_cases c8 : t459 < (l0_2.length : Int)
    ·rw [if_pos c8] at H
     have c8b0 : decide (t459 < (l0_2.length : Int)) = true := decide_eq_true c8
     clear c8
     replace H := Option.bind_eq_some_iff.mp H
     obtain ⟨t461, A90, H⟩ := H
     replace H : (some (IntKind.u64.wrap (a1 + ((rd_T35 l0_3 a2).f2)), IntKind.u64.wrap ((IntKind.u64.wrap (a1 + ((rd_T35 l0_3 a2).f2))) + ((rd_T35 l0_3 a2).f3)), IntKind.u64.wrap (a1 + ((rd_T35 l0_3 a2).f2)), t461, (-1), true)) = some (r1, r2, r3, r4, r5, r6) := H
     have A9 := am A90
     clear A90
     simp only [Option.some.injEq, Prod.mk.injEq] at H
     obtain ⟨rfl, rfl, rfl, rfl, rfl, rfl⟩ := H
     go_enter Try.func9, Try.ntmps9
     try go_wp2_with (first | ((with_reducible refine gate_dst (N := 3) rfl ?_); refine box_event ?hg (N := 3) ?hd (cs := #[.string a0_0, .slice A0_1 l0_1.length c0_1, .slice A0_2 l0_2.length c0_2, .slice A0_3 l0_3.length c0_3, .slice A0_4 l0_4.length c0_4, .slice A0_5 l0_5.length c0_5, .slice A0_6 l0_6.length c0_6]) (t := 28) ?hr ?_; (case hd => rfl); (case hg => rfl); (case hr => first | (go_simp; done) | (go_simp; rfl)); intro gb455 hg w10 hbox hb; have n0_ := bs HB hb; have n1_ := am (hbox); have n2_ := nz HB hg; have n3_ := nz HB hg; revert n0_ n1_ n2_ n3_; clear HB; intro HB BK455 GW455 GE455; clear hb hbox hg) | ((with_reducible refine gate_dst (N := 6) rfl ?_); refine box_event ?hg (N := 6) ?hd (cs := #[.int .u64 0, .int .u64 0, .int .u64 0, .int .i64 0, .int .i64 0, .bool false]) (t := 37) ?hr ?_; (case hd => rfl); (case hg => rfl); (case hr => first | (go_simp; done) | (go_simp; rfl)); intro gb456 hg w11 hbox hb; have n0_ := bw BK455 hb; have n1_ := bs HB hb; have n2_ := am (hbox); have n3_ := nz HB hg; have n4_ := nz HB hg; have n5_ := nl BK455 hg; have n6_ := nr BK455 hg; revert n0_ n1_ n2_ n3_ n4_ n5_ n6_; clear BK455 HB; intro BK455 HB BK456 GW456 GE456 NB455_456 NB456_455; clear hb hbox hg; have hnb12 := NB455_456.out; have hnc12 := NB456_455.out; obtain ⟨hcz13_0, hcz13_1, hcz13_2, hcz13_3, hcz13_4, hcz13_5, hcz13_6, hfz13_0, hfz13_1, hfz13_2, hfz13_3, hfz13_4, hfz13_5, hfz13_6⟩ := cells7 BK455.out; have p457 : 0 ≤ (a2 : Int) := ud; have q457 : a2 < (l0_3.length : Int) := ud; obtain ⟨ad457, e457, hx457_0, hx457_1, hx457_2, hx457_3, hx457_4, hx457_5, hx457_6, hx457_7⟩ := at_T35 HR0_3.out a2 p457 q457; cases e457; replace hx457_0 := bcel HB hx457_0; replace hx457_1 := bcel HB hx457_1; replace hx457_2 := bcel HB hx457_2; replace hx457_3 := bcel HB hx457_3; replace hx457_4 := bcel HB hx457_4; replace hx457_5 := bcel HB hx457_5; replace hx457_6 := bcel HB hx457_6; replace hx457_7 := bcel HB hx457_7; replace p457 := eq_true p457; replace q457 := eq_true q457) | ((with_reducible refine gate_dst (N := 7) rfl ?_); refine box_event ?hg (N := 7) ?hd (cs := #[.string (⟨#[]⟩ : ByteArray), .string (⟨#[]⟩ : ByteArray), .int .u64 0, .int .u64 0, .int .i64 0, .int .i64 0, .int .i64 0, .bool false]) (t := 35) ?hr ?_; (case hd => rfl); (case hg => rfl); (case hr => first | (go_simp; done) | (go_simp; rfl)); intro gb458 hg w14 hbox hb; have n0_ := bw BK455 hb; have n1_ := bw BK456 hb; have n2_ := bs HB hb; have n3_ := am (hbox); have n4_ := nz HB hg; have n5_ := nz HB hg; have n6_ := nl BK455 hg; have n7_ := nr BK455 hg; have n8_ := nl BK456 hg; have n9_ := nr BK456 hg; revert n0_ n1_ n2_ n3_ n4_ n5_ n6_ n7_ n8_ n9_; clear BK455 BK456 HB; intro BK455 BK456 HB BK458 GW458 GE458 NB455_458 NB458_455 NB456_458 NB458_456; clear hb hbox hg; have hnb15 := NB458_455.out; have hnc15 := NB455_458.out; have hnb16 := NB458_456.out; have hnc16 := NB456_458.out; obtain ⟨hcz17_0, hcz17_1, hcz17_2, hcz17_3, hcz17_4, hcz17_5, hcz17_6, hcz17_7, hfz17_0, hfz17_1, hfz17_2, hfz17_3, hfz17_4, hfz17_5, hfz17_6, hfz17_7⟩ := cells8 BK458.out) | ((with_reducible refine gate_store (t := 35) (p := 7) rfl ?_); refine store_event (t := 35) (p := 7) (v := ?vo_w18) (w1 := ((((((((w14.setCell ⟨gb458, 0, none⟩ (.string ((rd_T35 l0_3 a2).f0))).setCell ⟨gb458, 1, none⟩ (.string ((rd_T35 l0_3 a2).f1))).setCell ⟨gb458, 2, none⟩ (.int .u64 ((rd_T35 l0_3 a2).f2))).setCell ⟨gb458, 3, none⟩ (.int .u64 ((rd_T35 l0_3 a2).f3))).setCell ⟨gb458, 4, none⟩ (.int .i64 ((rd_T35 l0_3 a2).f4))).setCell ⟨gb458, 5, none⟩ (.int .i64 ((rd_T35 l0_3 a2).f5))).setCell ⟨gb458, 6, none⟩ (.int .i64 ((rd_T35 l0_3 a2).f6))).setCell ⟨gb458, 7, none⟩ (.bool ((rd_T35 l0_3 a2).f7)))) ?hg ?ho ?hn ?hr ?_; (case ho => rfl); (case hg => rfl); (case hn => rfl); (case hr => first | (go_simp; done) | (go_simp; rfl)); intro w18 hw; have n0_ := bf8 hw NB455_458 BK455; have n1_ := bf8 hw NB456_458 BK456; have n2_ := bp8 #[.string ((rd_T35 l0_3 a2).f0), .string ((rd_T35 l0_3 a2).f1), .int .u64 ((rd_T35 l0_3 a2).f2), .int .u64 ((rd_T35 l0_3 a2).f3), .int .i64 ((rd_T35 l0_3 a2).f4), .int .i64 ((rd_T35 l0_3 a2).f5), .int .i64 ((rd_T35 l0_3 a2).f6), .bool ((rd_T35 l0_3 a2).f7)] hw BK458; have n3_ : Aside0 (Below w.heap.size w w18) := ⟨(by rw [hw]; exact (uc HB.out))⟩; revert n0_ n1_ n2_ n3_; clear hw BK455 BK456 BK458 HB; intro BK455 BK456 BK458 HB; obtain ⟨hcz19_0, hcz19_1, hcz19_2, hcz19_3, hcz19_4, hcz19_5, hcz19_6, hcz19_7, hfz19_0, hfz19_1, hfz19_2, hfz19_3, hfz19_4, hfz19_5, hfz19_6, hfz19_7⟩ := cells8 BK458.out))
     have n0_ := am (blk_drew BK455.out)
     have n1_ := am (blk_drew BK456.out)
     have n2_ := am (blk_drew BK458.out)
     have n3_ := am (below_drew1 HB.out)
     revert n0_ n1_ n2_ n3_
     clear BK455 BK456 BK458 HB
     intro BK455 BK456 BK458 HB
     have p460 : 0 ≤ (t459 : Int) := ud
     have q460 : t459 < (l0_2.length : Int) := ud
     obtain ⟨ad460, A460_3, c460_3, e460, hx460_0, hx460_1, hx460_2, hx460_3, hl460_3, hi460_3⟩ := at_T67 HR0_2.out t459 p460 q460
     have hw460_3 := hx460_3
     have hw460_2 := hx460_2
     have hw460_1 := hx460_1
     have hw460_0 := hx460_0
     cases e460
     replace hx460_0 := bcel HB hx460_0
     replace hx460_1 := bcel HB hx460_1
     replace hx460_2 := bcel HB hx460_2
     replace hx460_3 := bcel HB hx460_3
     have HR460_3 := am hi460_3
     have HC460_3 := am hl460_3
     clear hi460_3 hl460_3
     replace p460 := eq_true p460
     replace q460 := eq_true q460
     refine start_ (n := 13) (S := fun w' => w'.cell? ⟨gb455, 0, none⟩ = some (.string a0_0) ∧ w'.cell? ⟨gb455, 1, none⟩ = some (.slice A0_1 l0_1.length c0_1) ∧ w'.cell? ⟨gb455, 2, none⟩ = some (.slice (some ad460) l0_2.length c0_2) ∧ w'.cell? ⟨gb455, 3, none⟩ = some (.slice (some ad457) l0_3.length c0_3) ∧ w'.cell? ⟨gb455, 4, none⟩ = some (.slice A0_4 l0_4.length c0_4) ∧ w'.cell? ⟨gb455, 5, none⟩ = some (.slice A0_5 l0_5.length c0_5) ∧ w'.cell? ⟨gb455, 6, none⟩ = some (.slice A0_6 l0_6.length c0_6) ∧ w'.cell? ⟨gb458, 0, none⟩ = some (.string ((rd_T35 l0_3 a2).f0)) ∧ w'.cell? ⟨gb458, 1, none⟩ = some (.string ((rd_T35 l0_3 a2).f1)) ∧ w'.cell? ⟨gb458, 2, none⟩ = some (.int .u64 ((rd_T35 l0_3 a2).f2)) ∧ w'.cell? ⟨gb458, 3, none⟩ = some (.int .u64 ((rd_T35 l0_3 a2).f3)) ∧ w'.cell? ⟨gb458, 4, none⟩ = some (.int .i64 ((rd_T35 l0_3 a2).f4)) ∧ w'.cell? ⟨gb458, 5, none⟩ = some (.int .i64 ((rd_T35 l0_3 a2).f5)) ∧ w'.cell? ⟨gb458, 6, none⟩ = some (.int .i64 ((rd_T35 l0_3 a2).f6)) ∧ w'.cell? ⟨gb458, 7, none⟩ = some (.bool ((rd_T35 l0_3 a2).f7)) ∧ w'.cell? (ad460.add ((t459).toNat * 4)) = some (.int .u64 ((rd_T67 l0_2 t459).f0)) ∧ w'.cell? ⟨(ad460.add ((t459).toNat * 4)).block, (ad460.add ((t459).toNat * 4)).off + 1, none⟩ = some (.int .u64 ((rd_T67 l0_2 t459).f1)) ∧ w'.cell? ⟨(ad460.add ((t459).toNat * 4)).block, (ad460.add ((t459).toNat * 4)).off + 2, none⟩ = some (.int .i64 ((rd_T67 l0_2 t459).f2)) ∧ w'.cell? ⟨(ad460.add ((t459).toNat * 4)).block, (ad460.add ((t459).toNat * 4)).off + 3, none⟩ = some (.slice A460_3 ((rd_T67 l0_2 t459).f3).length c460_3)) (ds := []) #[false, false, false, false, false, false, false, false, false, false, false, false, false] (by kernel_rfl) rfl rfl ⟨cz BK455 0, cz BK455 1, cz BK455 2, cz BK455 3, cz BK455 4, cz BK455 5, cz BK455 6, cz BK458 0, cz BK458 1, cz BK458 2, cz BK458 3, cz BK458 4, cz BK458 5, cz BK458 6, cz BK458 7, (bcel HB hw460_0 :), (bcel HB hw460_1 :), (bcel HB hw460_2 :), (bcel HB hw460_3 :)⟩ (fun hHeld => ?_); refine with_tabW curtilageref18_Data.tab3 curtilageref18_Data.bits3 (fun HT_ HW_ => ?_)
     generalize w18.drew = w20 at BK455 BK456 BK458 HB HR460_3 hx460_0 hx460_1 hx460_2 hx460_3 hHeld ⊢
     refine pv 0 19 (bA 13 1) HT_ ?_
     refine pv 3 22 (bA 13 9) HT_ ?_
     refine pv 5 24 (bA 13 41) HT_ ?_
     refine tv 1 20 (bA 13 43) HT_ HW_ hHeld ?_ (hy := by rintro w' ⟨s0, s1, s2, s3, s4, s5, s6, s7, s8, s9, s10, s11, s12, s13, s14, s15, s16, s17, s18⟩; go_simp; with_reducible rfl)
     refine tv 2 21 (bA 13 47) HT_ HW_ hHeld ?_ (hy := by rintro w' ⟨s0, s1, s2, s3, s4, s5, s6, s7, s8, s9, s10, s11, s12, s13, s14, s15, s16, s17, s18⟩; go_simp; with_reducible rfl)
     refine tv 4 23 (bA 13 63) HT_ HW_ hHeld ?_ (hy := by rintro w' ⟨s0, s1, s2, s3, s4, s5, s6, s7, s8, s9, s10, s11, s12, s13, s14, s15, s16, s17, s18⟩; go_simp; with_reducible rfl)
     refine tv 6 25 (bA 13 127) HT_ HW_ hHeld ?_ (hy := by rintro w' ⟨s0, s1, s2, s3, s4, s5, s6, s7, s8, s9, s10, s11, s12, s13, s14, s15, s16, s17, s18⟩; go_simp; with_reducible rfl)
     refine one_ (i := 7) (N := some 26) #[true, true, true, true, true, true, true, true, false, false, false, false, false] rfl rfl (one_of HT_.out (by kernel_rfl)) (by decide) (fun K hK => ?_)
     refine goes_ Try.func28 (by kernel_rfl) rfl #[.agg #[.string a0_0, .slice A0_1 l0_1.length c0_1, .slice (some ad460) l0_2.length c0_2, .slice (some ad457) l0_3.length c0_3, .slice A0_4 l0_4.length c0_4, .slice A0_5 l0_5.length c0_5, .slice A0_6 l0_6.length c0_6], .int .u64 ((rd_T35 l0_3 a2).f2), .int .u64 ((rd_T35 l0_3 a2).f3)] (by rfl) rfl rfl (by (try simp only [List.map_toArray, List.map_cons, List.map_nil]); first | done | rfl | (simp only [List.length_drop, List.length_take]; rfl)) ?_
     with_reducible refine (curtilageref10_At.calls k a0_0 _ _ l0_1 _ _ l0_2 _ _ l0_3 _ _ l0_4 _ _ l0_5 _ _ l0_6 ((rd_T35 l0_3 a2).f2) ((rd_T35 l0_3 a2).f3) t459 _ ?side1 ?side2 ?side3 ?side4 ?side5 ?side6 ?side7 ?side8 ?side9 ?side10 ?side11 ?side12 A6.out).mono ?_
     (case side1 => exact us (Kd.C_below HR0_1.out HB.out))
     (case side2 => exact HC0_1.out)
     (case side3 => exact us (Kd.C_below HR0_2.out HB.out))
     (case side4 => exact HC0_2.out)
     (case side5 => exact us (Kd.C_below HR0_3.out HB.out))
     (case side6 => exact HC0_3.out)
     (case side7 => exact us (Kd.C_below HR0_4.out HB.out))
     (case side8 => exact HC0_4.out)
     (case side9 => exact us (Kd.C_below HR0_5.out HB.out))
     (case side10 => exact HC0_5.out)
     (case side11 => exact us (Kd.C_below HR0_6.out HB.out))
     (case side12 => exact HC0_6.out)
     rintro e w21 ⟨rfl, hb⟩
     refine ⟨_, rfl, ?_⟩
     have n0_ := bw BK455 hb
     have n1_ := bw BK456 hb
     have n2_ := bw BK458 hb
     have n3_ := bs HB hb
     revert n0_ n1_ n2_ n3_
     clear BK455 BK456 BK458 HB
     intro BK455 BK456 BK458 HB
     (try clear hb)
     (try clear hb2)
     (try clear hk)
     (try clear hi)
     refine hK.out _ _ ⟨cz BK455 0, cz BK455 1, cz BK455 2, cz BK455 3, cz BK455 4, cz BK455 5, cz BK455 6, cz BK458 0, cz BK458 1, cz BK458 2, cz BK458 3, cz BK458 4, cz BK458 5, cz BK458 6, cz BK458 7, (bcel HB hw460_0 :), (bcel HB hw460_1 :), (bcel HB hw460_2 :), (bcel HB hw460_3 :)⟩ (fun hHeld => ?_)
     clear hK K
     refine norm_ (a' := ?_) ?_ ?_
     rotate_left
     ·show Act.put _ (some 26) _ = _
      simp only [Act.put, List.setIfInBounds_toArray, List.set_cons_zero, List.set_cons_succ, i64_w, i32_w]
      rfl
     refine pv 8 27 (bA 13 511) HT_ ?_
     refine pv 9 28 (bA 13 1023) HT_ ?_
     refine tv 10 29 (bA 13 2047) HT_ HW_ hHeld ?_ (hy := by rintro w' ⟨s0, s1, s2, s3, s4, s5, s6, s7, s8, s9, s10, s11, s12, s13, s14, s15, s16, s17, s18⟩; go_simp; with_reducible rfl)
     refine one_ (i := 11) (N := some 30) #[true, true, true, true, true, true, true, true, true, true, true, true, false] rfl rfl (one_of HT_.out (by kernel_rfl)) (by decide) (fun K hK => ?_)
     refine goes_ Try.func27 (by kernel_rfl) rfl #[.int .i64 ((rd_T67 l0_2 t459).f2)] (by rfl) rfl rfl (by (try simp only [List.map_toArray, List.map_cons, List.map_nil]); first | done | rfl | (simp only [List.length_drop, List.length_take]; rfl)) ?_
     with_reducible refine (curtilageref17_Perms.calls k ((rd_T67 l0_2 t459).f2) t461 _ A9.out).mono ?_
     rintro e w' ⟨rfl, ⟨nd, rfl⟩⟩
     have n0_ := am (blk_drewN BK455.out nd)
     have n1_ := am (blk_drewN BK456.out nd)
     have n2_ := am (blk_drewN BK458.out nd)
     have nh_ := am (pw_below_drewN HB.out nd)
     clear BK455 BK456 BK458 HB
     have BK455 := n0_
     have BK456 := n1_
     have BK458 := n2_
     have HB := nh_
     clear n0_ n1_ n2_ nh_
     generalize w21.drewN nd = w21 at BK455 BK456 BK458 HB ⊢
     refine ⟨_, rfl, ?_⟩
     refine hK.out _ _ ⟨cz BK455 0, cz BK455 1, cz BK455 2, cz BK455 3, cz BK455 4, cz BK455 5, cz BK455 6, cz BK458 0, cz BK458 1, cz BK458 2, cz BK458 3, cz BK458 4, cz BK458 5, cz BK458 6, cz BK458 7, (bcel HB hw460_0 :), (bcel HB hw460_1 :), (bcel HB hw460_2 :), (bcel HB hw460_3 :)⟩ (fun hHeld => ?_)
     clear hK K
     refine norm_ (a' := ?_) ?_ ?_
     rotate_left
     ·show Act.put _ (some 30) _ = _
      simp only [Act.put, List.setIfInBounds_toArray, List.set_cons_zero, List.set_cons_succ, i64_w, i32_w]
      rfl
     refine pv 12 9 (bA 13 8191) HT_ ?_
     refine done_ (done_of HT_.out (by kernel_rfl)) ?_
     have hcz22_0 : w21.cell? ⟨gb458, 0, none⟩ = some (.string ((rd_T35 l0_3 a2).f0)) := cz BK458 0
     have hcz22_1 : w21.cell? ⟨gb458, 1, none⟩ = some (.string ((rd_T35 l0_3 a2).f1)) := cz BK458 1
     have hcz22_2 : w21.cell? ⟨gb458, 2, none⟩ = some (.int .u64 ((rd_T35 l0_3 a2).f2)) := cz BK458 2
     have hcz22_3 : w21.cell? ⟨gb458, 3, none⟩ = some (.int .u64 ((rd_T35 l0_3 a2).f3)) := cz BK458 3
     have hcz22_4 : w21.cell? ⟨gb458, 4, none⟩ = some (.int .i64 ((rd_T35 l0_3 a2).f4)) := cz BK458 4
     have hcz22_5 : w21.cell? ⟨gb458, 5, none⟩ = some (.int .i64 ((rd_T35 l0_3 a2).f5)) := cz BK458 5
     have hcz22_6 : w21.cell? ⟨gb458, 6, none⟩ = some (.int .i64 ((rd_T35 l0_3 a2).f6)) := cz BK458 6
     have hcz22_7 : w21.cell? ⟨gb458, 7, none⟩ = some (.bool ((rd_T35 l0_3 a2).f7)) := cz BK458 7
     have hfz22_0 := fz BK458 0
     have hfz22_1 := fz BK458 1
     have hfz22_2 := fz BK458 2
     have hfz22_3 := fz BK458 3
     have hfz22_4 := fz BK458 4
     have hfz22_5 := fz BK458 5
     have hfz22_6 := fz BK458 6
     have hfz22_7 := fz BK458 7
     have hcz23_0 : w21.cell? ⟨gb456, 0, none⟩ = some (.int .u64 0) := cz BK456 0
     have hcz23_1 : w21.cell? ⟨gb456, 1, none⟩ = some (.int .u64 0) := cz BK456 1
     have hcz23_2 : w21.cell? ⟨gb456, 2, none⟩ = some (.int .u64 0) := cz BK456 2
     have hcz23_3 : w21.cell? ⟨gb456, 3, none⟩ = some (.int .i64 0) := cz BK456 3
     have hcz23_4 : w21.cell? ⟨gb456, 4, none⟩ = some (.int .i64 0) := cz BK456 4
     have hcz23_5 : w21.cell? ⟨gb456, 5, none⟩ = some (.bool false) := cz BK456 5
     have hfz23_0 := fz BK456 0
     have hfz23_1 := fz BK456 1
     have hfz23_2 := fz BK456 2
     have hfz23_3 := fz BK456 3
     have hfz23_4 := fz BK456 4
     have hfz23_5 := fz BK456 5
     try go_wp2_with (first | ((with_reducible refine gate_store (t := 37) (p := 6) rfl ?_); refine store_event (t := 37) (p := 6) (v := ?vo_w24) (w1 := ((((((w21.setCell ⟨gb456, 0, none⟩ (.int .u64 (IntKind.u64.wrap (a1 + ((rd_T35 l0_3 a2).f2))))).setCell ⟨gb456, 1, none⟩ (.int .u64 (IntKind.u64.wrap ((IntKind.u64.wrap (a1 + ((rd_T35 l0_3 a2).f2))) + ((rd_T35 l0_3 a2).f3))))).setCell ⟨gb456, 2, none⟩ (.int .u64 (IntKind.u64.wrap (a1 + ((rd_T35 l0_3 a2).f2))))).setCell ⟨gb456, 3, none⟩ (.int .i64 t461)).setCell ⟨gb456, 4, none⟩ (.int .i64 (-1))).setCell ⟨gb456, 5, none⟩ (.bool true))) ?hg ?ho ?hn ?hr ?_; (case ho => rfl); (case hg => rfl); (case hn => rfl); (case hr => first | (go_simp; done) | (go_simp; rfl)); intro w24 hw; have n0_ := bf6 hw NB455_456 BK455; have n1_ := bp6 #[.int .u64 (IntKind.u64.wrap (a1 + ((rd_T35 l0_3 a2).f2))), .int .u64 (IntKind.u64.wrap ((IntKind.u64.wrap (a1 + ((rd_T35 l0_3 a2).f2))) + ((rd_T35 l0_3 a2).f3))), .int .u64 (IntKind.u64.wrap (a1 + ((rd_T35 l0_3 a2).f2))), .int .i64 t461, .int .i64 (-1), .bool true] hw BK456; have n2_ := bf6 hw NB458_456 BK458; have n3_ : Aside0 (Below w.heap.size w w24) := ⟨(by rw [hw]; exact (uc HB.out))⟩; revert n0_ n1_ n2_ n3_; clear hw BK455 BK456 BK458 HB; intro BK455 BK456 BK458 HB))
     refine bodyPost_ret (results_cell_row rfl _ _ gb456 37 #[.int .u64 (IntKind.u64.wrap (a1 + ((rd_T35 l0_3 a2).f2))), .int .u64 (IntKind.u64.wrap ((IntKind.u64.wrap (a1 + ((rd_T35 l0_3 a2).f2))) + ((rd_T35 l0_3 a2).f3))), .int .u64 (IntKind.u64.wrap (a1 + ((rd_T35 l0_3 a2).f2))), .int .i64 t461, .int .i64 (-1), .bool true] (0, 0) _ rfl (ub BK456.out) Try.underlying37 rfl (by kernel_rfl)) rfl ?_
     exact ⟨by first | rfl | (simp [errW_none, errW_some] <;> rfl) | (simp [*, errW_none, errW_some] <;> rfl), uc HB.out⟩
    ·rw [if_neg c8] at H
     exact absurd H (by simp)
   ·rw [if_neg c7] at H
    exact absurd H (by simp)
  ·rw [if_neg c5] at H
   exact absurd H (by simp)
 ·rw [if_neg c4] at H
  exact absurd H (by simp)

def curtilageref17_Part.f (k : Nat) (a0_0 : ByteArray) (l0_1 : List ByteArray) (l0_2 : List (S67)) (l0_3 : List (S35)) (l0_4 : List (S72)) (l0_5 : List Int) (l0_6 : List Int) (a1 : Int) (a2 : Int) : Option (Int × Int × Int × Int × Int × Bool) := if 0 ≤ a2 then (if a2 < (l0_2.length : Int) then ((curtilageref17_Perms.f k ((rd_T67 l0_2 a2).f2)).bind fun t466 => (some (IntKind.u64.wrap (a1 + ((rd_T67 l0_2 a2).f0)), IntKind.u64.wrap ((IntKind.u64.wrap (a1 + ((rd_T67 l0_2 a2).f0))) + ((rd_T67 l0_2 a2).f1)), IntKind.u64.wrap (a1 + ((rd_T67 l0_2 a2).f0)), t466, (-1), true))) else (none)) else (none)
theorem curtilageref17_Part.mono : ∀ a0 a1 a2 a3 a4 a5 a6 a7 a8 k, LeO (curtilageref17_Part.f k a0 a1 a2 a3 a4 a5 a6 a7 a8) (curtilageref17_Part.f (k + 1) a0 a1 a2 a3 a4 a5 a6 a7 a8) := by
  intro a0 a1 a2 a3 a4 a5 a6 a7 a8 k
  unfold curtilageref17_Part.f
  repeat' first
      | (with_reducible exact curtilageref17_Perms.mono _ _)
      | (with_reducible exact LeO.refl _)
      | (with_reducible exact LeO.none _)
      | (with_reducible refine LeO.ite ?_ ?_)
      | (with_reducible refine LeO.bind ?_ (fun _ => ?_))
      | exact curtilageref17_Perms.mono _ _
      | exact LeO.none _
      | refine LeO.ite ?_ ?_
      | refine LeO.bind ?_ (fun _ => ?_)
def curtilageref17_Part.T3 : Bool × List (List Nat × List Nat) := (true, [([], []), ([], []), ([], []), ([2], [2]), ([1, 3], [1, 3]), ([], []), ([], []), ([6], [6]), ([7], [7]), ([0, 4, 5, 8], [0, 4, 5, 8]), ([9, 8, 0, 1, 2, 3, 4, 5, 6, 7, 8, 9], [9])])
def curtilageref17_Part.B3 : List Nat := [0, 0, 0, 4, 14, 0, 0, 64, 192, 511, 1023]
theorem curtilageref17_Part.tab3 : rtab .any (opsOf Try.f32 3) = curtilageref17_Part.T3 := by kernel_rfl
theorem curtilageref17_Part.bits3 : waitsOk curtilageref17_Part.T3.2 curtilageref17_Part.B3 = true := by kernel_rfl
set_option maxHeartbeats 8000000 in
set_option maxRecDepth 100000 in
theorem curtilageref17_Part.calls (k : Nat) (a0_0 : ByteArray) (A0_1 : Option Addr) (c0_1 : Nat) (l0_1 : List ByteArray) (A0_2 : Option Addr) (c0_2 : Nat) (l0_2 : List (S67)) (A0_3 : Option Addr) (c0_3 : Nat) (l0_3 : List (S35)) (A0_4 : Option Addr) (c0_4 : Nat) (l0_4 : List (S72)) (A0_5 : Option Addr) (c0_5 : Nat) (l0_5 : List Int) (A0_6 : Option Addr) (c0_6 : Nat) (l0_6 : List Int) (a1 : Int) (a2 : Int) (r1 : Int) (r2 : Int) (r3 : Int) (r4 : Int) (r5 : Int) (r6 : Bool) (w : World) (hr0_1 : Kd.C Kd.string w A0_1 l0_1.length l0_1) (hc0_1 : l0_1.length ≤ c0_1) (hr0_2 : Kd.C k67 w A0_2 l0_2.length l0_2) (hc0_2 : l0_2.length ≤ c0_2) (hr0_3 : Kd.C k35 w A0_3 l0_3.length l0_3) (hc0_3 : l0_3.length ≤ c0_3) (hr0_4 : Kd.C k72 w A0_4 l0_4.length l0_4) (hc0_4 : l0_4.length ≤ c0_4) (hr0_5 : Kd.C (Kd.int .i64) w A0_5 l0_5.length l0_5) (hc0_5 : l0_5.length ≤ c0_5) (hr0_6 : Kd.C (Kd.int .i64) w A0_6 l0_6.length l0_6) (hc0_6 : l0_6.length ≤ c0_6) (h : curtilageref17_Part.f k a0_0 l0_1 l0_2 l0_3 l0_4 l0_5 l0_6 a1 a2 = some (r1, r2, r3, r4, r5, r6)) :
  Calls Try.prog 32 #[.agg #[.string a0_0, .slice A0_1 l0_1.length c0_1, .slice A0_2 l0_2.length c0_2, .slice A0_3 l0_3.length c0_3, .slice A0_4 l0_4.length c0_4, .slice A0_5 l0_5.length c0_5, .slice A0_6 l0_6.length c0_6], .int .u64 a1, .int .i64 a2] w fun e w' => e = .returned (.agg #[.int .u64 r1, .int .u64 r2, .int .u64 r3, .int .i64 r4, .int .i64 r5, .bool r6]) ∧ Below w.heap.size w w' := by
 have hu28 := Try.underlying28
 have hu37 := Try.underlying37
 have hu67 := Try.underlying67
 have HR0_1 := am hr0_1
 have HC0_1 := am hc0_1
 clear hr0_1 hc0_1
 have HR0_2 := am hr0_2
 have HC0_2 := am hc0_2
 clear hr0_2 hc0_2
 have HR0_3 := am hr0_3
 have HC0_3 := am hc0_3
 clear hr0_3 hc0_3
 have HR0_4 := am hr0_4
 have HC0_4 := am hc0_4
 clear hr0_4 hc0_4
 have HR0_5 := am hr0_5
 have HC0_5 := am hc0_5
 clear hr0_5 hc0_5
 have HR0_6 := am hr0_6
 have HC0_6 := am hc0_6
 clear hr0_6 hc0_6
 have HB := am (Below.refl w.heap.size w)
 have H : (if 0 ≤ a2 then (if a2 < (l0_2.length : Int) then ((curtilageref17_Perms.f k ((rd_T67 l0_2 a2).f2)).bind fun t466 => (some (IntKind.u64.wrap (a1 + ((rd_T67 l0_2 a2).f0)), IntKind.u64.wrap ((IntKind.u64.wrap (a1 + ((rd_T67 l0_2 a2).f0))) + ((rd_T67 l0_2 a2).f1)), IntKind.u64.wrap (a1 + ((rd_T67 l0_2 a2).f0)), t466, (-1), true))) else (none)) else (none)) = some (r1, r2, r3, r4, r5, r6) := h
 clear h
 by_cases c4 : 0 ≤ a2
 ·rw [if_pos c4] at H
  have c4b0 : decide (0 ≤ a2) = true := decide_eq_true c4
  clear c4
  by_cases c5 : a2 < (l0_2.length : Int)
  ·rw [if_pos c5] at H
   have c5b0 : decide (a2 < (l0_2.length : Int)) = true := decide_eq_true c5
   clear c5
   replace H := Option.bind_eq_some_iff.mp H
   obtain ⟨t466, A60, H⟩ := H
   replace H : (some (IntKind.u64.wrap (a1 + ((rd_T67 l0_2 a2).f0)), IntKind.u64.wrap ((IntKind.u64.wrap (a1 + ((rd_T67 l0_2 a2).f0))) + ((rd_T67 l0_2 a2).f1)), IntKind.u64.wrap (a1 + ((rd_T67 l0_2 a2).f0)), t466, (-1), true)) = some (r1, r2, r3, r4, r5, r6) := H
   have A6 := am A60
   clear A60
   simp only [Option.some.injEq, Prod.mk.injEq] at H
   obtain ⟨rfl, rfl, rfl, rfl, rfl, rfl⟩ := H
   go_enter Try.func32, Try.ntmps32
   try go_wp2_with (first | ((with_reducible refine gate_dst (N := 3) rfl ?_); refine box_event ?hg (N := 3) ?hd (cs := #[.string a0_0, .slice A0_1 l0_1.length c0_1, .slice A0_2 l0_2.length c0_2, .slice A0_3 l0_3.length c0_3, .slice A0_4 l0_4.length c0_4, .slice A0_5 l0_5.length c0_5, .slice A0_6 l0_6.length c0_6]) (t := 28) ?hr ?_; (case hd => rfl); (case hg => rfl); (case hr => first | (go_simp; done) | (go_simp; rfl)); intro gb462 hg w7 hbox hb; have n0_ := bs HB hb; have n1_ := am (hbox); have n2_ := nz HB hg; have n3_ := nz HB hg; revert n0_ n1_ n2_ n3_; clear HB; intro HB BK462 GW462 GE462; clear hb hbox hg) | ((with_reducible refine gate_dst (N := 6) rfl ?_); refine box_event ?hg (N := 6) ?hd (cs := #[.int .u64 0, .int .u64 0, .int .u64 0, .int .i64 0, .int .i64 0, .bool false]) (t := 37) ?hr ?_; (case hd => rfl); (case hg => rfl); (case hr => first | (go_simp; done) | (go_simp; rfl)); intro gb463 hg w8 hbox hb; have n0_ := bw BK462 hb; have n1_ := bs HB hb; have n2_ := am (hbox); have n3_ := nz HB hg; have n4_ := nz HB hg; have n5_ := nl BK462 hg; have n6_ := nr BK462 hg; revert n0_ n1_ n2_ n3_ n4_ n5_ n6_; clear BK462 HB; intro BK462 HB BK463 GW463 GE463 NB462_463 NB463_462; clear hb hbox hg; have hnb9 := NB462_463.out; have hnc9 := NB463_462.out; obtain ⟨hcz10_0, hcz10_1, hcz10_2, hcz10_3, hcz10_4, hcz10_5, hcz10_6, hfz10_0, hfz10_1, hfz10_2, hfz10_3, hfz10_4, hfz10_5, hfz10_6⟩ := cells7 BK462.out; have p464 : 0 ≤ (a2 : Int) := ud; have q464 : a2 < (l0_2.length : Int) := ud; obtain ⟨ad464, A464_3, c464_3, e464, hx464_0, hx464_1, hx464_2, hx464_3, hl464_3, hi464_3⟩ := at_T67 HR0_2.out a2 p464 q464; cases e464; replace hx464_0 := bcel HB hx464_0; replace hx464_1 := bcel HB hx464_1; replace hx464_2 := bcel HB hx464_2; replace hx464_3 := bcel HB hx464_3; have HR464_3 := am hi464_3; have HC464_3 := am hl464_3; clear hi464_3 hl464_3; replace p464 := eq_true p464; replace q464 := eq_true q464) | ((with_reducible refine gate_dst (N := 7) rfl ?_); refine box_event ?hg (N := 7) ?hd (cs := #[.int .u64 0, .int .u64 0, .int .i64 0, .slice none 0 0]) (t := 67) ?hr ?_; (case hd => rfl); (case hg => rfl); (case hr => first | (go_simp; done) | (go_simp; rfl)); intro gb465 hg w11 hbox hb; have n0_ := bw BK462 hb; have n1_ := bw BK463 hb; have n2_ := bs HB hb; have n3_ := am (hbox); have n4_ := nz HB hg; have n5_ := nz HB hg; have n6_ := nl BK462 hg; have n7_ := nr BK462 hg; have n8_ := nl BK463 hg; have n9_ := nr BK463 hg; revert n0_ n1_ n2_ n3_ n4_ n5_ n6_ n7_ n8_ n9_; clear BK462 BK463 HB; intro BK462 BK463 HB BK465 GW465 GE465 NB462_465 NB465_462 NB463_465 NB465_463; clear hb hbox hg; have hnb12 := NB465_462.out; have hnc12 := NB462_465.out; have hnb13 := NB465_463.out; have hnc13 := NB463_465.out; obtain ⟨hcz14_0, hcz14_1, hcz14_2, hcz14_3, hfz14_0, hfz14_1, hfz14_2, hfz14_3⟩ := cells4 BK465.out) | ((with_reducible refine gate_store (t := 67) (p := 7) rfl ?_); refine store_event (t := 67) (p := 7) (v := ?vo_w15) (w1 := ((((w11.setCell ⟨gb465, 0, none⟩ (.int .u64 ((rd_T67 l0_2 a2).f0))).setCell ⟨gb465, 1, none⟩ (.int .u64 ((rd_T67 l0_2 a2).f1))).setCell ⟨gb465, 2, none⟩ (.int .i64 ((rd_T67 l0_2 a2).f2))).setCell ⟨gb465, 3, none⟩ (.slice A464_3 ((rd_T67 l0_2 a2).f3).length c464_3))) ?hg ?ho ?hn ?hr ?_; (case ho => rfl); (case hg => rfl); (case hn => rfl); (case hr => first | (go_simp; done) | (go_simp; rfl)); intro w15 hw; have n0_ := bf4 hw NB462_465 BK462; have n1_ := bf4 hw NB463_465 BK463; have n2_ := bp4 #[.int .u64 ((rd_T67 l0_2 a2).f0), .int .u64 ((rd_T67 l0_2 a2).f1), .int .i64 ((rd_T67 l0_2 a2).f2), .slice A464_3 ((rd_T67 l0_2 a2).f3).length c464_3] hw BK465; have n3_ : Aside0 (Below w.heap.size w w15) := ⟨(by rw [hw]; exact (uc HB.out))⟩; revert n0_ n1_ n2_ n3_; clear hw BK462 BK463 BK465 HB; intro BK462 BK463 BK465 HB; obtain ⟨hcz16_0, hcz16_1, hcz16_2, hcz16_3, hfz16_0, hfz16_1, hfz16_2, hfz16_3⟩ := cells4 BK465.out))
   have n0_ := am (blk_drew BK462.out)
   have n1_ := am (blk_drew BK463.out)
   have n2_ := am (blk_drew BK465.out)
   have n3_ := am (below_drew1 HB.out)
   revert n0_ n1_ n2_ n3_
   clear BK462 BK463 BK465 HB
   intro BK462 BK463 BK465 HB
   refine start_ (n := 11) (S := fun w' => w'.cell? ⟨gb465, 0, none⟩ = some (.int .u64 ((rd_T67 l0_2 a2).f0)) ∧ w'.cell? ⟨gb465, 1, none⟩ = some (.int .u64 ((rd_T67 l0_2 a2).f1)) ∧ w'.cell? ⟨gb465, 2, none⟩ = some (.int .i64 ((rd_T67 l0_2 a2).f2)) ∧ w'.cell? ⟨gb465, 3, none⟩ = some (.slice A464_3 ((rd_T67 l0_2 a2).f3).length c464_3)) (ds := []) #[false, false, false, false, false, false, false, false, false, false, false] (by kernel_rfl) rfl rfl ⟨cz BK465 0, cz BK465 1, cz BK465 2, cz BK465 3⟩ (fun hHeld => ?_); refine with_tabW curtilageref17_Part.tab3 curtilageref17_Part.bits3 (fun HT_ HW_ => ?_)
   generalize w15.drew = w17 at BK462 BK463 BK465 HB hHeld ⊢
   refine pv 0 18 (bA 11 1) HT_ ?_
   refine pv 1 19 (bA 11 3) HT_ ?_
   refine pv 2 20 (bA 11 7) HT_ ?_
   refine pv 5 23 (bA 11 39) HT_ ?_
   refine pv 6 24 (bA 11 103) HT_ ?_
   refine tv 3 21 (bA 11 111) HT_ HW_ hHeld ?_ (hy := by rintro w' ⟨s0, s1, s2, s3⟩; go_simp; with_reducible rfl)
   refine pv 4 22 (bA 11 127) HT_ ?_
   refine tv 7 25 (bA 11 255) HT_ HW_ hHeld ?_ (hy := by rintro w' ⟨s0, s1, s2, s3⟩; go_simp; with_reducible rfl)
   refine one_ (i := 8) (N := some 26) #[true, true, true, true, true, true, true, true, true, false, false] rfl rfl (one_of HT_.out (by kernel_rfl)) (by decide) (fun K hK => ?_)
   refine goes_ Try.func27 (by kernel_rfl) rfl #[.int .i64 ((rd_T67 l0_2 a2).f2)] (by rfl) rfl rfl (by (try simp only [List.map_toArray, List.map_cons, List.map_nil]); first | done | rfl | (simp only [List.length_drop, List.length_take]; rfl)) ?_
   with_reducible refine (curtilageref17_Perms.calls k ((rd_T67 l0_2 a2).f2) t466 _ A6.out).mono ?_
   rintro e w' ⟨rfl, ⟨nd, rfl⟩⟩
   refine ⟨_, rfl, ?_⟩
   refine hK.out _ _ ⟨cz BK465 0, cz BK465 1, cz BK465 2, cz BK465 3⟩ (fun hHeld => ?_)
   clear hK K
   refine norm_ (a' := ?_) ?_ ?_
   rotate_left
   ·show Act.put _ (some 26) _ = _
    simp only [Act.put, List.setIfInBounds_toArray, List.set_cons_zero, List.set_cons_succ, i64_w, i32_w]
    rfl
   refine pv 9 27 (bA 11 1023) HT_ ?_
   refine one_ (i := 10) (N := none) #[true, true, true, true, true, true, true, true, true, true, true] rfl rfl (one_of HT_.out (by kernel_rfl)) (by decide) (fun K hK => ?_)
   have hs18 : w17.cell? ⟨gb463, 0, none⟩ = some (.int .u64 0) := cz BK463 0
   have hfs18 := fz BK463 0
   have hns18_0 := NB462_463.out
   have hns18_2 := NB465_463.out
   have hms18_0 := NB463_462.out
   have hms18_2 := NB463_465.out
   have hs19 : w17.cell? ⟨gb463, 1, none⟩ = some (.int .u64 0) := cz BK463 1
   have hfs19 := fz BK463 1
   have hns19_0 := NB462_463.out
   have hns19_2 := NB465_463.out
   have hms19_0 := NB463_462.out
   have hms19_2 := NB463_465.out
   have hs20 : w17.cell? ⟨gb463, 2, none⟩ = some (.int .u64 0) := cz BK463 2
   have hfs20 := fz BK463 2
   have hns20_0 := NB462_463.out
   have hns20_2 := NB465_463.out
   have hms20_0 := NB463_462.out
   have hms20_2 := NB463_465.out
   have hs21 : w17.cell? ⟨gb463, 3, none⟩ = some (.int .i64 0) := cz BK463 3
   have hfs21 := fz BK463 3
   have hns21_0 := NB462_463.out
   have hns21_2 := NB465_463.out
   have hms21_0 := NB463_462.out
   have hms21_2 := NB463_465.out
   have hs22 : w17.cell? ⟨gb463, 4, none⟩ = some (.int .i64 0) := cz BK463 4
   have hfs22 := fz BK463 4
   have hns22_0 := NB462_463.out
   have hns22_2 := NB465_463.out
   have hms22_0 := NB463_462.out
   have hms22_2 := NB463_465.out
   have hs23 : w17.cell? ⟨gb463, 5, none⟩ = some (.bool false) := cz BK463 5
   have hfs23 := fz BK463 5
   have hns23_0 := NB462_463.out
   have hns23_2 := NB465_463.out
   have hms23_0 := NB463_462.out
   have hms23_2 := NB463_465.out
   refine skip_ (w1 := ?_) (by rfl) rfl ?_ ?_
   rotate_left
   ·go_simp
    rfl
   refine hK.out _ _ ⟨((cnf6 (NB465_463.out)).trans (hHeld.1)), ((cnf6 (NB465_463.out)).trans (hHeld.2.1)), ((cnf6 (NB465_463.out)).trans (hHeld.2.2.1)), ((cnf6 (NB465_463.out)).trans (hHeld.2.2.2))⟩ (fun hHeld => ?_)
   clear hK K
   refine done_ (done_of HT_.out (by kernel_rfl)) ?_
   try go_wp2
   refine bodyPost_ret (results_cell_row rfl _ _ gb463 37 #[.int .u64 (IntKind.u64.wrap (a1 + ((rd_T67 l0_2 a2).f0))), .int .u64 (IntKind.u64.wrap ((IntKind.u64.wrap (a1 + ((rd_T67 l0_2 a2).f0))) + ((rd_T67 l0_2 a2).f1))), .int .u64 (IntKind.u64.wrap (a1 + ((rd_T67 l0_2 a2).f0))), .int .i64 t466, .int .i64 (-1), .bool true] (0, 0) _ rfl (by (with_reducible repeat (first | refine blk_drewN ?_ _ | refine blk_drew ?_ | refine blk_alloc ?_ _)); refine blk_put (cs := #[.int .u64 (IntKind.u64.wrap (a1 + ((rd_T67 l0_2 a2).f0))), .int .u64 (IntKind.u64.wrap ((IntKind.u64.wrap (a1 + ((rd_T67 l0_2 a2).f0))) + ((rd_T67 l0_2 a2).f1))), .int .u64 (IntKind.u64.wrap (a1 + ((rd_T67 l0_2 a2).f0))), .int .i64 t466, .int .i64 (-1), .bool false]) ?_ 5 _ rfl; (with_reducible repeat (first | refine blk_drewN ?_ _ | refine blk_drew ?_ | refine blk_alloc ?_ _)); refine blk_put (cs := #[.int .u64 (IntKind.u64.wrap (a1 + ((rd_T67 l0_2 a2).f0))), .int .u64 (IntKind.u64.wrap ((IntKind.u64.wrap (a1 + ((rd_T67 l0_2 a2).f0))) + ((rd_T67 l0_2 a2).f1))), .int .u64 (IntKind.u64.wrap (a1 + ((rd_T67 l0_2 a2).f0))), .int .i64 t466, .int .i64 0, .bool false]) ?_ 4 _ rfl; (with_reducible repeat (first | refine blk_drewN ?_ _ | refine blk_drew ?_ | refine blk_alloc ?_ _)); refine blk_put (cs := #[.int .u64 (IntKind.u64.wrap (a1 + ((rd_T67 l0_2 a2).f0))), .int .u64 (IntKind.u64.wrap ((IntKind.u64.wrap (a1 + ((rd_T67 l0_2 a2).f0))) + ((rd_T67 l0_2 a2).f1))), .int .u64 (IntKind.u64.wrap (a1 + ((rd_T67 l0_2 a2).f0))), .int .i64 0, .int .i64 0, .bool false]) ?_ 3 _ rfl; (with_reducible repeat (first | refine blk_drewN ?_ _ | refine blk_drew ?_ | refine blk_alloc ?_ _)); refine blk_put (cs := #[.int .u64 (IntKind.u64.wrap (a1 + ((rd_T67 l0_2 a2).f0))), .int .u64 (IntKind.u64.wrap ((IntKind.u64.wrap (a1 + ((rd_T67 l0_2 a2).f0))) + ((rd_T67 l0_2 a2).f1))), .int .u64 0, .int .i64 0, .int .i64 0, .bool false]) ?_ 2 _ rfl; (with_reducible repeat (first | refine blk_drewN ?_ _ | refine blk_drew ?_ | refine blk_alloc ?_ _)); refine blk_put (cs := #[.int .u64 (IntKind.u64.wrap (a1 + ((rd_T67 l0_2 a2).f0))), .int .u64 0, .int .u64 0, .int .i64 0, .int .i64 0, .bool false]) ?_ 1 _ rfl; (with_reducible repeat (first | refine blk_drewN ?_ _ | refine blk_drew ?_ | refine blk_alloc ?_ _)); refine blk_put (cs := #[.int .u64 0, .int .u64 0, .int .u64 0, .int .i64 0, .int .i64 0, .bool false]) ?_ 0 _ rfl; (with_reducible repeat (first | refine blk_drewN ?_ _ | refine blk_drew ?_ | refine blk_alloc ?_ _)); exact BK463.out) Try.underlying37 rfl (by kernel_rfl)) rfl ?_
   exact ⟨by first | rfl | (simp [errW_none, errW_some] <;> rfl) | (simp [*, errW_none, errW_some] <;> rfl), uc HB.out⟩
  ·rw [if_neg c5] at H
   exact absurd H (by simp)
 ·rw [if_neg c4] at H
  exact absurd H (by simp)

def curtilageref17_Own.l0 : Nat → Int → Int → ByteArray → List ByteArray → List (S67) → List (S35) → List (S72) → List Int → List Int → Option (Int × Int × Int × Int × Int × Bool)
  | 0, _, _, _, _, _, _, _, _, _ => none
  | k + 1, x1, x5, x468000, x468001, x468002, x468003, x468004, x468005, x468006 => if x5 < (x468002.length : Int) then (if 0 ≤ x5 then (if ((rd_T67 x468002 x5).f2) = 2 then ((curtilageref17_Part.f k x468000 x468001 x468002 x468003 x468004 x468005 x468006 x1 x5).bind fun bt470 => (some (bt470.1, bt470.2.1, bt470.2.2.1, wrap64 (bt470.2.2.2.1 + 128), bt470.2.2.2.2.1, bt470.2.2.2.2.2))) else (if ((rd_T67 x468002 x5).f2) = 3 then ((curtilageref17_Part.f k x468000 x468001 x468002 x468003 x468004 x468005 x468006 x1 x5).bind fun bt477 => (some (bt477.1, bt477.2.1, bt477.2.2.1, wrap64 (bt477.2.2.2.1 + 128), bt477.2.2.2.2.1, bt477.2.2.2.2.2))) else (curtilageref17_Own.l0 k x1 (wrap64 (x5 + 1)) x468000 x468001 x468002 x468003 x468004 x468005 x468006))) else (none)) else (some (x1, x1, x1, 129, (-1), true))
def curtilageref17_Own.f (k : Nat) (a0_0 : ByteArray) (l0_1 : List ByteArray) (l0_2 : List (S67)) (l0_3 : List (S35)) (l0_4 : List (S72)) (l0_5 : List Int) (l0_6 : List Int) (a1 : Int) : Option (Int × Int × Int × Int × Int × Bool) := curtilageref17_Own.l0 k a1 0 a0_0 l0_1 l0_2 l0_3 l0_4 l0_5 l0_6
theorem curtilageref17_Own.mono_l : ∀ k, (∀ y0 y1 y2 y3 y4 y5 y6 y7 y8, LeO (curtilageref17_Own.l0 k y0 y1 y2 y3 y4 y5 y6 y7 y8) (curtilageref17_Own.l0 (k + 1) y0 y1 y2 y3 y4 y5 y6 y7 y8))
  | 0 => fun _ _ _ _ _ _ _ _ _ r h => by simp [curtilageref17_Own.l0] at h
  | k + 1 => by
    have ih0 := curtilageref17_Own.mono_l k
    · intro y0 y1 y2 y3 y4 y5 y6 y7 y8
      unfold curtilageref17_Own.l0
      repeat' first
      | (with_reducible exact ih0 _ _ _ _ _ _ _ _ _)
      | (with_reducible exact curtilageref17_Part.mono _ _ _ _ _ _ _ _ _ _)
      | (with_reducible exact LeO.refl _)
      | (with_reducible exact LeO.none _)
      | (with_reducible refine LeO.ite ?_ ?_)
      | (with_reducible refine LeO.bind ?_ (fun _ => ?_))
      | exact ih0 _ _ _ _ _ _ _ _ _
      | exact curtilageref17_Part.mono _ _ _ _ _ _ _ _ _ _
      | exact LeO.none _
      | refine LeO.ite ?_ ?_
      | refine LeO.bind ?_ (fun _ => ?_)
theorem curtilageref17_Own.mono : ∀ a0 a1 a2 a3 a4 a5 a6 a7 k, LeO (curtilageref17_Own.f k a0 a1 a2 a3 a4 a5 a6 a7) (curtilageref17_Own.f (k + 1) a0 a1 a2 a3 a4 a5 a6 a7) := by
  intro a0 a1 a2 a3 a4 a5 a6 a7 k
  have ih0 := curtilageref17_Own.mono_l k
  unfold curtilageref17_Own.f
  repeat' first
      | (with_reducible exact ih0 _ _ _ _ _ _ _ _ _)
      | (with_reducible exact curtilageref17_Part.mono _ _ _ _ _ _ _ _ _ _)
      | (with_reducible exact LeO.refl _)
      | (with_reducible exact LeO.none _)
      | (with_reducible refine LeO.ite ?_ ?_)
      | (with_reducible refine LeO.bind ?_ (fun _ => ?_))
      | exact ih0 _ _ _ _ _ _ _ _ _
      | exact curtilageref17_Part.mono _ _ _ _ _ _ _ _ _ _
      | exact LeO.none _
      | refine LeO.ite ?_ ?_
      | refine LeO.bind ?_ (fun _ => ?_)
set_option maxHeartbeats 8000000 in
set_option maxRecDepth 100000 in
theorem curtilageref17_Own.calls (k : Nat) (a0_0 : ByteArray) (A0_1 : Option Addr) (c0_1 : Nat) (l0_1 : List ByteArray) (A0_2 : Option Addr) (c0_2 : Nat) (l0_2 : List (S67)) (A0_3 : Option Addr) (c0_3 : Nat) (l0_3 : List (S35)) (A0_4 : Option Addr) (c0_4 : Nat) (l0_4 : List (S72)) (A0_5 : Option Addr) (c0_5 : Nat) (l0_5 : List Int) (A0_6 : Option Addr) (c0_6 : Nat) (l0_6 : List Int) (a1 : Int) (r1 : Int) (r2 : Int) (r3 : Int) (r4 : Int) (r5 : Int) (r6 : Bool) (w : World) (hr0_1 : Kd.C Kd.string w A0_1 l0_1.length l0_1) (hc0_1 : l0_1.length ≤ c0_1) (hr0_2 : Kd.C k67 w A0_2 l0_2.length l0_2) (hc0_2 : l0_2.length ≤ c0_2) (hr0_3 : Kd.C k35 w A0_3 l0_3.length l0_3) (hc0_3 : l0_3.length ≤ c0_3) (hr0_4 : Kd.C k72 w A0_4 l0_4.length l0_4) (hc0_4 : l0_4.length ≤ c0_4) (hr0_5 : Kd.C (Kd.int .i64) w A0_5 l0_5.length l0_5) (hc0_5 : l0_5.length ≤ c0_5) (hr0_6 : Kd.C (Kd.int .i64) w A0_6 l0_6.length l0_6) (hc0_6 : l0_6.length ≤ c0_6) (h : curtilageref17_Own.f k a0_0 l0_1 l0_2 l0_3 l0_4 l0_5 l0_6 a1 = some (r1, r2, r3, r4, r5, r6)) :
  Calls Try.prog 33 #[.agg #[.string a0_0, .slice A0_1 l0_1.length c0_1, .slice A0_2 l0_2.length c0_2, .slice A0_3 l0_3.length c0_3, .slice A0_4 l0_4.length c0_4, .slice A0_5 l0_5.length c0_5, .slice A0_6 l0_6.length c0_6], .int .u64 a1] w fun e w' => e = .returned (.agg #[.int .u64 r1, .int .u64 r2, .int .u64 r3, .int .i64 r4, .int .i64 r5, .bool r6]) ∧ Below w.heap.size w w' := by
 have hu28 := Try.underlying28
 have hu37 := Try.underlying37
 have HR0_1 := am hr0_1
 have HC0_1 := am hc0_1
 clear hr0_1 hc0_1
 have HR0_2 := am hr0_2
 have HC0_2 := am hc0_2
 clear hr0_2 hc0_2
 have HR0_3 := am hr0_3
 have HC0_3 := am hc0_3
 clear hr0_3 hc0_3
 have HR0_4 := am hr0_4
 have HC0_4 := am hc0_4
 clear hr0_4 hc0_4
 have HR0_5 := am hr0_5
 have HC0_5 := am hc0_5
 clear hr0_5 hc0_5
 have HR0_6 := am hr0_6
 have HC0_6 := am hc0_6
 clear hr0_6 hc0_6
 have HB := am (Below.refl w.heap.size w)
 have H : (curtilageref17_Own.l0 k a1 0 a0_0 l0_1 l0_2 l0_3 l0_4 l0_5 l0_6) = some (r1, r2, r3, r4, r5, r6) := h
 clear h
 have H' := am H
 clear H
 go_enter Try.func33, Try.ntmps33
 go_wp2_with (first | ((with_reducible refine gate_dst (N := 2) rfl ?_); refine box_event ?hg (N := 2) ?hd (cs := #[.string a0_0, .slice A0_1 l0_1.length c0_1, .slice A0_2 l0_2.length c0_2, .slice A0_3 l0_3.length c0_3, .slice A0_4 l0_4.length c0_4, .slice A0_5 l0_5.length c0_5, .slice A0_6 l0_6.length c0_6]) (t := 28) ?hr ?_; (case hd => rfl); (case hg => rfl); (case hr => first | (go_simp; done) | (go_simp; rfl)); intro gb467 hg w3 hbox hb; have n0_ := bs HB hb; have n1_ := am (hbox); have n2_ := nz HB hg; have n3_ := nz HB hg; revert n0_ n1_ n2_ n3_; clear HB; intro HB BK467 GW467 GE467; clear hb hbox hg) | ((with_reducible refine gate_dst (N := 4) rfl ?_); refine box_event ?hg (N := 4) ?hd (cs := #[.int .u64 0, .int .u64 0, .int .u64 0, .int .i64 0, .int .i64 0, .bool false]) (t := 37) ?hr ?_; (case hd => rfl); (case hg => rfl); (case hr => first | (go_simp; done) | (go_simp; rfl)); intro gb468 hg w4 hbox hb; have n0_ := bw BK467 hb; have n1_ := bs HB hb; have n2_ := am (hbox); have n3_ := nz HB hg; have n4_ := nz HB hg; have n5_ := nl BK467 hg; have n6_ := nr BK467 hg; revert n0_ n1_ n2_ n3_ n4_ n5_ n6_; clear BK467 HB; intro BK467 HB BK468 GW468 GE468 NB467_468 NB468_467; clear hb hbox hg))
 go_loopg [5] k (fun kq v5 w' => ∃ (x5_1 : Int) (x469000_1 : Int) (x469001_1 : Int) (x469002_1 : Int) (x469003_1 : Int) (x469004_1 : Int) (x469005_1 : Bool), v5 = .int .i64 x5_1 ∧ Aside0 (curtilageref17_Own.l0 kq a1 x5_1 a0_0 l0_1 l0_2 l0_3 l0_4 l0_5 l0_6 = some (r1, r2, r3, r4, r5, r6)) ∧ Aside0 (kq ≤ k) ∧ Aside0 (w'.heap[gb467]? = some (.cells #[.string a0_0, (.slice A0_1 l0_1.length c0_1), (.slice A0_2 l0_2.length c0_2), (.slice A0_3 l0_3.length c0_3), (.slice A0_4 l0_4.length c0_4), (.slice A0_5 l0_5.length c0_5), (.slice A0_6 l0_6.length c0_6)] 28 (0, 0))) ∧ Aside0 (w'.heap[gb468]? = some (.cells #[.int .u64 x469000_1, .int .u64 x469001_1, .int .u64 x469002_1, .int .i64 x469003_1, .int .i64 x469004_1, .bool x469005_1] 37 (0, 0))) ∧ Aside0 (Below w.heap.size w w'))
 case atStart => exact ⟨(0), (0), (0), (0), (0), (0), (false), uf, H', ⟨Nat.le_refl _⟩, ⟨ub BK467.out⟩, ⟨ub BK468.out⟩, ⟨uc HB.out⟩⟩
 case round =>
  clear H'
  try clear p2
  try clear c3
  obtain ⟨x5_1, x469000_1, x469001_1, x469002_1, x469003_1, x469004_1, x469005_1, rfl, HA, HK1, BK467, BK468, HB⟩ := hrel
  cases gk with
  | zero => exact absurd HA.out (by simp [curtilageref17_Own.l0])
  | succ k1 =>
   have H := HA.out
   clear HA
   simp only [curtilageref17_Own.l0] at H
   by_cases c5 : x5_1 < (l0_2.length : Int)
   ·rw [if_pos c5] at H
    have c5b0 : decide (x5_1 < (l0_2.length : Int)) = true := decide_eq_true c5
    clear c5
    by_cases c6 : 0 ≤ x5_1
    ·rw [if_pos c6] at H
     have c6b0 : decide (0 ≤ x5_1) = true := decide_eq_true c6
     clear c6
     by_cases c7 : ((rd_T67 l0_2 x5_1).f2) = 2
     ·rw [if_pos c7] at H
      have c7b0 : (((rd_T67 l0_2 x5_1).f2) == 2) = true := beq_iff_eq.mpr c7
      have c7b1 : (((rd_T67 l0_2 x5_1).f2) != 2) = false := bne_eq_false_iff_eq.mpr c7
      clear c7
      replace H := Option.bind_eq_some_iff.mp H
      obtain ⟨⟨t470, t471, t472, t473, t474, t475⟩, A80, H⟩ := H
      replace H : (some (t470, t471, t472, wrap64 (t473 + 128), t474, t475)) = some (r1, r2, r3, r4, r5, r6) := H
      have A8 := am A80
      clear A80
      simp only [Option.some.injEq, Prod.mk.injEq] at H
      obtain ⟨rfl, rfl, rfl, rfl, rfl, rfl⟩ := H
      have hnb9 := NB467_468.out
      have hnc9 := NB468_467.out
      have hcz10_0 : wr.cell? ⟨gb467, 0, none⟩ = some (.string a0_0) := cz BK467 0
      have hcz10_1 : wr.cell? ⟨gb467, 1, none⟩ = some (.slice A0_1 l0_1.length c0_1) := cz BK467 1
      have hcz10_2 : wr.cell? ⟨gb467, 2, none⟩ = some (.slice A0_2 l0_2.length c0_2) := cz BK467 2
      have hcz10_3 : wr.cell? ⟨gb467, 3, none⟩ = some (.slice A0_3 l0_3.length c0_3) := cz BK467 3
      have hcz10_4 : wr.cell? ⟨gb467, 4, none⟩ = some (.slice A0_4 l0_4.length c0_4) := cz BK467 4
      have hcz10_5 : wr.cell? ⟨gb467, 5, none⟩ = some (.slice A0_5 l0_5.length c0_5) := cz BK467 5
      have hcz10_6 : wr.cell? ⟨gb467, 6, none⟩ = some (.slice A0_6 l0_6.length c0_6) := cz BK467 6
      have hfz10_0 := fz BK467 0
      have hfz10_1 := fz BK467 1
      have hfz10_2 := fz BK467 2
      have hfz10_3 := fz BK467 3
      have hfz10_4 := fz BK467 4
      have hfz10_5 := fz BK467 5
      have hfz10_6 := fz BK467 6
      have p469 : 0 ≤ (x5_1 : Int) := ud
      have q469 : x5_1 < (l0_2.length : Int) := ud
      obtain ⟨ad469, A469_3, c469_3, e469, hx469_0, hx469_1, hx469_2, hx469_3, hl469_3, hi469_3⟩ := at_T67 HR0_2.out x5_1 p469 q469
      cases e469
      replace hx469_0 := bcel HB hx469_0
      replace hx469_1 := bcel HB hx469_1
      replace hx469_2 := bcel HB hx469_2
      replace hx469_3 := bcel HB hx469_3
      have HR469_3 := am hi469_3
      have HC469_3 := am hl469_3
      clear hi469_3 hl469_3
      replace p469 := eq_true p469
      replace q469 := eq_true q469
      go_wp2_with (first | ((with_reducible refine gate_dst (N := 30) rfl ?_); (with_reducible refine gate_callee (f := 32) rfl ?_); refine gl (some 30) Try.func32 #[.agg #[.string a0_0, .slice A0_1 l0_1.length c0_1, .slice (some ad469) l0_2.length c0_2, .slice A0_3 l0_3.length c0_3, .slice A0_4 l0_4.length c0_4, .slice A0_5 l0_5.length c0_5, .slice A0_6 l0_6.length c0_6], .int .u64 a1, .int .i64 x5_1] ?_; (with_reducible refine (curtilageref17_Part.calls k1 a0_0 _ _ l0_1 _ _ l0_2 _ _ l0_3 _ _ l0_4 _ _ l0_5 _ _ l0_6 a1 x5_1 t470 t471 t472 t473 t474 t475 _ ?side1 ?side2 ?side3 ?side4 ?side5 ?side6 ?side7 ?side8 ?side9 ?side10 ?side11 ?side12 A8.out).mono ?_); (case side1 => exact us (Kd.C_below HR0_1.out HB.out)); (case side2 => exact HC0_1.out); (case side3 => exact us (Kd.C_below HR0_2.out HB.out)); (case side4 => exact HC0_2.out); (case side5 => exact us (Kd.C_below HR0_3.out HB.out)); (case side6 => exact HC0_3.out); (case side7 => exact us (Kd.C_below HR0_4.out HB.out)); (case side8 => exact HC0_4.out); (case side9 => exact us (Kd.C_below HR0_5.out HB.out)); (case side10 => exact HC0_5.out); (case side11 => exact us (Kd.C_below HR0_6.out HB.out)); (case side12 => exact HC0_6.out); rintro e w11 ⟨rfl, hb⟩; refine ⟨_, rfl, ?_⟩; have n0_ := bw BK467 hb; have n1_ := bw BK468 hb; have n2_ := bs HB hb; revert n0_ n1_ n2_; clear BK467 BK468 HB; intro BK467 BK468 HB; (try clear hb)) | ((with_reducible refine gate_dst (N := 7) rfl ?_); refine box_event ?hg (N := 7) ?hd (cs := #[.int .u64 0, .int .u64 0, .int .u64 0, .int .i64 0, .int .i64 0, .bool false]) (t := 37) ?hr ?_; (case hd => rfl); (case hg => rfl); (case hr => first | (go_simp; done) | (go_simp; rfl)); intro gb476 hg w12 hbox hb; have n0_ := bw BK467 hb; have n1_ := bw BK468 hb; have n2_ := bs HB hb; have n3_ := am (hbox); have n4_ := nz HB hg; have n5_ := nz HB hg; have n6_ := nl BK467 hg; have n7_ := nr BK467 hg; have n8_ := nl BK468 hg; have n9_ := nr BK468 hg; revert n0_ n1_ n2_ n3_ n4_ n5_ n6_ n7_ n8_ n9_; clear BK467 BK468 HB; intro BK467 BK468 HB BK476 GW476 GE476 NB467_476 NB476_467 NB468_476 NB476_468; clear hb hbox hg; have hnb13 := NB476_467.out; have hnc13 := NB467_476.out; have hnb14 := NB476_468.out; have hnc14 := NB468_476.out; obtain ⟨hcz15_0, hcz15_1, hcz15_2, hcz15_3, hcz15_4, hcz15_5, hfz15_0, hfz15_1, hfz15_2, hfz15_3, hfz15_4, hfz15_5⟩ := cells6 BK476.out) | ((with_reducible refine gate_store (t := 37) (p := 7) rfl ?_); refine store_event (t := 37) (p := 7) (v := ?vo_w16) (w1 := ((((((w12.setCell ⟨gb476, 0, none⟩ (.int .u64 t470)).setCell ⟨gb476, 1, none⟩ (.int .u64 t471)).setCell ⟨gb476, 2, none⟩ (.int .u64 t472)).setCell ⟨gb476, 3, none⟩ (.int .i64 t473)).setCell ⟨gb476, 4, none⟩ (.int .i64 t474)).setCell ⟨gb476, 5, none⟩ (.bool t475))) ?hg ?ho ?hn ?hr ?_; (case ho => rfl); (case hg => rfl); (case hn => rfl); (case hr => first | (go_simp; done) | (go_simp; rfl)); intro w16 hw; have n0_ := bf6 hw NB467_476 BK467; have n1_ := bf6 hw NB468_476 BK468; have n2_ := bp6 #[.int .u64 t470, .int .u64 t471, .int .u64 t472, .int .i64 t473, .int .i64 t474, .bool t475] hw BK476; have n3_ : Aside0 (Below w.heap.size w w16) := ⟨(by rw [hw]; exact (uc HB.out))⟩; revert n0_ n1_ n2_ n3_; clear hw BK467 BK468 BK476 HB; intro BK467 BK468 BK476 HB; obtain ⟨hcz17_0, hcz17_1, hcz17_2, hcz17_3, hcz17_4, hcz17_5, hfz17_0, hfz17_1, hfz17_2, hfz17_3, hfz17_4, hfz17_5⟩ := cells6 BK476.out; obtain ⟨hcz18_0, hcz18_1, hcz18_2, hcz18_3, hcz18_4, hcz18_5, hfz18_0, hfz18_1, hfz18_2, hfz18_3, hfz18_4, hfz18_5⟩ := cells6 BK468.out) | ((with_reducible refine gate_store (t := 37) (p := 4) rfl ?_); refine store_event (t := 37) (p := 4) (v := ?vo_w19) (w1 := (((((((w16.setCell ⟨gb476, 3, none⟩ (.int .i64 (wrap64 (t473 + 128)))).setCell ⟨gb468, 0, none⟩ (.int .u64 t470)).setCell ⟨gb468, 1, none⟩ (.int .u64 t471)).setCell ⟨gb468, 2, none⟩ (.int .u64 t472)).setCell ⟨gb468, 3, none⟩ (.int .i64 (wrap64 (t473 + 128)))).setCell ⟨gb468, 4, none⟩ (.int .i64 t474)).setCell ⟨gb468, 5, none⟩ (.bool t475))) ?hg ?ho ?hn ?hr ?_; (case ho => rfl); (case hg => rfl); (case hn => rfl); (case hr => first | (go_simp; done) | (go_simp; rfl)); intro w19 hw; have n0_ : Aside0 (w19.heap[gb467]? = some (.cells #[.string a0_0, .slice A0_1 l0_1.length c0_1, .slice (some ad469) l0_2.length c0_2, .slice A0_3 l0_3.length c0_3, .slice A0_4 l0_4.length c0_4, .slice A0_5 l0_5.length c0_5, .slice A0_6 l0_6.length c0_6] 28 (0, 0))) := ⟨(by rw [hw]; exact (by (iterate 6 ((with_reducible repeat (first | refine blk_drewN ?_ _ | refine blk_drew ?_ | refine blk_alloc ?_ _)); refine blk_far ?_ NB467_468.out _)); (with_reducible repeat (first | refine blk_drewN ?_ _ | refine blk_drew ?_ | refine blk_alloc ?_ _)); refine blk_far ?_ NB467_476.out _; (with_reducible repeat (first | refine blk_drewN ?_ _ | refine blk_drew ?_ | refine blk_alloc ?_ _)); exact BK467.out))⟩; have n1_ : Aside0 (w19.heap[gb468]? = some (.cells #[.int .u64 t470, .int .u64 t471, .int .u64 t472, .int .i64 (wrap64 (t473 + 128)), .int .i64 t474, .bool t475] 37 (0, 0))) := ⟨(by rw [hw]; exact (by (with_reducible repeat (first | refine blk_drewN ?_ _ | refine blk_drew ?_ | refine blk_alloc ?_ _)); refine blk_put (cs := #[.int .u64 t470, .int .u64 t471, .int .u64 t472, .int .i64 (wrap64 (t473 + 128)), .int .i64 t474, .bool x469005_1]) ?_ 5 _ rfl; (with_reducible repeat (first | refine blk_drewN ?_ _ | refine blk_drew ?_ | refine blk_alloc ?_ _)); refine blk_put (cs := #[.int .u64 t470, .int .u64 t471, .int .u64 t472, .int .i64 (wrap64 (t473 + 128)), .int .i64 x469004_1, .bool x469005_1]) ?_ 4 _ rfl; (with_reducible repeat (first | refine blk_drewN ?_ _ | refine blk_drew ?_ | refine blk_alloc ?_ _)); refine blk_put (cs := #[.int .u64 t470, .int .u64 t471, .int .u64 t472, .int .i64 x469003_1, .int .i64 x469004_1, .bool x469005_1]) ?_ 3 _ rfl; (with_reducible repeat (first | refine blk_drewN ?_ _ | refine blk_drew ?_ | refine blk_alloc ?_ _)); refine blk_put (cs := #[.int .u64 t470, .int .u64 t471, .int .u64 x469002_1, .int .i64 x469003_1, .int .i64 x469004_1, .bool x469005_1]) ?_ 2 _ rfl; (with_reducible repeat (first | refine blk_drewN ?_ _ | refine blk_drew ?_ | refine blk_alloc ?_ _)); refine blk_put (cs := #[.int .u64 t470, .int .u64 x469001_1, .int .u64 x469002_1, .int .i64 x469003_1, .int .i64 x469004_1, .bool x469005_1]) ?_ 1 _ rfl; (with_reducible repeat (first | refine blk_drewN ?_ _ | refine blk_drew ?_ | refine blk_alloc ?_ _)); refine blk_put (cs := #[.int .u64 x469000_1, .int .u64 x469001_1, .int .u64 x469002_1, .int .i64 x469003_1, .int .i64 x469004_1, .bool x469005_1]) ?_ 0 _ rfl; (with_reducible repeat (first | refine blk_drewN ?_ _ | refine blk_drew ?_ | refine blk_alloc ?_ _)); refine blk_far ?_ NB468_476.out _; (with_reducible repeat (first | refine blk_drewN ?_ _ | refine blk_drew ?_ | refine blk_alloc ?_ _)); exact BK468.out))⟩; have n2_ : Aside0 (w19.heap[gb476]? = some (.cells #[.int .u64 t470, .int .u64 t471, .int .u64 t472, .int .i64 (wrap64 (t473 + 128)), .int .i64 t474, .bool t475] 37 (0, 0))) := ⟨(by rw [hw]; exact (by (iterate 6 ((with_reducible repeat (first | refine blk_drewN ?_ _ | refine blk_drew ?_ | refine blk_alloc ?_ _)); refine blk_far ?_ NB476_468.out _)); (with_reducible repeat (first | refine blk_drewN ?_ _ | refine blk_drew ?_ | refine blk_alloc ?_ _)); refine blk_put (cs := #[.int .u64 t470, .int .u64 t471, .int .u64 t472, .int .i64 t473, .int .i64 t474, .bool t475]) ?_ 3 _ rfl; (with_reducible repeat (first | refine blk_drewN ?_ _ | refine blk_drew ?_ | refine blk_alloc ?_ _)); exact BK476.out))⟩; have n3_ : Aside0 (Below w.heap.size w w19) := ⟨(by rw [hw]; exact (uc HB.out))⟩; revert n0_ n1_ n2_ n3_; clear hw BK467 BK468 BK476 HB; intro BK467 BK468 BK476 HB))
      refine bodyPost_ret (results_cell_row rfl _ _ gb468 37 #[.int .u64 t470, .int .u64 t471, .int .u64 t472, .int .i64 (wrap64 (t473 + 128)), .int .i64 t474, .bool t475] (0, 0) _ rfl (ub BK468.out) Try.underlying37 rfl (by kernel_rfl)) rfl ?_
      exact ⟨by first | rfl | (simp [errW_none, errW_some] <;> rfl) | (simp [*, errW_none, errW_some] <;> rfl), uc HB.out⟩
     ·rw [if_neg c7] at H
      have c7b0 : (((rd_T67 l0_2 x5_1).f2) == 2) = false := beq_eq_false_iff_ne.mpr c7
      have c7b1 : (((rd_T67 l0_2 x5_1).f2) != 2) = true := bne_iff_ne.mpr c7
      by_cases c20 : ((rd_T67 l0_2 x5_1).f2) = 3
      ·rw [if_pos c20] at H
       have c20b0 : (((rd_T67 l0_2 x5_1).f2) == 3) = true := beq_iff_eq.mpr c20
       have c20b1 : (((rd_T67 l0_2 x5_1).f2) != 3) = false := bne_eq_false_iff_eq.mpr c20
       clear c20
       replace H := Option.bind_eq_some_iff.mp H
       obtain ⟨⟨t477, t478, t479, t480, t481, t482⟩, A210, H⟩ := H
       replace H : (some (t477, t478, t479, wrap64 (t480 + 128), t481, t482)) = some (r1, r2, r3, r4, r5, r6) := H
       have A21 := am A210
       clear A210
       simp only [Option.some.injEq, Prod.mk.injEq] at H
       obtain ⟨rfl, rfl, rfl, rfl, rfl, rfl⟩ := H
       have hnb22 := NB467_468.out
       have hnc22 := NB468_467.out
       have hcz23_0 : wr.cell? ⟨gb467, 0, none⟩ = some (.string a0_0) := cz BK467 0
       have hcz23_1 : wr.cell? ⟨gb467, 1, none⟩ = some (.slice A0_1 l0_1.length c0_1) := cz BK467 1
       have hcz23_2 : wr.cell? ⟨gb467, 2, none⟩ = some (.slice A0_2 l0_2.length c0_2) := cz BK467 2
       have hcz23_3 : wr.cell? ⟨gb467, 3, none⟩ = some (.slice A0_3 l0_3.length c0_3) := cz BK467 3
       have hcz23_4 : wr.cell? ⟨gb467, 4, none⟩ = some (.slice A0_4 l0_4.length c0_4) := cz BK467 4
       have hcz23_5 : wr.cell? ⟨gb467, 5, none⟩ = some (.slice A0_5 l0_5.length c0_5) := cz BK467 5
       have hcz23_6 : wr.cell? ⟨gb467, 6, none⟩ = some (.slice A0_6 l0_6.length c0_6) := cz BK467 6
       have hfz23_0 := fz BK467 0
       have hfz23_1 := fz BK467 1
       have hfz23_2 := fz BK467 2
       have hfz23_3 := fz BK467 3
       have hfz23_4 := fz BK467 4
       have hfz23_5 := fz BK467 5
       have hfz23_6 := fz BK467 6
       have p469 : 0 ≤ (x5_1 : Int) := ud
       have q469 : x5_1 < (l0_2.length : Int) := ud
       obtain ⟨ad469, A469_3, c469_3, e469, hx469_0, hx469_1, hx469_2, hx469_3, hl469_3, hi469_3⟩ := at_T67 HR0_2.out x5_1 p469 q469
       cases e469
       replace hx469_0 := bcel HB hx469_0
       replace hx469_1 := bcel HB hx469_1
       replace hx469_2 := bcel HB hx469_2
       replace hx469_3 := bcel HB hx469_3
       have HR469_3 := am hi469_3
       have HC469_3 := am hl469_3
       clear hi469_3 hl469_3
       replace p469 := eq_true p469
       replace q469 := eq_true q469
       go_wp2_with (first | ((with_reducible refine gate_dst (N := 30) rfl ?_); (with_reducible refine gate_callee (f := 32) rfl ?_); refine gl (some 30) Try.func32 #[.agg #[.string a0_0, .slice A0_1 l0_1.length c0_1, .slice (some ad469) l0_2.length c0_2, .slice A0_3 l0_3.length c0_3, .slice A0_4 l0_4.length c0_4, .slice A0_5 l0_5.length c0_5, .slice A0_6 l0_6.length c0_6], .int .u64 a1, .int .i64 x5_1] ?_; (with_reducible refine (curtilageref17_Part.calls k1 a0_0 _ _ l0_1 _ _ l0_2 _ _ l0_3 _ _ l0_4 _ _ l0_5 _ _ l0_6 a1 x5_1 t477 t478 t479 t480 t481 t482 _ ?side1 ?side2 ?side3 ?side4 ?side5 ?side6 ?side7 ?side8 ?side9 ?side10 ?side11 ?side12 A21.out).mono ?_); (case side1 => exact us (Kd.C_below HR0_1.out HB.out)); (case side2 => exact HC0_1.out); (case side3 => exact us (Kd.C_below HR0_2.out HB.out)); (case side4 => exact HC0_2.out); (case side5 => exact us (Kd.C_below HR0_3.out HB.out)); (case side6 => exact HC0_3.out); (case side7 => exact us (Kd.C_below HR0_4.out HB.out)); (case side8 => exact HC0_4.out); (case side9 => exact us (Kd.C_below HR0_5.out HB.out)); (case side10 => exact HC0_5.out); (case side11 => exact us (Kd.C_below HR0_6.out HB.out)); (case side12 => exact HC0_6.out); rintro e w24 ⟨rfl, hb⟩; refine ⟨_, rfl, ?_⟩; have n0_ := bw BK467 hb; have n1_ := bw BK468 hb; have n2_ := bs HB hb; revert n0_ n1_ n2_; clear BK467 BK468 HB; intro BK467 BK468 HB; (try clear hb)) | ((with_reducible refine gate_dst (N := 7) rfl ?_); refine box_event ?hg (N := 7) ?hd (cs := #[.int .u64 0, .int .u64 0, .int .u64 0, .int .i64 0, .int .i64 0, .bool false]) (t := 37) ?hr ?_; (case hd => rfl); (case hg => rfl); (case hr => first | (go_simp; done) | (go_simp; rfl)); intro gb483 hg w25 hbox hb; have n0_ := bw BK467 hb; have n1_ := bw BK468 hb; have n2_ := bs HB hb; have n3_ := am (hbox); have n4_ := nz HB hg; have n5_ := nz HB hg; have n6_ := nl BK467 hg; have n7_ := nr BK467 hg; have n8_ := nl BK468 hg; have n9_ := nr BK468 hg; revert n0_ n1_ n2_ n3_ n4_ n5_ n6_ n7_ n8_ n9_; clear BK467 BK468 HB; intro BK467 BK468 HB BK483 GW483 GE483 NB467_483 NB483_467 NB468_483 NB483_468; clear hb hbox hg; have hnb26 := NB483_467.out; have hnc26 := NB467_483.out; have hnb27 := NB483_468.out; have hnc27 := NB468_483.out; obtain ⟨hcz28_0, hcz28_1, hcz28_2, hcz28_3, hcz28_4, hcz28_5, hfz28_0, hfz28_1, hfz28_2, hfz28_3, hfz28_4, hfz28_5⟩ := cells6 BK483.out) | ((with_reducible refine gate_store (t := 37) (p := 7) rfl ?_); refine store_event (t := 37) (p := 7) (v := ?vo_w29) (w1 := ((((((w25.setCell ⟨gb483, 0, none⟩ (.int .u64 t477)).setCell ⟨gb483, 1, none⟩ (.int .u64 t478)).setCell ⟨gb483, 2, none⟩ (.int .u64 t479)).setCell ⟨gb483, 3, none⟩ (.int .i64 t480)).setCell ⟨gb483, 4, none⟩ (.int .i64 t481)).setCell ⟨gb483, 5, none⟩ (.bool t482))) ?hg ?ho ?hn ?hr ?_; (case ho => rfl); (case hg => rfl); (case hn => rfl); (case hr => first | (go_simp; done) | (go_simp; rfl)); intro w29 hw; have n0_ := bf6 hw NB467_483 BK467; have n1_ := bf6 hw NB468_483 BK468; have n2_ := bp6 #[.int .u64 t477, .int .u64 t478, .int .u64 t479, .int .i64 t480, .int .i64 t481, .bool t482] hw BK483; have n3_ : Aside0 (Below w.heap.size w w29) := ⟨(by rw [hw]; exact (uc HB.out))⟩; revert n0_ n1_ n2_ n3_; clear hw BK467 BK468 BK483 HB; intro BK467 BK468 BK483 HB; obtain ⟨hcz30_0, hcz30_1, hcz30_2, hcz30_3, hcz30_4, hcz30_5, hfz30_0, hfz30_1, hfz30_2, hfz30_3, hfz30_4, hfz30_5⟩ := cells6 BK483.out; obtain ⟨hcz31_0, hcz31_1, hcz31_2, hcz31_3, hcz31_4, hcz31_5, hfz31_0, hfz31_1, hfz31_2, hfz31_3, hfz31_4, hfz31_5⟩ := cells6 BK468.out) | ((with_reducible refine gate_store (t := 37) (p := 4) rfl ?_); refine store_event (t := 37) (p := 4) (v := ?vo_w32) (w1 := (((((((w29.setCell ⟨gb483, 3, none⟩ (.int .i64 (wrap64 (t480 + 128)))).setCell ⟨gb468, 0, none⟩ (.int .u64 t477)).setCell ⟨gb468, 1, none⟩ (.int .u64 t478)).setCell ⟨gb468, 2, none⟩ (.int .u64 t479)).setCell ⟨gb468, 3, none⟩ (.int .i64 (wrap64 (t480 + 128)))).setCell ⟨gb468, 4, none⟩ (.int .i64 t481)).setCell ⟨gb468, 5, none⟩ (.bool t482))) ?hg ?ho ?hn ?hr ?_; (case ho => rfl); (case hg => rfl); (case hn => rfl); (case hr => first | (go_simp; done) | (go_simp; rfl)); intro w32 hw; have n0_ : Aside0 (w32.heap[gb467]? = some (.cells #[.string a0_0, .slice A0_1 l0_1.length c0_1, .slice (some ad469) l0_2.length c0_2, .slice A0_3 l0_3.length c0_3, .slice A0_4 l0_4.length c0_4, .slice A0_5 l0_5.length c0_5, .slice A0_6 l0_6.length c0_6] 28 (0, 0))) := ⟨(by rw [hw]; exact (by (iterate 6 ((with_reducible repeat (first | refine blk_drewN ?_ _ | refine blk_drew ?_ | refine blk_alloc ?_ _)); refine blk_far ?_ NB467_468.out _)); (with_reducible repeat (first | refine blk_drewN ?_ _ | refine blk_drew ?_ | refine blk_alloc ?_ _)); refine blk_far ?_ NB467_483.out _; (with_reducible repeat (first | refine blk_drewN ?_ _ | refine blk_drew ?_ | refine blk_alloc ?_ _)); exact BK467.out))⟩; have n1_ : Aside0 (w32.heap[gb468]? = some (.cells #[.int .u64 t477, .int .u64 t478, .int .u64 t479, .int .i64 (wrap64 (t480 + 128)), .int .i64 t481, .bool t482] 37 (0, 0))) := ⟨(by rw [hw]; exact (by (with_reducible repeat (first | refine blk_drewN ?_ _ | refine blk_drew ?_ | refine blk_alloc ?_ _)); refine blk_put (cs := #[.int .u64 t477, .int .u64 t478, .int .u64 t479, .int .i64 (wrap64 (t480 + 128)), .int .i64 t481, .bool x469005_1]) ?_ 5 _ rfl; (with_reducible repeat (first | refine blk_drewN ?_ _ | refine blk_drew ?_ | refine blk_alloc ?_ _)); refine blk_put (cs := #[.int .u64 t477, .int .u64 t478, .int .u64 t479, .int .i64 (wrap64 (t480 + 128)), .int .i64 x469004_1, .bool x469005_1]) ?_ 4 _ rfl; (with_reducible repeat (first | refine blk_drewN ?_ _ | refine blk_drew ?_ | refine blk_alloc ?_ _)); refine blk_put (cs := #[.int .u64 t477, .int .u64 t478, .int .u64 t479, .int .i64 x469003_1, .int .i64 x469004_1, .bool x469005_1]) ?_ 3 _ rfl; (with_reducible repeat (first | refine blk_drewN ?_ _ | refine blk_drew ?_ | refine blk_alloc ?_ _)); refine blk_put (cs := #[.int .u64 t477, .int .u64 t478, .int .u64 x469002_1, .int .i64 x469003_1, .int .i64 x469004_1, .bool x469005_1]) ?_ 2 _ rfl; (with_reducible repeat (first | refine blk_drewN ?_ _ | refine blk_drew ?_ | refine blk_alloc ?_ _)); refine blk_put (cs := #[.int .u64 t477, .int .u64 x469001_1, .int .u64 x469002_1, .int .i64 x469003_1, .int .i64 x469004_1, .bool x469005_1]) ?_ 1 _ rfl; (with_reducible repeat (first | refine blk_drewN ?_ _ | refine blk_drew ?_ | refine blk_alloc ?_ _)); refine blk_put (cs := #[.int .u64 x469000_1, .int .u64 x469001_1, .int .u64 x469002_1, .int .i64 x469003_1, .int .i64 x469004_1, .bool x469005_1]) ?_ 0 _ rfl; (with_reducible repeat (first | refine blk_drewN ?_ _ | refine blk_drew ?_ | refine blk_alloc ?_ _)); refine blk_far ?_ NB468_483.out _; (with_reducible repeat (first | refine blk_drewN ?_ _ | refine blk_drew ?_ | refine blk_alloc ?_ _)); exact BK468.out))⟩; have n2_ : Aside0 (w32.heap[gb483]? = some (.cells #[.int .u64 t477, .int .u64 t478, .int .u64 t479, .int .i64 (wrap64 (t480 + 128)), .int .i64 t481, .bool t482] 37 (0, 0))) := ⟨(by rw [hw]; exact (by (iterate 6 ((with_reducible repeat (first | refine blk_drewN ?_ _ | refine blk_drew ?_ | refine blk_alloc ?_ _)); refine blk_far ?_ NB483_468.out _)); (with_reducible repeat (first | refine blk_drewN ?_ _ | refine blk_drew ?_ | refine blk_alloc ?_ _)); refine blk_put (cs := #[.int .u64 t477, .int .u64 t478, .int .u64 t479, .int .i64 t480, .int .i64 t481, .bool t482]) ?_ 3 _ rfl; (with_reducible repeat (first | refine blk_drewN ?_ _ | refine blk_drew ?_ | refine blk_alloc ?_ _)); exact BK483.out))⟩; have n3_ : Aside0 (Below w.heap.size w w32) := ⟨(by rw [hw]; exact (uc HB.out))⟩; revert n0_ n1_ n2_ n3_; clear hw BK467 BK468 BK483 HB; intro BK467 BK468 BK483 HB))
       refine bodyPost_ret (results_cell_row rfl _ _ gb468 37 #[.int .u64 t477, .int .u64 t478, .int .u64 t479, .int .i64 (wrap64 (t480 + 128)), .int .i64 t481, .bool t482] (0, 0) _ rfl (ub BK468.out) Try.underlying37 rfl (by kernel_rfl)) rfl ?_
       exact ⟨by first | rfl | (simp [errW_none, errW_some] <;> rfl) | (simp [*, errW_none, errW_some] <;> rfl), uc HB.out⟩
      ·rw [if_neg c20] at H
       have c20b0 : (((rd_T67 l0_2 x5_1).f2) == 3) = false := beq_eq_false_iff_ne.mpr c20
       have c20b1 : (((rd_T67 l0_2 x5_1).f2) != 3) = true := bne_iff_ne.mpr c20
       have H' := am H
       clear H
       have hnb33 := NB467_468.out
       have hnc33 := NB468_467.out
       have hcz34_0 : wr.cell? ⟨gb467, 0, none⟩ = some (.string a0_0) := cz BK467 0
       have hcz34_1 : wr.cell? ⟨gb467, 1, none⟩ = some (.slice A0_1 l0_1.length c0_1) := cz BK467 1
       have hcz34_2 : wr.cell? ⟨gb467, 2, none⟩ = some (.slice A0_2 l0_2.length c0_2) := cz BK467 2
       have hcz34_3 : wr.cell? ⟨gb467, 3, none⟩ = some (.slice A0_3 l0_3.length c0_3) := cz BK467 3
       have hcz34_4 : wr.cell? ⟨gb467, 4, none⟩ = some (.slice A0_4 l0_4.length c0_4) := cz BK467 4
       have hcz34_5 : wr.cell? ⟨gb467, 5, none⟩ = some (.slice A0_5 l0_5.length c0_5) := cz BK467 5
       have hcz34_6 : wr.cell? ⟨gb467, 6, none⟩ = some (.slice A0_6 l0_6.length c0_6) := cz BK467 6
       have hfz34_0 := fz BK467 0
       have hfz34_1 := fz BK467 1
       have hfz34_2 := fz BK467 2
       have hfz34_3 := fz BK467 3
       have hfz34_4 := fz BK467 4
       have hfz34_5 := fz BK467 5
       have hfz34_6 := fz BK467 6
       have p469 : 0 ≤ (x5_1 : Int) := ud
       have q469 : x5_1 < (l0_2.length : Int) := ud
       obtain ⟨ad469, A469_3, c469_3, e469, hx469_0, hx469_1, hx469_2, hx469_3, hl469_3, hi469_3⟩ := at_T67 HR0_2.out x5_1 p469 q469
       cases e469
       replace hx469_0 := bcel HB hx469_0
       replace hx469_1 := bcel HB hx469_1
       replace hx469_2 := bcel HB hx469_2
       replace hx469_3 := bcel HB hx469_3
       have HR469_3 := am hi469_3
       have HC469_3 := am hl469_3
       clear hi469_3 hl469_3
       replace p469 := eq_true p469
       replace q469 := eq_true q469
       go_wp2
       go_roundg k1
       case measure => have := HK1.out; omega
       case rel => exact ⟨(wrap64 (x5_1 + 1)), (x469000_1), (x469001_1), (x469002_1), (x469003_1), (x469004_1), (x469005_1), uf, H', ⟨by have := HK1.out; omega⟩, ⟨ub BK467.out⟩, ⟨ub BK468.out⟩, ⟨uc HB.out⟩⟩
    ·rw [if_neg c6] at H
     exact absurd H (by simp)
   ·rw [if_neg c5] at H
    have c5b0 : decide (x5_1 < (l0_2.length : Int)) = false := decide_eq_false c5
    clear c5
    simp only [Option.some.injEq, Prod.mk.injEq] at H
    obtain ⟨rfl, rfl, rfl, rfl, rfl, rfl⟩ := H
    have hnb35 := NB467_468.out
    have hnc35 := NB468_467.out
    have hcz36_0 : wr.cell? ⟨gb467, 0, none⟩ = some (.string a0_0) := cz BK467 0
    have hcz36_1 : wr.cell? ⟨gb467, 1, none⟩ = some (.slice A0_1 l0_1.length c0_1) := cz BK467 1
    have hcz36_2 : wr.cell? ⟨gb467, 2, none⟩ = some (.slice A0_2 l0_2.length c0_2) := cz BK467 2
    have hcz36_3 : wr.cell? ⟨gb467, 3, none⟩ = some (.slice A0_3 l0_3.length c0_3) := cz BK467 3
    have hcz36_4 : wr.cell? ⟨gb467, 4, none⟩ = some (.slice A0_4 l0_4.length c0_4) := cz BK467 4
    have hcz36_5 : wr.cell? ⟨gb467, 5, none⟩ = some (.slice A0_5 l0_5.length c0_5) := cz BK467 5
    have hcz36_6 : wr.cell? ⟨gb467, 6, none⟩ = some (.slice A0_6 l0_6.length c0_6) := cz BK467 6
    have hfz36_0 := fz BK467 0
    have hfz36_1 := fz BK467 1
    have hfz36_2 := fz BK467 2
    have hfz36_3 := fz BK467 3
    have hfz36_4 := fz BK467 4
    have hfz36_5 := fz BK467 5
    have hfz36_6 := fz BK467 6
    have hcz37_0 : wr.cell? ⟨gb468, 0, none⟩ = some (.int .u64 x469000_1) := cz BK468 0
    have hcz37_1 : wr.cell? ⟨gb468, 1, none⟩ = some (.int .u64 x469001_1) := cz BK468 1
    have hcz37_2 : wr.cell? ⟨gb468, 2, none⟩ = some (.int .u64 x469002_1) := cz BK468 2
    have hcz37_3 : wr.cell? ⟨gb468, 3, none⟩ = some (.int .i64 x469003_1) := cz BK468 3
    have hcz37_4 : wr.cell? ⟨gb468, 4, none⟩ = some (.int .i64 x469004_1) := cz BK468 4
    have hcz37_5 : wr.cell? ⟨gb468, 5, none⟩ = some (.bool x469005_1) := cz BK468 5
    have hfz37_0 := fz BK468 0
    have hfz37_1 := fz BK468 1
    have hfz37_2 := fz BK468 2
    have hfz37_3 := fz BK468 3
    have hfz37_4 := fz BK468 4
    have hfz37_5 := fz BK468 5
    go_wp2_with (first | ((with_reducible refine gate_store (t := 37) (p := 4) rfl ?_); refine store_event (t := 37) (p := 4) (v := ?vo_w38) (w1 := ((((((wr.setCell ⟨gb468, 0, none⟩ (.int .u64 a1)).setCell ⟨gb468, 1, none⟩ (.int .u64 a1)).setCell ⟨gb468, 2, none⟩ (.int .u64 a1)).setCell ⟨gb468, 3, none⟩ (.int .i64 129)).setCell ⟨gb468, 4, none⟩ (.int .i64 (-1))).setCell ⟨gb468, 5, none⟩ (.bool true))) ?hg ?ho ?hn ?hr ?_; (case ho => rfl); (case hg => rfl); (case hn => rfl); (case hr => first | (go_simp; done) | (go_simp; rfl)); intro w38 hw; have n0_ := bf6 hw NB467_468 BK467; have n1_ := bp6 #[.int .u64 a1, .int .u64 a1, .int .u64 a1, .int .i64 129, .int .i64 (-1), .bool true] hw BK468; have n2_ : Aside0 (Below w.heap.size w w38) := ⟨(by rw [hw]; exact (uc HB.out))⟩; revert n0_ n1_ n2_; clear hw BK467 BK468 HB; intro BK467 BK468 HB))
    refine bodyPost_ret (results_cell_row rfl _ _ gb468 37 #[.int .u64 a1, .int .u64 a1, .int .u64 a1, .int .i64 129, .int .i64 (-1), .bool true] (0, 0) _ rfl (ub BK468.out) Try.underlying37 rfl (by kernel_rfl)) rfl ?_
    exact ⟨by first | rfl | (simp [errW_none, errW_some] <;> rfl) | (simp [*, errW_none, errW_some] <;> rfl), uc HB.out⟩

end Go.Proofs.Ytlbfeklpncoccaa.P
