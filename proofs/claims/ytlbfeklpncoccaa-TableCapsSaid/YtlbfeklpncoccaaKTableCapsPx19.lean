/- What functions of the program, and of its laws, give, each proved of its code by a walk; no condition. -/
import Derived.Test.YtlbfeklpncoccaaKTableCapsPx0
import Derived.Test.YtlbfeklpncoccaaKTableCapsPx11
import Derived.Test.YtlbfeklpncoccaaKTableCapsPx18
import Derived.Test.YtlbfeklpncoccaaKTableCapsSq
import Derived.Test.YtlbfeklpncoccaaKTableCapsUsh
namespace Go.Proofs.Ytlbfeklpncoccaa.P
open Go.RowKit Go.Proofs.YtlbfeklpncoccaaW.PrintWords Go.Proofs.YtlbfeklpncoccaaW.PrintLast Go.Proofs.YtlbfeklpncoccaaW.PrintMore
attribute [local go_sem] max2_int min2_int max_two min_two max_three min_three max_four min_four   -- for this text's walks alone
set_option linter.unusedVariables false
set_option linter.unusedSimpArgs false

def curtilageref18_Entry.f (k : Nat) (a0_0 : ByteArray) (l0_1 : List ByteArray) (l0_2 : List (S67)) (l0_3 : List (S35)) (l0_4 : List (S72)) (l0_5 : List Int) (l0_6 : List Int) (a1 : Int) (a2 : Int) (a3 : Int) : Option (Int × Int × Int × Int × Int × Bool × Int × Int × Int × Int × Int × Bool) := if 0 ≤ a2 then (if a2 < (l0_3.length : Int) then ((curtilageref10_At.f k a0_0 l0_1 l0_2 l0_3 l0_4 l0_5 l0_6 ((rd_T35 l0_3 a2).f2) ((rd_T35 l0_3 a2).f3)).bind fun t489 => ((curtilageref17_Part.f k a0_0 l0_1 l0_2 l0_3 l0_4 l0_5 l0_6 a1 t489).bind fun bt490 => ((curtilageref17_Own.f k a0_0 l0_1 l0_2 l0_3 l0_4 l0_5 l0_6 a1).bind fun bt497 => (some (bt490.1, bt490.2.1, IntKind.u64.wrap (a1 + ((rd_T35 l0_3 a2).f2)), wrap64 (bt490.2.2.2.1 + 128), a3, bt490.2.2.2.2.2, bt497.1, bt497.2.1, bt497.2.2.1, bt497.2.2.2.1, a3, bt497.2.2.2.2.2))))) else (none)) else (none)
theorem curtilageref18_Entry.mono : ∀ a0 a1 a2 a3 a4 a5 a6 a7 a8 a9 k, LeO (curtilageref18_Entry.f k a0 a1 a2 a3 a4 a5 a6 a7 a8 a9) (curtilageref18_Entry.f (k + 1) a0 a1 a2 a3 a4 a5 a6 a7 a8 a9) := by
  intro a0 a1 a2 a3 a4 a5 a6 a7 a8 a9 k
  unfold curtilageref18_Entry.f
  repeat' first
      | (with_reducible exact curtilageref10_At.mono _ _ _ _ _ _ _ _ _ _)
      | (with_reducible exact curtilageref17_Own.mono _ _ _ _ _ _ _ _ _)
      | (with_reducible exact curtilageref17_Part.mono _ _ _ _ _ _ _ _ _ _)
      | (with_reducible exact LeO.refl _)
      | (with_reducible exact LeO.none _)
      | (with_reducible refine LeO.ite ?_ ?_)
      | (with_reducible refine LeO.bind ?_ (fun _ => ?_))
      | exact curtilageref10_At.mono _ _ _ _ _ _ _ _ _ _
      | exact curtilageref17_Own.mono _ _ _ _ _ _ _ _ _
      | exact curtilageref17_Part.mono _ _ _ _ _ _ _ _ _ _
      | exact LeO.none _
      | refine LeO.ite ?_ ?_
      | refine LeO.bind ?_ (fun _ => ?_)
def curtilageref18_Entry.T2 : Bool × List (List Nat × List Nat) := (true, [([], []), ([], []), ([], []), ([], []), ([3], [3]), ([], []), ([5], [5]), ([2, 4, 6], [2, 4, 6]), ([0, 1, 7, 7], [0, 1, 7]), ([], []), ([9, 8, 8, 0, 1, 2, 3, 4, 5, 6, 7, 8, 9], [8, 9])])
def curtilageref18_Entry.B2 : List Nat := [0, 0, 0, 0, 8, 0, 32, 124, 255, 0, 1023]
theorem curtilageref18_Entry.tab2 : rtab .any (opsOf Try.f11 2) = curtilageref18_Entry.T2 := by kernel_rfl
theorem curtilageref18_Entry.bits2 : waitsOk curtilageref18_Entry.T2.2 curtilageref18_Entry.B2 = true := by kernel_rfl
set_option maxHeartbeats 8000000 in
set_option maxRecDepth 100000 in
theorem curtilageref18_Entry.calls (k : Nat) (a0_0 : ByteArray) (A0_1 : Option Addr) (c0_1 : Nat) (l0_1 : List ByteArray) (A0_2 : Option Addr) (c0_2 : Nat) (l0_2 : List (S67)) (A0_3 : Option Addr) (c0_3 : Nat) (l0_3 : List (S35)) (A0_4 : Option Addr) (c0_4 : Nat) (l0_4 : List (S72)) (A0_5 : Option Addr) (c0_5 : Nat) (l0_5 : List Int) (A0_6 : Option Addr) (c0_6 : Nat) (l0_6 : List Int) (a1 : Int) (a2 : Int) (a3 : Int) (r1 : Int) (r2 : Int) (r3 : Int) (r4 : Int) (r5 : Int) (r6 : Bool) (r7 : Int) (r8 : Int) (r9 : Int) (r10 : Int) (r11 : Int) (r12 : Bool) (w : World) (hr0_1 : Kd.C Kd.string w A0_1 l0_1.length l0_1) (hc0_1 : l0_1.length ≤ c0_1) (hr0_2 : Kd.C k67 w A0_2 l0_2.length l0_2) (hc0_2 : l0_2.length ≤ c0_2) (hr0_3 : Kd.C k35 w A0_3 l0_3.length l0_3) (hc0_3 : l0_3.length ≤ c0_3) (hr0_4 : Kd.C k72 w A0_4 l0_4.length l0_4) (hc0_4 : l0_4.length ≤ c0_4) (hr0_5 : Kd.C (Kd.int .i64) w A0_5 l0_5.length l0_5) (hc0_5 : l0_5.length ≤ c0_5) (hr0_6 : Kd.C (Kd.int .i64) w A0_6 l0_6.length l0_6) (hc0_6 : l0_6.length ≤ c0_6) (h : curtilageref18_Entry.f k a0_0 l0_1 l0_2 l0_3 l0_4 l0_5 l0_6 a1 a2 a3 = some (r1, r2, r3, r4, r5, r6, r7, r8, r9, r10, r11, r12)) :
  Calls Try.prog 11 #[.agg #[.string a0_0, .slice A0_1 l0_1.length c0_1, .slice A0_2 l0_2.length c0_2, .slice A0_3 l0_3.length c0_3, .slice A0_4 l0_4.length c0_4, .slice A0_5 l0_5.length c0_5, .slice A0_6 l0_6.length c0_6], .int .u64 a1, .int .i64 a2, .int .i64 a3] w fun e w' => e = .returned (.tuple #[.agg #[.int .u64 r1, .int .u64 r2, .int .u64 r3, .int .i64 r4, .int .i64 r5, .bool r6], .agg #[.int .u64 r7, .int .u64 r8, .int .u64 r9, .int .i64 r10, .int .i64 r11, .bool r12]]) ∧ Below w.heap.size w w' := by
 have hu28 := Try.underlying28
 have hu37 := Try.underlying37
 have hu35 := Try.underlying35
 have HR0_1 := am hr0_1
 have HC0_1 := am hc0_1
 clear hr0_1 hc0_1
 have HR0_2 := am hr0_2
 have HC0_2 := am hc0_2
 clear hr0_2 hc0_2
 have HR0_3 := am hr0_3
 have HC0_3 := am hc0_3
 clear hr0_3 hc0_3
 have HR0_4 := am hr0_4
 have HC0_4 := am hc0_4
 clear hr0_4 hc0_4
 have HR0_5 := am hr0_5
 have HC0_5 := am hc0_5
 clear hr0_5 hc0_5
 have HR0_6 := am hr0_6
 have HC0_6 := am hc0_6
 clear hr0_6 hc0_6
 have HB := am (Below.refl w.heap.size w)
 have H : (if 0 ≤ a2 then (if a2 < (l0_3.length : Int) then ((curtilageref10_At.f k a0_0 l0_1 l0_2 l0_3 l0_4 l0_5 l0_6 ((rd_T35 l0_3 a2).f2) ((rd_T35 l0_3 a2).f3)).bind fun t489 => ((curtilageref17_Part.f k a0_0 l0_1 l0_2 l0_3 l0_4 l0_5 l0_6 a1 t489).bind fun bt490 => ((curtilageref17_Own.f k a0_0 l0_1 l0_2 l0_3 l0_4 l0_5 l0_6 a1).bind fun bt497 => (some (bt490.1, bt490.2.1, IntKind.u64.wrap (a1 + ((rd_T35 l0_3 a2).f2)), wrap64 (bt490.2.2.2.1 + 128), a3, bt490.2.2.2.2.2, bt497.1, bt497.2.1, bt497.2.2.1, bt497.2.2.2.1, a3, bt497.2.2.2.2.2))))) else (none)) else (none)) = some (r1, r2, r3, r4, r5, r6, r7, r8, r9, r10, r11, r12) := h
 clear h
 by_cases c5 : 0 ≤ a2
 ·rw [if_pos c5] at H
  have c5b0 : decide (0 ≤ a2) = true := decide_eq_true c5
  clear c5
  by_cases c6 : a2 < (l0_3.length : Int)
  ·rw [if_pos c6] at H
   have c6b0 : decide (a2 < (l0_3.length : Int)) = true := decide_eq_true c6
   clear c6
   replace H := Option.bind_eq_some_iff.mp H
   obtain ⟨t489, A70, H⟩ := H
   replace H : ((curtilageref17_Part.f k a0_0 l0_1 l0_2 l0_3 l0_4 l0_5 l0_6 a1 t489).bind fun bt490 => ((curtilageref17_Own.f k a0_0 l0_1 l0_2 l0_3 l0_4 l0_5 l0_6 a1).bind fun bt497 => (some (bt490.1, bt490.2.1, IntKind.u64.wrap (a1 + ((rd_T35 l0_3 a2).f2)), wrap64 (bt490.2.2.2.1 + 128), a3, bt490.2.2.2.2.2, bt497.1, bt497.2.1, bt497.2.2.1, bt497.2.2.2.1, a3, bt497.2.2.2.2.2)))) = some (r1, r2, r3, r4, r5, r6, r7, r8, r9, r10, r11, r12) := H
   have A7 := am A70
   clear A70
   replace H := Option.bind_eq_some_iff.mp H
   obtain ⟨⟨t490, t491, t492, t493, t494, t495⟩, A80, H⟩ := H
   replace H : ((curtilageref17_Own.f k a0_0 l0_1 l0_2 l0_3 l0_4 l0_5 l0_6 a1).bind fun bt497 => (some (t490, t491, IntKind.u64.wrap (a1 + ((rd_T35 l0_3 a2).f2)), wrap64 (t493 + 128), a3, t495, bt497.1, bt497.2.1, bt497.2.2.1, bt497.2.2.2.1, a3, bt497.2.2.2.2.2))) = some (r1, r2, r3, r4, r5, r6, r7, r8, r9, r10, r11, r12) := H
   have A8 := am A80
   clear A80
   replace H := Option.bind_eq_some_iff.mp H
   obtain ⟨⟨t497, t498, t499, t500, t501, t502⟩, A90, H⟩ := H
   replace H : (some (t490, t491, IntKind.u64.wrap (a1 + ((rd_T35 l0_3 a2).f2)), wrap64 (t493 + 128), a3, t495, t497, t498, t499, t500, a3, t502)) = some (r1, r2, r3, r4, r5, r6, r7, r8, r9, r10, r11, r12) := H
   have A9 := am A90
   clear A90
   simp only [Option.some.injEq, Prod.mk.injEq] at H
   obtain ⟨rfl, rfl, rfl, rfl, rfl, rfl, rfl, rfl, rfl, rfl, rfl, rfl⟩ := H
   go_enter Try.func11, Try.ntmps11
   try go_wp2_with (first | ((with_reducible refine gate_dst (N := 4) rfl ?_); refine box_event ?hg (N := 4) ?hd (cs := #[.string a0_0, .slice A0_1 l0_1.length c0_1, .slice A0_2 l0_2.length c0_2, .slice A0_3 l0_3.length c0_3, .slice A0_4 l0_4.length c0_4, .slice A0_5 l0_5.length c0_5, .slice A0_6 l0_6.length c0_6]) (t := 28) ?hr ?_; (case hd => rfl); (case hg => rfl); (case hr => first | (go_simp; done) | (go_simp; rfl)); intro gb484 hg w10 hbox hb; have n0_ := bs HB hb; have n1_ := am (hbox); have n2_ := nz HB hg; have n3_ := nz HB hg; revert n0_ n1_ n2_ n3_; clear HB; intro HB BK484 GW484 GE484; clear hb hbox hg) | ((with_reducible refine gate_dst (N := 8) rfl ?_); refine box_event ?hg (N := 8) ?hd (cs := #[.int .u64 0, .int .u64 0, .int .u64 0, .int .i64 0, .int .i64 0, .bool false]) (t := 37) ?hr ?_; (case hd => rfl); (case hg => rfl); (case hr => first | (go_simp; done) | (go_simp; rfl)); intro gb485 hg w11 hbox hb; have n0_ := bw BK484 hb; have n1_ := bs HB hb; have n2_ := am (hbox); have n3_ := nz HB hg; have n4_ := nz HB hg; have n5_ := nl BK484 hg; have n6_ := nr BK484 hg; revert n0_ n1_ n2_ n3_ n4_ n5_ n6_; clear BK484 HB; intro BK484 HB BK485 GW485 GE485 NB484_485 NB485_484; clear hb hbox hg) | ((with_reducible refine gate_dst (N := 9) rfl ?_); refine box_event ?hg (N := 9) ?hd (cs := #[.int .u64 0, .int .u64 0, .int .u64 0, .int .i64 0, .int .i64 0, .bool false]) (t := 37) ?hr ?_; (case hd => rfl); (case hg => rfl); (case hr => first | (go_simp; done) | (go_simp; rfl)); intro gb486 hg w12 hbox hb; have n0_ := bw BK484 hb; have n1_ := bw BK485 hb; have n2_ := bs HB hb; have n3_ := am (hbox); have n4_ := nz HB hg; have n5_ := nz HB hg; have n6_ := nl BK484 hg; have n7_ := nr BK484 hg; have n8_ := nl BK485 hg; have n9_ := nr BK485 hg; revert n0_ n1_ n2_ n3_ n4_ n5_ n6_ n7_ n8_ n9_; clear BK484 BK485 HB; intro BK484 BK485 HB BK486 GW486 GE486 NB484_486 NB486_484 NB485_486 NB486_485; clear hb hbox hg; have hnb13 := NB484_485.out; have hnc13 := NB485_484.out; have hnb14 := NB484_486.out; have hnc14 := NB486_484.out; obtain ⟨hcz15_0, hcz15_1, hcz15_2, hcz15_3, hcz15_4, hcz15_5, hcz15_6, hfz15_0, hfz15_1, hfz15_2, hfz15_3, hfz15_4, hfz15_5, hfz15_6⟩ := cells7 BK484.out; have p487 : 0 ≤ (a2 : Int) := ud; have q487 : a2 < (l0_3.length : Int) := ud; obtain ⟨ad487, e487, hx487_0, hx487_1, hx487_2, hx487_3, hx487_4, hx487_5, hx487_6, hx487_7⟩ := at_T35 HR0_3.out a2 p487 q487; cases e487; replace hx487_0 := bcel HB hx487_0; replace hx487_1 := bcel HB hx487_1; replace hx487_2 := bcel HB hx487_2; replace hx487_3 := bcel HB hx487_3; replace hx487_4 := bcel HB hx487_4; replace hx487_5 := bcel HB hx487_5; replace hx487_6 := bcel HB hx487_6; replace hx487_7 := bcel HB hx487_7; replace p487 := eq_true p487; replace q487 := eq_true q487) | ((with_reducible refine gate_dst (N := 10) rfl ?_); refine box_event ?hg (N := 10) ?hd (cs := #[.string (⟨#[]⟩ : ByteArray), .string (⟨#[]⟩ : ByteArray), .int .u64 0, .int .u64 0, .int .i64 0, .int .i64 0, .int .i64 0, .bool false]) (t := 35) ?hr ?_; (case hd => rfl); (case hg => rfl); (case hr => first | (go_simp; done) | (go_simp; rfl)); intro gb488 hg w16 hbox hb; have n0_ := bw BK484 hb; have n1_ := bw BK485 hb; have n2_ := bw BK486 hb; have n3_ := bs HB hb; have n4_ := am (hbox); have n5_ := nz HB hg; have n6_ := nz HB hg; have n7_ := nl BK484 hg; have n8_ := nr BK484 hg; have n9_ := nl BK485 hg; have n10_ := nr BK485 hg; have n11_ := nl BK486 hg; have n12_ := nr BK486 hg; revert n0_ n1_ n2_ n3_ n4_ n5_ n6_ n7_ n8_ n9_ n10_ n11_ n12_; clear BK484 BK485 BK486 HB; intro BK484 BK485 BK486 HB BK488 GW488 GE488 NB484_488 NB488_484 NB485_488 NB488_485 NB486_488 NB488_486; clear hb hbox hg; have hnb17 := NB488_484.out; have hnc17 := NB484_488.out; have hnb18 := NB488_485.out; have hnc18 := NB485_488.out; have hnb19 := NB488_486.out; have hnc19 := NB486_488.out; obtain ⟨hcz20_0, hcz20_1, hcz20_2, hcz20_3, hcz20_4, hcz20_5, hcz20_6, hcz20_7, hfz20_0, hfz20_1, hfz20_2, hfz20_3, hfz20_4, hfz20_5, hfz20_6, hfz20_7⟩ := cells8 BK488.out) | ((with_reducible refine gate_store (t := 35) (p := 10) rfl ?_); refine store_event (t := 35) (p := 10) (v := ?vo_w21) (w1 := ((((((((w16.setCell ⟨gb488, 0, none⟩ (.string ((rd_T35 l0_3 a2).f0))).setCell ⟨gb488, 1, none⟩ (.string ((rd_T35 l0_3 a2).f1))).setCell ⟨gb488, 2, none⟩ (.int .u64 ((rd_T35 l0_3 a2).f2))).setCell ⟨gb488, 3, none⟩ (.int .u64 ((rd_T35 l0_3 a2).f3))).setCell ⟨gb488, 4, none⟩ (.int .i64 ((rd_T35 l0_3 a2).f4))).setCell ⟨gb488, 5, none⟩ (.int .i64 ((rd_T35 l0_3 a2).f5))).setCell ⟨gb488, 6, none⟩ (.int .i64 ((rd_T35 l0_3 a2).f6))).setCell ⟨gb488, 7, none⟩ (.bool ((rd_T35 l0_3 a2).f7)))) ?hg ?ho ?hn ?hr ?_; (case ho => rfl); (case hg => rfl); (case hn => rfl); (case hr => first | (go_simp; done) | (go_simp; rfl)); intro w21 hw; have n0_ := bf8 hw NB484_488 BK484; have n1_ := bf8 hw NB485_488 BK485; have n2_ := bf8 hw NB486_488 BK486; have n3_ := bp8 #[.string ((rd_T35 l0_3 a2).f0), .string ((rd_T35 l0_3 a2).f1), .int .u64 ((rd_T35 l0_3 a2).f2), .int .u64 ((rd_T35 l0_3 a2).f3), .int .i64 ((rd_T35 l0_3 a2).f4), .int .i64 ((rd_T35 l0_3 a2).f5), .int .i64 ((rd_T35 l0_3 a2).f6), .bool ((rd_T35 l0_3 a2).f7)] hw BK488; have n4_ : Aside0 (Below w.heap.size w w21) := ⟨(by rw [hw]; exact (uc HB.out))⟩; revert n0_ n1_ n2_ n3_ n4_; clear hw BK484 BK485 BK486 BK488 HB; intro BK484 BK485 BK486 BK488 HB))
   have n0_ := am (blk_drew BK484.out)
   have n1_ := am (blk_drew BK485.out)
   have n2_ := am (blk_drew BK486.out)
   have n3_ := am (blk_drew BK488.out)
   have n4_ := am (below_drew1 HB.out)
   revert n0_ n1_ n2_ n3_ n4_
   clear BK484 BK485 BK486 BK488 HB
   intro BK484 BK485 BK486 BK488 HB
   refine start_ (n := 11) (S := fun w' => w'.cell? ⟨gb484, 0, none⟩ = some (.string a0_0) ∧ w'.cell? ⟨gb484, 1, none⟩ = some (.slice A0_1 l0_1.length c0_1) ∧ w'.cell? ⟨gb484, 2, none⟩ = some (.slice A0_2 l0_2.length c0_2) ∧ w'.cell? ⟨gb484, 3, none⟩ = some (.slice (some ad487) l0_3.length c0_3) ∧ w'.cell? ⟨gb484, 4, none⟩ = some (.slice A0_4 l0_4.length c0_4) ∧ w'.cell? ⟨gb484, 5, none⟩ = some (.slice A0_5 l0_5.length c0_5) ∧ w'.cell? ⟨gb484, 6, none⟩ = some (.slice A0_6 l0_6.length c0_6) ∧ w'.cell? ⟨gb488, 0, none⟩ = some (.string ((rd_T35 l0_3 a2).f0)) ∧ w'.cell? ⟨gb488, 1, none⟩ = some (.string ((rd_T35 l0_3 a2).f1)) ∧ w'.cell? ⟨gb488, 2, none⟩ = some (.int .u64 ((rd_T35 l0_3 a2).f2)) ∧ w'.cell? ⟨gb488, 3, none⟩ = some (.int .u64 ((rd_T35 l0_3 a2).f3)) ∧ w'.cell? ⟨gb488, 4, none⟩ = some (.int .i64 ((rd_T35 l0_3 a2).f4)) ∧ w'.cell? ⟨gb488, 5, none⟩ = some (.int .i64 ((rd_T35 l0_3 a2).f5)) ∧ w'.cell? ⟨gb488, 6, none⟩ = some (.int .i64 ((rd_T35 l0_3 a2).f6)) ∧ w'.cell? ⟨gb488, 7, none⟩ = some (.bool ((rd_T35 l0_3 a2).f7))) (ds := []) #[false, false, false, false, false, false, false, false, false, false, false] (by kernel_rfl) rfl rfl ⟨cz BK484 0, cz BK484 1, cz BK484 2, cz BK484 3, cz BK484 4, cz BK484 5, cz BK484 6, cz BK488 0, cz BK488 1, cz BK488 2, cz BK488 3, cz BK488 4, cz BK488 5, cz BK488 6, cz BK488 7⟩ (fun hHeld => ?_); refine with_tabW curtilageref18_Entry.tab2 curtilageref18_Entry.bits2 (fun HT_ HW_ => ?_)
   generalize w21.drew = w22 at BK484 BK485 BK486 BK488 HB hHeld ⊢
   refine pv 1 19 (bA 11 2) HT_ ?_
   refine pv 3 21 (bA 11 10) HT_ ?_
   refine pv 5 23 (bA 11 42) HT_ ?_
   refine tv 0 18 (bA 11 43) HT_ HW_ hHeld ?_ (hy := by rintro w' ⟨s0, s1, s2, s3, s4, s5, s6, s7, s8, s9, s10, s11, s12, s13, s14⟩; go_simp; with_reducible rfl)
   refine tv 2 20 (bA 11 47) HT_ HW_ hHeld ?_ (hy := by rintro w' ⟨s0, s1, s2, s3, s4, s5, s6, s7, s8, s9, s10, s11, s12, s13, s14⟩; go_simp; with_reducible rfl)
   refine tv 4 22 (bA 11 63) HT_ HW_ hHeld ?_ (hy := by rintro w' ⟨s0, s1, s2, s3, s4, s5, s6, s7, s8, s9, s10, s11, s12, s13, s14⟩; go_simp; with_reducible rfl)
   refine tv 6 24 (bA 11 127) HT_ HW_ hHeld ?_ (hy := by rintro w' ⟨s0, s1, s2, s3, s4, s5, s6, s7, s8, s9, s10, s11, s12, s13, s14⟩; go_simp; with_reducible rfl)
   refine join_ (σ := Nat) 1 #[true, true, true, true, true, true, true, true, true, true, false] (fun s_ => [(25, .int .i64 t489), (26, .agg #[.int .u64 t490, .int .u64 t491, .int .u64 t492, .int .i64 t493, .int .i64 t494, .bool t495]), (11, .pointer (some ⟨s_, 0, none⟩))]) (fun s_ w' => (w'.cell? ⟨gb484, 0, none⟩ = some (.string a0_0) ∧ w'.cell? ⟨gb484, 1, none⟩ = some (.slice A0_1 l0_1.length c0_1) ∧ w'.cell? ⟨gb484, 2, none⟩ = some (.slice A0_2 l0_2.length c0_2) ∧ w'.cell? ⟨gb484, 3, none⟩ = some (.slice (some ad487) l0_3.length c0_3) ∧ w'.cell? ⟨gb484, 4, none⟩ = some (.slice A0_4 l0_4.length c0_4) ∧ w'.cell? ⟨gb484, 5, none⟩ = some (.slice A0_5 l0_5.length c0_5) ∧ w'.cell? ⟨gb484, 6, none⟩ = some (.slice A0_6 l0_6.length c0_6) ∧ w'.cell? ⟨gb488, 0, none⟩ = some (.string ((rd_T35 l0_3 a2).f0)) ∧ w'.cell? ⟨gb488, 1, none⟩ = some (.string ((rd_T35 l0_3 a2).f1)) ∧ w'.cell? ⟨gb488, 2, none⟩ = some (.int .u64 ((rd_T35 l0_3 a2).f2)) ∧ w'.cell? ⟨gb488, 3, none⟩ = some (.int .u64 ((rd_T35 l0_3 a2).f3)) ∧ w'.cell? ⟨gb488, 4, none⟩ = some (.int .i64 ((rd_T35 l0_3 a2).f4)) ∧ w'.cell? ⟨gb488, 5, none⟩ = some (.int .i64 ((rd_T35 l0_3 a2).f5)) ∧ w'.cell? ⟨gb488, 6, none⟩ = some (.int .i64 ((rd_T35 l0_3 a2).f6)) ∧ w'.cell? ⟨gb488, 7, none⟩ = some (.bool ((rd_T35 l0_3 a2).f7))) ∧ (w'.heap[gb484]? = some (.cells #[.string a0_0, .slice A0_1 l0_1.length c0_1, .slice A0_2 l0_2.length c0_2, .slice (some ad487) l0_3.length c0_3, .slice A0_4 l0_4.length c0_4, .slice A0_5 l0_5.length c0_5, .slice A0_6 l0_6.length c0_6] 28 (0, 0))) ∧ (w'.heap[gb485]? = some (.cells #[.int .u64 0, .int .u64 0, .int .u64 0, .int .i64 0, .int .i64 0, .bool false] 37 (0, 0))) ∧ (w'.heap[gb486]? = some (.cells #[.int .u64 0, .int .u64 0, .int .u64 0, .int .i64 0, .int .i64 0, .bool false] 37 (0, 0))) ∧ (w'.heap[gb488]? = some (.cells #[.string ((rd_T35 l0_3 a2).f0), .string ((rd_T35 l0_3 a2).f1), .int .u64 ((rd_T35 l0_3 a2).f2), .int .u64 ((rd_T35 l0_3 a2).f3), .int .i64 ((rd_T35 l0_3 a2).f4), .int .i64 ((rd_T35 l0_3 a2).f5), .int .i64 ((rd_T35 l0_3 a2).f6), .bool ((rd_T35 l0_3 a2).f7)] 35 (0, 0))) ∧ (w'.heap[s_]? = some (.cells #[.int .u64 0, .int .u64 0, .int .u64 0, .int .i64 0, .int .i64 0, .bool false] 37 (0, 0))) ∧ (w.heap.size ≤ s_) ∧ (w.heap.size ≤ s_) ∧ (gb484 ≠ s_) ∧ (s_ ≠ gb484) ∧ (gb485 ≠ s_) ∧ (s_ ≠ gb485) ∧ (gb486 ≠ s_) ∧ (s_ ≠ gb486) ∧ (gb488 ≠ s_) ∧ (s_ ≠ gb488) ∧ (Below w.heap.size w w')) ?_ ?_
   rotate_left
   ·intro hCont
    refine two_ (i := 7) (j := 9) (Ni := some 25) (Nj := some 11) #[true, true, true, true, true, true, true, true, false, false, false] #[true, true, true, true, true, true, true, false, false, true, false] rfl rfl rfl rfl (two_of HT_.out (by kernel_rfl)) (by decide) (by decide) (fun K hK => ?_) (fun K hK => ?_)
    ·skip
     refine goes_ Try.func28 (by kernel_rfl) rfl #[.agg #[.string a0_0, .slice A0_1 l0_1.length c0_1, .slice A0_2 l0_2.length c0_2, .slice (some ad487) l0_3.length c0_3, .slice A0_4 l0_4.length c0_4, .slice A0_5 l0_5.length c0_5, .slice A0_6 l0_6.length c0_6], .int .u64 ((rd_T35 l0_3 a2).f2), .int .u64 ((rd_T35 l0_3 a2).f3)] (by rfl) rfl rfl (by (try simp only [List.map_toArray, List.map_cons, List.map_nil]); first | done | rfl | (simp only [List.length_drop, List.length_take]; rfl)) ?_
     with_reducible refine (curtilageref10_At.calls k a0_0 _ _ l0_1 _ _ l0_2 _ _ l0_3 _ _ l0_4 _ _ l0_5 _ _ l0_6 ((rd_T35 l0_3 a2).f2) ((rd_T35 l0_3 a2).f3) t489 _ ?side1 ?side2 ?side3 ?side4 ?side5 ?side6 ?side7 ?side8 ?side9 ?side10 ?side11 ?side12 A7.out).mono ?_
     (case side1 => exact us (Kd.C_below HR0_1.out HB.out))
     (case side2 => exact HC0_1.out)
     (case side3 => exact us (Kd.C_below HR0_2.out HB.out))
     (case side4 => exact HC0_2.out)
     (case side5 => exact us (Kd.C_below HR0_3.out HB.out))
     (case side6 => exact HC0_3.out)
     (case side7 => exact us (Kd.C_below HR0_4.out HB.out))
     (case side8 => exact HC0_4.out)
     (case side9 => exact us (Kd.C_below HR0_5.out HB.out))
     (case side10 => exact HC0_5.out)
     (case side11 => exact us (Kd.C_below HR0_6.out HB.out))
     (case side12 => exact HC0_6.out)
     rintro e w23 ⟨rfl, hb⟩
     refine ⟨_, rfl, ?_⟩
     have n0_ := bw BK484 hb
     have n1_ := bw BK485 hb
     have n2_ := bw BK486 hb
     have n3_ := bw BK488 hb
     have n4_ := bs HB hb
     revert n0_ n1_ n2_ n3_ n4_
     clear BK484 BK485 BK486 BK488 HB
     intro BK484 BK485 BK486 BK488 HB
     (try clear hb)
     (try clear hb2)
     (try clear hk)
     (try clear hi)
     refine hK.out _ _ ⟨cz BK484 0, cz BK484 1, cz BK484 2, cz BK484 3, cz BK484 4, cz BK484 5, cz BK484 6, cz BK488 0, cz BK488 1, cz BK488 2, cz BK488 3, cz BK488 4, cz BK488 5, cz BK488 6, cz BK488 7⟩ (fun hHeld => ?_)
     clear hK K
     refine norm_ (a' := ?_) ?_ ?_
     rotate_left
     ·show Act.put _ (some 25) _ = _
      simp only [Act.put, List.setIfInBounds_toArray, List.set_cons_zero, List.set_cons_succ, i64_w, i32_w]
      rfl
     refine two_ (i := 8) (j := 9) (Ni := some 26) (Nj := some 11) #[true, true, true, true, true, true, true, true, true, false, false] #[true, true, true, true, true, true, true, true, false, true, false] rfl rfl rfl rfl (two_of HT_.out (by kernel_rfl)) (by decide) (by decide) (fun K hK => ?_) (fun K hK => ?_)
     ·skip
      refine goes_ Try.func32 (by kernel_rfl) rfl #[.agg #[.string a0_0, .slice A0_1 l0_1.length c0_1, .slice A0_2 l0_2.length c0_2, .slice (some ad487) l0_3.length c0_3, .slice A0_4 l0_4.length c0_4, .slice A0_5 l0_5.length c0_5, .slice A0_6 l0_6.length c0_6], .int .u64 a1, .int .i64 t489] (by rfl) rfl rfl (by (try simp only [List.map_toArray, List.map_cons, List.map_nil]); first | done | rfl | (simp only [List.length_drop, List.length_take]; rfl)) ?_
      with_reducible refine (curtilageref17_Part.calls k a0_0 _ _ l0_1 _ _ l0_2 _ _ l0_3 _ _ l0_4 _ _ l0_5 _ _ l0_6 a1 t489 t490 t491 t492 t493 t494 t495 _ ?side1 ?side2 ?side3 ?side4 ?side5 ?side6 ?side7 ?side8 ?side9 ?side10 ?side11 ?side12 A8.out).mono ?_
      (case side1 => exact us (Kd.C_below HR0_1.out HB.out))
      (case side2 => exact HC0_1.out)
      (case side3 => exact us (Kd.C_below HR0_2.out HB.out))
      (case side4 => exact HC0_2.out)
      (case side5 => exact us (Kd.C_below HR0_3.out HB.out))
      (case side6 => exact HC0_3.out)
      (case side7 => exact us (Kd.C_below HR0_4.out HB.out))
      (case side8 => exact HC0_4.out)
      (case side9 => exact us (Kd.C_below HR0_5.out HB.out))
      (case side10 => exact HC0_5.out)
      (case side11 => exact us (Kd.C_below HR0_6.out HB.out))
      (case side12 => exact HC0_6.out)
      rintro e w24 ⟨rfl, hb⟩
      refine ⟨_, rfl, ?_⟩
      have n0_ := bw BK484 hb
      have n1_ := bw BK485 hb
      have n2_ := bw BK486 hb
      have n3_ := bw BK488 hb
      have n4_ := bs HB hb
      revert n0_ n1_ n2_ n3_ n4_
      clear BK484 BK485 BK486 BK488 HB
      intro BK484 BK485 BK486 BK488 HB
      (try clear hb)
      (try clear hb2)
      (try clear hk)
      (try clear hi)
      refine hK.out _ _ ⟨cz BK484 0, cz BK484 1, cz BK484 2, cz BK484 3, cz BK484 4, cz BK484 5, cz BK484 6, cz BK488 0, cz BK488 1, cz BK488 2, cz BK488 3, cz BK488 4, cz BK488 5, cz BK488 6, cz BK488 7⟩ (fun hHeld => ?_)
      clear hK K
      refine norm_ (a' := ?_) ?_ ?_
      rotate_left
      ·show Act.put _ (some 26) _ = _
       simp only [Act.put, List.setIfInBounds_toArray, List.set_cons_zero, List.set_cons_succ, i64_w, i32_w]
       rfl
      refine one_ (i := 9) (N := some 11) #[true, true, true, true, true, true, true, true, true, true, false] rfl rfl (one_of HT_.out (by kernel_rfl)) (by decide) (fun K hK => ?_)
      refine box_step ?hg (N := 11) ?hd (cs := #[.int .u64 0, .int .u64 0, .int .u64 0, .int .i64 0, .int .i64 0, .bool false]) (t := 37) ?hr ?_; (case hd => rfl); (case hg => rfl); (case hr => first | (go_simp; done) | (go_simp; rfl))
      intro gb496 hg w25 hbox hb
      have n0_ := bw BK484 hb
      have n1_ := bw BK485 hb
      have n2_ := bw BK486 hb
      have n3_ := bw BK488 hb
      have n4_ := bs HB hb
      have n5_ := am (hbox)
      have n6_ := nz HB hg
      have n7_ := nz HB hg
      have n8_ := nl BK484 hg
      have n9_ := nr BK484 hg
      have n10_ := nl BK485 hg
      have n11_ := nr BK485 hg
      have n12_ := nl BK486 hg
      have n13_ := nr BK486 hg
      have n14_ := nl BK488 hg
      have n15_ := nr BK488 hg
      revert n0_ n1_ n2_ n3_ n4_ n5_ n6_ n7_ n8_ n9_ n10_ n11_ n12_ n13_ n14_ n15_
      clear BK484 BK485 BK486 BK488 HB
      intro BK484 BK485 BK486 BK488 HB BK496 GW496 GE496 NB484_496 NB496_484 NB485_496 NB496_485 NB486_496 NB496_486 NB488_496 NB496_488
      clear hb hbox hg
      refine hK.out _ _ ⟨cz BK484 0, cz BK484 1, cz BK484 2, cz BK484 3, cz BK484 4, cz BK484 5, cz BK484 6, cz BK488 0, cz BK488 1, cz BK488 2, cz BK488 3, cz BK488 4, cz BK488 5, cz BK488 6, cz BK488 7⟩ (fun hHeld => ?_)
      clear hK K
      refine norm_ (a' := ?_) ?_ ?_
      rotate_left
      ·show Act.put _ (some 11) _ = _
       simp only [Act.put, List.setIfInBounds_toArray, List.set_cons_zero, List.set_cons_succ, i64_w, i32_w]
       rfl
      exact norm_ (by simp only [putAll, Act.put, List.setIfInBounds_toArray, List.set_cons_zero, List.set_cons_succ]) (hCont (gb496) _ ⟨hHeld, (ub BK484.out), (ub BK485.out), (ub BK486.out), (ub BK488.out), (ub BK496.out), GW496.out, GE496.out, NB484_496.out, NB496_484.out, NB485_496.out, NB496_485.out, NB486_496.out, NB496_486.out, NB488_496.out, NB496_488.out, (uc HB.out)⟩)
     ·skip
      refine box_step ?hg (N := 11) ?hd (cs := #[.int .u64 0, .int .u64 0, .int .u64 0, .int .i64 0, .int .i64 0, .bool false]) (t := 37) ?hr ?_; (case hd => rfl); (case hg => rfl); (case hr => first | (go_simp; done) | (go_simp; rfl))
      intro gb496 hg w24 hbox hb
      have n0_ := bw BK484 hb
      have n1_ := bw BK485 hb
      have n2_ := bw BK486 hb
      have n3_ := bw BK488 hb
      have n4_ := bs HB hb
      have n5_ := am (hbox)
      have n6_ := nz HB hg
      have n7_ := nz HB hg
      have n8_ := nl BK484 hg
      have n9_ := nr BK484 hg
      have n10_ := nl BK485 hg
      have n11_ := nr BK485 hg
      have n12_ := nl BK486 hg
      have n13_ := nr BK486 hg
      have n14_ := nl BK488 hg
      have n15_ := nr BK488 hg
      revert n0_ n1_ n2_ n3_ n4_ n5_ n6_ n7_ n8_ n9_ n10_ n11_ n12_ n13_ n14_ n15_
      clear BK484 BK485 BK486 BK488 HB
      intro BK484 BK485 BK486 BK488 HB BK496 GW496 GE496 NB484_496 NB496_484 NB485_496 NB496_485 NB486_496 NB496_486 NB488_496 NB496_488
      clear hb hbox hg
      refine hK.out _ _ ⟨cz BK484 0, cz BK484 1, cz BK484 2, cz BK484 3, cz BK484 4, cz BK484 5, cz BK484 6, cz BK488 0, cz BK488 1, cz BK488 2, cz BK488 3, cz BK488 4, cz BK488 5, cz BK488 6, cz BK488 7⟩ (fun hHeld => ?_)
      clear hK K
      refine norm_ (a' := ?_) ?_ ?_
      rotate_left
      ·show Act.put _ (some 11) _ = _
       simp only [Act.put, List.setIfInBounds_toArray, List.set_cons_zero, List.set_cons_succ, i64_w, i32_w]
       rfl
      refine one_ (i := 8) (N := some 26) #[true, true, true, true, true, true, true, true, true, true, false] rfl rfl (one_of HT_.out (by kernel_rfl)) (by decide) (fun K hK => ?_)
      refine goes_ Try.func32 (by kernel_rfl) rfl #[.agg #[.string a0_0, .slice A0_1 l0_1.length c0_1, .slice A0_2 l0_2.length c0_2, .slice (some ad487) l0_3.length c0_3, .slice A0_4 l0_4.length c0_4, .slice A0_5 l0_5.length c0_5, .slice A0_6 l0_6.length c0_6], .int .u64 a1, .int .i64 t489] (by rfl) rfl rfl (by (try simp only [List.map_toArray, List.map_cons, List.map_nil]); first | done | rfl | (simp only [List.length_drop, List.length_take]; rfl)) ?_
      with_reducible refine (curtilageref17_Part.calls k a0_0 _ _ l0_1 _ _ l0_2 _ _ l0_3 _ _ l0_4 _ _ l0_5 _ _ l0_6 a1 t489 t490 t491 t492 t493 t494 t495 _ ?side1 ?side2 ?side3 ?side4 ?side5 ?side6 ?side7 ?side8 ?side9 ?side10 ?side11 ?side12 A8.out).mono ?_
      (case side1 => exact us (Kd.C_below HR0_1.out HB.out))
      (case side2 => exact HC0_1.out)
      (case side3 => exact us (Kd.C_below HR0_2.out HB.out))
      (case side4 => exact HC0_2.out)
      (case side5 => exact us (Kd.C_below HR0_3.out HB.out))
      (case side6 => exact HC0_3.out)
      (case side7 => exact us (Kd.C_below HR0_4.out HB.out))
      (case side8 => exact HC0_4.out)
      (case side9 => exact us (Kd.C_below HR0_5.out HB.out))
      (case side10 => exact HC0_5.out)
      (case side11 => exact us (Kd.C_below HR0_6.out HB.out))
      (case side12 => exact HC0_6.out)
      rintro e w25 ⟨rfl, hb⟩
      refine ⟨_, rfl, ?_⟩
      have n0_ := bw BK484 hb
      have n1_ := bw BK485 hb
      have n2_ := bw BK486 hb
      have n3_ := bw BK488 hb
      have n4_ := bw BK496 hb
      have n5_ := bs HB hb
      revert n0_ n1_ n2_ n3_ n4_ n5_
      clear BK484 BK485 BK486 BK488 BK496 HB
      intro BK484 BK485 BK486 BK488 BK496 HB
      (try clear hb)
      (try clear hb2)
      (try clear hk)
      (try clear hi)
      refine hK.out _ _ ⟨cz BK484 0, cz BK484 1, cz BK484 2, cz BK484 3, cz BK484 4, cz BK484 5, cz BK484 6, cz BK488 0, cz BK488 1, cz BK488 2, cz BK488 3, cz BK488 4, cz BK488 5, cz BK488 6, cz BK488 7⟩ (fun hHeld => ?_)
      clear hK K
      refine norm_ (a' := ?_) ?_ ?_
      rotate_left
      ·show Act.put _ (some 26) _ = _
       simp only [Act.put, List.setIfInBounds_toArray, List.set_cons_zero, List.set_cons_succ, i64_w, i32_w]
       rfl
      exact norm_ (by simp only [putAll, Act.put, List.setIfInBounds_toArray, List.set_cons_zero, List.set_cons_succ]) (hCont (gb496) _ ⟨hHeld, (ub BK484.out), (ub BK485.out), (ub BK486.out), (ub BK488.out), (ub BK496.out), GW496.out, GE496.out, NB484_496.out, NB496_484.out, NB485_496.out, NB496_485.out, NB486_496.out, NB496_486.out, NB488_496.out, NB496_488.out, (uc HB.out)⟩)
    ·skip
     refine box_step ?hg (N := 11) ?hd (cs := #[.int .u64 0, .int .u64 0, .int .u64 0, .int .i64 0, .int .i64 0, .bool false]) (t := 37) ?hr ?_; (case hd => rfl); (case hg => rfl); (case hr => first | (go_simp; done) | (go_simp; rfl))
     intro gb496 hg w23 hbox hb
     have n0_ := bw BK484 hb
     have n1_ := bw BK485 hb
     have n2_ := bw BK486 hb
     have n3_ := bw BK488 hb
     have n4_ := bs HB hb
     have n5_ := am (hbox)
     have n6_ := nz HB hg
     have n7_ := nz HB hg
     have n8_ := nl BK484 hg
     have n9_ := nr BK484 hg
     have n10_ := nl BK485 hg
     have n11_ := nr BK485 hg
     have n12_ := nl BK486 hg
     have n13_ := nr BK486 hg
     have n14_ := nl BK488 hg
     have n15_ := nr BK488 hg
     revert n0_ n1_ n2_ n3_ n4_ n5_ n6_ n7_ n8_ n9_ n10_ n11_ n12_ n13_ n14_ n15_
     clear BK484 BK485 BK486 BK488 HB
     intro BK484 BK485 BK486 BK488 HB BK496 GW496 GE496 NB484_496 NB496_484 NB485_496 NB496_485 NB486_496 NB496_486 NB488_496 NB496_488
     clear hb hbox hg
     refine hK.out _ _ ⟨cz BK484 0, cz BK484 1, cz BK484 2, cz BK484 3, cz BK484 4, cz BK484 5, cz BK484 6, cz BK488 0, cz BK488 1, cz BK488 2, cz BK488 3, cz BK488 4, cz BK488 5, cz BK488 6, cz BK488 7⟩ (fun hHeld => ?_)
     clear hK K
     refine norm_ (a' := ?_) ?_ ?_
     rotate_left
     ·show Act.put _ (some 11) _ = _
      simp only [Act.put, List.setIfInBounds_toArray, List.set_cons_zero, List.set_cons_succ, i64_w, i32_w]
      rfl
     refine one_ (i := 7) (N := some 25) #[true, true, true, true, true, true, true, true, false, true, false] rfl rfl (one_of HT_.out (by kernel_rfl)) (by decide) (fun K hK => ?_)
     refine goes_ Try.func28 (by kernel_rfl) rfl #[.agg #[.string a0_0, .slice A0_1 l0_1.length c0_1, .slice A0_2 l0_2.length c0_2, .slice (some ad487) l0_3.length c0_3, .slice A0_4 l0_4.length c0_4, .slice A0_5 l0_5.length c0_5, .slice A0_6 l0_6.length c0_6], .int .u64 ((rd_T35 l0_3 a2).f2), .int .u64 ((rd_T35 l0_3 a2).f3)] (by rfl) rfl rfl (by (try simp only [List.map_toArray, List.map_cons, List.map_nil]); first | done | rfl | (simp only [List.length_drop, List.length_take]; rfl)) ?_
     with_reducible refine (curtilageref10_At.calls k a0_0 _ _ l0_1 _ _ l0_2 _ _ l0_3 _ _ l0_4 _ _ l0_5 _ _ l0_6 ((rd_T35 l0_3 a2).f2) ((rd_T35 l0_3 a2).f3) t489 _ ?side1 ?side2 ?side3 ?side4 ?side5 ?side6 ?side7 ?side8 ?side9 ?side10 ?side11 ?side12 A7.out).mono ?_
     (case side1 => exact us (Kd.C_below HR0_1.out HB.out))
     (case side2 => exact HC0_1.out)
     (case side3 => exact us (Kd.C_below HR0_2.out HB.out))
     (case side4 => exact HC0_2.out)
     (case side5 => exact us (Kd.C_below HR0_3.out HB.out))
     (case side6 => exact HC0_3.out)
     (case side7 => exact us (Kd.C_below HR0_4.out HB.out))
     (case side8 => exact HC0_4.out)
     (case side9 => exact us (Kd.C_below HR0_5.out HB.out))
     (case side10 => exact HC0_5.out)
     (case side11 => exact us (Kd.C_below HR0_6.out HB.out))
     (case side12 => exact HC0_6.out)
     rintro e w24 ⟨rfl, hb⟩
     refine ⟨_, rfl, ?_⟩
     have n0_ := bw BK484 hb
     have n1_ := bw BK485 hb
     have n2_ := bw BK486 hb
     have n3_ := bw BK488 hb
     have n4_ := bw BK496 hb
     have n5_ := bs HB hb
     revert n0_ n1_ n2_ n3_ n4_ n5_
     clear BK484 BK485 BK486 BK488 BK496 HB
     intro BK484 BK485 BK486 BK488 BK496 HB
     (try clear hb)
     (try clear hb2)
     (try clear hk)
     (try clear hi)
     refine hK.out _ _ ⟨cz BK484 0, cz BK484 1, cz BK484 2, cz BK484 3, cz BK484 4, cz BK484 5, cz BK484 6, cz BK488 0, cz BK488 1, cz BK488 2, cz BK488 3, cz BK488 4, cz BK488 5, cz BK488 6, cz BK488 7⟩ (fun hHeld => ?_)
     clear hK K
     refine norm_ (a' := ?_) ?_ ?_
     rotate_left
     ·show Act.put _ (some 25) _ = _
      simp only [Act.put, List.setIfInBounds_toArray, List.set_cons_zero, List.set_cons_succ, i64_w, i32_w]
      rfl
     refine one_ (i := 8) (N := some 26) #[true, true, true, true, true, true, true, true, true, true, false] rfl rfl (one_of HT_.out (by kernel_rfl)) (by decide) (fun K hK => ?_)
     refine goes_ Try.func32 (by kernel_rfl) rfl #[.agg #[.string a0_0, .slice A0_1 l0_1.length c0_1, .slice A0_2 l0_2.length c0_2, .slice (some ad487) l0_3.length c0_3, .slice A0_4 l0_4.length c0_4, .slice A0_5 l0_5.length c0_5, .slice A0_6 l0_6.length c0_6], .int .u64 a1, .int .i64 t489] (by rfl) rfl rfl (by (try simp only [List.map_toArray, List.map_cons, List.map_nil]); first | done | rfl | (simp only [List.length_drop, List.length_take]; rfl)) ?_
     with_reducible refine (curtilageref17_Part.calls k a0_0 _ _ l0_1 _ _ l0_2 _ _ l0_3 _ _ l0_4 _ _ l0_5 _ _ l0_6 a1 t489 t490 t491 t492 t493 t494 t495 _ ?side1 ?side2 ?side3 ?side4 ?side5 ?side6 ?side7 ?side8 ?side9 ?side10 ?side11 ?side12 A8.out).mono ?_
     (case side1 => exact us (Kd.C_below HR0_1.out HB.out))
     (case side2 => exact HC0_1.out)
     (case side3 => exact us (Kd.C_below HR0_2.out HB.out))
     (case side4 => exact HC0_2.out)
     (case side5 => exact us (Kd.C_below HR0_3.out HB.out))
     (case side6 => exact HC0_3.out)
     (case side7 => exact us (Kd.C_below HR0_4.out HB.out))
     (case side8 => exact HC0_4.out)
     (case side9 => exact us (Kd.C_below HR0_5.out HB.out))
     (case side10 => exact HC0_5.out)
     (case side11 => exact us (Kd.C_below HR0_6.out HB.out))
     (case side12 => exact HC0_6.out)
     rintro e w25 ⟨rfl, hb⟩
     refine ⟨_, rfl, ?_⟩
     have n0_ := bw BK484 hb
     have n1_ := bw BK485 hb
     have n2_ := bw BK486 hb
     have n3_ := bw BK488 hb
     have n4_ := bw BK496 hb
     have n5_ := bs HB hb
     revert n0_ n1_ n2_ n3_ n4_ n5_
     clear BK484 BK485 BK486 BK488 BK496 HB
     intro BK484 BK485 BK486 BK488 BK496 HB
     (try clear hb)
     (try clear hb2)
     (try clear hk)
     (try clear hi)
     refine hK.out _ _ ⟨cz BK484 0, cz BK484 1, cz BK484 2, cz BK484 3, cz BK484 4, cz BK484 5, cz BK484 6, cz BK488 0, cz BK488 1, cz BK488 2, cz BK488 3, cz BK488 4, cz BK488 5, cz BK488 6, cz BK488 7⟩ (fun hHeld => ?_)
     clear hK K
     refine norm_ (a' := ?_) ?_ ?_
     rotate_left
     ·show Act.put _ (some 26) _ = _
      simp only [Act.put, List.setIfInBounds_toArray, List.set_cons_zero, List.set_cons_succ, i64_w, i32_w]
      rfl
     exact norm_ (by simp only [putAll, Act.put, List.setIfInBounds_toArray, List.set_cons_zero, List.set_cons_succ]) (hCont (gb496) _ ⟨hHeld, (ub BK484.out), (ub BK485.out), (ub BK486.out), (ub BK488.out), (ub BK496.out), GW496.out, GE496.out, NB484_496.out, NB496_484.out, NB485_496.out, NB496_485.out, NB486_496.out, NB496_486.out, NB488_496.out, NB496_488.out, (uc HB.out)⟩)
   rintro gb496 w26 ⟨hS_, h0_, h1_, h2_, h3_, h4_, h5_, h6_, h7_, h8_, h9_, h10_, h11_, h12_, h13_, h14_, h15_⟩
   have n0_ : Aside0 (w26.heap[gb484]? = some (.cells #[.string a0_0, .slice A0_1 l0_1.length c0_1, .slice A0_2 l0_2.length c0_2, .slice (some ad487) l0_3.length c0_3, .slice A0_4 l0_4.length c0_4, .slice A0_5 l0_5.length c0_5, .slice A0_6 l0_6.length c0_6] 28 (0, 0))) := ⟨h0_⟩
   have n1_ : Aside0 (w26.heap[gb485]? = some (.cells #[.int .u64 0, .int .u64 0, .int .u64 0, .int .i64 0, .int .i64 0, .bool false] 37 (0, 0))) := ⟨h1_⟩
   have n2_ : Aside0 (w26.heap[gb486]? = some (.cells #[.int .u64 0, .int .u64 0, .int .u64 0, .int .i64 0, .int .i64 0, .bool false] 37 (0, 0))) := ⟨h2_⟩
   have n3_ : Aside0 (w26.heap[gb488]? = some (.cells #[.string ((rd_T35 l0_3 a2).f0), .string ((rd_T35 l0_3 a2).f1), .int .u64 ((rd_T35 l0_3 a2).f2), .int .u64 ((rd_T35 l0_3 a2).f3), .int .i64 ((rd_T35 l0_3 a2).f4), .int .i64 ((rd_T35 l0_3 a2).f5), .int .i64 ((rd_T35 l0_3 a2).f6), .bool ((rd_T35 l0_3 a2).f7)] 35 (0, 0))) := ⟨h3_⟩
   have n4_ : Aside0 (w26.heap[gb496]? = some (.cells #[.int .u64 0, .int .u64 0, .int .u64 0, .int .i64 0, .int .i64 0, .bool false] 37 (0, 0))) := ⟨h4_⟩
   have n5_ : Aside0 (w.heap.size ≤ gb496) := ⟨h5_⟩
   have n6_ : Aside0 (w.heap.size ≤ gb496) := ⟨h6_⟩
   have n7_ : Aside0 (gb484 ≠ gb496) := ⟨h7_⟩
   have n8_ : Aside0 (gb496 ≠ gb484) := ⟨h8_⟩
   have n9_ : Aside0 (gb485 ≠ gb496) := ⟨h9_⟩
   have n10_ : Aside0 (gb496 ≠ gb485) := ⟨h10_⟩
   have n11_ : Aside0 (gb486 ≠ gb496) := ⟨h11_⟩
   have n12_ : Aside0 (gb496 ≠ gb486) := ⟨h12_⟩
   have n13_ : Aside0 (gb488 ≠ gb496) := ⟨h13_⟩
   have n14_ : Aside0 (gb496 ≠ gb488) := ⟨h14_⟩
   have n15_ : Aside0 (Below w.heap.size w w26) := ⟨h15_⟩
   clear BK484 BK485 BK486 BK488 HB h0_ h1_ h2_ h3_ h4_ h5_ h6_ h7_ h8_ h9_ h10_ h11_ h12_ h13_ h14_ h15_
   revert n0_ n1_ n2_ n3_ n4_ n5_ n6_ n7_ n8_ n9_ n10_ n11_ n12_ n13_ n14_ n15_
   intro BK484 BK485 BK486 BK488 BK496 GW496 GE496 NB484_496 NB496_484 NB485_496 NB496_485 NB486_496 NB496_486 NB488_496 NB496_488 HB
   have hHeld : w26.cell? ⟨gb484, 0, none⟩ = some (.string a0_0) ∧ w26.cell? ⟨gb484, 1, none⟩ = some (.slice A0_1 l0_1.length c0_1) ∧ w26.cell? ⟨gb484, 2, none⟩ = some (.slice A0_2 l0_2.length c0_2) ∧ w26.cell? ⟨gb484, 3, none⟩ = some (.slice (some ad487) l0_3.length c0_3) ∧ w26.cell? ⟨gb484, 4, none⟩ = some (.slice A0_4 l0_4.length c0_4) ∧ w26.cell? ⟨gb484, 5, none⟩ = some (.slice A0_5 l0_5.length c0_5) ∧ w26.cell? ⟨gb484, 6, none⟩ = some (.slice A0_6 l0_6.length c0_6) ∧ w26.cell? ⟨gb488, 0, none⟩ = some (.string ((rd_T35 l0_3 a2).f0)) ∧ w26.cell? ⟨gb488, 1, none⟩ = some (.string ((rd_T35 l0_3 a2).f1)) ∧ w26.cell? ⟨gb488, 2, none⟩ = some (.int .u64 ((rd_T35 l0_3 a2).f2)) ∧ w26.cell? ⟨gb488, 3, none⟩ = some (.int .u64 ((rd_T35 l0_3 a2).f3)) ∧ w26.cell? ⟨gb488, 4, none⟩ = some (.int .i64 ((rd_T35 l0_3 a2).f4)) ∧ w26.cell? ⟨gb488, 5, none⟩ = some (.int .i64 ((rd_T35 l0_3 a2).f5)) ∧ w26.cell? ⟨gb488, 6, none⟩ = some (.int .i64 ((rd_T35 l0_3 a2).f6)) ∧ w26.cell? ⟨gb488, 7, none⟩ = some (.bool ((rd_T35 l0_3 a2).f7)) := hS_
   refine norm_ (a' := ?_) ?_ ?_
   rotate_left
   ·simp only [putAll, Act.put, List.setIfInBounds_toArray, List.set_cons_zero, List.set_cons_succ]
    rfl
   refine one_ (i := 10) (N := none) #[true, true, true, true, true, true, true, true, true, true, true] rfl rfl (one_of HT_.out (by kernel_rfl)) (by decide) (fun K hK => ?_)
   have hs27 : w26.cell? ⟨gb496, 0, none⟩ = some (.int .u64 0) := cz BK496 0
   have hfs27 := fz BK496 0
   have hns27_0 := NB484_496.out
   have hns27_1 := NB485_496.out
   have hns27_2 := NB486_496.out
   have hns27_3 := NB488_496.out
   have hms27_0 := NB496_484.out
   have hms27_1 := NB496_485.out
   have hms27_2 := NB496_486.out
   have hms27_3 := NB496_488.out
   have hs28 : w26.cell? ⟨gb496, 1, none⟩ = some (.int .u64 0) := cz BK496 1
   have hfs28 := fz BK496 1
   have hns28_0 := NB484_496.out
   have hns28_1 := NB485_496.out
   have hns28_2 := NB486_496.out
   have hns28_3 := NB488_496.out
   have hms28_0 := NB496_484.out
   have hms28_1 := NB496_485.out
   have hms28_2 := NB496_486.out
   have hms28_3 := NB496_488.out
   have hs29 : w26.cell? ⟨gb496, 2, none⟩ = some (.int .u64 0) := cz BK496 2
   have hfs29 := fz BK496 2
   have hns29_0 := NB484_496.out
   have hns29_1 := NB485_496.out
   have hns29_2 := NB486_496.out
   have hns29_3 := NB488_496.out
   have hms29_0 := NB496_484.out
   have hms29_1 := NB496_485.out
   have hms29_2 := NB496_486.out
   have hms29_3 := NB496_488.out
   have hs30 : w26.cell? ⟨gb496, 3, none⟩ = some (.int .i64 0) := cz BK496 3
   have hfs30 := fz BK496 3
   have hns30_0 := NB484_496.out
   have hns30_1 := NB485_496.out
   have hns30_2 := NB486_496.out
   have hns30_3 := NB488_496.out
   have hms30_0 := NB496_484.out
   have hms30_1 := NB496_485.out
   have hms30_2 := NB496_486.out
   have hms30_3 := NB496_488.out
   have hs31 : w26.cell? ⟨gb496, 4, none⟩ = some (.int .i64 0) := cz BK496 4
   have hfs31 := fz BK496 4
   have hns31_0 := NB484_496.out
   have hns31_1 := NB485_496.out
   have hns31_2 := NB486_496.out
   have hns31_3 := NB488_496.out
   have hms31_0 := NB496_484.out
   have hms31_1 := NB496_485.out
   have hms31_2 := NB496_486.out
   have hms31_3 := NB496_488.out
   have hs32 : w26.cell? ⟨gb496, 5, none⟩ = some (.bool false) := cz BK496 5
   have hfs32 := fz BK496 5
   have hns32_0 := NB484_496.out
   have hns32_1 := NB485_496.out
   have hns32_2 := NB486_496.out
   have hns32_3 := NB488_496.out
   have hms32_0 := NB496_484.out
   have hms32_1 := NB496_485.out
   have hms32_2 := NB496_486.out
   have hms32_3 := NB496_488.out
   refine skip_ (w1 := ?_) (by rfl) rfl ?_ ?_
   rotate_left
   ·go_simp
    rfl
   refine hK.out _ _ ⟨((cnf6 (NB484_496.out)).trans (hHeld.1)), ((cnf6 (NB484_496.out)).trans (hHeld.2.1)), ((cnf6 (NB484_496.out)).trans (hHeld.2.2.1)), ((cnf6 (NB484_496.out)).trans (hHeld.2.2.2.1)), ((cnf6 (NB484_496.out)).trans (hHeld.2.2.2.2.1)), ((cnf6 (NB484_496.out)).trans (hHeld.2.2.2.2.2.1)), ((cnf6 (NB484_496.out)).trans (hHeld.2.2.2.2.2.2.1)), ((cnf6 (NB488_496.out)).trans (hHeld.2.2.2.2.2.2.2.1)), ((cnf6 (NB488_496.out)).trans (hHeld.2.2.2.2.2.2.2.2.1)), ((cnf6 (NB488_496.out)).trans (hHeld.2.2.2.2.2.2.2.2.2.1)), ((cnf6 (NB488_496.out)).trans (hHeld.2.2.2.2.2.2.2.2.2.2.1)), ((cnf6 (NB488_496.out)).trans (hHeld.2.2.2.2.2.2.2.2.2.2.2.1)), ((cnf6 (NB488_496.out)).trans (hHeld.2.2.2.2.2.2.2.2.2.2.2.2.1)), ((cnf6 (NB488_496.out)).trans (hHeld.2.2.2.2.2.2.2.2.2.2.2.2.2.1)), ((cnf6 (NB488_496.out)).trans (hHeld.2.2.2.2.2.2.2.2.2.2.2.2.2.2))⟩ (fun hHeld => ?_)
   clear hK K
   refine done_ (done_of HT_.out (by kernel_rfl)) ?_
   have hnb33 := NB488_496.out
   have hnc33 := NB496_488.out
   have hcz34_0 : w26.cell? ⟨gb488, 0, none⟩ = some (.string ((rd_T35 l0_3 a2).f0)) := cz BK488 0
   have hcz34_1 : w26.cell? ⟨gb488, 1, none⟩ = some (.string ((rd_T35 l0_3 a2).f1)) := cz BK488 1
   have hcz34_2 : w26.cell? ⟨gb488, 2, none⟩ = some (.int .u64 ((rd_T35 l0_3 a2).f2)) := cz BK488 2
   have hcz34_3 : w26.cell? ⟨gb488, 3, none⟩ = some (.int .u64 ((rd_T35 l0_3 a2).f3)) := cz BK488 3
   have hcz34_4 : w26.cell? ⟨gb488, 4, none⟩ = some (.int .i64 ((rd_T35 l0_3 a2).f4)) := cz BK488 4
   have hcz34_5 : w26.cell? ⟨gb488, 5, none⟩ = some (.int .i64 ((rd_T35 l0_3 a2).f5)) := cz BK488 5
   have hcz34_6 : w26.cell? ⟨gb488, 6, none⟩ = some (.int .i64 ((rd_T35 l0_3 a2).f6)) := cz BK488 6
   have hcz34_7 : w26.cell? ⟨gb488, 7, none⟩ = some (.bool ((rd_T35 l0_3 a2).f7)) := cz BK488 7
   have hfz34_0 := fz BK488 0
   have hfz34_1 := fz BK488 1
   have hfz34_2 := fz BK488 2
   have hfz34_3 := fz BK488 3
   have hfz34_4 := fz BK488 4
   have hfz34_5 := fz BK488 5
   have hfz34_6 := fz BK488 6
   have hfz34_7 := fz BK488 7
   have hnb35 := NB496_484.out
   have hnc35 := NB484_496.out
   have hnb36 := NB496_485.out
   have hnc36 := NB485_496.out
   have hnb37 := NB496_486.out
   have hnc37 := NB486_496.out
   have hcz38_0 : w26.cell? ⟨gb496, 0, none⟩ = some (.int .u64 0) := cz BK496 0
   have hcz38_1 : w26.cell? ⟨gb496, 1, none⟩ = some (.int .u64 0) := cz BK496 1
   have hcz38_2 : w26.cell? ⟨gb496, 2, none⟩ = some (.int .u64 0) := cz BK496 2
   have hcz38_3 : w26.cell? ⟨gb496, 3, none⟩ = some (.int .i64 0) := cz BK496 3
   have hcz38_4 : w26.cell? ⟨gb496, 4, none⟩ = some (.int .i64 0) := cz BK496 4
   have hcz38_5 : w26.cell? ⟨gb496, 5, none⟩ = some (.bool false) := cz BK496 5
   have hfz38_0 := fz BK496 0
   have hfz38_1 := fz BK496 1
   have hfz38_2 := fz BK496 2
   have hfz38_3 := fz BK496 3
   have hfz38_4 := fz BK496 4
   have hfz38_5 := fz BK496 5
   have hcz39_0 : w26.cell? ⟨gb484, 0, none⟩ = some (.string a0_0) := cz BK484 0
   have hcz39_1 : w26.cell? ⟨gb484, 1, none⟩ = some (.slice A0_1 l0_1.length c0_1) := cz BK484 1
   have hcz39_2 : w26.cell? ⟨gb484, 2, none⟩ = some (.slice A0_2 l0_2.length c0_2) := cz BK484 2
   have hcz39_3 : w26.cell? ⟨gb484, 3, none⟩ = some (.slice (some ad487) l0_3.length c0_3) := cz BK484 3
   have hcz39_4 : w26.cell? ⟨gb484, 4, none⟩ = some (.slice A0_4 l0_4.length c0_4) := cz BK484 4
   have hcz39_5 : w26.cell? ⟨gb484, 5, none⟩ = some (.slice A0_5 l0_5.length c0_5) := cz BK484 5
   have hcz39_6 : w26.cell? ⟨gb484, 6, none⟩ = some (.slice A0_6 l0_6.length c0_6) := cz BK484 6
   have hfz39_0 := fz BK484 0
   have hfz39_1 := fz BK484 1
   have hfz39_2 := fz BK484 2
   have hfz39_3 := fz BK484 3
   have hfz39_4 := fz BK484 4
   have hfz39_5 := fz BK484 5
   have hfz39_6 := fz BK484 6
   try go_wp2_with (first | ((with_reducible refine gate_dst (N := 40) rfl ?_); (with_reducible refine gate_callee (f := 33) rfl ?_); refine gl (some 40) Try.func33 #[.agg #[.string a0_0, .slice A0_1 l0_1.length c0_1, .slice A0_2 l0_2.length c0_2, .slice (some ad487) l0_3.length c0_3, .slice A0_4 l0_4.length c0_4, .slice A0_5 l0_5.length c0_5, .slice A0_6 l0_6.length c0_6], .int .u64 a1] ?_; (with_reducible refine (curtilageref17_Own.calls k a0_0 _ _ l0_1 _ _ l0_2 _ _ l0_3 _ _ l0_4 _ _ l0_5 _ _ l0_6 a1 t497 t498 t499 t500 t501 t502 _ ?side1 ?side2 ?side3 ?side4 ?side5 ?side6 ?side7 ?side8 ?side9 ?side10 ?side11 ?side12 A9.out).mono ?_); (case side1 => exact Kd.C_below HR0_1.out (uc HB.out)); (case side2 => exact HC0_1.out); (case side3 => exact Kd.C_below HR0_2.out (uc HB.out)); (case side4 => exact HC0_2.out); (case side5 => exact Kd.C_below HR0_3.out (uc HB.out)); (case side6 => exact HC0_3.out); (case side7 => exact Kd.C_below HR0_4.out (uc HB.out)); (case side8 => exact HC0_4.out); (case side9 => exact Kd.C_below HR0_5.out (uc HB.out)); (case side10 => exact HC0_5.out); (case side11 => exact Kd.C_below HR0_6.out (uc HB.out)); (case side12 => exact HC0_6.out); rintro e w40 ⟨rfl, hb⟩; refine ⟨_, rfl, ?_⟩; have n0_ := am (blk_below (g := gb484) (o := .cells #[.string a0_0, .slice A0_1 l0_1.length c0_1, .slice A0_2 l0_2.length c0_2, .slice (some ad487) l0_3.length c0_3, .slice A0_4 l0_4.length c0_4, .slice A0_5 l0_5.length c0_5, .slice A0_6 l0_6.length c0_6] 28 (0, 0)) (by (iterate 9 ((with_reducible repeat (first | refine blk_drewN ?_ _ | refine blk_drew ?_ | refine blk_alloc ?_ _)); refine blk_far ?_ NB484_496.out _)); (with_reducible repeat (first | refine blk_drewN ?_ _ | refine blk_drew ?_ | refine blk_alloc ?_ _)); exact BK484.out) hb); have n1_ := am (blk_below (g := gb485) (o := .cells #[.int .u64 0, .int .u64 0, .int .u64 0, .int .i64 0, .int .i64 0, .bool false] 37 (0, 0)) (by (iterate 9 ((with_reducible repeat (first | refine blk_drewN ?_ _ | refine blk_drew ?_ | refine blk_alloc ?_ _)); refine blk_far ?_ NB485_496.out _)); (with_reducible repeat (first | refine blk_drewN ?_ _ | refine blk_drew ?_ | refine blk_alloc ?_ _)); exact BK485.out) hb); have n2_ := am (blk_below (g := gb486) (o := .cells #[.int .u64 0, .int .u64 0, .int .u64 0, .int .i64 0, .int .i64 0, .bool false] 37 (0, 0)) (by (iterate 9 ((with_reducible repeat (first | refine blk_drewN ?_ _ | refine blk_drew ?_ | refine blk_alloc ?_ _)); refine blk_far ?_ NB486_496.out _)); (with_reducible repeat (first | refine blk_drewN ?_ _ | refine blk_drew ?_ | refine blk_alloc ?_ _)); exact BK486.out) hb); have n3_ := am (blk_below (g := gb488) (o := .cells #[.string ((rd_T35 l0_3 a2).f0), .string ((rd_T35 l0_3 a2).f1), .int .u64 ((rd_T35 l0_3 a2).f2), .int .u64 ((rd_T35 l0_3 a2).f3), .int .i64 ((rd_T35 l0_3 a2).f4), .int .i64 ((rd_T35 l0_3 a2).f5), .int .i64 ((rd_T35 l0_3 a2).f6), .bool ((rd_T35 l0_3 a2).f7)] 35 (0, 0)) (by (iterate 9 ((with_reducible repeat (first | refine blk_drewN ?_ _ | refine blk_drew ?_ | refine blk_alloc ?_ _)); refine blk_far ?_ NB488_496.out _)); (with_reducible repeat (first | refine blk_drewN ?_ _ | refine blk_drew ?_ | refine blk_alloc ?_ _)); exact BK488.out) hb); have n4_ := am (blk_below (g := gb496) (o := .cells #[.int .u64 t490, .int .u64 t491, .int .u64 (IntKind.u64.wrap (a1 + ((rd_T35 l0_3 a2).f2))), .int .i64 (wrap64 (t493 + 128)), .int .i64 a3, .bool t495] 37 (0, 0)) (by (with_reducible repeat (first | refine blk_drewN ?_ _ | refine blk_drew ?_ | refine blk_alloc ?_ _)); refine blk_put (cs := #[.int .u64 t490, .int .u64 t491, .int .u64 (IntKind.u64.wrap (a1 + ((rd_T35 l0_3 a2).f2))), .int .i64 (wrap64 (t493 + 128)), .int .i64 t494, .bool t495]) ?_ 4 _ rfl; (with_reducible repeat (first | refine blk_drewN ?_ _ | refine blk_drew ?_ | refine blk_alloc ?_ _)); refine blk_put (cs := #[.int .u64 t490, .int .u64 t491, .int .u64 (IntKind.u64.wrap (a1 + ((rd_T35 l0_3 a2).f2))), .int .i64 t493, .int .i64 t494, .bool t495]) ?_ 3 _ rfl; (with_reducible repeat (first | refine blk_drewN ?_ _ | refine blk_drew ?_ | refine blk_alloc ?_ _)); refine blk_put (cs := #[.int .u64 t490, .int .u64 t491, .int .u64 t492, .int .i64 t493, .int .i64 t494, .bool t495]) ?_ 2 _ rfl; (with_reducible repeat (first | refine blk_drewN ?_ _ | refine blk_drew ?_ | refine blk_alloc ?_ _)); refine blk_put (cs := #[.int .u64 t490, .int .u64 t491, .int .u64 t492, .int .i64 t493, .int .i64 t494, .bool false]) ?_ 5 _ rfl; (with_reducible repeat (first | refine blk_drewN ?_ _ | refine blk_drew ?_ | refine blk_alloc ?_ _)); refine blk_put (cs := #[.int .u64 t490, .int .u64 t491, .int .u64 t492, .int .i64 t493, .int .i64 0, .bool false]) ?_ 4 _ rfl; (with_reducible repeat (first | refine blk_drewN ?_ _ | refine blk_drew ?_ | refine blk_alloc ?_ _)); refine blk_put (cs := #[.int .u64 t490, .int .u64 t491, .int .u64 t492, .int .i64 0, .int .i64 0, .bool false]) ?_ 3 _ rfl; (with_reducible repeat (first | refine blk_drewN ?_ _ | refine blk_drew ?_ | refine blk_alloc ?_ _)); refine blk_put (cs := #[.int .u64 t490, .int .u64 t491, .int .u64 0, .int .i64 0, .int .i64 0, .bool false]) ?_ 2 _ rfl; (with_reducible repeat (first | refine blk_drewN ?_ _ | refine blk_drew ?_ | refine blk_alloc ?_ _)); refine blk_put (cs := #[.int .u64 t490, .int .u64 0, .int .u64 0, .int .i64 0, .int .i64 0, .bool false]) ?_ 1 _ rfl; (with_reducible repeat (first | refine blk_drewN ?_ _ | refine blk_drew ?_ | refine blk_alloc ?_ _)); refine blk_put (cs := #[.int .u64 0, .int .u64 0, .int .u64 0, .int .i64 0, .int .i64 0, .bool false]) ?_ 0 _ rfl; (with_reducible repeat (first | refine blk_drewN ?_ _ | refine blk_drew ?_ | refine blk_alloc ?_ _)); exact BK496.out) hb); have n5_ := bs HB hb; revert n0_ n1_ n2_ n3_ n4_ n5_; clear BK484 BK485 BK486 BK488 BK496 HB; intro BK484 BK485 BK486 BK488 BK496 HB; (try clear hb)) | ((with_reducible refine gate_dst (N := 12) rfl ?_); refine box_event ?hg (N := 12) ?hd (cs := #[.int .u64 0, .int .u64 0, .int .u64 0, .int .i64 0, .int .i64 0, .bool false]) (t := 37) ?hr ?_; (case hd => rfl); (case hg => rfl); (case hr => first | (go_simp; done) | (go_simp; rfl)); intro gb503 hg w41 hbox hb; have n0_ := bw BK484 hb; have n1_ := bw BK485 hb; have n2_ := bw BK486 hb; have n3_ := bw BK488 hb; have n4_ := bw BK496 hb; have n5_ := bs HB hb; have n6_ := am (hbox); have n7_ := nz HB hg; have n8_ := nz HB hg; have n9_ := nl BK484 hg; have n10_ := nr BK484 hg; have n11_ := nl BK485 hg; have n12_ := nr BK485 hg; have n13_ := nl BK486 hg; have n14_ := nr BK486 hg; have n15_ := nl BK488 hg; have n16_ := nr BK488 hg; have n17_ := nl BK496 hg; have n18_ := nr BK496 hg; revert n0_ n1_ n2_ n3_ n4_ n5_ n6_ n7_ n8_ n9_ n10_ n11_ n12_ n13_ n14_ n15_ n16_ n17_ n18_; clear BK484 BK485 BK486 BK488 BK496 HB; intro BK484 BK485 BK486 BK488 BK496 HB BK503 GW503 GE503 NB484_503 NB503_484 NB485_503 NB503_485 NB486_503 NB503_486 NB488_503 NB503_488 NB496_503 NB503_496; clear hb hbox hg; have hnb42 := NB503_484.out; have hnc42 := NB484_503.out; have hnb43 := NB503_485.out; have hnc43 := NB485_503.out; have hnb44 := NB503_486.out; have hnc44 := NB486_503.out; have hnb45 := NB503_488.out; have hnc45 := NB488_503.out; have hnb46 := NB503_496.out; have hnc46 := NB496_503.out; obtain ⟨hcz47_0, hcz47_1, hcz47_2, hcz47_3, hcz47_4, hcz47_5, hfz47_0, hfz47_1, hfz47_2, hfz47_3, hfz47_4, hfz47_5⟩ := cells6 BK503.out) | ((with_reducible refine gate_store (t := 37) (p := 12) rfl ?_); refine store_event (t := 37) (p := 12) (v := ?vo_w48) (w1 := ((((((w41.setCell ⟨gb503, 0, none⟩ (.int .u64 t497)).setCell ⟨gb503, 1, none⟩ (.int .u64 t498)).setCell ⟨gb503, 2, none⟩ (.int .u64 t499)).setCell ⟨gb503, 3, none⟩ (.int .i64 t500)).setCell ⟨gb503, 4, none⟩ (.int .i64 t501)).setCell ⟨gb503, 5, none⟩ (.bool t502))) ?hg ?ho ?hn ?hr ?_; (case ho => rfl); (case hg => rfl); (case hn => rfl); (case hr => first | (go_simp; done) | (go_simp; rfl)); intro w48 hw; have n0_ := bf6 hw NB484_503 BK484; have n1_ := bf6 hw NB485_503 BK485; have n2_ := bf6 hw NB486_503 BK486; have n3_ := bf6 hw NB488_503 BK488; have n4_ := bf6 hw NB496_503 BK496; have n5_ := bp6 #[.int .u64 t497, .int .u64 t498, .int .u64 t499, .int .i64 t500, .int .i64 t501, .bool t502] hw BK503; have n6_ : Aside0 (Below w.heap.size w w48) := ⟨(by rw [hw]; exact (uc HB.out))⟩; revert n0_ n1_ n2_ n3_ n4_ n5_ n6_; clear hw BK484 BK485 BK486 BK488 BK496 BK503 HB; intro BK484 BK485 BK486 BK488 BK496 BK503 HB; obtain ⟨hcz49_0, hcz49_1, hcz49_2, hcz49_3, hcz49_4, hcz49_5, hfz49_0, hfz49_1, hfz49_2, hfz49_3, hfz49_4, hfz49_5⟩ := cells6 BK503.out))
   have n0_ : Aside0 ((w48.setCell ⟨gb503, 4, none⟩ (.int .i64 a3)).heap[gb484]? = some (.cells #[.string a0_0, .slice A0_1 l0_1.length c0_1, .slice A0_2 l0_2.length c0_2, .slice (some ad487) l0_3.length c0_3, .slice A0_4 l0_4.length c0_4, .slice A0_5 l0_5.length c0_5, .slice A0_6 l0_6.length c0_6] 28 (0, 0))) := ⟨by (with_reducible repeat (first | refine blk_drewN ?_ _ | refine blk_drew ?_ | refine blk_alloc ?_ _)); refine blk_far ?_ NB484_503.out _; (with_reducible repeat (first | refine blk_drewN ?_ _ | refine blk_drew ?_ | refine blk_alloc ?_ _)); exact BK484.out⟩
   have n1_ : Aside0 ((w48.setCell ⟨gb503, 4, none⟩ (.int .i64 a3)).heap[gb485]? = some (.cells #[.int .u64 0, .int .u64 0, .int .u64 0, .int .i64 0, .int .i64 0, .bool false] 37 (0, 0))) := ⟨by (with_reducible repeat (first | refine blk_drewN ?_ _ | refine blk_drew ?_ | refine blk_alloc ?_ _)); refine blk_far ?_ NB485_503.out _; (with_reducible repeat (first | refine blk_drewN ?_ _ | refine blk_drew ?_ | refine blk_alloc ?_ _)); exact BK485.out⟩
   have n2_ : Aside0 ((w48.setCell ⟨gb503, 4, none⟩ (.int .i64 a3)).heap[gb486]? = some (.cells #[.int .u64 0, .int .u64 0, .int .u64 0, .int .i64 0, .int .i64 0, .bool false] 37 (0, 0))) := ⟨by (with_reducible repeat (first | refine blk_drewN ?_ _ | refine blk_drew ?_ | refine blk_alloc ?_ _)); refine blk_far ?_ NB486_503.out _; (with_reducible repeat (first | refine blk_drewN ?_ _ | refine blk_drew ?_ | refine blk_alloc ?_ _)); exact BK486.out⟩
   have n3_ : Aside0 ((w48.setCell ⟨gb503, 4, none⟩ (.int .i64 a3)).heap[gb488]? = some (.cells #[.string ((rd_T35 l0_3 a2).f0), .string ((rd_T35 l0_3 a2).f1), .int .u64 ((rd_T35 l0_3 a2).f2), .int .u64 ((rd_T35 l0_3 a2).f3), .int .i64 ((rd_T35 l0_3 a2).f4), .int .i64 ((rd_T35 l0_3 a2).f5), .int .i64 ((rd_T35 l0_3 a2).f6), .bool ((rd_T35 l0_3 a2).f7)] 35 (0, 0))) := ⟨by (with_reducible repeat (first | refine blk_drewN ?_ _ | refine blk_drew ?_ | refine blk_alloc ?_ _)); refine blk_far ?_ NB488_503.out _; (with_reducible repeat (first | refine blk_drewN ?_ _ | refine blk_drew ?_ | refine blk_alloc ?_ _)); exact BK488.out⟩
   have n4_ : Aside0 ((w48.setCell ⟨gb503, 4, none⟩ (.int .i64 a3)).heap[gb496]? = some (.cells #[.int .u64 t490, .int .u64 t491, .int .u64 (IntKind.u64.wrap (a1 + ((rd_T35 l0_3 a2).f2))), .int .i64 (wrap64 (t493 + 128)), .int .i64 a3, .bool t495] 37 (0, 0))) := ⟨by (with_reducible repeat (first | refine blk_drewN ?_ _ | refine blk_drew ?_ | refine blk_alloc ?_ _)); refine blk_far ?_ NB496_503.out _; (with_reducible repeat (first | refine blk_drewN ?_ _ | refine blk_drew ?_ | refine blk_alloc ?_ _)); exact BK496.out⟩
   have n5_ : Aside0 ((w48.setCell ⟨gb503, 4, none⟩ (.int .i64 a3)).heap[gb503]? = some (.cells #[.int .u64 t497, .int .u64 t498, .int .u64 t499, .int .i64 t500, .int .i64 a3, .bool t502] 37 (0, 0))) := ⟨by (with_reducible repeat (first | refine blk_drewN ?_ _ | refine blk_drew ?_ | refine blk_alloc ?_ _)); refine blk_put (cs := #[.int .u64 t497, .int .u64 t498, .int .u64 t499, .int .i64 t500, .int .i64 t501, .bool t502]) ?_ 4 _ rfl; (with_reducible repeat (first | refine blk_drewN ?_ _ | refine blk_drew ?_ | refine blk_alloc ?_ _)); exact BK503.out⟩
   have n6_ : Aside0 (Below w.heap.size w (w48.setCell ⟨gb503, 4, none⟩ (.int .i64 a3))) := ⟨uc HB.out⟩
   (try clear BK484)
   (try clear BK485)
   (try clear BK486)
   (try clear BK488)
   (try clear BK496)
   (try clear BK503)
   (try clear HB)
   generalize (w48.setCell ⟨gb503, 4, none⟩ (.int .i64 a3)) = w50 at n0_ n1_ n2_ n3_ n4_ n5_ n6_ ⊢
   revert n0_ n1_ n2_ n3_ n4_ n5_ n6_
   intro BK484 BK485 BK486 BK488 BK496 BK503 HB
   have n0_ := am (blk_drew BK484.out)
   have n1_ := am (blk_drew BK485.out)
   have n2_ := am (blk_drew BK486.out)
   have n3_ := am (blk_drew BK488.out)
   have n4_ := am (blk_drew BK496.out)
   have n5_ := am (blk_drew BK503.out)
   have n6_ := am (below_drew1 HB.out)
   revert n0_ n1_ n2_ n3_ n4_ n5_ n6_
   clear BK484 BK485 BK486 BK488 BK496 BK503 HB
   intro BK484 BK485 BK486 BK488 BK496 BK503 HB
   refine start_ (n := 4) (S := fun w' => w'.cell? ⟨gb496, 0, none⟩ = some (.int .u64 t490) ∧ w'.cell? ⟨gb496, 1, none⟩ = some (.int .u64 t491) ∧ w'.cell? ⟨gb496, 2, none⟩ = some (.int .u64 (IntKind.u64.wrap (a1 + ((rd_T35 l0_3 a2).f2)))) ∧ w'.cell? ⟨gb496, 3, none⟩ = some (.int .i64 (wrap64 (t493 + 128))) ∧ w'.cell? ⟨gb496, 4, none⟩ = some (.int .i64 a3) ∧ w'.cell? ⟨gb496, 5, none⟩ = some (.bool t495) ∧ w'.cell? ⟨gb503, 0, none⟩ = some (.int .u64 t497) ∧ w'.cell? ⟨gb503, 1, none⟩ = some (.int .u64 t498) ∧ w'.cell? ⟨gb503, 2, none⟩ = some (.int .u64 t499) ∧ w'.cell? ⟨gb503, 3, none⟩ = some (.int .i64 t500) ∧ w'.cell? ⟨gb503, 4, none⟩ = some (.int .i64 a3) ∧ w'.cell? ⟨gb503, 5, none⟩ = some (.bool t502)) (ds := []) #[false, false, false, false] (by kernel_rfl) rfl rfl ⟨cz BK496 0, cz BK496 1, cz BK496 2, cz BK496 3, cz BK496 4, cz BK496 5, cz BK503 0, cz BK503 1, cz BK503 2, cz BK503 3, cz BK503 4, cz BK503 5⟩ (fun hHeld => ?_)
   generalize w50.drew = w51 at BK484 BK485 BK486 BK488 BK496 BK503 HB hHeld ⊢
   refine take_ (i := 0) (N := some 43) (v := ?_) (a' := ?_) #[true, false, false, false] rfl rfl (by kernel_rfl) (fun _ _ _ h => h) (Or.inl ⟨by rfl, ?_⟩) hHeld ?_ ?_
   rotate_left
   ·rintro w' ⟨s0, s1, s2, s3, s4, s5, s6, s7, s8, s9, s10, s11⟩
    go_simp
    with_reducible rfl
   rotate_left
   ·simp only [Act.put, List.setIfInBounds_toArray, List.set_cons_zero, List.set_cons_succ, i64_w, i32_w]
    rfl
   refine take_ (i := 1) (N := some 44) (v := ?_) (a' := ?_) #[true, true, false, false] rfl rfl (by kernel_rfl) (fun _ _ _ h => h) (Or.inl ⟨by rfl, ?_⟩) hHeld ?_ ?_
   rotate_left
   ·rintro w' ⟨s0, s1, s2, s3, s4, s5, s6, s7, s8, s9, s10, s11⟩
    go_simp
    with_reducible rfl
   rotate_left
   ·simp only [Act.put, List.setIfInBounds_toArray, List.set_cons_zero, List.set_cons_succ, i64_w, i32_w]
    rfl
   refine one_ (i := 2) (N := none) #[true, true, true, false] rfl rfl (by kernel_rfl) (by decide) (fun K hK => ?_)
   have hs52 : w51.cell? ⟨gb485, 0, none⟩ = some (.int .u64 0) := cz BK485 0
   have hfs52 := fz BK485 0
   have hns52_0 := NB484_485.out
   have hns52_2 := NB486_485.out
   have hns52_3 := NB488_485.out
   have hns52_4 := NB496_485.out
   have hns52_5 := NB503_485.out
   have hms52_0 := NB485_484.out
   have hms52_2 := NB485_486.out
   have hms52_3 := NB485_488.out
   have hms52_4 := NB485_496.out
   have hms52_5 := NB485_503.out
   have hs53 : w51.cell? ⟨gb485, 1, none⟩ = some (.int .u64 0) := cz BK485 1
   have hfs53 := fz BK485 1
   have hns53_0 := NB484_485.out
   have hns53_2 := NB486_485.out
   have hns53_3 := NB488_485.out
   have hns53_4 := NB496_485.out
   have hns53_5 := NB503_485.out
   have hms53_0 := NB485_484.out
   have hms53_2 := NB485_486.out
   have hms53_3 := NB485_488.out
   have hms53_4 := NB485_496.out
   have hms53_5 := NB485_503.out
   have hs54 : w51.cell? ⟨gb485, 2, none⟩ = some (.int .u64 0) := cz BK485 2
   have hfs54 := fz BK485 2
   have hns54_0 := NB484_485.out
   have hns54_2 := NB486_485.out
   have hns54_3 := NB488_485.out
   have hns54_4 := NB496_485.out
   have hns54_5 := NB503_485.out
   have hms54_0 := NB485_484.out
   have hms54_2 := NB485_486.out
   have hms54_3 := NB485_488.out
   have hms54_4 := NB485_496.out
   have hms54_5 := NB485_503.out
   have hs55 : w51.cell? ⟨gb485, 3, none⟩ = some (.int .i64 0) := cz BK485 3
   have hfs55 := fz BK485 3
   have hns55_0 := NB484_485.out
   have hns55_2 := NB486_485.out
   have hns55_3 := NB488_485.out
   have hns55_4 := NB496_485.out
   have hns55_5 := NB503_485.out
   have hms55_0 := NB485_484.out
   have hms55_2 := NB485_486.out
   have hms55_3 := NB485_488.out
   have hms55_4 := NB485_496.out
   have hms55_5 := NB485_503.out
   have hs56 : w51.cell? ⟨gb485, 4, none⟩ = some (.int .i64 0) := cz BK485 4
   have hfs56 := fz BK485 4
   have hns56_0 := NB484_485.out
   have hns56_2 := NB486_485.out
   have hns56_3 := NB488_485.out
   have hns56_4 := NB496_485.out
   have hns56_5 := NB503_485.out
   have hms56_0 := NB485_484.out
   have hms56_2 := NB485_486.out
   have hms56_3 := NB485_488.out
   have hms56_4 := NB485_496.out
   have hms56_5 := NB485_503.out
   have hs57 : w51.cell? ⟨gb485, 5, none⟩ = some (.bool false) := cz BK485 5
   have hfs57 := fz BK485 5
   have hns57_0 := NB484_485.out
   have hns57_2 := NB486_485.out
   have hns57_3 := NB488_485.out
   have hns57_4 := NB496_485.out
   have hns57_5 := NB503_485.out
   have hms57_0 := NB485_484.out
   have hms57_2 := NB485_486.out
   have hms57_3 := NB485_488.out
   have hms57_4 := NB485_496.out
   have hms57_5 := NB485_503.out
   refine skip_ (w1 := ?_) (by rfl) rfl ?_ ?_
   rotate_left
   ·go_simp
    rfl
   refine hK.out _ _ ⟨((cnf6 (NB496_485.out)).trans (hHeld.1)), ((cnf6 (NB496_485.out)).trans (hHeld.2.1)), ((cnf6 (NB496_485.out)).trans (hHeld.2.2.1)), ((cnf6 (NB496_485.out)).trans (hHeld.2.2.2.1)), ((cnf6 (NB496_485.out)).trans (hHeld.2.2.2.2.1)), ((cnf6 (NB496_485.out)).trans (hHeld.2.2.2.2.2.1)), ((cnf6 (NB503_485.out)).trans (hHeld.2.2.2.2.2.2.1)), ((cnf6 (NB503_485.out)).trans (hHeld.2.2.2.2.2.2.2.1)), ((cnf6 (NB503_485.out)).trans (hHeld.2.2.2.2.2.2.2.2.1)), ((cnf6 (NB503_485.out)).trans (hHeld.2.2.2.2.2.2.2.2.2.1)), ((cnf6 (NB503_485.out)).trans (hHeld.2.2.2.2.2.2.2.2.2.2.1)), ((cnf6 (NB503_485.out)).trans (hHeld.2.2.2.2.2.2.2.2.2.2.2))⟩ (fun hHeld => ?_)
   clear hK K
   refine one_ (i := 3) (N := none) #[true, true, true, true] rfl rfl (by kernel_rfl) (by decide) (fun K hK => ?_)
   have hs58 : w51.cell? ⟨gb486, 0, none⟩ = some (.int .u64 0) := cz BK486 0
   have hfs58 := fz BK486 0
   have hns58_0 := NB484_486.out
   have hns58_1 := NB485_486.out
   have hns58_3 := NB488_486.out
   have hns58_4 := NB496_486.out
   have hns58_5 := NB503_486.out
   have hms58_0 := NB486_484.out
   have hms58_1 := NB486_485.out
   have hms58_3 := NB486_488.out
   have hms58_4 := NB486_496.out
   have hms58_5 := NB486_503.out
   have hs59 : w51.cell? ⟨gb486, 1, none⟩ = some (.int .u64 0) := cz BK486 1
   have hfs59 := fz BK486 1
   have hns59_0 := NB484_486.out
   have hns59_1 := NB485_486.out
   have hns59_3 := NB488_486.out
   have hns59_4 := NB496_486.out
   have hns59_5 := NB503_486.out
   have hms59_0 := NB486_484.out
   have hms59_1 := NB486_485.out
   have hms59_3 := NB486_488.out
   have hms59_4 := NB486_496.out
   have hms59_5 := NB486_503.out
   have hs60 : w51.cell? ⟨gb486, 2, none⟩ = some (.int .u64 0) := cz BK486 2
   have hfs60 := fz BK486 2
   have hns60_0 := NB484_486.out
   have hns60_1 := NB485_486.out
   have hns60_3 := NB488_486.out
   have hns60_4 := NB496_486.out
   have hns60_5 := NB503_486.out
   have hms60_0 := NB486_484.out
   have hms60_1 := NB486_485.out
   have hms60_3 := NB486_488.out
   have hms60_4 := NB486_496.out
   have hms60_5 := NB486_503.out
   have hs61 : w51.cell? ⟨gb486, 3, none⟩ = some (.int .i64 0) := cz BK486 3
   have hfs61 := fz BK486 3
   have hns61_0 := NB484_486.out
   have hns61_1 := NB485_486.out
   have hns61_3 := NB488_486.out
   have hns61_4 := NB496_486.out
   have hns61_5 := NB503_486.out
   have hms61_0 := NB486_484.out
   have hms61_1 := NB486_485.out
   have hms61_3 := NB486_488.out
   have hms61_4 := NB486_496.out
   have hms61_5 := NB486_503.out
   have hs62 : w51.cell? ⟨gb486, 4, none⟩ = some (.int .i64 0) := cz BK486 4
   have hfs62 := fz BK486 4
   have hns62_0 := NB484_486.out
   have hns62_1 := NB485_486.out
   have hns62_3 := NB488_486.out
   have hns62_4 := NB496_486.out
   have hns62_5 := NB503_486.out
   have hms62_0 := NB486_484.out
   have hms62_1 := NB486_485.out
   have hms62_3 := NB486_488.out
   have hms62_4 := NB486_496.out
   have hms62_5 := NB486_503.out
   have hs63 : w51.cell? ⟨gb486, 5, none⟩ = some (.bool false) := cz BK486 5
   have hfs63 := fz BK486 5
   have hns63_0 := NB484_486.out
   have hns63_1 := NB485_486.out
   have hns63_3 := NB488_486.out
   have hns63_4 := NB496_486.out
   have hns63_5 := NB503_486.out
   have hms63_0 := NB486_484.out
   have hms63_1 := NB486_485.out
   have hms63_3 := NB486_488.out
   have hms63_4 := NB486_496.out
   have hms63_5 := NB486_503.out
   refine skip_ (w1 := ?_) (by rfl) rfl ?_ ?_
   rotate_left
   ·go_simp
    rfl
   refine hK.out _ _ ⟨((cnf6 (NB496_486.out)).trans (hHeld.1)), ((cnf6 (NB496_486.out)).trans (hHeld.2.1)), ((cnf6 (NB496_486.out)).trans (hHeld.2.2.1)), ((cnf6 (NB496_486.out)).trans (hHeld.2.2.2.1)), ((cnf6 (NB496_486.out)).trans (hHeld.2.2.2.2.1)), ((cnf6 (NB496_486.out)).trans (hHeld.2.2.2.2.2.1)), ((cnf6 (NB503_486.out)).trans (hHeld.2.2.2.2.2.2.1)), ((cnf6 (NB503_486.out)).trans (hHeld.2.2.2.2.2.2.2.1)), ((cnf6 (NB503_486.out)).trans (hHeld.2.2.2.2.2.2.2.2.1)), ((cnf6 (NB503_486.out)).trans (hHeld.2.2.2.2.2.2.2.2.2.1)), ((cnf6 (NB503_486.out)).trans (hHeld.2.2.2.2.2.2.2.2.2.2.1)), ((cnf6 (NB503_486.out)).trans (hHeld.2.2.2.2.2.2.2.2.2.2.2))⟩ (fun hHeld => ?_)
   clear hK K
   refine done_ (by kernel_rfl) ?_
   try go_wp2
   refine bodyPost_ret (results_cc rfl _ _ gb485 gb486 37 37 #[.int .u64 t490, .int .u64 t491, .int .u64 (IntKind.u64.wrap (a1 + ((rd_T35 l0_3 a2).f2))), .int .i64 (wrap64 (t493 + 128)), .int .i64 a3, .bool t495] #[.int .u64 t497, .int .u64 t498, .int .u64 t499, .int .i64 t500, .int .i64 a3, .bool t502] (0, 0) (0, 0) _ _ rfl (by (iterate 6 ((with_reducible repeat (first | refine blk_drewN ?_ _ | refine blk_drew ?_ | refine blk_alloc ?_ _)); refine blk_far ?_ NB485_486.out _)); (with_reducible repeat (first | refine blk_drewN ?_ _ | refine blk_drew ?_ | refine blk_alloc ?_ _)); refine blk_put (cs := #[.int .u64 t490, .int .u64 t491, .int .u64 (IntKind.u64.wrap (a1 + ((rd_T35 l0_3 a2).f2))), .int .i64 (wrap64 (t493 + 128)), .int .i64 a3, .bool false]) ?_ 5 _ rfl; (with_reducible repeat (first | refine blk_drewN ?_ _ | refine blk_drew ?_ | refine blk_alloc ?_ _)); refine blk_put (cs := #[.int .u64 t490, .int .u64 t491, .int .u64 (IntKind.u64.wrap (a1 + ((rd_T35 l0_3 a2).f2))), .int .i64 (wrap64 (t493 + 128)), .int .i64 0, .bool false]) ?_ 4 _ rfl; (with_reducible repeat (first | refine blk_drewN ?_ _ | refine blk_drew ?_ | refine blk_alloc ?_ _)); refine blk_put (cs := #[.int .u64 t490, .int .u64 t491, .int .u64 (IntKind.u64.wrap (a1 + ((rd_T35 l0_3 a2).f2))), .int .i64 0, .int .i64 0, .bool false]) ?_ 3 _ rfl; (with_reducible repeat (first | refine blk_drewN ?_ _ | refine blk_drew ?_ | refine blk_alloc ?_ _)); refine blk_put (cs := #[.int .u64 t490, .int .u64 t491, .int .u64 0, .int .i64 0, .int .i64 0, .bool false]) ?_ 2 _ rfl; (with_reducible repeat (first | refine blk_drewN ?_ _ | refine blk_drew ?_ | refine blk_alloc ?_ _)); refine blk_put (cs := #[.int .u64 t490, .int .u64 0, .int .u64 0, .int .i64 0, .int .i64 0, .bool false]) ?_ 1 _ rfl; (with_reducible repeat (first | refine blk_drewN ?_ _ | refine blk_drew ?_ | refine blk_alloc ?_ _)); refine blk_put (cs := #[.int .u64 0, .int .u64 0, .int .u64 0, .int .i64 0, .int .i64 0, .bool false]) ?_ 0 _ rfl; (with_reducible repeat (first | refine blk_drewN ?_ _ | refine blk_drew ?_ | refine blk_alloc ?_ _)); exact BK485.out) Try.underlying37 rfl (by kernel_rfl) rfl (by (with_reducible repeat (first | refine blk_drewN ?_ _ | refine blk_drew ?_ | refine blk_alloc ?_ _)); refine blk_put (cs := #[.int .u64 t497, .int .u64 t498, .int .u64 t499, .int .i64 t500, .int .i64 a3, .bool false]) ?_ 5 _ rfl; (with_reducible repeat (first | refine blk_drewN ?_ _ | refine blk_drew ?_ | refine blk_alloc ?_ _)); refine blk_put (cs := #[.int .u64 t497, .int .u64 t498, .int .u64 t499, .int .i64 t500, .int .i64 0, .bool false]) ?_ 4 _ rfl; (with_reducible repeat (first | refine blk_drewN ?_ _ | refine blk_drew ?_ | refine blk_alloc ?_ _)); refine blk_put (cs := #[.int .u64 t497, .int .u64 t498, .int .u64 t499, .int .i64 0, .int .i64 0, .bool false]) ?_ 3 _ rfl; (with_reducible repeat (first | refine blk_drewN ?_ _ | refine blk_drew ?_ | refine blk_alloc ?_ _)); refine blk_put (cs := #[.int .u64 t497, .int .u64 t498, .int .u64 0, .int .i64 0, .int .i64 0, .bool false]) ?_ 2 _ rfl; (with_reducible repeat (first | refine blk_drewN ?_ _ | refine blk_drew ?_ | refine blk_alloc ?_ _)); refine blk_put (cs := #[.int .u64 t497, .int .u64 0, .int .u64 0, .int .i64 0, .int .i64 0, .bool false]) ?_ 1 _ rfl; (with_reducible repeat (first | refine blk_drewN ?_ _ | refine blk_drew ?_ | refine blk_alloc ?_ _)); refine blk_put (cs := #[.int .u64 0, .int .u64 0, .int .u64 0, .int .i64 0, .int .i64 0, .bool false]) ?_ 0 _ rfl; (iterate 6 ((with_reducible repeat (first | refine blk_drewN ?_ _ | refine blk_drew ?_ | refine blk_alloc ?_ _)); refine blk_far ?_ NB486_485.out _)); (with_reducible repeat (first | refine blk_drewN ?_ _ | refine blk_drew ?_ | refine blk_alloc ?_ _)); exact BK486.out) Try.underlying37 rfl (by kernel_rfl)) rfl ?_
   exact ⟨by first | rfl | (simp [errW_none, errW_some] <;> rfl) | (simp [*, errW_none, errW_some] <;> rfl), uc HB.out⟩
  ·rw [if_neg c6] at H
   exact absurd H (by simp)
 ·rw [if_neg c5] at H
  exact absurd H (by simp)

end Go.Proofs.Ytlbfeklpncoccaa.P
