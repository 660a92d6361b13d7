/- What functions of the program, and of its laws, give, each proved of its code by a walk; no condition. -/
import Derived.Test.YtlbfeklpncoccaaKTableLessPx0
import Derived.Test.YtlbfeklpncoccaaKTableLessPx2
import Derived.Test.YtlbfeklpncoccaaKTableLessPx3
import Derived.Test.YtlbfeklpncoccaaKTableLessSq
import Derived.Test.YtlbfeklpncoccaaKTableLessUsh
import Derived.Test.YtlbfeklpncoccaaKTableLessUs4
namespace Go.Proofs.Ytlbfeklpncoccaa.P
open Go.RowKit Go.Proofs.YtlbfeklpncoccaaW.PrintWords Go.Proofs.YtlbfeklpncoccaaW.PrintLast Go.Proofs.YtlbfeklpncoccaaW.PrintMore
attribute [local go_sem] max2_int min2_int max_two min_two max_three min_three max_four min_four   -- for this text's walks alone
set_option linter.unusedVariables false
set_option linter.unusedSimpArgs false

def table_Data.f (k : Nat) (a0_0 : ByteArray) (l0_1 : List ByteArray) (l0_2 : List (S67)) (l0_3 : List (S35)) (l0_4 : List (S72)) (l0_5 : List Int) (l0_6 : List Int) (a1 : Int) (a2 : Int) : Option (Int × Int × Int × Int × Int × Bool) := if 0 ≤ a2 then (if a2 < (l0_3.length : Int) then ((celf_At.f a0_0 l0_1 l0_2 l0_3 l0_4 l0_5 l0_6 ((rd_T35 l0_3 a2).f2) ((rd_T35 l0_3 a2).f3)).bind fun t192 => ((image_Part.f k a0_0 l0_1 l0_2 l0_3 l0_4 l0_5 l0_6 a1 t192).bind fun bt193 => ((cap_Move.f bt193.1 bt193.2.1 bt193.2.2.1 bt193.2.2.2.1 bt193.2.2.2.2.1 bt193.2.2.2.2.2 (IntKind.u64.wrap (a1 + ((rd_T35 l0_3 a2).f2)))).bind fun bt200 => ((cap_Bound.f bt200.1 bt200.2.1 bt200.2.2.1 bt200.2.2.2.1 bt200.2.2.2.2.1 bt200.2.2.2.2.2 ((rd_T35 l0_3 a2).f3)).bind fun bt206 => (some (bt206.1, bt206.2.1, bt206.2.2.1, bt206.2.2.2.1, bt206.2.2.2.2.1, bt206.2.2.2.2.2)))))) else (none)) else (none)
theorem table_Data.mono : ∀ a0 a1 a2 a3 a4 a5 a6 a7 a8 k, LeO (table_Data.f k a0 a1 a2 a3 a4 a5 a6 a7 a8) (table_Data.f (k + 1) a0 a1 a2 a3 a4 a5 a6 a7 a8) := by
  intro a0 a1 a2 a3 a4 a5 a6 a7 a8 k
  unfold table_Data.f
  repeat' first
      | (with_reducible exact image_Part.mono _ _ _ _ _ _ _ _ _ _)
      | (with_reducible exact LeO.refl _)
      | (with_reducible exact LeO.none _)
      | (with_reducible refine LeO.ite ?_ ?_)
      | (with_reducible refine LeO.bind ?_ (fun _ => ?_))
      | exact image_Part.mono _ _ _ _ _ _ _ _ _ _
      | exact LeO.none _
      | refine LeO.ite ?_ ?_
      | refine LeO.bind ?_ (fun _ => ?_)
def table_Data.T2 : Bool × List (List Nat × List Nat) := (true, [([], []), ([], []), ([], []), ([], []), ([3], [3]), ([], []), ([5], [5]), ([2, 4, 6], [2, 4, 6]), ([0, 1, 7, 7], [0, 1, 7]), ([], []), ([9, 8, 8, 0, 1, 2, 3, 4, 5, 6, 7, 8, 9], [8, 9])])
def table_Data.B2 : List Nat := [0, 0, 0, 0, 8, 0, 32, 124, 255, 0, 1023]
theorem table_Data.tab2 : rtab .any (opsOf Try.f8 2) = table_Data.T2 := by kernel_rfl
theorem table_Data.bits2 : waitsOk table_Data.T2.2 table_Data.B2 = true := by kernel_rfl
def table_Data.T3 : Bool × List (List Nat × List Nat) := (true, [([], []), ([], []), ([], []), ([2], [2]), ([1, 3], [1, 3]), ([0, 4], [0, 4]), ([], []), ([6], [6]), ([5, 7, 5], [5, 7]), ([8, 8, 0, 1, 2, 3, 4, 5, 6, 7, 8], [8])])
def table_Data.B3 : List Nat := [0, 0, 0, 4, 14, 31, 0, 64, 255, 511]
theorem table_Data.tab3 : rtab .any (opsOf Try.f8 3) = table_Data.T3 := by kernel_rfl
theorem table_Data.bits3 : waitsOk table_Data.T3.2 table_Data.B3 = true := by kernel_rfl
set_option maxHeartbeats 8000000 in
set_option maxRecDepth 100000 in
theorem table_Data.calls (k : Nat) (a0_0 : ByteArray) (A0_1 : Option Addr) (c0_1 : Nat) (l0_1 : List ByteArray) (A0_2 : Option Addr) (c0_2 : Nat) (l0_2 : List (S67)) (A0_3 : Option Addr) (c0_3 : Nat) (l0_3 : List (S35)) (A0_4 : Option Addr) (c0_4 : Nat) (l0_4 : List (S72)) (A0_5 : Option Addr) (c0_5 : Nat) (l0_5 : List Int) (A0_6 : Option Addr) (c0_6 : Nat) (l0_6 : List Int) (a1 : Int) (a2 : Int) (r1 : Int) (r2 : Int) (r3 : Int) (r4 : Int) (r5 : Int) (r6 : Bool) (w : World) (hr0_1 : Kd.C Kd.string w A0_1 l0_1.length l0_1) (hc0_1 : l0_1.length ≤ c0_1) (hr0_2 : Kd.C k67 w A0_2 l0_2.length l0_2) (hc0_2 : l0_2.length ≤ c0_2) (hr0_3 : Kd.C k35 w A0_3 l0_3.length l0_3) (hc0_3 : l0_3.length ≤ c0_3) (hr0_4 : Kd.C k72 w A0_4 l0_4.length l0_4) (hc0_4 : l0_4.length ≤ c0_4) (hr0_5 : Kd.C (Kd.int .i64) w A0_5 l0_5.length l0_5) (hc0_5 : l0_5.length ≤ c0_5) (hr0_6 : Kd.C (Kd.int .i64) w A0_6 l0_6.length l0_6) (hc0_6 : l0_6.length ≤ c0_6) (h : table_Data.f k a0_0 l0_1 l0_2 l0_3 l0_4 l0_5 l0_6 a1 a2 = some (r1, r2, r3, r4, r5, r6)) :
  Calls Try.prog 8 #[.agg #[.string a0_0, .slice A0_1 l0_1.length c0_1, .slice A0_2 l0_2.length c0_2, .slice A0_3 l0_3.length c0_3, .slice A0_4 l0_4.length c0_4, .slice A0_5 l0_5.length c0_5, .slice A0_6 l0_6.length c0_6], .int .u64 a1, .int .i64 a2] w fun e w' => e = .returned (.agg #[.int .u64 r1, .int .u64 r2, .int .u64 r3, .int .i64 r4, .int .i64 r5, .bool r6]) ∧ Below w.heap.size w w' := by
 have hu28 := Try.underlying28
 have hu37 := Try.underlying37
 have hu35 := Try.underlying35
 have HR0_1 := am hr0_1
 have HC0_1 := am hc0_1
 clear hr0_1 hc0_1
 have HR0_2 := am hr0_2
 have HC0_2 := am hc0_2
 clear hr0_2 hc0_2
 have HR0_3 := am hr0_3
 have HC0_3 := am hc0_3
 clear hr0_3 hc0_3
 have HR0_4 := am hr0_4
 have HC0_4 := am hc0_4
 clear hr0_4 hc0_4
 have HR0_5 := am hr0_5
 have HC0_5 := am hc0_5
 clear hr0_5 hc0_5
 have HR0_6 := am hr0_6
 have HC0_6 := am hc0_6
 clear hr0_6 hc0_6
 have HB := am (Below.refl w.heap.size w)
 have H : (if 0 ≤ a2 then (if a2 < (l0_3.length : Int) then ((celf_At.f a0_0 l0_1 l0_2 l0_3 l0_4 l0_5 l0_6 ((rd_T35 l0_3 a2).f2) ((rd_T35 l0_3 a2).f3)).bind fun t192 => ((image_Part.f k a0_0 l0_1 l0_2 l0_3 l0_4 l0_5 l0_6 a1 t192).bind fun bt193 => ((cap_Move.f bt193.1 bt193.2.1 bt193.2.2.1 bt193.2.2.2.1 bt193.2.2.2.2.1 bt193.2.2.2.2.2 (IntKind.u64.wrap (a1 + ((rd_T35 l0_3 a2).f2)))).bind fun bt200 => ((cap_Bound.f bt200.1 bt200.2.1 bt200.2.2.1 bt200.2.2.2.1 bt200.2.2.2.2.1 bt200.2.2.2.2.2 ((rd_T35 l0_3 a2).f3)).bind fun bt206 => (some (bt206.1, bt206.2.1, bt206.2.2.1, bt206.2.2.2.1, bt206.2.2.2.2.1, bt206.2.2.2.2.2)))))) else (none)) else (none)) = some (r1, r2, r3, r4, r5, r6) := h
 clear h
 obtain ⟨c4, H⟩ := ic H
 have c4b0 : decide (0 ≤ a2) = true := decide_eq_true c4
 clear c4
 obtain ⟨c5, H⟩ := ic H
 have c5b0 : decide (a2 < (l0_3.length : Int)) = true := decide_eq_true c5
 clear c5
 replace H := Option.bind_eq_some_iff.mp H
 obtain ⟨t192, A60, H⟩ := H
 replace H : ((image_Part.f k a0_0 l0_1 l0_2 l0_3 l0_4 l0_5 l0_6 a1 t192).bind fun bt193 => ((cap_Move.f bt193.1 bt193.2.1 bt193.2.2.1 bt193.2.2.2.1 bt193.2.2.2.2.1 bt193.2.2.2.2.2 (IntKind.u64.wrap (a1 + ((rd_T35 l0_3 a2).f2)))).bind fun bt200 => ((cap_Bound.f bt200.1 bt200.2.1 bt200.2.2.1 bt200.2.2.2.1 bt200.2.2.2.2.1 bt200.2.2.2.2.2 ((rd_T35 l0_3 a2).f3)).bind fun bt206 => (some (bt206.1, bt206.2.1, bt206.2.2.1, bt206.2.2.2.1, bt206.2.2.2.2.1, bt206.2.2.2.2.2))))) = some (r1, r2, r3, r4, r5, r6) := H
 have A6 := am A60
 clear A60
 replace H := Option.bind_eq_some_iff.mp H
 obtain ⟨⟨t193, t194, t195, t196, t197, t198⟩, A70, H⟩ := H
 replace H : ((cap_Move.f t193 t194 t195 t196 t197 t198 (IntKind.u64.wrap (a1 + ((rd_T35 l0_3 a2).f2)))).bind fun bt200 => ((cap_Bound.f bt200.1 bt200.2.1 bt200.2.2.1 bt200.2.2.2.1 bt200.2.2.2.2.1 bt200.2.2.2.2.2 ((rd_T35 l0_3 a2).f3)).bind fun bt206 => (some (bt206.1, bt206.2.1, bt206.2.2.1, bt206.2.2.2.1, bt206.2.2.2.2.1, bt206.2.2.2.2.2)))) = some (r1, r2, r3, r4, r5, r6) := H
 have A7 := am A70
 clear A70
 replace H := Option.bind_eq_some_iff.mp H
 obtain ⟨⟨t200, t201, t202, t203, t204, t205⟩, A80, H⟩ := H
 replace H : ((cap_Bound.f t200 t201 t202 t203 t204 t205 ((rd_T35 l0_3 a2).f3)).bind fun bt206 => (some (bt206.1, bt206.2.1, bt206.2.2.1, bt206.2.2.2.1, bt206.2.2.2.2.1, bt206.2.2.2.2.2))) = some (r1, r2, r3, r4, r5, r6) := H
 have A8 := am A80
 clear A80
 replace H := Option.bind_eq_some_iff.mp H
 obtain ⟨⟨t206, t207, t208, t209, t210, t211⟩, A90, H⟩ := H
 replace H : (some (t206, t207, t208, t209, t210, t211)) = some (r1, r2, r3, r4, r5, r6) := H
 have A9 := am A90
 clear A90
 simp only [Option.some.injEq, Prod.mk.injEq] at H
 obtain ⟨rfl, rfl, rfl, rfl, rfl, rfl⟩ := H
 go_enter Try.func8, Try.ntmps8
 try go_wp2_with (first | ((with_reducible refine gate_dst (N := 3) rfl ?_); refine box_event ?hg (N := 3) ?hd (cs := #[.string a0_0, .slice A0_1 l0_1.length c0_1, .slice A0_2 l0_2.length c0_2, .slice A0_3 l0_3.length c0_3, .slice A0_4 l0_4.length c0_4, .slice A0_5 l0_5.length c0_5, .slice A0_6 l0_6.length c0_6]) (t := 28) ?hr ?_; (case hd => rfl); (case hg => rfl); (case hr => first | (go_simp; done) | (go_simp; rfl)); intro gb188 hg w10 hbox hb; have n0_ := bs HB hb; have n1_ := am (hbox); have n2_ := nz HB hg; have n3_ := nz HB hg; revert n0_ n1_ n2_ n3_; clear HB; intro HB BK188 GW188 GE188; clear hb hbox hg) | ((with_reducible refine gate_dst (N := 6) rfl ?_); refine box_event ?hg (N := 6) ?hd (cs := #[.int .u64 0, .int .u64 0, .int .u64 0, .int .i64 0, .int .i64 0, .bool false]) (t := 37) ?hr ?_; (case hd => rfl); (case hg => rfl); (case hr => first | (go_simp; done) | (go_simp; rfl)); intro gb189 hg w11 hbox hb; have n0_ := bw BK188 hb; have n1_ := bs HB hb; have n2_ := am (hbox); have n3_ := nz HB hg; have n4_ := nz HB hg; have n5_ := nl BK188 hg; have n6_ := nr BK188 hg; revert n0_ n1_ n2_ n3_ n4_ n5_ n6_; clear BK188 HB; intro BK188 HB BK189 GW189 GE189 NB188_189 NB189_188; clear hb hbox hg; have hnb12 := NB188_189.out; have hnc12 := NB189_188.out; obtain ⟨hcz13_0, hcz13_1, hcz13_2, hcz13_3, hcz13_4, hcz13_5, hcz13_6, hfz13_0, hfz13_1, hfz13_2, hfz13_3, hfz13_4, hfz13_5, hfz13_6⟩ := cells7 BK188.out; have p190 : 0 ≤ (a2 : Int) := ud; have q190 : a2 < (l0_3.length : Int) := ud; obtain ⟨ad190, e190, hx190_0, hx190_1, hx190_2, hx190_3, hx190_4, hx190_5, hx190_6, hx190_7⟩ := at_T35 HR0_3.out a2 p190 q190; cases e190; replace hx190_0 := bcel HB hx190_0; replace hx190_1 := bcel HB hx190_1; replace hx190_2 := bcel HB hx190_2; replace hx190_3 := bcel HB hx190_3; replace hx190_4 := bcel HB hx190_4; replace hx190_5 := bcel HB hx190_5; replace hx190_6 := bcel HB hx190_6; replace hx190_7 := bcel HB hx190_7; replace p190 := eq_true p190; replace q190 := eq_true q190) | ((with_reducible refine gate_dst (N := 7) rfl ?_); refine box_event ?hg (N := 7) ?hd (cs := #[.string (⟨#[]⟩ : ByteArray), .string (⟨#[]⟩ : ByteArray), .int .u64 0, .int .u64 0, .int .i64 0, .int .i64 0, .int .i64 0, .bool false]) (t := 35) ?hr ?_; (case hd => rfl); (case hg => rfl); (case hr => first | (go_simp; done) | (go_simp; rfl)); intro gb191 hg w14 hbox hb; have n0_ := bw BK188 hb; have n1_ := bw BK189 hb; have n2_ := bs HB hb; have n3_ := am (hbox); have n4_ := nz HB hg; have n5_ := nz HB hg; have n6_ := nl BK188 hg; have n7_ := nr BK188 hg; have n8_ := nl BK189 hg; have n9_ := nr BK189 hg; revert n0_ n1_ n2_ n3_ n4_ n5_ n6_ n7_ n8_ n9_; clear BK188 BK189 HB; intro BK188 BK189 HB BK191 GW191 GE191 NB188_191 NB191_188 NB189_191 NB191_189; clear hb hbox hg; have hnb15 := NB191_188.out; have hnc15 := NB188_191.out; have hnb16 := NB191_189.out; have hnc16 := NB189_191.out; obtain ⟨hcz17_0, hcz17_1, hcz17_2, hcz17_3, hcz17_4, hcz17_5, hcz17_6, hcz17_7, hfz17_0, hfz17_1, hfz17_2, hfz17_3, hfz17_4, hfz17_5, hfz17_6, hfz17_7⟩ := cells8 BK191.out) | ((with_reducible refine gate_store (t := 35) (p := 7) rfl ?_); refine store_event (t := 35) (p := 7) (v := ?vo_w18) (w1 := ((((((((w14.setCell ⟨gb191, 0, none⟩ (.string ((rd_T35 l0_3 a2).f0))).setCell ⟨gb191, 1, none⟩ (.string ((rd_T35 l0_3 a2).f1))).setCell ⟨gb191, 2, none⟩ (.int .u64 ((rd_T35 l0_3 a2).f2))).setCell ⟨gb191, 3, none⟩ (.int .u64 ((rd_T35 l0_3 a2).f3))).setCell ⟨gb191, 4, none⟩ (.int .i64 ((rd_T35 l0_3 a2).f4))).setCell ⟨gb191, 5, none⟩ (.int .i64 ((rd_T35 l0_3 a2).f5))).setCell ⟨gb191, 6, none⟩ (.int .i64 ((rd_T35 l0_3 a2).f6))).setCell ⟨gb191, 7, none⟩ (.bool ((rd_T35 l0_3 a2).f7)))) ?hg ?ho ?hn ?hr ?_; (case ho => rfl); (case hg => rfl); (case hn => rfl); (case hr => first | (go_simp; done) | (go_simp; rfl)); intro w18 hw; have n0_ := bf8 hw NB188_191 BK188; have n1_ := bf8 hw NB189_191 BK189; have n2_ := bp8 #[.string ((rd_T35 l0_3 a2).f0), .string ((rd_T35 l0_3 a2).f1), .int .u64 ((rd_T35 l0_3 a2).f2), .int .u64 ((rd_T35 l0_3 a2).f3), .int .i64 ((rd_T35 l0_3 a2).f4), .int .i64 ((rd_T35 l0_3 a2).f5), .int .i64 ((rd_T35 l0_3 a2).f6), .bool ((rd_T35 l0_3 a2).f7)] hw BK191; have n3_ : Aside0 (Below w.heap.size w w18) := ⟨(by rw [hw]; exact (uc HB.out))⟩; revert n0_ n1_ n2_ n3_; clear hw BK188 BK189 BK191 HB; intro BK188 BK189 BK191 HB))
 have n0_ := am (blk_drew BK188.out)
 have n1_ := am (blk_drew BK189.out)
 have n2_ := am (blk_drew BK191.out)
 have n3_ := am (below_drew1 HB.out)
 revert n0_ n1_ n2_ n3_
 clear BK188 BK189 BK191 HB
 intro BK188 BK189 BK191 HB
 refine sr 11 [] (hB7 BK188 (hE8 BK191)) (fun hHeld => ?_); refine with_tabW table_Data.tab2 table_Data.bits2 (fun HT_ HW_ => ?_)
 generalize w18.drew = w19 at BK188 BK189 BK191 HB hHeld ⊢
 refine pv 1 15 (bA 11 2) HT_ ?_
 refine pv 3 17 (bA 11 10) HT_ ?_
 refine pv 5 19 (bA 11 42) HT_ ?_
 refine tv 0 14 (bA 11 43) HT_ HW_ hHeld ?_ (hy := by rintro w' ⟨s0, s1, s2, s3, s4, s5, s6, s7, s8, s9, s10, s11, s12, s13, s14⟩; go_simp; with_reducible rfl)
 refine tv 2 16 (bA 11 47) HT_ HW_ hHeld ?_ (hy := by rintro w' ⟨s0, s1, s2, s3, s4, s5, s6, s7, s8, s9, s10, s11, s12, s13, s14⟩; go_simp; with_reducible rfl)
 refine tv 4 18 (bA 11 63) HT_ HW_ hHeld ?_ (hy := by rintro w' ⟨s0, s1, s2, s3, s4, s5, s6, s7, s8, s9, s10, s11, s12, s13, s14⟩; go_simp; with_reducible rfl)
 refine tv 6 20 (bA 11 127) HT_ HW_ hHeld ?_ (hy := by rintro w' ⟨s0, s1, s2, s3, s4, s5, s6, s7, s8, s9, s10, s11, s12, s13, s14⟩; go_simp; with_reducible rfl)
 refine join_ (σ := Nat) 1 (bA 11 1023) (fun s_ => [(21, .int .i64 t192), (22, .agg #[.int .u64 t193, .int .u64 t194, .int .u64 t195, .int .i64 t196, .int .i64 t197, .bool t198]), (8, .pointer (some ⟨s_, 0, none⟩))]) (fun s_ w' => (w'.cell? ⟨gb188, 0, none⟩ = some (.string a0_0) ∧ w'.cell? ⟨gb188, 1, none⟩ = some (.slice A0_1 l0_1.length c0_1) ∧ w'.cell? ⟨gb188, 2, none⟩ = some (.slice A0_2 l0_2.length c0_2) ∧ w'.cell? ⟨gb188, 3, none⟩ = some (.slice (some ad190) l0_3.length c0_3) ∧ w'.cell? ⟨gb188, 4, none⟩ = some (.slice A0_4 l0_4.length c0_4) ∧ w'.cell? ⟨gb188, 5, none⟩ = some (.slice A0_5 l0_5.length c0_5) ∧ w'.cell? ⟨gb188, 6, none⟩ = some (.slice A0_6 l0_6.length c0_6) ∧ w'.cell? ⟨gb191, 0, none⟩ = some (.string ((rd_T35 l0_3 a2).f0)) ∧ w'.cell? ⟨gb191, 1, none⟩ = some (.string ((rd_T35 l0_3 a2).f1)) ∧ w'.cell? ⟨gb191, 2, none⟩ = some (.int .u64 ((rd_T35 l0_3 a2).f2)) ∧ w'.cell? ⟨gb191, 3, none⟩ = some (.int .u64 ((rd_T35 l0_3 a2).f3)) ∧ w'.cell? ⟨gb191, 4, none⟩ = some (.int .i64 ((rd_T35 l0_3 a2).f4)) ∧ w'.cell? ⟨gb191, 5, none⟩ = some (.int .i64 ((rd_T35 l0_3 a2).f5)) ∧ w'.cell? ⟨gb191, 6, none⟩ = some (.int .i64 ((rd_T35 l0_3 a2).f6)) ∧ w'.cell? ⟨gb191, 7, none⟩ = some (.bool ((rd_T35 l0_3 a2).f7))) ∧ (w'.heap[gb188]? = some (.cells #[.string a0_0, .slice A0_1 l0_1.length c0_1, .slice A0_2 l0_2.length c0_2, .slice (some ad190) l0_3.length c0_3, .slice A0_4 l0_4.length c0_4, .slice A0_5 l0_5.length c0_5, .slice A0_6 l0_6.length c0_6] 28 (0, 0))) ∧ (w'.heap[gb189]? = some (.cells #[.int .u64 0, .int .u64 0, .int .u64 0, .int .i64 0, .int .i64 0, .bool false] 37 (0, 0))) ∧ (w'.heap[gb191]? = some (.cells #[.string ((rd_T35 l0_3 a2).f0), .string ((rd_T35 l0_3 a2).f1), .int .u64 ((rd_T35 l0_3 a2).f2), .int .u64 ((rd_T35 l0_3 a2).f3), .int .i64 ((rd_T35 l0_3 a2).f4), .int .i64 ((rd_T35 l0_3 a2).f5), .int .i64 ((rd_T35 l0_3 a2).f6), .bool ((rd_T35 l0_3 a2).f7)] 35 (0, 0))) ∧ (w'.heap[s_]? = some (.cells #[.int .u64 0, .int .u64 0, .int .u64 0, .int .i64 0, .int .i64 0, .bool false] 37 (0, 0))) ∧ (w.heap.size ≤ s_) ∧ (w.heap.size ≤ s_) ∧ (gb188 ≠ s_) ∧ (s_ ≠ gb188) ∧ (gb189 ≠ s_) ∧ (s_ ≠ gb189) ∧ (gb191 ≠ s_) ∧ (s_ ≠ gb191) ∧ (Below w.heap.size w w')) ?_ ?_
 rotate_left
 ·intro hCont
  refine two_ (i := 7) (j := 9) (Ni := some 21) (Nj := some 8) (bA 11 255) (bA 11 639) rfl rfl rfl rfl (two_of HT_.out (by kernel_rfl)) (by decide) (by decide) (fun K hK => ?_) (fun K hK => ?_)
  ·skip
   refine goes_ Try.func24 (by kernel_rfl) rfl #[.agg #[.string a0_0, .slice A0_1 l0_1.length c0_1, .slice A0_2 l0_2.length c0_2, .slice (some ad190) l0_3.length c0_3, .slice A0_4 l0_4.length c0_4, .slice A0_5 l0_5.length c0_5, .slice A0_6 l0_6.length c0_6], .int .u64 ((rd_T35 l0_3 a2).f2), .int .u64 ((rd_T35 l0_3 a2).f3)] (by rfl) rfl rfl (by (try simp only [List.map_toArray, List.map_cons, List.map_nil]); first | done | rfl | (simp only [List.length_drop, List.length_take]; rfl)) ?_
   with_reducible refine (celf_At.calls a0_0 _ _ l0_1 _ _ l0_2 _ _ l0_3 _ _ l0_4 _ _ l0_5 _ _ l0_6 ((rd_T35 l0_3 a2).f2) ((rd_T35 l0_3 a2).f3) t192 _ ?side1 ?side2 ?side3 ?side4 ?side5 ?side6 ?side7 ?side8 ?side9 ?side10 ?side11 ?side12 A6.out).mono ?_
   (case side1 => exact us (Kd.C_below HR0_1.out HB.out))
   (case side2 => exact HC0_1.out)
   (case side3 => exact us (Kd.C_below HR0_2.out HB.out))
   (case side4 => exact HC0_2.out)
   (case side5 => exact us (Kd.C_below HR0_3.out HB.out))
   (case side6 => exact HC0_3.out)
   (case side7 => exact us (Kd.C_below HR0_4.out HB.out))
   (case side8 => exact HC0_4.out)
   (case side9 => exact us (Kd.C_below HR0_5.out HB.out))
   (case side10 => exact HC0_5.out)
   (case side11 => exact us (Kd.C_below HR0_6.out HB.out))
   (case side12 => exact HC0_6.out)
   rintro e w20 ⟨rfl, hb⟩
   refine ⟨_, rfl, ?_⟩
   have n0_ := bw BK188 hb
   have n1_ := bw BK189 hb
   have n2_ := bw BK191 hb
   have n3_ := bs HB hb
   revert n0_ n1_ n2_ n3_
   clear BK188 BK189 BK191 HB
   intro BK188 BK189 BK191 HB
   (try clear hb)
   (try clear hb2)
   (try clear hk)
   (try clear hi)
   refine hK.out _ _ ⟨cz BK188 0, cz BK188 1, cz BK188 2, cz BK188 3, cz BK188 4, cz BK188 5, cz BK188 6, cz BK191 0, cz BK191 1, cz BK191 2, cz BK191 3, cz BK191 4, cz BK191 5, cz BK191 6, cz BK191 7⟩ (fun hHeld => ?_)
   clear hK K
   refine norm_ (a' := ?_) ?_ ?_
   rotate_left
   ·show Act.put _ (some 21) _ = _
    simp only [Act.put, List.setIfInBounds_toArray, List.set_cons_zero, List.set_cons_succ, i64_w, i32_w]
    rfl
   refine two_ (i := 8) (j := 9) (Ni := some 22) (Nj := some 8) (bA 11 511) (bA 11 767) rfl rfl rfl rfl (two_of HT_.out (by kernel_rfl)) (by decide) (by decide) (fun K hK => ?_) (fun K hK => ?_)
   ·skip
    refine goes_ Try.func23 (by kernel_rfl) rfl #[.agg #[.string a0_0, .slice A0_1 l0_1.length c0_1, .slice A0_2 l0_2.length c0_2, .slice (some ad190) l0_3.length c0_3, .slice A0_4 l0_4.length c0_4, .slice A0_5 l0_5.length c0_5, .slice A0_6 l0_6.length c0_6], .int .u64 a1, .int .i64 t192] (by rfl) rfl rfl (by (try simp only [List.map_toArray, List.map_cons, List.map_nil]); first | done | rfl | (simp only [List.length_drop, List.length_take]; rfl)) ?_
    with_reducible refine (image_Part.calls k a0_0 _ _ l0_1 _ _ l0_2 _ _ l0_3 _ _ l0_4 _ _ l0_5 _ _ l0_6 a1 t192 t193 t194 t195 t196 t197 t198 _ ?side1 ?side2 ?side3 ?side4 ?side5 ?side6 ?side7 ?side8 ?side9 ?side10 ?side11 ?side12 A7.out).mono ?_
    (case side1 => exact us (Kd.C_below HR0_1.out HB.out))
    (case side2 => exact HC0_1.out)
    (case side3 => exact us (Kd.C_below HR0_2.out HB.out))
    (case side4 => exact HC0_2.out)
    (case side5 => exact us (Kd.C_below HR0_3.out HB.out))
    (case side6 => exact HC0_3.out)
    (case side7 => exact us (Kd.C_below HR0_4.out HB.out))
    (case side8 => exact HC0_4.out)
    (case side9 => exact us (Kd.C_below HR0_5.out HB.out))
    (case side10 => exact HC0_5.out)
    (case side11 => exact us (Kd.C_below HR0_6.out HB.out))
    (case side12 => exact HC0_6.out)
    rintro e w21 ⟨rfl, hb⟩
    refine ⟨_, rfl, ?_⟩
    have n0_ := bw BK188 hb
    have n1_ := bw BK189 hb
    have n2_ := bw BK191 hb
    have n3_ := bs HB hb
    revert n0_ n1_ n2_ n3_
    clear BK188 BK189 BK191 HB
    intro BK188 BK189 BK191 HB
    (try clear hb)
    (try clear hb2)
    (try clear hk)
    (try clear hi)
    refine hK.out _ _ ⟨cz BK188 0, cz BK188 1, cz BK188 2, cz BK188 3, cz BK188 4, cz BK188 5, cz BK188 6, cz BK191 0, cz BK191 1, cz BK191 2, cz BK191 3, cz BK191 4, cz BK191 5, cz BK191 6, cz BK191 7⟩ (fun hHeld => ?_)
    clear hK K
    refine norm_ (a' := ?_) ?_ ?_
    rotate_left
    ·show Act.put _ (some 22) _ = _
     simp only [Act.put, List.setIfInBounds_toArray, List.set_cons_zero, List.set_cons_succ, i64_w, i32_w]
     rfl
    refine one_ (i := 9) (N := some 8) (bA 11 1023) rfl rfl (one_of HT_.out (by kernel_rfl)) (by decide) (fun K hK => ?_)
    refine box_step ?hg (N := 8) ?hd (cs := #[.int .u64 0, .int .u64 0, .int .u64 0, .int .i64 0, .int .i64 0, .bool false]) (t := 37) ?hr ?_; (case hd => rfl); (case hg => rfl); (case hr => first | (go_simp; done) | (go_simp; rfl))
    intro gb199 hg w22 hbox hb
    have n0_ := bw BK188 hb
    have n1_ := bw BK189 hb
    have n2_ := bw BK191 hb
    have n3_ := bs HB hb
    have n4_ := am (hbox)
    have n5_ := nz HB hg
    have n6_ := nz HB hg
    have n7_ := nl BK188 hg
    have n8_ := nr BK188 hg
    have n9_ := nl BK189 hg
    have n10_ := nr BK189 hg
    have n11_ := nl BK191 hg
    have n12_ := nr BK191 hg
    revert n0_ n1_ n2_ n3_ n4_ n5_ n6_ n7_ n8_ n9_ n10_ n11_ n12_
    clear BK188 BK189 BK191 HB
    intro BK188 BK189 BK191 HB BK199 GW199 GE199 NB188_199 NB199_188 NB189_199 NB199_189 NB191_199 NB199_191
    clear hb hbox hg
    refine hK.out _ _ ⟨cz BK188 0, cz BK188 1, cz BK188 2, cz BK188 3, cz BK188 4, cz BK188 5, cz BK188 6, cz BK191 0, cz BK191 1, cz BK191 2, cz BK191 3, cz BK191 4, cz BK191 5, cz BK191 6, cz BK191 7⟩ (fun hHeld => ?_)
    clear hK K
    refine norm_ (a' := ?_) ?_ ?_
    rotate_left
    ·show Act.put _ (some 8) _ = _
     simp only [Act.put, List.setIfInBounds_toArray, List.set_cons_zero, List.set_cons_succ, i64_w, i32_w]
     rfl
    exact norm_ (by simp only [putAll, Act.put, List.setIfInBounds_toArray, List.set_cons_zero, List.set_cons_succ]) (hCont (gb199) _ ⟨hHeld, (ub BK188.out), (ub BK189.out), (ub BK191.out), (ub BK199.out), GW199.out, GE199.out, NB188_199.out, NB199_188.out, NB189_199.out, NB199_189.out, NB191_199.out, NB199_191.out, (uc HB.out)⟩)
   ·skip
    refine box_step ?hg (N := 8) ?hd (cs := #[.int .u64 0, .int .u64 0, .int .u64 0, .int .i64 0, .int .i64 0, .bool false]) (t := 37) ?hr ?_; (case hd => rfl); (case hg => rfl); (case hr => first | (go_simp; done) | (go_simp; rfl))
    intro gb199 hg w21 hbox hb
    have n0_ := bw BK188 hb
    have n1_ := bw BK189 hb
    have n2_ := bw BK191 hb
    have n3_ := bs HB hb
    have n4_ := am (hbox)
    have n5_ := nz HB hg
    have n6_ := nz HB hg
    have n7_ := nl BK188 hg
    have n8_ := nr BK188 hg
    have n9_ := nl BK189 hg
    have n10_ := nr BK189 hg
    have n11_ := nl BK191 hg
    have n12_ := nr BK191 hg
    revert n0_ n1_ n2_ n3_ n4_ n5_ n6_ n7_ n8_ n9_ n10_ n11_ n12_
    clear BK188 BK189 BK191 HB
    intro BK188 BK189 BK191 HB BK199 GW199 GE199 NB188_199 NB199_188 NB189_199 NB199_189 NB191_199 NB199_191
    clear hb hbox hg
    refine hK.out _ _ ⟨cz BK188 0, cz BK188 1, cz BK188 2, cz BK188 3, cz BK188 4, cz BK188 5, cz BK188 6, cz BK191 0, cz BK191 1, cz BK191 2, cz BK191 3, cz BK191 4, cz BK191 5, cz BK191 6, cz BK191 7⟩ (fun hHeld => ?_)
    clear hK K
    refine norm_ (a' := ?_) ?_ ?_
    rotate_left
    ·show Act.put _ (some 8) _ = _
     simp only [Act.put, List.setIfInBounds_toArray, List.set_cons_zero, List.set_cons_succ, i64_w, i32_w]
     rfl
    refine one_ (i := 8) (N := some 22) (bA 11 1023) rfl rfl (one_of HT_.out (by kernel_rfl)) (by decide) (fun K hK => ?_)
    refine goes_ Try.func23 (by kernel_rfl) rfl #[.agg #[.string a0_0, .slice A0_1 l0_1.length c0_1, .slice A0_2 l0_2.length c0_2, .slice (some ad190) l0_3.length c0_3, .slice A0_4 l0_4.length c0_4, .slice A0_5 l0_5.length c0_5, .slice A0_6 l0_6.length c0_6], .int .u64 a1, .int .i64 t192] (by rfl) rfl rfl (by (try simp only [List.map_toArray, List.map_cons, List.map_nil]); first | done | rfl | (simp only [List.length_drop, List.length_take]; rfl)) ?_
    with_reducible refine (image_Part.calls k a0_0 _ _ l0_1 _ _ l0_2 _ _ l0_3 _ _ l0_4 _ _ l0_5 _ _ l0_6 a1 t192 t193 t194 t195 t196 t197 t198 _ ?side1 ?side2 ?side3 ?side4 ?side5 ?side6 ?side7 ?side8 ?side9 ?side10 ?side11 ?side12 A7.out).mono ?_
    (case side1 => exact us (Kd.C_below HR0_1.out HB.out))
    (case side2 => exact HC0_1.out)
    (case side3 => exact us (Kd.C_below HR0_2.out HB.out))
    (case side4 => exact HC0_2.out)
    (case side5 => exact us (Kd.C_below HR0_3.out HB.out))
    (case side6 => exact HC0_3.out)
    (case side7 => exact us (Kd.C_below HR0_4.out HB.out))
    (case side8 => exact HC0_4.out)
    (case side9 => exact us (Kd.C_below HR0_5.out HB.out))
    (case side10 => exact HC0_5.out)
    (case side11 => exact us (Kd.C_below HR0_6.out HB.out))
    (case side12 => exact HC0_6.out)
    rintro e w22 ⟨rfl, hb⟩
    refine ⟨_, rfl, ?_⟩
    have n0_ := bw BK188 hb
    have n1_ := bw BK189 hb
    have n2_ := bw BK191 hb
    have n3_ := bw BK199 hb
    have n4_ := bs HB hb
    revert n0_ n1_ n2_ n3_ n4_
    clear BK188 BK189 BK191 BK199 HB
    intro BK188 BK189 BK191 BK199 HB
    (try clear hb)
    (try clear hb2)
    (try clear hk)
    (try clear hi)
    refine hK.out _ _ ⟨cz BK188 0, cz BK188 1, cz BK188 2, cz BK188 3, cz BK188 4, cz BK188 5, cz BK188 6, cz BK191 0, cz BK191 1, cz BK191 2, cz BK191 3, cz BK191 4, cz BK191 5, cz BK191 6, cz BK191 7⟩ (fun hHeld => ?_)
    clear hK K
    refine norm_ (a' := ?_) ?_ ?_
    rotate_left
    ·show Act.put _ (some 22) _ = _
     simp only [Act.put, List.setIfInBounds_toArray, List.set_cons_zero, List.set_cons_succ, i64_w, i32_w]
     rfl
    exact norm_ (by simp only [putAll, Act.put, List.setIfInBounds_toArray, List.set_cons_zero, List.set_cons_succ]) (hCont (gb199) _ ⟨hHeld, (ub BK188.out), (ub BK189.out), (ub BK191.out), (ub BK199.out), GW199.out, GE199.out, NB188_199.out, NB199_188.out, NB189_199.out, NB199_189.out, NB191_199.out, NB199_191.out, (uc HB.out)⟩)
  ·skip
   refine box_step ?hg (N := 8) ?hd (cs := #[.int .u64 0, .int .u64 0, .int .u64 0, .int .i64 0, .int .i64 0, .bool false]) (t := 37) ?hr ?_; (case hd => rfl); (case hg => rfl); (case hr => first | (go_simp; done) | (go_simp; rfl))
   intro gb199 hg w20 hbox hb
   have n0_ := bw BK188 hb
   have n1_ := bw BK189 hb
   have n2_ := bw BK191 hb
   have n3_ := bs HB hb
   have n4_ := am (hbox)
   have n5_ := nz HB hg
   have n6_ := nz HB hg
   have n7_ := nl BK188 hg
   have n8_ := nr BK188 hg
   have n9_ := nl BK189 hg
   have n10_ := nr BK189 hg
   have n11_ := nl BK191 hg
   have n12_ := nr BK191 hg
   revert n0_ n1_ n2_ n3_ n4_ n5_ n6_ n7_ n8_ n9_ n10_ n11_ n12_
   clear BK188 BK189 BK191 HB
   intro BK188 BK189 BK191 HB BK199 GW199 GE199 NB188_199 NB199_188 NB189_199 NB199_189 NB191_199 NB199_191
   clear hb hbox hg
   refine hK.out _ _ ⟨cz BK188 0, cz BK188 1, cz BK188 2, cz BK188 3, cz BK188 4, cz BK188 5, cz BK188 6, cz BK191 0, cz BK191 1, cz BK191 2, cz BK191 3, cz BK191 4, cz BK191 5, cz BK191 6, cz BK191 7⟩ (fun hHeld => ?_)
   clear hK K
   refine norm_ (a' := ?_) ?_ ?_
   rotate_left
   ·show Act.put _ (some 8) _ = _
    simp only [Act.put, List.setIfInBounds_toArray, List.set_cons_zero, List.set_cons_succ, i64_w, i32_w]
    rfl
   refine one_ (i := 7) (N := some 21) (bA 11 767) rfl rfl (one_of HT_.out (by kernel_rfl)) (by decide) (fun K hK => ?_)
   refine goes_ Try.func24 (by kernel_rfl) rfl #[.agg #[.string a0_0, .slice A0_1 l0_1.length c0_1, .slice A0_2 l0_2.length c0_2, .slice (some ad190) l0_3.length c0_3, .slice A0_4 l0_4.length c0_4, .slice A0_5 l0_5.length c0_5, .slice A0_6 l0_6.length c0_6], .int .u64 ((rd_T35 l0_3 a2).f2), .int .u64 ((rd_T35 l0_3 a2).f3)] (by rfl) rfl rfl (by (try simp only [List.map_toArray, List.map_cons, List.map_nil]); first | done | rfl | (simp only [List.length_drop, List.length_take]; rfl)) ?_
   with_reducible refine (celf_At.calls a0_0 _ _ l0_1 _ _ l0_2 _ _ l0_3 _ _ l0_4 _ _ l0_5 _ _ l0_6 ((rd_T35 l0_3 a2).f2) ((rd_T35 l0_3 a2).f3) t192 _ ?side1 ?side2 ?side3 ?side4 ?side5 ?side6 ?side7 ?side8 ?side9 ?side10 ?side11 ?side12 A6.out).mono ?_
   (case side1 => exact us (Kd.C_below HR0_1.out HB.out))
   (case side2 => exact HC0_1.out)
   (case side3 => exact us (Kd.C_below HR0_2.out HB.out))
   (case side4 => exact HC0_2.out)
   (case side5 => exact us (Kd.C_below HR0_3.out HB.out))
   (case side6 => exact HC0_3.out)
   (case side7 => exact us (Kd.C_below HR0_4.out HB.out))
   (case side8 => exact HC0_4.out)
   (case side9 => exact us (Kd.C_below HR0_5.out HB.out))
   (case side10 => exact HC0_5.out)
   (case side11 => exact us (Kd.C_below HR0_6.out HB.out))
   (case side12 => exact HC0_6.out)
   rintro e w21 ⟨rfl, hb⟩
   refine ⟨_, rfl, ?_⟩
   have n0_ := bw BK188 hb
   have n1_ := bw BK189 hb
   have n2_ := bw BK191 hb
   have n3_ := bw BK199 hb
   have n4_ := bs HB hb
   revert n0_ n1_ n2_ n3_ n4_
   clear BK188 BK189 BK191 BK199 HB
   intro BK188 BK189 BK191 BK199 HB
   (try clear hb)
   (try clear hb2)
   (try clear hk)
   (try clear hi)
   refine hK.out _ _ ⟨cz BK188 0, cz BK188 1, cz BK188 2, cz BK188 3, cz BK188 4, cz BK188 5, cz BK188 6, cz BK191 0, cz BK191 1, cz BK191 2, cz BK191 3, cz BK191 4, cz BK191 5, cz BK191 6, cz BK191 7⟩ (fun hHeld => ?_)
   clear hK K
   refine norm_ (a' := ?_) ?_ ?_
   rotate_left
   ·show Act.put _ (some 21) _ = _
    simp only [Act.put, List.setIfInBounds_toArray, List.set_cons_zero, List.set_cons_succ, i64_w, i32_w]
    rfl
   refine one_ (i := 8) (N := some 22) (bA 11 1023) rfl rfl (one_of HT_.out (by kernel_rfl)) (by decide) (fun K hK => ?_)
   refine goes_ Try.func23 (by kernel_rfl) rfl #[.agg #[.string a0_0, .slice A0_1 l0_1.length c0_1, .slice A0_2 l0_2.length c0_2, .slice (some ad190) l0_3.length c0_3, .slice A0_4 l0_4.length c0_4, .slice A0_5 l0_5.length c0_5, .slice A0_6 l0_6.length c0_6], .int .u64 a1, .int .i64 t192] (by rfl) rfl rfl (by (try simp only [List.map_toArray, List.map_cons, List.map_nil]); first | done | rfl | (simp only [List.length_drop, List.length_take]; rfl)) ?_
   with_reducible refine (image_Part.calls k a0_0 _ _ l0_1 _ _ l0_2 _ _ l0_3 _ _ l0_4 _ _ l0_5 _ _ l0_6 a1 t192 t193 t194 t195 t196 t197 t198 _ ?side1 ?side2 ?side3 ?side4 ?side5 ?side6 ?side7 ?side8 ?side9 ?side10 ?side11 ?side12 A7.out).mono ?_
   (case side1 => exact us (Kd.C_below HR0_1.out HB.out))
   (case side2 => exact HC0_1.out)
   (case side3 => exact us (Kd.C_below HR0_2.out HB.out))
   (case side4 => exact HC0_2.out)
   (case side5 => exact us (Kd.C_below HR0_3.out HB.out))
   (case side6 => exact HC0_3.out)
   (case side7 => exact us (Kd.C_below HR0_4.out HB.out))
   (case side8 => exact HC0_4.out)
   (case side9 => exact us (Kd.C_below HR0_5.out HB.out))
   (case side10 => exact HC0_5.out)
   (case side11 => exact us (Kd.C_below HR0_6.out HB.out))
   (case side12 => exact HC0_6.out)
   rintro e w22 ⟨rfl, hb⟩
   refine ⟨_, rfl, ?_⟩
   have n0_ := bw BK188 hb
   have n1_ := bw BK189 hb
   have n2_ := bw BK191 hb
   have n3_ := bw BK199 hb
   have n4_ := bs HB hb
   revert n0_ n1_ n2_ n3_ n4_
   clear BK188 BK189 BK191 BK199 HB
   intro BK188 BK189 BK191 BK199 HB
   (try clear hb)
   (try clear hb2)
   (try clear hk)
   (try clear hi)
   refine hK.out _ _ ⟨cz BK188 0, cz BK188 1, cz BK188 2, cz BK188 3, cz BK188 4, cz BK188 5, cz BK188 6, cz BK191 0, cz BK191 1, cz BK191 2, cz BK191 3, cz BK191 4, cz BK191 5, cz BK191 6, cz BK191 7⟩ (fun hHeld => ?_)
   clear hK K
   refine norm_ (a' := ?_) ?_ ?_
   rotate_left
   ·show Act.put _ (some 22) _ = _
    simp only [Act.put, List.setIfInBounds_toArray, List.set_cons_zero, List.set_cons_succ, i64_w, i32_w]
    rfl
   exact norm_ (by simp only [putAll, Act.put, List.setIfInBounds_toArray, List.set_cons_zero, List.set_cons_succ]) (hCont (gb199) _ ⟨hHeld, (ub BK188.out), (ub BK189.out), (ub BK191.out), (ub BK199.out), GW199.out, GE199.out, NB188_199.out, NB199_188.out, NB189_199.out, NB199_189.out, NB191_199.out, NB199_191.out, (uc HB.out)⟩)
 rintro gb199 w23 ⟨hS_, h0_, h1_, h2_, h3_, h4_, h5_, h6_, h7_, h8_, h9_, h10_, h11_, h12_⟩
 have n0_ : Aside0 (w23.heap[gb188]? = some (.cells #[.string a0_0, .slice A0_1 l0_1.length c0_1, .slice A0_2 l0_2.length c0_2, .slice (some ad190) l0_3.length c0_3, .slice A0_4 l0_4.length c0_4, .slice A0_5 l0_5.length c0_5, .slice A0_6 l0_6.length c0_6] 28 (0, 0))) := ⟨h0_⟩
 have n1_ : Aside0 (w23.heap[gb189]? = some (.cells #[.int .u64 0, .int .u64 0, .int .u64 0, .int .i64 0, .int .i64 0, .bool false] 37 (0, 0))) := ⟨h1_⟩
 have n2_ : Aside0 (w23.heap[gb191]? = some (.cells #[.string ((rd_T35 l0_3 a2).f0), .string ((rd_T35 l0_3 a2).f1), .int .u64 ((rd_T35 l0_3 a2).f2), .int .u64 ((rd_T35 l0_3 a2).f3), .int .i64 ((rd_T35 l0_3 a2).f4), .int .i64 ((rd_T35 l0_3 a2).f5), .int .i64 ((rd_T35 l0_3 a2).f6), .bool ((rd_T35 l0_3 a2).f7)] 35 (0, 0))) := ⟨h2_⟩
 have n3_ : Aside0 (w23.heap[gb199]? = some (.cells #[.int .u64 0, .int .u64 0, .int .u64 0, .int .i64 0, .int .i64 0, .bool false] 37 (0, 0))) := ⟨h3_⟩
 have n4_ : Aside0 (w.heap.size ≤ gb199) := ⟨h4_⟩
 have n5_ : Aside0 (w.heap.size ≤ gb199) := ⟨h5_⟩
 have n6_ : Aside0 (gb188 ≠ gb199) := ⟨h6_⟩
 have n7_ : Aside0 (gb199 ≠ gb188) := ⟨h7_⟩
 have n8_ : Aside0 (gb189 ≠ gb199) := ⟨h8_⟩
 have n9_ : Aside0 (gb199 ≠ gb189) := ⟨h9_⟩
 have n10_ : Aside0 (gb191 ≠ gb199) := ⟨h10_⟩
 have n11_ : Aside0 (gb199 ≠ gb191) := ⟨h11_⟩
 have n12_ : Aside0 (Below w.heap.size w w23) := ⟨h12_⟩
 clear BK188 BK189 BK191 HB h0_ h1_ h2_ h3_ h4_ h5_ h6_ h7_ h8_ h9_ h10_ h11_ h12_
 revert n0_ n1_ n2_ n3_ n4_ n5_ n6_ n7_ n8_ n9_ n10_ n11_ n12_
 intro BK188 BK189 BK191 BK199 GW199 GE199 NB188_199 NB199_188 NB189_199 NB199_189 NB191_199 NB199_191 HB
 have hHeld : w23.cell? ⟨gb188, 0, none⟩ = some (.string a0_0) ∧ w23.cell? ⟨gb188, 1, none⟩ = some (.slice A0_1 l0_1.length c0_1) ∧ w23.cell? ⟨gb188, 2, none⟩ = some (.slice A0_2 l0_2.length c0_2) ∧ w23.cell? ⟨gb188, 3, none⟩ = some (.slice (some ad190) l0_3.length c0_3) ∧ w23.cell? ⟨gb188, 4, none⟩ = some (.slice A0_4 l0_4.length c0_4) ∧ w23.cell? ⟨gb188, 5, none⟩ = some (.slice A0_5 l0_5.length c0_5) ∧ w23.cell? ⟨gb188, 6, none⟩ = some (.slice A0_6 l0_6.length c0_6) ∧ w23.cell? ⟨gb191, 0, none⟩ = some (.string ((rd_T35 l0_3 a2).f0)) ∧ w23.cell? ⟨gb191, 1, none⟩ = some (.string ((rd_T35 l0_3 a2).f1)) ∧ w23.cell? ⟨gb191, 2, none⟩ = some (.int .u64 ((rd_T35 l0_3 a2).f2)) ∧ w23.cell? ⟨gb191, 3, none⟩ = some (.int .u64 ((rd_T35 l0_3 a2).f3)) ∧ w23.cell? ⟨gb191, 4, none⟩ = some (.int .i64 ((rd_T35 l0_3 a2).f4)) ∧ w23.cell? ⟨gb191, 5, none⟩ = some (.int .i64 ((rd_T35 l0_3 a2).f5)) ∧ w23.cell? ⟨gb191, 6, none⟩ = some (.int .i64 ((rd_T35 l0_3 a2).f6)) ∧ w23.cell? ⟨gb191, 7, none⟩ = some (.bool ((rd_T35 l0_3 a2).f7)) := hS_
 refine norm_ (a' := ?_) ?_ ?_
 rotate_left
 ·simp only [putAll, Act.put, List.setIfInBounds_toArray, List.set_cons_zero, List.set_cons_succ]
  rfl
 refine one_ (i := 10) (N := none) (bA 11 2047) rfl rfl (one_of HT_.out (by kernel_rfl)) (by decide) (fun K hK => ?_)
 have hs24 : w23.cell? ⟨gb199, 0, none⟩ = some (.int .u64 0) := cz BK199 0
 have hfs24 := fz BK199 0
 have hns24_0 := NB188_199.out
 have hns24_1 := NB189_199.out
 have hns24_2 := NB191_199.out
 have hms24_0 := NB199_188.out
 have hms24_1 := NB199_189.out
 have hms24_2 := NB199_191.out
 have hs25 : w23.cell? ⟨gb199, 1, none⟩ = some (.int .u64 0) := cz BK199 1
 have hfs25 := fz BK199 1
 have hns25_0 := NB188_199.out
 have hns25_1 := NB189_199.out
 have hns25_2 := NB191_199.out
 have hms25_0 := NB199_188.out
 have hms25_1 := NB199_189.out
 have hms25_2 := NB199_191.out
 have hs26 : w23.cell? ⟨gb199, 2, none⟩ = some (.int .u64 0) := cz BK199 2
 have hfs26 := fz BK199 2
 have hns26_0 := NB188_199.out
 have hns26_1 := NB189_199.out
 have hns26_2 := NB191_199.out
 have hms26_0 := NB199_188.out
 have hms26_1 := NB199_189.out
 have hms26_2 := NB199_191.out
 have hs27 : w23.cell? ⟨gb199, 3, none⟩ = some (.int .i64 0) := cz BK199 3
 have hfs27 := fz BK199 3
 have hns27_0 := NB188_199.out
 have hns27_1 := NB189_199.out
 have hns27_2 := NB191_199.out
 have hms27_0 := NB199_188.out
 have hms27_1 := NB199_189.out
 have hms27_2 := NB199_191.out
 have hs28 : w23.cell? ⟨gb199, 4, none⟩ = some (.int .i64 0) := cz BK199 4
 have hfs28 := fz BK199 4
 have hns28_0 := NB188_199.out
 have hns28_1 := NB189_199.out
 have hns28_2 := NB191_199.out
 have hms28_0 := NB199_188.out
 have hms28_1 := NB199_189.out
 have hms28_2 := NB199_191.out
 have hs29 : w23.cell? ⟨gb199, 5, none⟩ = some (.bool false) := cz BK199 5
 have hfs29 := fz BK199 5
 have hns29_0 := NB188_199.out
 have hns29_1 := NB189_199.out
 have hns29_2 := NB191_199.out
 have hms29_0 := NB199_188.out
 have hms29_1 := NB199_189.out
 have hms29_2 := NB199_191.out
 refine skip_ (w1 := ?_) (by rfl) rfl ?_ ?_
 rotate_left
 ·go_simp
  rfl
 refine hK.out _ _ ⟨((cnf6 (NB188_199.out)).trans (hHeld.1)), ((cnf6 (NB188_199.out)).trans (hHeld.2.1)), ((cnf6 (NB188_199.out)).trans (hHeld.2.2.1)), ((cnf6 (NB188_199.out)).trans (hHeld.2.2.2.1)), ((cnf6 (NB188_199.out)).trans (hHeld.2.2.2.2.1)), ((cnf6 (NB188_199.out)).trans (hHeld.2.2.2.2.2.1)), ((cnf6 (NB188_199.out)).trans (hHeld.2.2.2.2.2.2.1)), ((cnf6 (NB191_199.out)).trans (hHeld.2.2.2.2.2.2.2.1)), ((cnf6 (NB191_199.out)).trans (hHeld.2.2.2.2.2.2.2.2.1)), ((cnf6 (NB191_199.out)).trans (hHeld.2.2.2.2.2.2.2.2.2.1)), ((cnf6 (NB191_199.out)).trans (hHeld.2.2.2.2.2.2.2.2.2.2.1)), ((cnf6 (NB191_199.out)).trans (hHeld.2.2.2.2.2.2.2.2.2.2.2.1)), ((cnf6 (NB191_199.out)).trans (hHeld.2.2.2.2.2.2.2.2.2.2.2.2.1)), ((cnf6 (NB191_199.out)).trans (hHeld.2.2.2.2.2.2.2.2.2.2.2.2.2.1)), ((cnf6 (NB191_199.out)).trans (hHeld.2.2.2.2.2.2.2.2.2.2.2.2.2.2))⟩ (fun hHeld => ?_)
 clear hK K
 refine done_ (done_of HT_.out (by kernel_rfl)) ?_
 try go_wp2
 have n0_ : Aside0 (((((((w23.setCell ⟨gb199, 0, none⟩ (.int .u64 t193)).setCell ⟨gb199, 1, none⟩ (.int .u64 t194)).setCell ⟨gb199, 2, none⟩ (.int .u64 t195)).setCell ⟨gb199, 3, none⟩ (.int .i64 t196)).setCell ⟨gb199, 4, none⟩ (.int .i64 t197)).setCell ⟨gb199, 5, none⟩ (.bool t198)).heap[gb188]? = some (.cells #[.string a0_0, .slice A0_1 l0_1.length c0_1, .slice A0_2 l0_2.length c0_2, .slice (some ad190) l0_3.length c0_3, .slice A0_4 l0_4.length c0_4, .slice A0_5 l0_5.length c0_5, .slice A0_6 l0_6.length c0_6] 28 (0, 0))) := ⟨by (iterate 6 ((with_reducible repeat (first | refine blk_drewN ?_ _ | refine blk_drew ?_ | refine blk_alloc ?_ _)); refine blk_far ?_ NB188_199.out _)); (with_reducible repeat (first | refine blk_drewN ?_ _ | refine blk_drew ?_ | refine blk_alloc ?_ _)); exact BK188.out⟩
 have n1_ : Aside0 (((((((w23.setCell ⟨gb199, 0, none⟩ (.int .u64 t193)).setCell ⟨gb199, 1, none⟩ (.int .u64 t194)).setCell ⟨gb199, 2, none⟩ (.int .u64 t195)).setCell ⟨gb199, 3, none⟩ (.int .i64 t196)).setCell ⟨gb199, 4, none⟩ (.int .i64 t197)).setCell ⟨gb199, 5, none⟩ (.bool t198)).heap[gb189]? = some (.cells #[.int .u64 0, .int .u64 0, .int .u64 0, .int .i64 0, .int .i64 0, .bool false] 37 (0, 0))) := ⟨by (iterate 6 ((with_reducible repeat (first | refine blk_drewN ?_ _ | refine blk_drew ?_ | refine blk_alloc ?_ _)); refine blk_far ?_ NB189_199.out _)); (with_reducible repeat (first | refine blk_drewN ?_ _ | refine blk_drew ?_ | refine blk_alloc ?_ _)); exact BK189.out⟩
 have n2_ : Aside0 (((((((w23.setCell ⟨gb199, 0, none⟩ (.int .u64 t193)).setCell ⟨gb199, 1, none⟩ (.int .u64 t194)).setCell ⟨gb199, 2, none⟩ (.int .u64 t195)).setCell ⟨gb199, 3, none⟩ (.int .i64 t196)).setCell ⟨gb199, 4, none⟩ (.int .i64 t197)).setCell ⟨gb199, 5, none⟩ (.bool t198)).heap[gb191]? = some (.cells #[.string ((rd_T35 l0_3 a2).f0), .string ((rd_T35 l0_3 a2).f1), .int .u64 ((rd_T35 l0_3 a2).f2), .int .u64 ((rd_T35 l0_3 a2).f3), .int .i64 ((rd_T35 l0_3 a2).f4), .int .i64 ((rd_T35 l0_3 a2).f5), .int .i64 ((rd_T35 l0_3 a2).f6), .bool ((rd_T35 l0_3 a2).f7)] 35 (0, 0))) := ⟨by (iterate 6 ((with_reducible repeat (first | refine blk_drewN ?_ _ | refine blk_drew ?_ | refine blk_alloc ?_ _)); refine blk_far ?_ NB191_199.out _)); (with_reducible repeat (first | refine blk_drewN ?_ _ | refine blk_drew ?_ | refine blk_alloc ?_ _)); exact BK191.out⟩
 have n3_ : Aside0 (((((((w23.setCell ⟨gb199, 0, none⟩ (.int .u64 t193)).setCell ⟨gb199, 1, none⟩ (.int .u64 t194)).setCell ⟨gb199, 2, none⟩ (.int .u64 t195)).setCell ⟨gb199, 3, none⟩ (.int .i64 t196)).setCell ⟨gb199, 4, none⟩ (.int .i64 t197)).setCell ⟨gb199, 5, none⟩ (.bool t198)).heap[gb199]? = some (.cells #[.int .u64 t193, .int .u64 t194, .int .u64 t195, .int .i64 t196, .int .i64 t197, .bool t198] 37 (0, 0))) := ⟨by (with_reducible repeat (first | refine blk_drewN ?_ _ | refine blk_drew ?_ | refine blk_alloc ?_ _)); refine blk_put (cs := #[.int .u64 t193, .int .u64 t194, .int .u64 t195, .int .i64 t196, .int .i64 t197, .bool false]) ?_ 5 _ rfl; (with_reducible repeat (first | refine blk_drewN ?_ _ | refine blk_drew ?_ | refine blk_alloc ?_ _)); refine blk_put (cs := #[.int .u64 t193, .int .u64 t194, .int .u64 t195, .int .i64 t196, .int .i64 0, .bool false]) ?_ 4 _ rfl; (with_reducible repeat (first | refine blk_drewN ?_ _ | refine blk_drew ?_ | refine blk_alloc ?_ _)); refine blk_put (cs := #[.int .u64 t193, .int .u64 t194, .int .u64 t195, .int .i64 0, .int .i64 0, .bool false]) ?_ 3 _ rfl; (with_reducible repeat (first | refine blk_drewN ?_ _ | refine blk_drew ?_ | refine blk_alloc ?_ _)); refine blk_put (cs := #[.int .u64 t193, .int .u64 t194, .int .u64 0, .int .i64 0, .int .i64 0, .bool false]) ?_ 2 _ rfl; (with_reducible repeat (first | refine blk_drewN ?_ _ | refine blk_drew ?_ | refine blk_alloc ?_ _)); refine blk_put (cs := #[.int .u64 t193, .int .u64 0, .int .u64 0, .int .i64 0, .int .i64 0, .bool false]) ?_ 1 _ rfl; (with_reducible repeat (first | refine blk_drewN ?_ _ | refine blk_drew ?_ | refine blk_alloc ?_ _)); refine blk_put (cs := #[.int .u64 0, .int .u64 0, .int .u64 0, .int .i64 0, .int .i64 0, .bool false]) ?_ 0 _ rfl; (with_reducible repeat (first | refine blk_drewN ?_ _ | refine blk_drew ?_ | refine blk_alloc ?_ _)); exact BK199.out⟩
 have n4_ : Aside0 (Below w.heap.size w ((((((w23.setCell ⟨gb199, 0, none⟩ (.int .u64 t193)).setCell ⟨gb199, 1, none⟩ (.int .u64 t194)).setCell ⟨gb199, 2, none⟩ (.int .u64 t195)).setCell ⟨gb199, 3, none⟩ (.int .i64 t196)).setCell ⟨gb199, 4, none⟩ (.int .i64 t197)).setCell ⟨gb199, 5, none⟩ (.bool t198))) := ⟨uc HB.out⟩
 (try clear BK188)
 (try clear BK189)
 (try clear BK191)
 (try clear BK199)
 (try clear HB)
 generalize ((((((w23.setCell ⟨gb199, 0, none⟩ (.int .u64 t193)).setCell ⟨gb199, 1, none⟩ (.int .u64 t194)).setCell ⟨gb199, 2, none⟩ (.int .u64 t195)).setCell ⟨gb199, 3, none⟩ (.int .i64 t196)).setCell ⟨gb199, 4, none⟩ (.int .i64 t197)).setCell ⟨gb199, 5, none⟩ (.bool t198)) = w30 at n0_ n1_ n2_ n3_ n4_ ⊢
 revert n0_ n1_ n2_ n3_ n4_
 intro BK188 BK189 BK191 BK199 HB
 have n0_ := am (blk_drew BK188.out)
 have n1_ := am (blk_drew BK189.out)
 have n2_ := am (blk_drew BK191.out)
 have n3_ := am (blk_drew BK199.out)
 have n4_ := am (below_drew1 HB.out)
 revert n0_ n1_ n2_ n3_ n4_
 clear BK188 BK189 BK191 BK199 HB
 intro BK188 BK189 BK191 BK199 HB
 refine sr 10 [] (hB6 BK199 (hE8 BK191)) (fun hHeld => ?_); refine with_tabW table_Data.tab3 table_Data.bits3 (fun HT_ HW_ => ?_)
 generalize w30.drew = w31 at BK188 BK189 BK191 BK199 HB hHeld ⊢
 refine pv 1 24 (bA 10 2) HT_ ?_
 refine pv 2 25 (bA 10 6) HT_ ?_
 refine pv 6 29 (bA 10 70) HT_ ?_
 refine tv 0 23 (bA 10 71) HT_ HW_ hHeld ?_ (hy := by rintro w' ⟨s0, s1, s2, s3, s4, s5, s6, s7, s8, s9, s10, s11, s12, s13⟩; go_simp; with_reducible rfl)
 refine tv 3 26 (bA 10 79) HT_ HW_ hHeld ?_ (hy := by rintro w' ⟨s0, s1, s2, s3, s4, s5, s6, s7, s8, s9, s10, s11, s12, s13⟩; go_simp; with_reducible rfl)
 refine pv 4 27 (bA 10 95) HT_ ?_
 refine tv 7 30 (bA 10 223) HT_ HW_ hHeld ?_ (hy := by rintro w' ⟨s0, s1, s2, s3, s4, s5, s6, s7, s8, s9, s10, s11, s12, s13⟩; go_simp; with_reducible rfl)
 refine one_ (i := 5) (N := some 28) (bA 10 255) rfl rfl (one_of HT_.out (by kernel_rfl)) (by decide) (fun K hK => ?_)
 refine goes_ Try.func26 (by kernel_rfl) rfl #[.agg #[.int .u64 t193, .int .u64 t194, .int .u64 t195, .int .i64 t196, .int .i64 t197, .bool t198], .int .u64 (IntKind.u64.wrap (a1 + ((rd_T35 l0_3 a2).f2)))] (by rfl) rfl rfl (by (try simp only [List.map_toArray, List.map_cons, List.map_nil]); first | done | rfl | (simp only [List.length_drop, List.length_take]; rfl)) ?_
 with_reducible refine (cap_Move.calls t193 t194 t195 t196 t197 t198 (IntKind.u64.wrap (a1 + ((rd_T35 l0_3 a2).f2))) t200 t201 t202 t203 t204 t205 _ A8.out).mono ?_
 rintro e w32 ⟨rfl, hb⟩
 refine ⟨_, rfl, ?_⟩
 have n0_ := bw BK188 hb
 have n1_ := bw BK189 hb
 have n2_ := bw BK191 hb
 have n3_ := bw BK199 hb
 have n4_ := bs HB hb
 revert n0_ n1_ n2_ n3_ n4_
 clear BK188 BK189 BK191 BK199 HB
 intro BK188 BK189 BK191 BK199 HB
 (try clear hb)
 (try clear hb2)
 (try clear hk)
 (try clear hi)
 refine hK.out _ _ ⟨cz BK199 0, cz BK199 1, cz BK199 2, cz BK199 3, cz BK199 4, cz BK199 5, cz BK191 0, cz BK191 1, cz BK191 2, cz BK191 3, cz BK191 4, cz BK191 5, cz BK191 6, cz BK191 7⟩ (fun hHeld => ?_)
 clear hK K
 refine norm_ (a' := ?_) ?_ ?_
 rotate_left
 ·show Act.put _ (some 28) _ = _
  simp only [Act.put, List.setIfInBounds_toArray, List.set_cons_zero, List.set_cons_succ, i64_w, i32_w]
  rfl
 refine one_ (i := 8) (N := some 31) (bA 10 511) rfl rfl (one_of HT_.out (by kernel_rfl)) (by decide) (fun K hK => ?_)
 refine goes_ Try.func25 (by kernel_rfl) rfl #[.agg #[.int .u64 t200, .int .u64 t201, .int .u64 t202, .int .i64 t203, .int .i64 t204, .bool t205], .int .u64 ((rd_T35 l0_3 a2).f3)] (by rfl) rfl rfl (by (try simp only [List.map_toArray, List.map_cons, List.map_nil]); first | done | rfl | (simp only [List.length_drop, List.length_take]; rfl)) ?_
 with_reducible refine (cap_Bound.calls t200 t201 t202 t203 t204 t205 ((rd_T35 l0_3 a2).f3) t206 t207 t208 t209 t210 t211 _ A9.out).mono ?_
 rintro e w33 ⟨rfl, hb⟩
 refine ⟨_, rfl, ?_⟩
 have n0_ := bw BK188 hb
 have n1_ := bw BK189 hb
 have n2_ := bw BK191 hb
 have n3_ := bw BK199 hb
 have n4_ := bs HB hb
 revert n0_ n1_ n2_ n3_ n4_
 clear BK188 BK189 BK191 BK199 HB
 intro BK188 BK189 BK191 BK199 HB
 (try clear hb)
 (try clear hb2)
 (try clear hk)
 (try clear hi)
 refine hK.out _ _ ⟨cz BK199 0, cz BK199 1, cz BK199 2, cz BK199 3, cz BK199 4, cz BK199 5, cz BK191 0, cz BK191 1, cz BK191 2, cz BK191 3, cz BK191 4, cz BK191 5, cz BK191 6, cz BK191 7⟩ (fun hHeld => ?_)
 clear hK K
 refine norm_ (a' := ?_) ?_ ?_
 rotate_left
 ·show Act.put _ (some 31) _ = _
  simp only [Act.put, List.setIfInBounds_toArray, List.set_cons_zero, List.set_cons_succ, i64_w, i32_w]
  rfl
 refine one_ (i := 9) (N := none) (bA 10 1023) rfl rfl (one_of HT_.out (by kernel_rfl)) (by decide) (fun K hK => ?_)
 have hs34 : w33.cell? ⟨gb189, 0, none⟩ = some (.int .u64 0) := cz BK189 0
 have hfs34 := fz BK189 0
 have hns34_0 := NB188_189.out
 have hns34_2 := NB191_189.out
 have hns34_3 := NB199_189.out
 have hms34_0 := NB189_188.out
 have hms34_2 := NB189_191.out
 have hms34_3 := NB189_199.out
 have hs35 : w33.cell? ⟨gb189, 1, none⟩ = some (.int .u64 0) := cz BK189 1
 have hfs35 := fz BK189 1
 have hns35_0 := NB188_189.out
 have hns35_2 := NB191_189.out
 have hns35_3 := NB199_189.out
 have hms35_0 := NB189_188.out
 have hms35_2 := NB189_191.out
 have hms35_3 := NB189_199.out
 have hs36 : w33.cell? ⟨gb189, 2, none⟩ = some (.int .u64 0) := cz BK189 2
 have hfs36 := fz BK189 2
 have hns36_0 := NB188_189.out
 have hns36_2 := NB191_189.out
 have hns36_3 := NB199_189.out
 have hms36_0 := NB189_188.out
 have hms36_2 := NB189_191.out
 have hms36_3 := NB189_199.out
 have hs37 : w33.cell? ⟨gb189, 3, none⟩ = some (.int .i64 0) := cz BK189 3
 have hfs37 := fz BK189 3
 have hns37_0 := NB188_189.out
 have hns37_2 := NB191_189.out
 have hns37_3 := NB199_189.out
 have hms37_0 := NB189_188.out
 have hms37_2 := NB189_191.out
 have hms37_3 := NB189_199.out
 have hs38 : w33.cell? ⟨gb189, 4, none⟩ = some (.int .i64 0) := cz BK189 4
 have hfs38 := fz BK189 4
 have hns38_0 := NB188_189.out
 have hns38_2 := NB191_189.out
 have hns38_3 := NB199_189.out
 have hms38_0 := NB189_188.out
 have hms38_2 := NB189_191.out
 have hms38_3 := NB189_199.out
 have hs39 : w33.cell? ⟨gb189, 5, none⟩ = some (.bool false) := cz BK189 5
 have hfs39 := fz BK189 5
 have hns39_0 := NB188_189.out
 have hns39_2 := NB191_189.out
 have hns39_3 := NB199_189.out
 have hms39_0 := NB189_188.out
 have hms39_2 := NB189_191.out
 have hms39_3 := NB189_199.out
 refine skip_ (w1 := ?_) (by rfl) rfl ?_ ?_
 rotate_left
 ·go_simp
  rfl
 refine hK.out _ _ ⟨((cnf6 (NB199_189.out)).trans (hHeld.1)), ((cnf6 (NB199_189.out)).trans (hHeld.2.1)), ((cnf6 (NB199_189.out)).trans (hHeld.2.2.1)), ((cnf6 (NB199_189.out)).trans (hHeld.2.2.2.1)), ((cnf6 (NB199_189.out)).trans (hHeld.2.2.2.2.1)), ((cnf6 (NB199_189.out)).trans (hHeld.2.2.2.2.2.1)), ((cnf6 (NB191_189.out)).trans (hHeld.2.2.2.2.2.2.1)), ((cnf6 (NB191_189.out)).trans (hHeld.2.2.2.2.2.2.2.1)), ((cnf6 (NB191_189.out)).trans (hHeld.2.2.2.2.2.2.2.2.1)), ((cnf6 (NB191_189.out)).trans (hHeld.2.2.2.2.2.2.2.2.2.1)), ((cnf6 (NB191_189.out)).trans (hHeld.2.2.2.2.2.2.2.2.2.2.1)), ((cnf6 (NB191_189.out)).trans (hHeld.2.2.2.2.2.2.2.2.2.2.2.1)), ((cnf6 (NB191_189.out)).trans (hHeld.2.2.2.2.2.2.2.2.2.2.2.2.1)), ((cnf6 (NB191_189.out)).trans (hHeld.2.2.2.2.2.2.2.2.2.2.2.2.2))⟩ (fun hHeld => ?_)
 clear hK K
 refine done_ (done_of HT_.out (by kernel_rfl)) ?_
 try go_wp2
 refine bodyPost_ret (results_cell_row rfl _ _ gb189 37 #[.int .u64 t206, .int .u64 t207, .int .u64 t208, .int .i64 t209, .int .i64 t210, .bool t211] (0, 0) _ rfl (by (with_reducible repeat (first | refine blk_drewN ?_ _ | refine blk_drew ?_ | refine blk_alloc ?_ _)); refine blk_put (cs := #[.int .u64 t206, .int .u64 t207, .int .u64 t208, .int .i64 t209, .int .i64 t210, .bool false]) ?_ 5 _ rfl; (with_reducible repeat (first | refine blk_drewN ?_ _ | refine blk_drew ?_ | refine blk_alloc ?_ _)); refine blk_put (cs := #[.int .u64 t206, .int .u64 t207, .int .u64 t208, .int .i64 t209, .int .i64 0, .bool false]) ?_ 4 _ rfl; (with_reducible repeat (first | refine blk_drewN ?_ _ | refine blk_drew ?_ | refine blk_alloc ?_ _)); refine blk_put (cs := #[.int .u64 t206, .int .u64 t207, .int .u64 t208, .int .i64 0, .int .i64 0, .bool false]) ?_ 3 _ rfl; (with_reducible repeat (first | refine blk_drewN ?_ _ | refine blk_drew ?_ | refine blk_alloc ?_ _)); refine blk_put (cs := #[.int .u64 t206, .int .u64 t207, .int .u64 0, .int .i64 0, .int .i64 0, .bool false]) ?_ 2 _ rfl; (with_reducible repeat (first | refine blk_drewN ?_ _ | refine blk_drew ?_ | refine blk_alloc ?_ _)); refine blk_put (cs := #[.int .u64 t206, .int .u64 0, .int .u64 0, .int .i64 0, .int .i64 0, .bool false]) ?_ 1 _ rfl; (with_reducible repeat (first | refine blk_drewN ?_ _ | refine blk_drew ?_ | refine blk_alloc ?_ _)); refine blk_put (cs := #[.int .u64 0, .int .u64 0, .int .u64 0, .int .i64 0, .int .i64 0, .bool false]) ?_ 0 _ rfl; (with_reducible repeat (first | refine blk_drewN ?_ _ | refine blk_drew ?_ | refine blk_alloc ?_ _)); exact BK189.out) Try.underlying37 rfl (by kernel_rfl)) rfl ?_
 exact ur (uc HB.out)

end Go.Proofs.Ytlbfeklpncoccaa.P
