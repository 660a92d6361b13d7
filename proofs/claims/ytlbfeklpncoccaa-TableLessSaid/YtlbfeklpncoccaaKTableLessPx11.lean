/- What functions of the program, and of its laws, give, each proved of its code by a walk; no condition. -/
import Derived.Test.YtlbfeklpncoccaaKTableLessPx0
import Derived.Test.YtlbfeklpncoccaaKTableLessSq
import Derived.Test.YtlbfeklpncoccaaKTableLessUsh
import Derived.Test.YtlbfeklpncoccaaKTableLessUs4
namespace Go.Proofs.Ytlbfeklpncoccaa.P
open Go.RowKit Go.Proofs.YtlbfeklpncoccaaW.PrintWords Go.Proofs.YtlbfeklpncoccaaW.PrintLast Go.Proofs.YtlbfeklpncoccaaW.PrintMore
attribute [local go_sem] max2_int min2_int max_two min_two max_three min_three max_four min_four   -- for this text's walks alone
set_option linter.unusedVariables false
set_option linter.unusedSimpArgs false

def curtilageref10_At.l0 : Nat → Int → Int → Int → ByteArray → List ByteArray → List (S67) → List (S35) → List (S72) → List Int → List Int → Option (Int)
  | 0, _, _, _, _, _, _, _, _, _, _ => none
  | k + 1, x1, x2, x7, x410000, x410001, x410002, x410003, x410004, x410005, x410006 => if x7 < (x410002.length : Int) then (if 0 ≤ x7 then (if x1 < ((rd_T67 x410002 x7).f0) then (curtilageref10_At.l0 k x1 x2 (wrap64 (x7 + 1)) x410000 x410001 x410002 x410003 x410004 x410005 x410006) else (if (IntKind.u64.wrap (x1 - ((rd_T67 x410002 x7).f0))) ≤ ((rd_T67 x410002 x7).f1) then (if x2 ≤ (IntKind.u64.wrap (((rd_T67 x410002 x7).f1) - (IntKind.u64.wrap (x1 - ((rd_T67 x410002 x7).f0))))) then (some x7) else (curtilageref10_At.l0 k x1 x2 (wrap64 (x7 + 1)) x410000 x410001 x410002 x410003 x410004 x410005 x410006)) else (curtilageref10_At.l0 k x1 x2 (wrap64 (x7 + 1)) x410000 x410001 x410002 x410003 x410004 x410005 x410006))) else (none)) else (some (-1))
def curtilageref10_At.f (k : Nat) (a0_0 : ByteArray) (l0_1 : List ByteArray) (l0_2 : List (S67)) (l0_3 : List (S35)) (l0_4 : List (S72)) (l0_5 : List Int) (l0_6 : List Int) (a1 : Int) (a2 : Int) : Option (Int) := curtilageref10_At.l0 k a1 a2 0 a0_0 l0_1 l0_2 l0_3 l0_4 l0_5 l0_6
theorem curtilageref10_At.mono_l : ∀ k, (∀ y0 y1 y2 y3 y4 y5 y6 y7 y8 y9, LeO (curtilageref10_At.l0 k y0 y1 y2 y3 y4 y5 y6 y7 y8 y9) (curtilageref10_At.l0 (k + 1) y0 y1 y2 y3 y4 y5 y6 y7 y8 y9))
  | 0 => fun _ _ _ _ _ _ _ _ _ _ r h => by simp [curtilageref10_At.l0] at h
  | k + 1 => by
    have ih0 := curtilageref10_At.mono_l k
    · intro y0 y1 y2 y3 y4 y5 y6 y7 y8 y9
      unfold curtilageref10_At.l0
      repeat' first
      | (with_reducible exact ih0 _ _ _ _ _ _ _ _ _ _)
      | (with_reducible exact LeO.refl _)
      | (with_reducible exact LeO.none _)
      | (with_reducible refine LeO.ite ?_ ?_)
      | (with_reducible refine LeO.bind ?_ (fun _ => ?_))
      | exact ih0 _ _ _ _ _ _ _ _ _ _
      | exact LeO.none _
      | refine LeO.ite ?_ ?_
      | refine LeO.bind ?_ (fun _ => ?_)
theorem curtilageref10_At.mono : ∀ a0 a1 a2 a3 a4 a5 a6 a7 a8 k, LeO (curtilageref10_At.f k a0 a1 a2 a3 a4 a5 a6 a7 a8) (curtilageref10_At.f (k + 1) a0 a1 a2 a3 a4 a5 a6 a7 a8) := by
  intro a0 a1 a2 a3 a4 a5 a6 a7 a8 k
  have ih0 := curtilageref10_At.mono_l k
  unfold curtilageref10_At.f
  repeat' first
      | (with_reducible exact ih0 _ _ _ _ _ _ _ _ _ _)
      | (with_reducible exact LeO.refl _)
      | (with_reducible exact LeO.none _)
      | (with_reducible refine LeO.ite ?_ ?_)
      | (with_reducible refine LeO.bind ?_ (fun _ => ?_))
      | exact ih0 _ _ _ _ _ _ _ _ _ _
      | exact LeO.none _
      | refine LeO.ite ?_ ?_
      | refine LeO.bind ?_ (fun _ => ?_)
set_option maxHeartbeats 8000000 in
set_option maxRecDepth 100000 in
theorem curtilageref10_At.calls (k : Nat) (a0_0 : ByteArray) (A0_1 : Option Addr) (c0_1 : Nat) (l0_1 : List ByteArray) (A0_2 : Option Addr) (c0_2 : Nat) (l0_2 : List (S67)) (A0_3 : Option Addr) (c0_3 : Nat) (l0_3 : List (S35)) (A0_4 : Option Addr) (c0_4 : Nat) (l0_4 : List (S72)) (A0_5 : Option Addr) (c0_5 : Nat) (l0_5 : List Int) (A0_6 : Option Addr) (c0_6 : Nat) (l0_6 : List Int) (a1 : Int) (a2 : Int) (r : Int) (w : World) (hr0_1 : Kd.C Kd.string w A0_1 l0_1.length l0_1) (hc0_1 : l0_1.length ≤ c0_1) (hr0_2 : Kd.C k67 w A0_2 l0_2.length l0_2) (hc0_2 : l0_2.length ≤ c0_2) (hr0_3 : Kd.C k35 w A0_3 l0_3.length l0_3) (hc0_3 : l0_3.length ≤ c0_3) (hr0_4 : Kd.C k72 w A0_4 l0_4.length l0_4) (hc0_4 : l0_4.length ≤ c0_4) (hr0_5 : Kd.C (Kd.int .i64) w A0_5 l0_5.length l0_5) (hc0_5 : l0_5.length ≤ c0_5) (hr0_6 : Kd.C (Kd.int .i64) w A0_6 l0_6.length l0_6) (hc0_6 : l0_6.length ≤ c0_6) (h : curtilageref10_At.f k a0_0 l0_1 l0_2 l0_3 l0_4 l0_5 l0_6 a1 a2 = some r) :
  Calls Try.prog 28 #[.agg #[.string a0_0, .slice A0_1 l0_1.length c0_1, .slice A0_2 l0_2.length c0_2, .slice A0_3 l0_3.length c0_3, .slice A0_4 l0_4.length c0_4, .slice A0_5 l0_5.length c0_5, .slice A0_6 l0_6.length c0_6], .int .u64 a1, .int .u64 a2] w fun e w' => e = .returned (.int .i64 r) ∧ Below w.heap.size w w' := by
 have hu28 := Try.underlying28
 have hu67 := Try.underlying67
 have HR0_1 := am hr0_1
 have HC0_1 := am hc0_1
 clear hr0_1 hc0_1
 have HR0_2 := am hr0_2
 have HC0_2 := am hc0_2
 clear hr0_2 hc0_2
 have HR0_3 := am hr0_3
 have HC0_3 := am hc0_3
 clear hr0_3 hc0_3
 have HR0_4 := am hr0_4
 have HC0_4 := am hc0_4
 clear hr0_4 hc0_4
 have HR0_5 := am hr0_5
 have HC0_5 := am hc0_5
 clear hr0_5 hc0_5
 have HR0_6 := am hr0_6
 have HC0_6 := am hc0_6
 clear hr0_6 hc0_6
 have HB := am (Below.refl w.heap.size w)
 have H : (curtilageref10_At.l0 k a1 a2 0 a0_0 l0_1 l0_2 l0_3 l0_4 l0_5 l0_6) = some r := h
 clear h
 have H' := am H
 clear H
 go_enter Try.func28, Try.ntmps28
 go_wp2_with (first | ((with_reducible refine gate_dst (N := 3) rfl ?_); refine box_event ?hg (N := 3) ?hd (cs := #[.string a0_0, .slice A0_1 l0_1.length c0_1, .slice A0_2 l0_2.length c0_2, .slice A0_3 l0_3.length c0_3, .slice A0_4 l0_4.length c0_4, .slice A0_5 l0_5.length c0_5, .slice A0_6 l0_6.length c0_6]) (t := 28) ?hr ?_; (case hd => rfl); (case hg => rfl); (case hr => first | (go_simp; done) | (go_simp; rfl)); intro gb409 hg w4 hbox hb; have n0_ := bs HB hb; have n1_ := am (hbox); have n2_ := nz HB hg; have n3_ := nz HB hg; revert n0_ n1_ n2_ n3_; clear HB; intro HB BK409 GW409 GE409; clear hb hbox hg))
 go_loopg [7] k (fun kq v7 w' => ∃ (x7_1 : Int), v7 = .int .i64 x7_1 ∧ Aside0 (curtilageref10_At.l0 kq a1 a2 x7_1 a0_0 l0_1 l0_2 l0_3 l0_4 l0_5 l0_6 = some r) ∧ Aside0 (kq ≤ k) ∧ Aside0 (w'.heap[gb409]? = some (.cells #[.string a0_0, (.slice A0_1 l0_1.length c0_1), (.slice A0_2 l0_2.length c0_2), (.slice A0_3 l0_3.length c0_3), (.slice A0_4 l0_4.length c0_4), (.slice A0_5 l0_5.length c0_5), (.slice A0_6 l0_6.length c0_6)] 28 (0, 0))) ∧ Aside0 (Below w.heap.size w w'))
 case atStart => exact ⟨(0), uf, H', ⟨Nat.le_refl _⟩, ⟨ub BK409.out⟩, ⟨uc HB.out⟩⟩
 case round =>
  clear H'
  obtain ⟨x7_1, rfl, HA, HK1, BK409, HB⟩ := hrel
  cases gk with
  | zero => exact absurd HA.out (by simp [curtilageref10_At.l0])
  | succ k1 =>
   have H := HA.out
   clear HA
   simp only [curtilageref10_At.l0] at H
   by_cases c5 : x7_1 < (l0_2.length : Int)
   ·rw [if_pos c5] at H
    have c5b0 := decide_eq_true c5
    clear c5
    obtain ⟨c6, H⟩ := ic H
    have c6b0 : decide (0 ≤ x7_1) = true := decide_eq_true c6
    clear c6
    by_cases c7 : a1 < ((rd_T67 l0_2 x7_1).f0)
    ·rw [if_pos c7] at H
     have c7b0 := decide_eq_true c7
     clear c7
     have H' := am H
     clear H
     obtain ⟨hcz8_0, hcz8_1, hcz8_2, hcz8_3, hcz8_4, hcz8_5, hcz8_6, hfz8_0, hfz8_1, hfz8_2, hfz8_3, hfz8_4, hfz8_5, hfz8_6⟩ := cl7 BK409
     have p410 : 0 ≤ (x7_1 : Int) := ud
     have q410 : x7_1 < (l0_2.length : Int) := ud
     obtain ⟨ad410, A410_3, c410_3, e410, hx410_0, hx410_1, hx410_2, hx410_3, hl410_3, hi410_3⟩ := at_T67 HR0_2.out x7_1 p410 q410
     cases e410
     replace hx410_0 := bcel HB hx410_0
     replace hx410_1 := bcel HB hx410_1
     replace hx410_2 := bcel HB hx410_2
     replace hx410_3 := bcel HB hx410_3
     have HR410_3 := am hi410_3
     have HC410_3 := am hl410_3
     clear hi410_3 hl410_3
     replace p410 := eq_true p410
     replace q410 := eq_true q410
     go_wp2_with (first | ((with_reducible refine gate_dst (N := 8) rfl ?_); refine box_event ?hg (N := 8) ?hd (cs := #[.int .u64 0, .int .u64 0, .int .i64 0, .slice none 0 0]) (t := 67) ?hr ?_; (case hd => rfl); (case hg => rfl); (case hr => first | (go_simp; done) | (go_simp; rfl)); intro gb411 hg w9 hbox hb; have n0_ := bw BK409 hb; have n1_ := bs HB hb; have n2_ := am (hbox); have n3_ := nz HB hg; have n4_ := nz HB hg; have n5_ := nl BK409 hg; have n6_ := nr BK409 hg; revert n0_ n1_ n2_ n3_ n4_ n5_ n6_; clear BK409 HB; intro BK409 HB BK411 GW411 GE411 NB409_411 NB411_409; clear hb hbox hg; have hnb10 := NB411_409.out; have hnc10 := NB409_411.out; obtain ⟨hcz11_0, hcz11_1, hcz11_2, hcz11_3, hfz11_0, hfz11_1, hfz11_2, hfz11_3⟩ := cells4 BK411.out) | ((with_reducible refine gate_store (t := 67) (p := 8) rfl ?_); refine store_event (t := 67) (p := 8) (v := ?vo_w12) (w1 := ((((w9.setCell ⟨gb411, 0, none⟩ (.int .u64 ((rd_T67 l0_2 x7_1).f0))).setCell ⟨gb411, 1, none⟩ (.int .u64 ((rd_T67 l0_2 x7_1).f1))).setCell ⟨gb411, 2, none⟩ (.int .i64 ((rd_T67 l0_2 x7_1).f2))).setCell ⟨gb411, 3, none⟩ (.slice A410_3 ((rd_T67 l0_2 x7_1).f3).length c410_3))) ?hg ?ho ?hn ?hr ?_; (case ho => rfl); (case hg => rfl); (case hn => rfl); (case hr => first | (go_simp; done) | (go_simp; rfl)); intro w12 hw; have n0_ := bf4 hw NB409_411 BK409; have n1_ := bp4 #[.int .u64 ((rd_T67 l0_2 x7_1).f0), .int .u64 ((rd_T67 l0_2 x7_1).f1), .int .i64 ((rd_T67 l0_2 x7_1).f2), .slice A410_3 ((rd_T67 l0_2 x7_1).f3).length c410_3] hw BK411; have n2_ : Aside0 (Below w.heap.size w w12) := ⟨(by rw [hw]; exact (uc HB.out))⟩; revert n0_ n1_ n2_; clear hw BK409 BK411 HB; intro BK409 BK411 HB; obtain ⟨hcz13_0, hcz13_1, hcz13_2, hcz13_3, hfz13_0, hfz13_1, hfz13_2, hfz13_3⟩ := cells4 BK411.out))
     go_roundg k1
     case measure => have := HK1.out; omega
     case rel => exact ⟨(wrap64 (x7_1 + 1)), uf, H', ⟨by have := HK1.out; omega⟩, ⟨ub BK409.out⟩, ⟨uc HB.out⟩⟩
    ·rw [if_neg c7] at H
     have c7b0 := decide_eq_false c7
     clear c7
     by_cases c14 : (IntKind.u64.wrap (a1 - ((rd_T67 l0_2 x7_1).f0))) ≤ ((rd_T67 l0_2 x7_1).f1)
     ·rw [if_pos c14] at H
      have c14b0 := decide_eq_true c14
      clear c14
      by_cases c15 : a2 ≤ (IntKind.u64.wrap (((rd_T67 l0_2 x7_1).f1) - (IntKind.u64.wrap (a1 - ((rd_T67 l0_2 x7_1).f0)))))
      ·rw [if_pos c15] at H
       have c15b0 := decide_eq_true c15
       clear c15
       obtain rfl := Option.some.inj H
       obtain ⟨hcz16_0, hcz16_1, hcz16_2, hcz16_3, hcz16_4, hcz16_5, hcz16_6, hfz16_0, hfz16_1, hfz16_2, hfz16_3, hfz16_4, hfz16_5, hfz16_6⟩ := cl7 BK409
       have p410 : 0 ≤ (x7_1 : Int) := ud
       have q410 : x7_1 < (l0_2.length : Int) := ud
       obtain ⟨ad410, A410_3, c410_3, e410, hx410_0, hx410_1, hx410_2, hx410_3, hl410_3, hi410_3⟩ := at_T67 HR0_2.out x7_1 p410 q410
       cases e410
       replace hx410_0 := bcel HB hx410_0
       replace hx410_1 := bcel HB hx410_1
       replace hx410_2 := bcel HB hx410_2
       replace hx410_3 := bcel HB hx410_3
       have HR410_3 := am hi410_3
       have HC410_3 := am hl410_3
       clear hi410_3 hl410_3
       replace p410 := eq_true p410
       replace q410 := eq_true q410
       go_wp2_with (first | ((with_reducible refine gate_dst (N := 8) rfl ?_); refine box_event ?hg (N := 8) ?hd (cs := #[.int .u64 0, .int .u64 0, .int .i64 0, .slice none 0 0]) (t := 67) ?hr ?_; (case hd => rfl); (case hg => rfl); (case hr => first | (go_simp; done) | (go_simp; rfl)); intro gb411 hg w17 hbox hb; have n0_ := bw BK409 hb; have n1_ := bs HB hb; have n2_ := am (hbox); have n3_ := nz HB hg; have n4_ := nz HB hg; have n5_ := nl BK409 hg; have n6_ := nr BK409 hg; revert n0_ n1_ n2_ n3_ n4_ n5_ n6_; clear BK409 HB; intro BK409 HB BK411 GW411 GE411 NB409_411 NB411_409; clear hb hbox hg; have hnb18 := NB411_409.out; have hnc18 := NB409_411.out; obtain ⟨hcz19_0, hcz19_1, hcz19_2, hcz19_3, hfz19_0, hfz19_1, hfz19_2, hfz19_3⟩ := cells4 BK411.out) | ((with_reducible refine gate_store (t := 67) (p := 8) rfl ?_); refine store_event (t := 67) (p := 8) (v := ?vo_w20) (w1 := ((((w17.setCell ⟨gb411, 0, none⟩ (.int .u64 ((rd_T67 l0_2 x7_1).f0))).setCell ⟨gb411, 1, none⟩ (.int .u64 ((rd_T67 l0_2 x7_1).f1))).setCell ⟨gb411, 2, none⟩ (.int .i64 ((rd_T67 l0_2 x7_1).f2))).setCell ⟨gb411, 3, none⟩ (.slice A410_3 ((rd_T67 l0_2 x7_1).f3).length c410_3))) ?hg ?ho ?hn ?hr ?_; (case ho => rfl); (case hg => rfl); (case hn => rfl); (case hr => first | (go_simp; done) | (go_simp; rfl)); intro w20 hw; have n0_ := bf4 hw NB409_411 BK409; have n1_ := bp4 #[.int .u64 ((rd_T67 l0_2 x7_1).f0), .int .u64 ((rd_T67 l0_2 x7_1).f1), .int .i64 ((rd_T67 l0_2 x7_1).f2), .slice A410_3 ((rd_T67 l0_2 x7_1).f3).length c410_3] hw BK411; have n2_ : Aside0 (Below w.heap.size w w20) := ⟨(by rw [hw]; exact (uc HB.out))⟩; revert n0_ n1_ n2_; clear hw BK409 BK411 HB; intro BK409 BK411 HB; obtain ⟨hcz21_0, hcz21_1, hcz21_2, hcz21_3, hfz21_0, hfz21_1, hfz21_2, hfz21_3⟩ := cells4 BK411.out))
       go_ret
       exact ur (uc HB.out)
      ·rw [if_neg c15] at H
       have c15b0 := decide_eq_false c15
       clear c15
       have H' := am H
       clear H
       obtain ⟨hcz22_0, hcz22_1, hcz22_2, hcz22_3, hcz22_4, hcz22_5, hcz22_6, hfz22_0, hfz22_1, hfz22_2, hfz22_3, hfz22_4, hfz22_5, hfz22_6⟩ := cl7 BK409
       have p410 : 0 ≤ (x7_1 : Int) := ud
       have q410 : x7_1 < (l0_2.length : Int) := ud
       obtain ⟨ad410, A410_3, c410_3, e410, hx410_0, hx410_1, hx410_2, hx410_3, hl410_3, hi410_3⟩ := at_T67 HR0_2.out x7_1 p410 q410
       cases e410
       replace hx410_0 := bcel HB hx410_0
       replace hx410_1 := bcel HB hx410_1
       replace hx410_2 := bcel HB hx410_2
       replace hx410_3 := bcel HB hx410_3
       have HR410_3 := am hi410_3
       have HC410_3 := am hl410_3
       clear hi410_3 hl410_3
       replace p410 := eq_true p410
       replace q410 := eq_true q410
       go_wp2_with (first | ((with_reducible refine gate_dst (N := 8) rfl ?_); refine box_event ?hg (N := 8) ?hd (cs := #[.int .u64 0, .int .u64 0, .int .i64 0, .slice none 0 0]) (t := 67) ?hr ?_; (case hd => rfl); (case hg => rfl); (case hr => first | (go_simp; done) | (go_simp; rfl)); intro gb411 hg w23 hbox hb; have n0_ := bw BK409 hb; have n1_ := bs HB hb; have n2_ := am (hbox); have n3_ := nz HB hg; have n4_ := nz HB hg; have n5_ := nl BK409 hg; have n6_ := nr BK409 hg; revert n0_ n1_ n2_ n3_ n4_ n5_ n6_; clear BK409 HB; intro BK409 HB BK411 GW411 GE411 NB409_411 NB411_409; clear hb hbox hg; have hnb24 := NB411_409.out; have hnc24 := NB409_411.out; obtain ⟨hcz25_0, hcz25_1, hcz25_2, hcz25_3, hfz25_0, hfz25_1, hfz25_2, hfz25_3⟩ := cells4 BK411.out) | ((with_reducible refine gate_store (t := 67) (p := 8) rfl ?_); refine store_event (t := 67) (p := 8) (v := ?vo_w26) (w1 := ((((w23.setCell ⟨gb411, 0, none⟩ (.int .u64 ((rd_T67 l0_2 x7_1).f0))).setCell ⟨gb411, 1, none⟩ (.int .u64 ((rd_T67 l0_2 x7_1).f1))).setCell ⟨gb411, 2, none⟩ (.int .i64 ((rd_T67 l0_2 x7_1).f2))).setCell ⟨gb411, 3, none⟩ (.slice A410_3 ((rd_T67 l0_2 x7_1).f3).length c410_3))) ?hg ?ho ?hn ?hr ?_; (case ho => rfl); (case hg => rfl); (case hn => rfl); (case hr => first | (go_simp; done) | (go_simp; rfl)); intro w26 hw; have n0_ := bf4 hw NB409_411 BK409; have n1_ := bp4 #[.int .u64 ((rd_T67 l0_2 x7_1).f0), .int .u64 ((rd_T67 l0_2 x7_1).f1), .int .i64 ((rd_T67 l0_2 x7_1).f2), .slice A410_3 ((rd_T67 l0_2 x7_1).f3).length c410_3] hw BK411; have n2_ : Aside0 (Below w.heap.size w w26) := ⟨(by rw [hw]; exact (uc HB.out))⟩; revert n0_ n1_ n2_; clear hw BK409 BK411 HB; intro BK409 BK411 HB; obtain ⟨hcz27_0, hcz27_1, hcz27_2, hcz27_3, hfz27_0, hfz27_1, hfz27_2, hfz27_3⟩ := cells4 BK411.out))
       go_roundg k1
       case measure => have := HK1.out; omega
       case rel => exact ⟨(wrap64 (x7_1 + 1)), uf, H', ⟨by have := HK1.out; omega⟩, ⟨ub BK409.out⟩, ⟨uc HB.out⟩⟩
     ·rw [if_neg c14] at H
      have c14b0 := decide_eq_false c14
      clear c14
      have H' := am H
      clear H
      obtain ⟨hcz28_0, hcz28_1, hcz28_2, hcz28_3, hcz28_4, hcz28_5, hcz28_6, hfz28_0, hfz28_1, hfz28_2, hfz28_3, hfz28_4, hfz28_5, hfz28_6⟩ := cl7 BK409
      have p410 : 0 ≤ (x7_1 : Int) := ud
      have q410 : x7_1 < (l0_2.length : Int) := ud
      obtain ⟨ad410, A410_3, c410_3, e410, hx410_0, hx410_1, hx410_2, hx410_3, hl410_3, hi410_3⟩ := at_T67 HR0_2.out x7_1 p410 q410
      cases e410
      replace hx410_0 := bcel HB hx410_0
      replace hx410_1 := bcel HB hx410_1
      replace hx410_2 := bcel HB hx410_2
      replace hx410_3 := bcel HB hx410_3
      have HR410_3 := am hi410_3
      have HC410_3 := am hl410_3
      clear hi410_3 hl410_3
      replace p410 := eq_true p410
      replace q410 := eq_true q410
      go_wp2_with (first | ((with_reducible refine gate_dst (N := 8) rfl ?_); refine box_event ?hg (N := 8) ?hd (cs := #[.int .u64 0, .int .u64 0, .int .i64 0, .slice none 0 0]) (t := 67) ?hr ?_; (case hd => rfl); (case hg => rfl); (case hr => first | (go_simp; done) | (go_simp; rfl)); intro gb411 hg w29 hbox hb; have n0_ := bw BK409 hb; have n1_ := bs HB hb; have n2_ := am (hbox); have n3_ := nz HB hg; have n4_ := nz HB hg; have n5_ := nl BK409 hg; have n6_ := nr BK409 hg; revert n0_ n1_ n2_ n3_ n4_ n5_ n6_; clear BK409 HB; intro BK409 HB BK411 GW411 GE411 NB409_411 NB411_409; clear hb hbox hg; have hnb30 := NB411_409.out; have hnc30 := NB409_411.out; obtain ⟨hcz31_0, hcz31_1, hcz31_2, hcz31_3, hfz31_0, hfz31_1, hfz31_2, hfz31_3⟩ := cells4 BK411.out) | ((with_reducible refine gate_store (t := 67) (p := 8) rfl ?_); refine store_event (t := 67) (p := 8) (v := ?vo_w32) (w1 := ((((w29.setCell ⟨gb411, 0, none⟩ (.int .u64 ((rd_T67 l0_2 x7_1).f0))).setCell ⟨gb411, 1, none⟩ (.int .u64 ((rd_T67 l0_2 x7_1).f1))).setCell ⟨gb411, 2, none⟩ (.int .i64 ((rd_T67 l0_2 x7_1).f2))).setCell ⟨gb411, 3, none⟩ (.slice A410_3 ((rd_T67 l0_2 x7_1).f3).length c410_3))) ?hg ?ho ?hn ?hr ?_; (case ho => rfl); (case hg => rfl); (case hn => rfl); (case hr => first | (go_simp; done) | (go_simp; rfl)); intro w32 hw; have n0_ := bf4 hw NB409_411 BK409; have n1_ := bp4 #[.int .u64 ((rd_T67 l0_2 x7_1).f0), .int .u64 ((rd_T67 l0_2 x7_1).f1), .int .i64 ((rd_T67 l0_2 x7_1).f2), .slice A410_3 ((rd_T67 l0_2 x7_1).f3).length c410_3] hw BK411; have n2_ : Aside0 (Below w.heap.size w w32) := ⟨(by rw [hw]; exact (uc HB.out))⟩; revert n0_ n1_ n2_; clear hw BK409 BK411 HB; intro BK409 BK411 HB; obtain ⟨hcz33_0, hcz33_1, hcz33_2, hcz33_3, hfz33_0, hfz33_1, hfz33_2, hfz33_3⟩ := cells4 BK411.out))
      go_roundg k1
      case measure => have := HK1.out; omega
      case rel => exact ⟨(wrap64 (x7_1 + 1)), uf, H', ⟨by have := HK1.out; omega⟩, ⟨ub BK409.out⟩, ⟨uc HB.out⟩⟩
   ·rw [if_neg c5] at H
    have c5b0 := decide_eq_false c5
    clear c5
    obtain rfl := Option.some.inj H
    obtain ⟨hcz34_0, hcz34_1, hcz34_2, hcz34_3, hcz34_4, hcz34_5, hcz34_6, hfz34_0, hfz34_1, hfz34_2, hfz34_3, hfz34_4, hfz34_5, hfz34_6⟩ := cl7 BK409
    go_wp2
    go_ret
    exact ur (uc HB.out)

end Go.Proofs.Ytlbfeklpncoccaa.P
