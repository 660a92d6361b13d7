/- What functions of the program, and of its laws, give, each proved of its code by a walk; no condition. -/
import Derived.Test.YtoakeildgpeffaaKPlanBothPx0
import Derived.Test.YtoakeildgpeffaaKPlanBothPx11
namespace Go.Proofs.Ytoakeildgpeffaa.P
open Go.RowKit Go.Proofs.YtoakeildgpeffaaW.PrintWords Go.Proofs.YtoakeildgpeffaaW.PrintLast Go.Proofs.YtoakeildgpeffaaW.PrintMore
attribute [local go_sem] max2_int min2_int max_two min_two max_three min_three max_four min_four   -- for this text's walks alone
set_option linter.unusedVariables false
set_option linter.unusedSimpArgs false

def curtilageref14_Bind.j0 : Nat → List (S39) → List Int → Int → Int → Bool → ByteArray → ByteArray → Int → Int → Int → Int → Int → Bool → Option (Int × Int × Int)
  | 0, _, _, _, _, _, _, _, _, _, _, _, _, _ => none
  | k + 1, x0, x1, x2, x3, x34, x179000, x179001, x179002, x179003, x179004, x179005, x179006, x179007 => if x34 = true then (some (x2, x3, 0)) else ((curtilageref14_In.f k x0 x1 x179000 x179001).bind fun bt179 => (if bt179.1 ≥ 0 then (some (bt179.1, bt179.2, 0)) else (if x179007 = true then (some (x2, x3, 0)) else (if x179005 = 3 then (some ((-1), (-1), 0)) else ((curtilageref14_Known.f k x0 x1 x179000).bind fun t181 => (if x179001.toList = ([] : List UInt8) then (some (0, 0, 140)) else (if t181 = true then (some (0, 0, 141)) else (some (0, 0, 140)))))))))
def curtilageref14_Bind.f (k : Nat) (l0 : List (S39)) (l1 : List Int) (a2 : Int) (a3 : Int) : Option (Int × Int × Int) := if 0 ≤ a2 then (if a2 < (l0.length : Int) then (if 0 ≤ a3 then (if a3 < (((rd_T39 l0 a2).f3).length : Int) then (if (rd_T42 ((rd_T39 l0 a2).f3) a3).f7 = true then (if ((rd_T42 ((rd_T39 l0 a2).f3) a3).f5) = 1 then (curtilageref14_Bind.j0 k l0 l1 a2 a3 true ((rd_T42 ((rd_T39 l0 a2).f3) a3).f0) ((rd_T42 ((rd_T39 l0 a2).f3) a3).f1) ((rd_T42 ((rd_T39 l0 a2).f3) a3).f2) ((rd_T42 ((rd_T39 l0 a2).f3) a3).f3) ((rd_T42 ((rd_T39 l0 a2).f3) a3).f4) ((rd_T42 ((rd_T39 l0 a2).f3) a3).f5) ((rd_T42 ((rd_T39 l0 a2).f3) a3).f6) ((rd_T42 ((rd_T39 l0 a2).f3) a3).f7)) else (curtilageref14_Bind.j0 k l0 l1 a2 a3 (((rd_T42 ((rd_T39 l0 a2).f3) a3).f6) == 2) ((rd_T42 ((rd_T39 l0 a2).f3) a3).f0) ((rd_T42 ((rd_T39 l0 a2).f3) a3).f1) ((rd_T42 ((rd_T39 l0 a2).f3) a3).f2) ((rd_T42 ((rd_T39 l0 a2).f3) a3).f3) ((rd_T42 ((rd_T39 l0 a2).f3) a3).f4) ((rd_T42 ((rd_T39 l0 a2).f3) a3).f5) ((rd_T42 ((rd_T39 l0 a2).f3) a3).f6) ((rd_T42 ((rd_T39 l0 a2).f3) a3).f7))) else (curtilageref14_Bind.j0 k l0 l1 a2 a3 false ((rd_T42 ((rd_T39 l0 a2).f3) a3).f0) ((rd_T42 ((rd_T39 l0 a2).f3) a3).f1) ((rd_T42 ((rd_T39 l0 a2).f3) a3).f2) ((rd_T42 ((rd_T39 l0 a2).f3) a3).f3) ((rd_T42 ((rd_T39 l0 a2).f3) a3).f4) ((rd_T42 ((rd_T39 l0 a2).f3) a3).f5) ((rd_T42 ((rd_T39 l0 a2).f3) a3).f6) ((rd_T42 ((rd_T39 l0 a2).f3) a3).f7))) else (none)) else (none)) else (none)) else (none)
theorem curtilageref14_Bind.mono_l : ∀ k, (∀ y0 y1 y2 y3 y4 y5 y6 y7 y8 y9 y10 y11 y12, LeO (curtilageref14_Bind.j0 k y0 y1 y2 y3 y4 y5 y6 y7 y8 y9 y10 y11 y12) (curtilageref14_Bind.j0 (k + 1) y0 y1 y2 y3 y4 y5 y6 y7 y8 y9 y10 y11 y12))
  | 0 => fun _ _ _ _ _ _ _ _ _ _ _ _ _ r h => by simp [curtilageref14_Bind.j0] at h
  | k + 1 => by
    have ih0 := curtilageref14_Bind.mono_l k
    · intro y0 y1 y2 y3 y4 y5 y6 y7 y8 y9 y10 y11 y12
      unfold curtilageref14_Bind.j0
      repeat' first
      | (with_reducible exact ih0 _ _ _ _ _ _ _ _ _ _ _ _ _)
      | (with_reducible exact curtilageref14_In.mono _ _ _ _ _)
      | (with_reducible exact curtilageref14_Known.mono _ _ _ _)
      | (with_reducible exact LeO.refl _)
      | (with_reducible exact LeO.none _)
      | (with_reducible refine LeO.ite ?_ ?_)
      | (with_reducible refine LeO.bind ?_ (fun _ => ?_))
      | exact ih0 _ _ _ _ _ _ _ _ _ _ _ _ _
      | exact curtilageref14_In.mono _ _ _ _ _
      | exact curtilageref14_Known.mono _ _ _ _
      | exact LeO.none _
      | refine LeO.ite ?_ ?_
      | refine LeO.bind ?_ (fun _ => ?_)
theorem curtilageref14_Bind.mono : ∀ a0 a1 a2 a3 k, LeO (curtilageref14_Bind.f k a0 a1 a2 a3) (curtilageref14_Bind.f (k + 1) a0 a1 a2 a3) := by
  intro a0 a1 a2 a3 k
  have ih0 := curtilageref14_Bind.mono_l k
  unfold curtilageref14_Bind.f
  repeat' first
      | (with_reducible exact ih0 _ _ _ _ _ _ _ _ _ _ _ _ _)
      | (with_reducible exact curtilageref14_In.mono _ _ _ _ _)
      | (with_reducible exact curtilageref14_Known.mono _ _ _ _)
      | (with_reducible exact LeO.refl _)
      | (with_reducible exact LeO.none _)
      | (with_reducible refine LeO.ite ?_ ?_)
      | (with_reducible refine LeO.bind ?_ (fun _ => ?_))
      | exact ih0 _ _ _ _ _ _ _ _ _ _ _ _ _
      | exact curtilageref14_In.mono _ _ _ _ _
      | exact curtilageref14_Known.mono _ _ _ _
      | exact LeO.none _
      | refine LeO.ite ?_ ?_
      | refine LeO.bind ?_ (fun _ => ?_)
set_option maxHeartbeats 8000000 in
set_option maxRecDepth 100000 in
theorem curtilageref14_Bind.calls (k : Nat) (A0 : Option Addr) (c0 : Nat) (l0 : List (S39)) (A1 : Option Addr) (c1 : Nat) (l1 : List Int) (a2 : Int) (a3 : Int) (r1 : Int) (r2 : Int) (r3 : Int) (w : World) (hr0 : Kd.C k39 w A0 l0.length l0) (hc0 : l0.length ≤ c0) (hr1 : Kd.C (Kd.int .i64) w A1 l1.length l1) (hc1 : l1.length ≤ c1) (h : curtilageref14_Bind.f k l0 l1 a2 a3 = some (r1, r2, r3)) :
    Calls Try.prog 17 #[.slice A0 l0.length c0, .slice A1 l1.length c1, .int .i64 a2, .int .i64 a3] w fun e w' => e = .returned (.tuple #[.int .i64 r1, .int .i64 r2, .int .i64 r3]) ∧ Below w.heap.size w w' := by
  have hu42 := Try.underlying42
  have HR0 := Aside0.mk hr0
  have HC0 := Aside0.mk hc0
  clear hr0 hc0
  have HR1 := Aside0.mk hr1
  have HC1 := Aside0.mk hc1
  clear hr1 hc1
  have HB := Aside0.mk (Below.refl w.heap.size w)
  have H : (if 0 ≤ a2 then (if a2 < (l0.length : Int) then (if 0 ≤ a3 then (if a3 < (((rd_T39 l0 a2).f3).length : Int) then (if (rd_T42 ((rd_T39 l0 a2).f3) a3).f7 = true then (if ((rd_T42 ((rd_T39 l0 a2).f3) a3).f5) = 1 then (curtilageref14_Bind.j0 k l0 l1 a2 a3 true ((rd_T42 ((rd_T39 l0 a2).f3) a3).f0) ((rd_T42 ((rd_T39 l0 a2).f3) a3).f1) ((rd_T42 ((rd_T39 l0 a2).f3) a3).f2) ((rd_T42 ((rd_T39 l0 a2).f3) a3).f3) ((rd_T42 ((rd_T39 l0 a2).f3) a3).f4) ((rd_T42 ((rd_T39 l0 a2).f3) a3).f5) ((rd_T42 ((rd_T39 l0 a2).f3) a3).f6) ((rd_T42 ((rd_T39 l0 a2).f3) a3).f7)) else (curtilageref14_Bind.j0 k l0 l1 a2 a3 (((rd_T42 ((rd_T39 l0 a2).f3) a3).f6) == 2) ((rd_T42 ((rd_T39 l0 a2).f3) a3).f0) ((rd_T42 ((rd_T39 l0 a2).f3) a3).f1) ((rd_T42 ((rd_T39 l0 a2).f3) a3).f2) ((rd_T42 ((rd_T39 l0 a2).f3) a3).f3) ((rd_T42 ((rd_T39 l0 a2).f3) a3).f4) ((rd_T42 ((rd_T39 l0 a2).f3) a3).f5) ((rd_T42 ((rd_T39 l0 a2).f3) a3).f6) ((rd_T42 ((rd_T39 l0 a2).f3) a3).f7))) else (curtilageref14_Bind.j0 k l0 l1 a2 a3 false ((rd_T42 ((rd_T39 l0 a2).f3) a3).f0) ((rd_T42 ((rd_T39 l0 a2).f3) a3).f1) ((rd_T42 ((rd_T39 l0 a2).f3) a3).f2) ((rd_T42 ((rd_T39 l0 a2).f3) a3).f3) ((rd_T42 ((rd_T39 l0 a2).f3) a3).f4) ((rd_T42 ((rd_T39 l0 a2).f3) a3).f5) ((rd_T42 ((rd_T39 l0 a2).f3) a3).f6) ((rd_T42 ((rd_T39 l0 a2).f3) a3).f7))) else (none)) else (none)) else (none)) else (none)) = some (r1, r2, r3) := h
  clear h
  by_cases c5 : 0 ≤ a2
  · rw [if_pos c5] at H
    have c5b0 : decide (0 ≤ a2) = true := decide_eq_true c5
    clear c5
    by_cases c6 : a2 < (l0.length : Int)
    · rw [if_pos c6] at H
      have c6b0 : decide (a2 < (l0.length : Int)) = true := decide_eq_true c6
      clear c6
      by_cases c7 : 0 ≤ a3
      · rw [if_pos c7] at H
        have c7b0 : decide (0 ≤ a3) = true := decide_eq_true c7
        clear c7
        by_cases c8 : a3 < (((rd_T39 l0 a2).f3).length : Int)
        · rw [if_pos c8] at H
          have c8b0 : decide (a3 < (((rd_T39 l0 a2).f3).length : Int)) = true := decide_eq_true c8
          clear c8
          have HC9 := Aside0.mk H
          clear H
          have p176 : 0 ≤ (a2 : Int) := of_decide_eq_true (by first | (with_reducible assumption) | assumption)
          have q176 : a2 < (l0.length : Int) := of_decide_eq_true (by first | (with_reducible assumption) | assumption)
          obtain ⟨ad176, A176_1, c176_1, A176_2, c176_2, A176_3, c176_3, A176_4, c176_4, A176_5, c176_5, A176_6, c176_6, e176, hx176_0, hx176_1, hx176_2, hx176_3, hx176_4, hx176_5, hx176_6, hl176_1, hi176_1, hl176_2, hi176_2, hl176_3, hi176_3, hl176_4, hi176_4, hl176_5, hi176_5, hl176_6, hi176_6⟩ := at_T39 HR0.out a2 p176 q176
          cases e176
          have HR176_1 := Aside0.mk hi176_1
          have HC176_1 := Aside0.mk hl176_1
          clear hi176_1 hl176_1
          have HR176_2 := Aside0.mk hi176_2
          have HC176_2 := Aside0.mk hl176_2
          clear hi176_2 hl176_2
          have HR176_3 := Aside0.mk hi176_3
          have HC176_3 := Aside0.mk hl176_3
          clear hi176_3 hl176_3
          have HR176_4 := Aside0.mk hi176_4
          have HC176_4 := Aside0.mk hl176_4
          clear hi176_4 hl176_4
          have HR176_5 := Aside0.mk hi176_5
          have HC176_5 := Aside0.mk hl176_5
          clear hi176_5 hl176_5
          have HR176_6 := Aside0.mk hi176_6
          have HC176_6 := Aside0.mk hl176_6
          clear hi176_6 hl176_6
          replace p176 := eq_true p176
          replace q176 := eq_true q176
          have p177 : 0 ≤ (a3 : Int) := of_decide_eq_true (by first | (with_reducible assumption) | assumption)
          have q177 : a3 < (((rd_T39 l0 a2).f3).length : Int) := of_decide_eq_true (by first | (with_reducible assumption) | assumption)
          obtain ⟨ad177, e177, hx177_0, hx177_1, hx177_2, hx177_3, hx177_4, hx177_5, hx177_6, hx177_7⟩ := at_T42 HR176_3.out a3 p177 q177
          cases e177
          replace p177 := eq_true p177
          replace q177 := eq_true q177
          go_enter Try.func17, Try.ntmps17
          go_upto_region 2 with (first | ((with_reducible refine gate_dst (N := 11) rfl ?_); refine box_event ?hg (N := 11) ?hd (cs := #[.string (⟨#[]⟩ : ByteArray), .string (⟨#[]⟩ : ByteArray), .int .u64 0, .int .u64 0, .int .i64 0, .int .i64 0, .int .i64 0, .bool false]) (t := 42) ?hr ?_; (case hd => rfl); (case hg => rfl); (case hr => first | (go_simp; done) | (go_simp; rfl)); intro gb178 hg w10 hbox hb; have n0_ := Aside0.mk (below_step (by repeat (first | (with_reducible first | exact HB.out | apply below_alloc | apply pw_below_drewN | apply below_drew1) | exact HB.out)) hb); have n1_ := Aside0.mk (hbox); have n2_ := Aside0.mk ((by rw [hg]; exact (below_size (by repeat (first | (with_reducible first | exact HB.out | apply below_alloc | apply pw_below_drewN | apply below_drew1) | exact HB.out))) : w.heap.size ≤ gb178)); have n3_ := n2_; clear HB; have HB := n0_; have BK178 := n1_; have GW178 := n2_; have GE178 := n3_; clear n0_ n1_ n2_ n3_; clear hb hbox hg; obtain ⟨hcz11_0, hcz11_1, hcz11_2, hcz11_3, hcz11_4, hcz11_5, hcz11_6, hcz11_7, hfz11_0, hfz11_1, hfz11_2, hfz11_3, hfz11_4, hfz11_5, hfz11_6, hfz11_7⟩ := cells8 BK178.out) | ((with_reducible refine gate_store (t := 42) (p := 11) rfl ?_); refine store_event (t := 42) (p := 11) (v := ?vo_w12) (w1 := ((((((((w10.setCell ⟨gb178, 0, none⟩ (.string ((rd_T42 ((rd_T39 l0 a2).f3) a3).f0))).setCell ⟨gb178, 1, none⟩ (.string ((rd_T42 ((rd_T39 l0 a2).f3) a3).f1))).setCell ⟨gb178, 2, none⟩ (.int .u64 ((rd_T42 ((rd_T39 l0 a2).f3) a3).f2))).setCell ⟨gb178, 3, none⟩ (.int .u64 ((rd_T42 ((rd_T39 l0 a2).f3) a3).f3))).setCell ⟨gb178, 4, none⟩ (.int .i64 ((rd_T42 ((rd_T39 l0 a2).f3) a3).f4))).setCell ⟨gb178, 5, none⟩ (.int .i64 ((rd_T42 ((rd_T39 l0 a2).f3) a3).f5))).setCell ⟨gb178, 6, none⟩ (.int .i64 ((rd_T42 ((rd_T39 l0 a2).f3) a3).f6))).setCell ⟨gb178, 7, none⟩ (.bool ((rd_T42 ((rd_T39 l0 a2).f3) a3).f7)))) ?hg ?ho ?hn ?hr ?_; (case ho => rfl); (case hg => rfl); (case hn => rfl); (case hr => first | (go_simp; done) | (go_simp; rfl)); intro w12 hw; have n0_ : Aside0 (w12.heap[gb178]? = some (.cells #[.string ((rd_T42 ((rd_T39 l0 a2).f3) a3).f0), .string ((rd_T42 ((rd_T39 l0 a2).f3) a3).f1), .int .u64 ((rd_T42 ((rd_T39 l0 a2).f3) a3).f2), .int .u64 ((rd_T42 ((rd_T39 l0 a2).f3) a3).f3), .int .i64 ((rd_T42 ((rd_T39 l0 a2).f3) a3).f4), .int .i64 ((rd_T42 ((rd_T39 l0 a2).f3) a3).f5), .int .i64 ((rd_T42 ((rd_T39 l0 a2).f3) a3).f6), .bool ((rd_T42 ((rd_T39 l0 a2).f3) a3).f7)] 42 (0, 0))) := ⟨(by rw [hw]; exact (by (with_reducible repeat (first | refine blk_drewN ?_ _ | refine blk_drew ?_ | refine blk_alloc ?_ _)); refine blk_put (cs := #[.string ((rd_T42 ((rd_T39 l0 a2).f3) a3).f0), .string ((rd_T42 ((rd_T39 l0 a2).f3) a3).f1), .int .u64 ((rd_T42 ((rd_T39 l0 a2).f3) a3).f2), .int .u64 ((rd_T42 ((rd_T39 l0 a2).f3) a3).f3), .int .i64 ((rd_T42 ((rd_T39 l0 a2).f3) a3).f4), .int .i64 ((rd_T42 ((rd_T39 l0 a2).f3) a3).f5), .int .i64 ((rd_T42 ((rd_T39 l0 a2).f3) a3).f6), .bool false]) ?_ 7 _ rfl; (with_reducible repeat (first | refine blk_drewN ?_ _ | refine blk_drew ?_ | refine blk_alloc ?_ _)); refine blk_put (cs := #[.string ((rd_T42 ((rd_T39 l0 a2).f3) a3).f0), .string ((rd_T42 ((rd_T39 l0 a2).f3) a3).f1), .int .u64 ((rd_T42 ((rd_T39 l0 a2).f3) a3).f2), .int .u64 ((rd_T42 ((rd_T39 l0 a2).f3) a3).f3), .int .i64 ((rd_T42 ((rd_T39 l0 a2).f3) a3).f4), .int .i64 ((rd_T42 ((rd_T39 l0 a2).f3) a3).f5), .int .i64 0, .bool false]) ?_ 6 _ rfl; (with_reducible repeat (first | refine blk_drewN ?_ _ | refine blk_drew ?_ | refine blk_alloc ?_ _)); refine blk_put (cs := #[.string ((rd_T42 ((rd_T39 l0 a2).f3) a3).f0), .string ((rd_T42 ((rd_T39 l0 a2).f3) a3).f1), .int .u64 ((rd_T42 ((rd_T39 l0 a2).f3) a3).f2), .int .u64 ((rd_T42 ((rd_T39 l0 a2).f3) a3).f3), .int .i64 ((rd_T42 ((rd_T39 l0 a2).f3) a3).f4), .int .i64 0, .int .i64 0, .bool false]) ?_ 5 _ rfl; (with_reducible repeat (first | refine blk_drewN ?_ _ | refine blk_drew ?_ | refine blk_alloc ?_ _)); refine blk_put (cs := #[.string ((rd_T42 ((rd_T39 l0 a2).f3) a3).f0), .string ((rd_T42 ((rd_T39 l0 a2).f3) a3).f1), .int .u64 ((rd_T42 ((rd_T39 l0 a2).f3) a3).f2), .int .u64 ((rd_T42 ((rd_T39 l0 a2).f3) a3).f3), .int .i64 0, .int .i64 0, .int .i64 0, .bool false]) ?_ 4 _ rfl; (with_reducible repeat (first | refine blk_drewN ?_ _ | refine blk_drew ?_ | refine blk_alloc ?_ _)); refine blk_put (cs := #[.string ((rd_T42 ((rd_T39 l0 a2).f3) a3).f0), .string ((rd_T42 ((rd_T39 l0 a2).f3) a3).f1), .int .u64 ((rd_T42 ((rd_T39 l0 a2).f3) a3).f2), .int .u64 0, .int .i64 0, .int .i64 0, .int .i64 0, .bool false]) ?_ 3 _ rfl; (with_reducible repeat (first | refine blk_drewN ?_ _ | refine blk_drew ?_ | refine blk_alloc ?_ _)); refine blk_put (cs := #[.string ((rd_T42 ((rd_T39 l0 a2).f3) a3).f0), .string ((rd_T42 ((rd_T39 l0 a2).f3) a3).f1), .int .u64 0, .int .u64 0, .int .i64 0, .int .i64 0, .int .i64 0, .bool false]) ?_ 2 _ rfl; (with_reducible repeat (first | refine blk_drewN ?_ _ | refine blk_drew ?_ | refine blk_alloc ?_ _)); refine blk_put (cs := #[.string ((rd_T42 ((rd_T39 l0 a2).f3) a3).f0), .string (⟨#[]⟩ : ByteArray), .int .u64 0, .int .u64 0, .int .i64 0, .int .i64 0, .int .i64 0, .bool false]) ?_ 1 _ rfl; (with_reducible repeat (first | refine blk_drewN ?_ _ | refine blk_drew ?_ | refine blk_alloc ?_ _)); refine blk_put (cs := #[.string (⟨#[]⟩ : ByteArray), .string (⟨#[]⟩ : ByteArray), .int .u64 0, .int .u64 0, .int .i64 0, .int .i64 0, .int .i64 0, .bool false]) ?_ 0 _ rfl; (with_reducible repeat (first | refine blk_drewN ?_ _ | refine blk_drew ?_ | refine blk_alloc ?_ _)); exact BK178.out))⟩; have n1_ : Aside0 (Below w.heap.size w w12) := ⟨(by rw [hw]; exact (by repeat (first | (with_reducible first | exact HB.out | apply below_alloc | apply pw_below_drewN | apply below_drew1 | refine below_set ?_ GE178.out) | exact HB.out)))⟩; clear hw; clear BK178; clear HB; have BK178 := n0_; have HB := n1_; clear n0_ n1_))
          (try simp only [Act.put, List.setIfInBounds_toArray, List.set_cons_zero, List.set_cons_succ])
          go_cut [34] (fun v34 wc => ∃ (kq : Nat) (x34_8 : Bool), v34 = .bool x34_8 ∧ Aside0 (curtilageref14_Bind.j0 kq l0 l1 a2 a3 x34_8 ((rd_T42 ((rd_T39 l0 a2).f3) a3).f0) ((rd_T42 ((rd_T39 l0 a2).f3) a3).f1) ((rd_T42 ((rd_T39 l0 a2).f3) a3).f2) ((rd_T42 ((rd_T39 l0 a2).f3) a3).f3) ((rd_T42 ((rd_T39 l0 a2).f3) a3).f4) ((rd_T42 ((rd_T39 l0 a2).f3) a3).f5) ((rd_T42 ((rd_T39 l0 a2).f3) a3).f6) ((rd_T42 ((rd_T39 l0 a2).f3) a3).f7) = some (r1, r2, r3)) ∧ Aside0 (kq ≤ k) ∧ Aside0 (wc.heap[gb178]? = some (.cells #[.string ((rd_T42 ((rd_T39 l0 a2).f3) a3).f0), .string ((rd_T42 ((rd_T39 l0 a2).f3) a3).f1), .int .u64 ((rd_T42 ((rd_T39 l0 a2).f3) a3).f2), .int .u64 ((rd_T42 ((rd_T39 l0 a2).f3) a3).f3), .int .i64 ((rd_T42 ((rd_T39 l0 a2).f3) a3).f4), .int .i64 ((rd_T42 ((rd_T39 l0 a2).f3) a3).f5), .int .i64 ((rd_T42 ((rd_T39 l0 a2).f3) a3).f6), .bool ((rd_T42 ((rd_T39 l0 a2).f3) a3).f7)] 42 (0, 0))) ∧ Aside0 (Below w.heap.size w wc))
          case first =>
            have H := HC9.out
            clear HC9
            obtain ⟨bq13, hbq13⟩ : ∃ b_ : Bool, b_ = ((rd_T42 ((rd_T39 l0 a2).f3) a3).f7) := ⟨_, rfl⟩
            replace H : (if bq13 = true then (if ((rd_T42 ((rd_T39 l0 a2).f3) a3).f5) = 1 then (curtilageref14_Bind.j0 k l0 l1 a2 a3 true ((rd_T42 ((rd_T39 l0 a2).f3) a3).f0) ((rd_T42 ((rd_T39 l0 a2).f3) a3).f1) ((rd_T42 ((rd_T39 l0 a2).f3) a3).f2) ((rd_T42 ((rd_T39 l0 a2).f3) a3).f3) ((rd_T42 ((rd_T39 l0 a2).f3) a3).f4) ((rd_T42 ((rd_T39 l0 a2).f3) a3).f5) ((rd_T42 ((rd_T39 l0 a2).f3) a3).f6) bq13) else (curtilageref14_Bind.j0 k l0 l1 a2 a3 (((rd_T42 ((rd_T39 l0 a2).f3) a3).f6) == 2) ((rd_T42 ((rd_T39 l0 a2).f3) a3).f0) ((rd_T42 ((rd_T39 l0 a2).f3) a3).f1) ((rd_T42 ((rd_T39 l0 a2).f3) a3).f2) ((rd_T42 ((rd_T39 l0 a2).f3) a3).f3) ((rd_T42 ((rd_T39 l0 a2).f3) a3).f4) ((rd_T42 ((rd_T39 l0 a2).f3) a3).f5) ((rd_T42 ((rd_T39 l0 a2).f3) a3).f6) bq13)) else (curtilageref14_Bind.j0 k l0 l1 a2 a3 false ((rd_T42 ((rd_T39 l0 a2).f3) a3).f0) ((rd_T42 ((rd_T39 l0 a2).f3) a3).f1) ((rd_T42 ((rd_T39 l0 a2).f3) a3).f2) ((rd_T42 ((rd_T39 l0 a2).f3) a3).f3) ((rd_T42 ((rd_T39 l0 a2).f3) a3).f4) ((rd_T42 ((rd_T39 l0 a2).f3) a3).f5) ((rd_T42 ((rd_T39 l0 a2).f3) a3).f6) bq13)) = some (r1, r2, r3) := by rw [← hbq13] at H; exact H
            have Nbq13 := Aside0.mk hbq13
            clear hbq13
            (try rw [← Nbq13.out])
            (try (have h_ := BK178.out; rw [← Nbq13.out] at h_; clear BK178; have BK178 := Aside0.mk h_; clear h_))
            by_cases c14 : bq13 = true
            · subst c14
              have H1 : (if ((rd_T42 ((rd_T39 l0 a2).f3) a3).f5) = 1 then (curtilageref14_Bind.j0 k l0 l1 a2 a3 true ((rd_T42 ((rd_T39 l0 a2).f3) a3).f0) ((rd_T42 ((rd_T39 l0 a2).f3) a3).f1) ((rd_T42 ((rd_T39 l0 a2).f3) a3).f2) ((rd_T42 ((rd_T39 l0 a2).f3) a3).f3) ((rd_T42 ((rd_T39 l0 a2).f3) a3).f4) ((rd_T42 ((rd_T39 l0 a2).f3) a3).f5) ((rd_T42 ((rd_T39 l0 a2).f3) a3).f6) true) else (curtilageref14_Bind.j0 k l0 l1 a2 a3 (((rd_T42 ((rd_T39 l0 a2).f3) a3).f6) == 2) ((rd_T42 ((rd_T39 l0 a2).f3) a3).f0) ((rd_T42 ((rd_T39 l0 a2).f3) a3).f1) ((rd_T42 ((rd_T39 l0 a2).f3) a3).f2) ((rd_T42 ((rd_T39 l0 a2).f3) a3).f3) ((rd_T42 ((rd_T39 l0 a2).f3) a3).f4) ((rd_T42 ((rd_T39 l0 a2).f3) a3).f5) ((rd_T42 ((rd_T39 l0 a2).f3) a3).f6) true)) = some (r1, r2, r3) := by rw [if_pos rfl] at H; exact H
              clear H
              have H := H1
              clear H1
              by_cases c15 : ((rd_T42 ((rd_T39 l0 a2).f3) a3).f5) = 1
              · rw [if_pos c15] at H
                have c15b0 : (((rd_T42 ((rd_T39 l0 a2).f3) a3).f5) == 1) = true := beq_iff_eq.mpr c15
                have c15b1 : (((rd_T42 ((rd_T39 l0 a2).f3) a3).f5) != 1) = false := bne_eq_false_iff_eq.mpr c15
                clear c15
                have H' := Aside0.mk H
                clear H
                have hcz16_0 : w12.cell? ⟨gb178, 0, none⟩ = some (.string ((rd_T42 ((rd_T39 l0 a2).f3) a3).f0)) := (blk_cell BK178.out 0).trans rfl
                have hcz16_1 : w12.cell? ⟨gb178, 1, none⟩ = some (.string ((rd_T42 ((rd_T39 l0 a2).f3) a3).f1)) := (blk_cell BK178.out 1).trans rfl
                have hcz16_2 : w12.cell? ⟨gb178, 2, none⟩ = some (.int .u64 ((rd_T42 ((rd_T39 l0 a2).f3) a3).f2)) := (blk_cell BK178.out 2).trans rfl
                have hcz16_3 : w12.cell? ⟨gb178, 3, none⟩ = some (.int .u64 ((rd_T42 ((rd_T39 l0 a2).f3) a3).f3)) := (blk_cell BK178.out 3).trans rfl
                have hcz16_4 : w12.cell? ⟨gb178, 4, none⟩ = some (.int .i64 ((rd_T42 ((rd_T39 l0 a2).f3) a3).f4)) := (blk_cell BK178.out 4).trans rfl
                have hcz16_5 : w12.cell? ⟨gb178, 5, none⟩ = some (.int .i64 ((rd_T42 ((rd_T39 l0 a2).f3) a3).f5)) := (blk_cell BK178.out 5).trans rfl
                have hcz16_6 : w12.cell? ⟨gb178, 6, none⟩ = some (.int .i64 ((rd_T42 ((rd_T39 l0 a2).f3) a3).f6)) := (blk_cell BK178.out 6).trans rfl
                have hcz16_7 : w12.cell? ⟨gb178, 7, none⟩ = some (.bool true) := (blk_cell BK178.out 7).trans (by first | with_reducible rfl | (rw [← Nbq13.out]; rfl) | rfl)
                have hfz16_0 := blk_frozen BK178.out 0
                have hfz16_1 := blk_frozen BK178.out 1
                have hfz16_2 := blk_frozen BK178.out 2
                have hfz16_3 := blk_frozen BK178.out 3
                have hfz16_4 := blk_frozen BK178.out 4
                have hfz16_5 := blk_frozen BK178.out 5
                have hfz16_6 := blk_frozen BK178.out 6
                have hfz16_7 := blk_frozen BK178.out 7
                go_wp2
                go_meet
                case rel => exact ⟨_, (true), (by first | rfl | (simp; done) | (simp [*]; done)), (by first | exact H' | (rw [← Nbq13.out]; exact H')), ⟨by first | omega | exact Nat.le_refl _⟩, ⟨by (with_reducible repeat (first | refine blk_drewN ?_ _ | refine blk_drew ?_ | refine blk_alloc ?_ _)); first | exact BK178.out | (rw [← Nbq13.out]; exact BK178.out)⟩, ⟨by repeat (first | (with_reducible first | exact HB.out | apply below_alloc | apply pw_below_drewN | apply below_drew1 | refine below_set ?_ GE178.out) | exact HB.out)⟩⟩
              · rw [if_neg c15] at H
                have c15b0 : (((rd_T42 ((rd_T39 l0 a2).f3) a3).f5) == 1) = false := beq_eq_false_iff_ne.mpr c15
                have c15b1 : (((rd_T42 ((rd_T39 l0 a2).f3) a3).f5) != 1) = true := bne_iff_ne.mpr c15
                have H' := Aside0.mk H
                clear H
                have hcz17_0 : w12.cell? ⟨gb178, 0, none⟩ = some (.string ((rd_T42 ((rd_T39 l0 a2).f3) a3).f0)) := (blk_cell BK178.out 0).trans rfl
                have hcz17_1 : w12.cell? ⟨gb178, 1, none⟩ = some (.string ((rd_T42 ((rd_T39 l0 a2).f3) a3).f1)) := (blk_cell BK178.out 1).trans rfl
                have hcz17_2 : w12.cell? ⟨gb178, 2, none⟩ = some (.int .u64 ((rd_T42 ((rd_T39 l0 a2).f3) a3).f2)) := (blk_cell BK178.out 2).trans rfl
                have hcz17_3 : w12.cell? ⟨gb178, 3, none⟩ = some (.int .u64 ((rd_T42 ((rd_T39 l0 a2).f3) a3).f3)) := (blk_cell BK178.out 3).trans rfl
                have hcz17_4 : w12.cell? ⟨gb178, 4, none⟩ = some (.int .i64 ((rd_T42 ((rd_T39 l0 a2).f3) a3).f4)) := (blk_cell BK178.out 4).trans rfl
                have hcz17_5 : w12.cell? ⟨gb178, 5, none⟩ = some (.int .i64 ((rd_T42 ((rd_T39 l0 a2).f3) a3).f5)) := (blk_cell BK178.out 5).trans rfl
                have hcz17_6 : w12.cell? ⟨gb178, 6, none⟩ = some (.int .i64 ((rd_T42 ((rd_T39 l0 a2).f3) a3).f6)) := (blk_cell BK178.out 6).trans rfl
                have hcz17_7 : w12.cell? ⟨gb178, 7, none⟩ = some (.bool true) := (blk_cell BK178.out 7).trans (by first | with_reducible rfl | (rw [← Nbq13.out]; rfl) | rfl)
                have hfz17_0 := blk_frozen BK178.out 0
                have hfz17_1 := blk_frozen BK178.out 1
                have hfz17_2 := blk_frozen BK178.out 2
                have hfz17_3 := blk_frozen BK178.out 3
                have hfz17_4 := blk_frozen BK178.out 4
                have hfz17_5 := blk_frozen BK178.out 5
                have hfz17_6 := blk_frozen BK178.out 6
                have hfz17_7 := blk_frozen BK178.out 7
                go_wp2
                go_meet
                case rel => exact ⟨_, ((((rd_T42 ((rd_T39 l0 a2).f3) a3).f6) == 2)), (by first | rfl | (simp; done) | (simp [*]; done)), (by first | exact H' | (rw [← Nbq13.out]; exact H')), ⟨by first | omega | exact Nat.le_refl _⟩, ⟨by (with_reducible repeat (first | refine blk_drewN ?_ _ | refine blk_drew ?_ | refine blk_alloc ?_ _)); first | exact BK178.out | (rw [← Nbq13.out]; exact BK178.out)⟩, ⟨by repeat (first | (with_reducible first | exact HB.out | apply below_alloc | apply pw_below_drewN | apply below_drew1 | refine below_set ?_ GE178.out) | exact HB.out)⟩⟩
            · replace c14 := Bool.eq_false_iff.mpr c14
              subst c14
              have H1 : (curtilageref14_Bind.j0 k l0 l1 a2 a3 false ((rd_T42 ((rd_T39 l0 a2).f3) a3).f0) ((rd_T42 ((rd_T39 l0 a2).f3) a3).f1) ((rd_T42 ((rd_T39 l0 a2).f3) a3).f2) ((rd_T42 ((rd_T39 l0 a2).f3) a3).f3) ((rd_T42 ((rd_T39 l0 a2).f3) a3).f4) ((rd_T42 ((rd_T39 l0 a2).f3) a3).f5) ((rd_T42 ((rd_T39 l0 a2).f3) a3).f6) false) = some (r1, r2, r3) := by rw [if_neg (show ¬ (false = true) by decide)] at H; exact H
              clear H
              have H := H1
              clear H1
              have H' := Aside0.mk H
              clear H
              have hcz18_0 : w12.cell? ⟨gb178, 0, none⟩ = some (.string ((rd_T42 ((rd_T39 l0 a2).f3) a3).f0)) := (blk_cell BK178.out 0).trans rfl
              have hcz18_1 : w12.cell? ⟨gb178, 1, none⟩ = some (.string ((rd_T42 ((rd_T39 l0 a2).f3) a3).f1)) := (blk_cell BK178.out 1).trans rfl
              have hcz18_2 : w12.cell? ⟨gb178, 2, none⟩ = some (.int .u64 ((rd_T42 ((rd_T39 l0 a2).f3) a3).f2)) := (blk_cell BK178.out 2).trans rfl
              have hcz18_3 : w12.cell? ⟨gb178, 3, none⟩ = some (.int .u64 ((rd_T42 ((rd_T39 l0 a2).f3) a3).f3)) := (blk_cell BK178.out 3).trans rfl
              have hcz18_4 : w12.cell? ⟨gb178, 4, none⟩ = some (.int .i64 ((rd_T42 ((rd_T39 l0 a2).f3) a3).f4)) := (blk_cell BK178.out 4).trans rfl
              have hcz18_5 : w12.cell? ⟨gb178, 5, none⟩ = some (.int .i64 ((rd_T42 ((rd_T39 l0 a2).f3) a3).f5)) := (blk_cell BK178.out 5).trans rfl
              have hcz18_6 : w12.cell? ⟨gb178, 6, none⟩ = some (.int .i64 ((rd_T42 ((rd_T39 l0 a2).f3) a3).f6)) := (blk_cell BK178.out 6).trans rfl
              have hcz18_7 : w12.cell? ⟨gb178, 7, none⟩ = some (.bool false) := (blk_cell BK178.out 7).trans (by first | with_reducible rfl | (rw [← Nbq13.out]; rfl) | rfl)
              have hfz18_0 := blk_frozen BK178.out 0
              have hfz18_1 := blk_frozen BK178.out 1
              have hfz18_2 := blk_frozen BK178.out 2
              have hfz18_3 := blk_frozen BK178.out 3
              have hfz18_4 := blk_frozen BK178.out 4
              have hfz18_5 := blk_frozen BK178.out 5
              have hfz18_6 := blk_frozen BK178.out 6
              have hfz18_7 := blk_frozen BK178.out 7
              go_wp2
              go_meet
              case rel => exact ⟨_, (false), (by first | rfl | (simp; done) | (simp [*]; done)), (by first | exact H' | (rw [← Nbq13.out]; exact H')), ⟨by first | omega | exact Nat.le_refl _⟩, ⟨by (with_reducible repeat (first | refine blk_drewN ?_ _ | refine blk_drew ?_ | refine blk_alloc ?_ _)); first | exact BK178.out | (rw [← Nbq13.out]; exact BK178.out)⟩, ⟨by repeat (first | (with_reducible first | exact HB.out | apply below_alloc | apply pw_below_drewN | apply below_drew1 | refine below_set ?_ GE178.out) | exact HB.out)⟩⟩
          case rest =>
            clear HC9
            try clear c1
            try clear p1
            try clear q1
            try clear hx1
            try clear p2
            try clear c5
            try clear c5b0
            try clear c6
            try clear c6b0
            try clear c7
            try clear c7b0
            try clear c8
            try clear c8b0
            try clear q13
            try clear c14
            try clear c15
            try clear c15b0
            try clear c15b1
            try clear c17
            try clear p17
            try clear q17
            try clear hx17
            try clear hcz11_0
            try clear hcz11_1
            try clear hcz11_2
            try clear hcz11_3
            try clear hcz11_4
            try clear hcz11_5
            try clear hcz11_6
            try clear hcz11_7
            try clear hcz16_0
            try clear hcz16_1
            try clear hcz16_2
            try clear hcz16_3
            try clear hcz16_4
            try clear hcz16_5
            try clear hcz16_6
            try clear hcz16_7
            try clear hcz17_0
            try clear hcz17_1
            try clear hcz17_2
            try clear hcz17_3
            try clear hcz17_4
            try clear hcz17_5
            try clear hcz17_6
            try clear hcz17_7
            try clear hcz18_0
            try clear hcz18_1
            try clear hcz18_2
            try clear hcz18_3
            try clear hcz18_4
            try clear hcz18_5
            try clear hcz18_6
            try clear hcz18_7
            try clear hfz11_0
            try clear hfz11_1
            try clear hfz11_2
            try clear hfz11_3
            try clear hfz11_4
            try clear hfz11_5
            try clear hfz11_6
            try clear hfz11_7
            try clear hfz16_0
            try clear hfz16_1
            try clear hfz16_2
            try clear hfz16_3
            try clear hfz16_4
            try clear hfz16_5
            try clear hfz16_6
            try clear hfz16_7
            try clear hfz17_0
            try clear hfz17_1
            try clear hfz17_2
            try clear hfz17_3
            try clear hfz17_4
            try clear hfz17_5
            try clear hfz17_6
            try clear hfz17_7
            try clear hfz18_0
            try clear hfz18_1
            try clear hfz18_2
            try clear hfz18_3
            try clear hfz18_4
            try clear hfz18_5
            try clear hfz18_6
            try clear hfz18_7
            try clear hx176_0
            try clear hx176_1
            try clear hx176_2
            try clear hx176_3
            try clear hx176_4
            try clear hx176_5
            try clear hx176_6
            try clear hx177_0
            try clear hx177_1
            try clear hx177_2
            try clear hx177_3
            try clear hx177_4
            try clear hx177_5
            try clear hx177_6
            try clear hx177_7
            try clear p176
            try clear p177
            try clear q176
            try clear q177
            obtain ⟨kq, x34_8, rfl, HA, HJ8, BK178, HB⟩ := hcut
            cases kq with
            | zero => exact absurd HA.out (by simp [curtilageref14_Bind.j0])
            | succ kj8 =>
              have H := HA.out
              clear HA
              simp only [curtilageref14_Bind.j0] at H
              by_cases c19 : x34_8 = true
              · subst c19
                have H1 : (some (a2, a3, 0)) = some (r1, r2, r3) := by rw [if_pos rfl] at H; exact H
                clear H
                have H := H1
                clear H1
                simp only [Option.some.injEq, Prod.mk.injEq] at H
                obtain ⟨rfl, rfl, rfl⟩ := H
                go_wp2
                go_ret3
                exact ⟨by first | rfl | (simp [errW_none, errW_some] <;> rfl) | (simp [*, errW_none, errW_some] <;> rfl), by repeat (first | (with_reducible first | exact HB.out | apply below_alloc | apply pw_below_drewN | apply below_drew1 | refine below_set ?_ GE178.out) | exact HB.out)⟩
              · replace c19 := Bool.eq_false_iff.mpr c19
                subst c19
                have H1 : ((curtilageref14_In.f kj8 l0 l1 ((rd_T42 ((rd_T39 l0 a2).f3) a3).f0) ((rd_T42 ((rd_T39 l0 a2).f3) a3).f1)).bind fun bt179 => (if bt179.1 ≥ 0 then (some (bt179.1, bt179.2, 0)) else (if ((rd_T42 ((rd_T39 l0 a2).f3) a3).f7) = true then (some (a2, a3, 0)) else (if ((rd_T42 ((rd_T39 l0 a2).f3) a3).f5) = 3 then (some ((-1), (-1), 0)) else ((curtilageref14_Known.f kj8 l0 l1 ((rd_T42 ((rd_T39 l0 a2).f3) a3).f0)).bind fun t181 => (if ((rd_T42 ((rd_T39 l0 a2).f3) a3).f1).toList = ([] : List UInt8) then (some (0, 0, 140)) else (if t181 = true then (some (0, 0, 141)) else (some (0, 0, 140))))))))) = some (r1, r2, r3) := by rw [if_neg (show ¬ (false = true) by decide)] at H; exact H
                clear H
                have H := H1
                clear H1
                replace H := Option.bind_eq_some_iff.mp H
                obtain ⟨⟨t179, t180⟩, A200, H⟩ := H
                replace H : (if t179 ≥ 0 then (some (t179, t180, 0)) else (if ((rd_T42 ((rd_T39 l0 a2).f3) a3).f7) = true then (some (a2, a3, 0)) else (if ((rd_T42 ((rd_T39 l0 a2).f3) a3).f5) = 3 then (some ((-1), (-1), 0)) else ((curtilageref14_Known.f kj8 l0 l1 ((rd_T42 ((rd_T39 l0 a2).f3) a3).f0)).bind fun t181 => (if ((rd_T42 ((rd_T39 l0 a2).f3) a3).f1).toList = ([] : List UInt8) then (some (0, 0, 140)) else (if t181 = true then (some (0, 0, 141)) else (some (0, 0, 140)))))))) = some (r1, r2, r3) := H
                have A20 := Aside0.mk A200
                clear A200
                by_cases c21 : t179 ≥ 0
                · rw [if_pos c21] at H
                  have c21b0 : decide (0 ≤ t179) = true := decide_eq_true c21
                  clear c21
                  simp only [Option.some.injEq, Prod.mk.injEq] at H
                  obtain ⟨rfl, rfl, rfl⟩ := H
                  have hcz22_0 : wc.cell? ⟨gb178, 0, none⟩ = some (.string ((rd_T42 ((rd_T39 l0 a2).f3) a3).f0)) := (blk_cell BK178.out 0).trans rfl
                  have hcz22_1 : wc.cell? ⟨gb178, 1, none⟩ = some (.string ((rd_T42 ((rd_T39 l0 a2).f3) a3).f1)) := (blk_cell BK178.out 1).trans rfl
                  have hcz22_2 : wc.cell? ⟨gb178, 2, none⟩ = some (.int .u64 ((rd_T42 ((rd_T39 l0 a2).f3) a3).f2)) := (blk_cell BK178.out 2).trans rfl
                  have hcz22_3 : wc.cell? ⟨gb178, 3, none⟩ = some (.int .u64 ((rd_T42 ((rd_T39 l0 a2).f3) a3).f3)) := (blk_cell BK178.out 3).trans rfl
                  have hcz22_4 : wc.cell? ⟨gb178, 4, none⟩ = some (.int .i64 ((rd_T42 ((rd_T39 l0 a2).f3) a3).f4)) := (blk_cell BK178.out 4).trans rfl
                  have hcz22_5 : wc.cell? ⟨gb178, 5, none⟩ = some (.int .i64 ((rd_T42 ((rd_T39 l0 a2).f3) a3).f5)) := (blk_cell BK178.out 5).trans rfl
                  have hcz22_6 : wc.cell? ⟨gb178, 6, none⟩ = some (.int .i64 ((rd_T42 ((rd_T39 l0 a2).f3) a3).f6)) := (blk_cell BK178.out 6).trans rfl
                  have hcz22_7 : wc.cell? ⟨gb178, 7, none⟩ = some (.bool ((rd_T42 ((rd_T39 l0 a2).f3) a3).f7)) := (blk_cell BK178.out 7).trans rfl
                  have hfz22_0 := blk_frozen BK178.out 0
                  have hfz22_1 := blk_frozen BK178.out 1
                  have hfz22_2 := blk_frozen BK178.out 2
                  have hfz22_3 := blk_frozen BK178.out 3
                  have hfz22_4 := blk_frozen BK178.out 4
                  have hfz22_5 := blk_frozen BK178.out 5
                  have hfz22_6 := blk_frozen BK178.out 6
                  have hfz22_7 := blk_frozen BK178.out 7
                  go_wp2_with (first | ((with_reducible refine gate_dst (N := 44) rfl ?_); (with_reducible refine gate_callee (f := 25) rfl ?_); refine goesL_ (some 44) rfl rfl Try.func25 (by kernel_rfl) rfl #[.slice (some ad176) l0.length c0, .slice A1 l1.length c1, .string ((rd_T42 ((rd_T39 l0 a2).f3) a3).f0), .string ((rd_T42 ((rd_T39 l0 a2).f3) a3).f1)] rfl (by (try simp only [List.map_toArray, List.map_cons, List.map_nil]); first | done | rfl | (simp only [List.length_drop, List.length_take]; rfl)) ?_; (with_reducible refine (curtilageref14_In.calls kj8 _ _ l0 _ _ l1 ((rd_T42 ((rd_T39 l0 a2).f3) a3).f0) ((rd_T42 ((rd_T39 l0 a2).f3) a3).f1) t179 t180 _ ?side1 ?side2 ?side3 ?side4 A20.out).mono ?_); (case side1 => repeat (first | exact (Kd.C_below HR0.out HB.out) | (with_reducible refine Kd.C_alloc ?_ _) | (with_reducible refine Kd.C_drewN ?_ _) | (with_reducible refine Kd.C_drew ?_))); (case side2 => exact HC0.out); (case side3 => repeat (first | exact (Kd.C_below HR1.out HB.out) | (with_reducible refine Kd.C_alloc ?_ _) | (with_reducible refine Kd.C_drewN ?_ _) | (with_reducible refine Kd.C_drew ?_))); (case side4 => exact HC1.out); rintro e w23 ⟨rfl, hb⟩; refine ⟨_, rfl, ?_⟩; have n0_ := Aside0.mk (blk_below (g := gb178) (o := .cells #[.string ((rd_T42 ((rd_T39 l0 a2).f3) a3).f0), .string ((rd_T42 ((rd_T39 l0 a2).f3) a3).f1), .int .u64 ((rd_T42 ((rd_T39 l0 a2).f3) a3).f2), .int .u64 ((rd_T42 ((rd_T39 l0 a2).f3) a3).f3), .int .i64 ((rd_T42 ((rd_T39 l0 a2).f3) a3).f4), .int .i64 ((rd_T42 ((rd_T39 l0 a2).f3) a3).f5), .int .i64 ((rd_T42 ((rd_T39 l0 a2).f3) a3).f6), .bool ((rd_T42 ((rd_T39 l0 a2).f3) a3).f7)] 42 (0, 0)) (by (with_reducible repeat (first | refine blk_drewN ?_ _ | refine blk_drew ?_ | refine blk_alloc ?_ _)); exact BK178.out) hb); have n1_ := Aside0.mk (below_step (by repeat (first | (with_reducible first | exact HB.out | apply below_alloc | apply pw_below_drewN | apply below_drew1 | refine below_set ?_ GE178.out) | exact HB.out)) hb); clear BK178; clear HB; have BK178 := n0_; have HB := n1_; clear n0_ n1_; (try clear hb); (try clear hb2); (try clear hk); (try clear hi)))
                  go_ret3
                  exact ⟨by first | rfl | (simp [errW_none, errW_some] <;> rfl) | (simp [*, errW_none, errW_some] <;> rfl), by repeat (first | (with_reducible first | exact HB.out | apply below_alloc | apply pw_below_drewN | apply below_drew1 | refine below_set ?_ GE178.out) | exact HB.out)⟩
                · rw [if_neg c21] at H
                  have c21b0 : decide (0 ≤ t179) = false := decide_eq_false c21
                  clear c21
                  by_cases c24 : ((rd_T42 ((rd_T39 l0 a2).f3) a3).f7) = true
                  · rw [if_pos c24] at H
                    have c24b0 : ((rd_T42 ((rd_T39 l0 a2).f3) a3).f7) = true := c24
                    clear c24
                    simp only [Option.some.injEq, Prod.mk.injEq] at H
                    obtain ⟨rfl, rfl, rfl⟩ := H
                    have hcz25_0 : wc.cell? ⟨gb178, 0, none⟩ = some (.string ((rd_T42 ((rd_T39 l0 a2).f3) a3).f0)) := (blk_cell BK178.out 0).trans rfl
                    have hcz25_1 : wc.cell? ⟨gb178, 1, none⟩ = some (.string ((rd_T42 ((rd_T39 l0 a2).f3) a3).f1)) := (blk_cell BK178.out 1).trans rfl
                    have hcz25_2 : wc.cell? ⟨gb178, 2, none⟩ = some (.int .u64 ((rd_T42 ((rd_T39 l0 a2).f3) a3).f2)) := (blk_cell BK178.out 2).trans rfl
                    have hcz25_3 : wc.cell? ⟨gb178, 3, none⟩ = some (.int .u64 ((rd_T42 ((rd_T39 l0 a2).f3) a3).f3)) := (blk_cell BK178.out 3).trans rfl
                    have hcz25_4 : wc.cell? ⟨gb178, 4, none⟩ = some (.int .i64 ((rd_T42 ((rd_T39 l0 a2).f3) a3).f4)) := (blk_cell BK178.out 4).trans rfl
                    have hcz25_5 : wc.cell? ⟨gb178, 5, none⟩ = some (.int .i64 ((rd_T42 ((rd_T39 l0 a2).f3) a3).f5)) := (blk_cell BK178.out 5).trans rfl
                    have hcz25_6 : wc.cell? ⟨gb178, 6, none⟩ = some (.int .i64 ((rd_T42 ((rd_T39 l0 a2).f3) a3).f6)) := (blk_cell BK178.out 6).trans rfl
                    have hcz25_7 : wc.cell? ⟨gb178, 7, none⟩ = some (.bool ((rd_T42 ((rd_T39 l0 a2).f3) a3).f7)) := (blk_cell BK178.out 7).trans rfl
                    have hfz25_0 := blk_frozen BK178.out 0
                    have hfz25_1 := blk_frozen BK178.out 1
                    have hfz25_2 := blk_frozen BK178.out 2
                    have hfz25_3 := blk_frozen BK178.out 3
                    have hfz25_4 := blk_frozen BK178.out 4
                    have hfz25_5 := blk_frozen BK178.out 5
                    have hfz25_6 := blk_frozen BK178.out 6
                    have hfz25_7 := blk_frozen BK178.out 7
                    go_wp2_with (first | ((with_reducible refine gate_dst (N := 44) rfl ?_); (with_reducible refine gate_callee (f := 25) rfl ?_); refine goesL_ (some 44) rfl rfl Try.func25 (by kernel_rfl) rfl #[.slice (some ad176) l0.length c0, .slice A1 l1.length c1, .string ((rd_T42 ((rd_T39 l0 a2).f3) a3).f0), .string ((rd_T42 ((rd_T39 l0 a2).f3) a3).f1)] rfl (by (try simp only [List.map_toArray, List.map_cons, List.map_nil]); first | done | rfl | (simp only [List.length_drop, List.length_take]; rfl)) ?_; (with_reducible refine (curtilageref14_In.calls kj8 _ _ l0 _ _ l1 ((rd_T42 ((rd_T39 l0 a2).f3) a3).f0) ((rd_T42 ((rd_T39 l0 a2).f3) a3).f1) t179 t180 _ ?side1 ?side2 ?side3 ?side4 A20.out).mono ?_); (case side1 => repeat (first | exact (Kd.C_below HR0.out HB.out) | (with_reducible refine Kd.C_alloc ?_ _) | (with_reducible refine Kd.C_drewN ?_ _) | (with_reducible refine Kd.C_drew ?_))); (case side2 => exact HC0.out); (case side3 => repeat (first | exact (Kd.C_below HR1.out HB.out) | (with_reducible refine Kd.C_alloc ?_ _) | (with_reducible refine Kd.C_drewN ?_ _) | (with_reducible refine Kd.C_drew ?_))); (case side4 => exact HC1.out); rintro e w26 ⟨rfl, hb⟩; refine ⟨_, rfl, ?_⟩; have n0_ := Aside0.mk (blk_below (g := gb178) (o := .cells #[.string ((rd_T42 ((rd_T39 l0 a2).f3) a3).f0), .string ((rd_T42 ((rd_T39 l0 a2).f3) a3).f1), .int .u64 ((rd_T42 ((rd_T39 l0 a2).f3) a3).f2), .int .u64 ((rd_T42 ((rd_T39 l0 a2).f3) a3).f3), .int .i64 ((rd_T42 ((rd_T39 l0 a2).f3) a3).f4), .int .i64 ((rd_T42 ((rd_T39 l0 a2).f3) a3).f5), .int .i64 ((rd_T42 ((rd_T39 l0 a2).f3) a3).f6), .bool ((rd_T42 ((rd_T39 l0 a2).f3) a3).f7)] 42 (0, 0)) (by (with_reducible repeat (first | refine blk_drewN ?_ _ | refine blk_drew ?_ | refine blk_alloc ?_ _)); exact BK178.out) hb); have n1_ := Aside0.mk (below_step (by repeat (first | (with_reducible first | exact HB.out | apply below_alloc | apply pw_below_drewN | apply below_drew1 | refine below_set ?_ GE178.out) | exact HB.out)) hb); clear BK178; clear HB; have BK178 := n0_; have HB := n1_; clear n0_ n1_; (try clear hb); (try clear hb2); (try clear hk); (try clear hi); obtain ⟨hcz27_0, hcz27_1, hcz27_2, hcz27_3, hcz27_4, hcz27_5, hcz27_6, hcz27_7, hfz27_0, hfz27_1, hfz27_2, hfz27_3, hfz27_4, hfz27_5, hfz27_6, hfz27_7⟩ := cells8 BK178.out))
                    go_ret3
                    exact ⟨by first | rfl | (simp [errW_none, errW_some] <;> rfl) | (simp [*, errW_none, errW_some] <;> rfl), by repeat (first | (with_reducible first | exact HB.out | apply below_alloc | apply pw_below_drewN | apply below_drew1 | refine below_set ?_ GE178.out) | exact HB.out)⟩
                  · rw [if_neg c24] at H
                    have c24b0 : ((rd_T42 ((rd_T39 l0 a2).f3) a3).f7) = false := by simpa using c24
                    clear c24
                    by_cases c28 : ((rd_T42 ((rd_T39 l0 a2).f3) a3).f5) = 3
                    · rw [if_pos c28] at H
                      have c28b0 : (((rd_T42 ((rd_T39 l0 a2).f3) a3).f5) == 3) = true := beq_iff_eq.mpr c28
                      have c28b1 : (((rd_T42 ((rd_T39 l0 a2).f3) a3).f5) != 3) = false := bne_eq_false_iff_eq.mpr c28
                      clear c28
                      simp only [Option.some.injEq, Prod.mk.injEq] at H
                      obtain ⟨rfl, rfl, rfl⟩ := H
                      have hcz29_0 : wc.cell? ⟨gb178, 0, none⟩ = some (.string ((rd_T42 ((rd_T39 l0 a2).f3) a3).f0)) := (blk_cell BK178.out 0).trans rfl
                      have hcz29_1 : wc.cell? ⟨gb178, 1, none⟩ = some (.string ((rd_T42 ((rd_T39 l0 a2).f3) a3).f1)) := (blk_cell BK178.out 1).trans rfl
                      have hcz29_2 : wc.cell? ⟨gb178, 2, none⟩ = some (.int .u64 ((rd_T42 ((rd_T39 l0 a2).f3) a3).f2)) := (blk_cell BK178.out 2).trans rfl
                      have hcz29_3 : wc.cell? ⟨gb178, 3, none⟩ = some (.int .u64 ((rd_T42 ((rd_T39 l0 a2).f3) a3).f3)) := (blk_cell BK178.out 3).trans rfl
                      have hcz29_4 : wc.cell? ⟨gb178, 4, none⟩ = some (.int .i64 ((rd_T42 ((rd_T39 l0 a2).f3) a3).f4)) := (blk_cell BK178.out 4).trans rfl
                      have hcz29_5 : wc.cell? ⟨gb178, 5, none⟩ = some (.int .i64 ((rd_T42 ((rd_T39 l0 a2).f3) a3).f5)) := (blk_cell BK178.out 5).trans rfl
                      have hcz29_6 : wc.cell? ⟨gb178, 6, none⟩ = some (.int .i64 ((rd_T42 ((rd_T39 l0 a2).f3) a3).f6)) := (blk_cell BK178.out 6).trans rfl
                      have hcz29_7 : wc.cell? ⟨gb178, 7, none⟩ = some (.bool ((rd_T42 ((rd_T39 l0 a2).f3) a3).f7)) := (blk_cell BK178.out 7).trans rfl
                      have hfz29_0 := blk_frozen BK178.out 0
                      have hfz29_1 := blk_frozen BK178.out 1
                      have hfz29_2 := blk_frozen BK178.out 2
                      have hfz29_3 := blk_frozen BK178.out 3
                      have hfz29_4 := blk_frozen BK178.out 4
                      have hfz29_5 := blk_frozen BK178.out 5
                      have hfz29_6 := blk_frozen BK178.out 6
                      have hfz29_7 := blk_frozen BK178.out 7
                      go_wp2_with (first | ((with_reducible refine gate_dst (N := 44) rfl ?_); (with_reducible refine gate_callee (f := 25) rfl ?_); refine goesL_ (some 44) rfl rfl Try.func25 (by kernel_rfl) rfl #[.slice (some ad176) l0.length c0, .slice A1 l1.length c1, .string ((rd_T42 ((rd_T39 l0 a2).f3) a3).f0), .string ((rd_T42 ((rd_T39 l0 a2).f3) a3).f1)] rfl (by (try simp only [List.map_toArray, List.map_cons, List.map_nil]); first | done | rfl | (simp only [List.length_drop, List.length_take]; rfl)) ?_; (with_reducible refine (curtilageref14_In.calls kj8 _ _ l0 _ _ l1 ((rd_T42 ((rd_T39 l0 a2).f3) a3).f0) ((rd_T42 ((rd_T39 l0 a2).f3) a3).f1) t179 t180 _ ?side1 ?side2 ?side3 ?side4 A20.out).mono ?_); (case side1 => repeat (first | exact (Kd.C_below HR0.out HB.out) | (with_reducible refine Kd.C_alloc ?_ _) | (with_reducible refine Kd.C_drewN ?_ _) | (with_reducible refine Kd.C_drew ?_))); (case side2 => exact HC0.out); (case side3 => repeat (first | exact (Kd.C_below HR1.out HB.out) | (with_reducible refine Kd.C_alloc ?_ _) | (with_reducible refine Kd.C_drewN ?_ _) | (with_reducible refine Kd.C_drew ?_))); (case side4 => exact HC1.out); rintro e w30 ⟨rfl, hb⟩; refine ⟨_, rfl, ?_⟩; have n0_ := Aside0.mk (blk_below (g := gb178) (o := .cells #[.string ((rd_T42 ((rd_T39 l0 a2).f3) a3).f0), .string ((rd_T42 ((rd_T39 l0 a2).f3) a3).f1), .int .u64 ((rd_T42 ((rd_T39 l0 a2).f3) a3).f2), .int .u64 ((rd_T42 ((rd_T39 l0 a2).f3) a3).f3), .int .i64 ((rd_T42 ((rd_T39 l0 a2).f3) a3).f4), .int .i64 ((rd_T42 ((rd_T39 l0 a2).f3) a3).f5), .int .i64 ((rd_T42 ((rd_T39 l0 a2).f3) a3).f6), .bool ((rd_T42 ((rd_T39 l0 a2).f3) a3).f7)] 42 (0, 0)) (by (with_reducible repeat (first | refine blk_drewN ?_ _ | refine blk_drew ?_ | refine blk_alloc ?_ _)); exact BK178.out) hb); have n1_ := Aside0.mk (below_step (by repeat (first | (with_reducible first | exact HB.out | apply below_alloc | apply pw_below_drewN | apply below_drew1 | refine below_set ?_ GE178.out) | exact HB.out)) hb); clear BK178; clear HB; have BK178 := n0_; have HB := n1_; clear n0_ n1_; (try clear hb); (try clear hb2); (try clear hk); (try clear hi); obtain ⟨hcz31_0, hcz31_1, hcz31_2, hcz31_3, hcz31_4, hcz31_5, hcz31_6, hcz31_7, hfz31_0, hfz31_1, hfz31_2, hfz31_3, hfz31_4, hfz31_5, hfz31_6, hfz31_7⟩ := cells8 BK178.out))
                      go_ret3
                      exact ⟨by first | rfl | (simp [errW_none, errW_some] <;> rfl) | (simp [*, errW_none, errW_some] <;> rfl), by repeat (first | (with_reducible first | exact HB.out | apply below_alloc | apply pw_below_drewN | apply below_drew1 | refine below_set ?_ GE178.out) | exact HB.out)⟩
                    · rw [if_neg c28] at H
                      have c28b0 : (((rd_T42 ((rd_T39 l0 a2).f3) a3).f5) == 3) = false := beq_eq_false_iff_ne.mpr c28
                      have c28b1 : (((rd_T42 ((rd_T39 l0 a2).f3) a3).f5) != 3) = true := bne_iff_ne.mpr c28
                      replace H := Option.bind_eq_some_iff.mp H
                      obtain ⟨t181, A320, H⟩ := H
                      replace H : (if ((rd_T42 ((rd_T39 l0 a2).f3) a3).f1).toList = ([] : List UInt8) then (some (0, 0, 140)) else (if t181 = true then (some (0, 0, 141)) else (some (0, 0, 140)))) = some (r1, r2, r3) := H
                      have A32 := Aside0.mk A320
                      clear A320
                      by_cases c33 : ((rd_T42 ((rd_T39 l0 a2).f3) a3).f1).toList = ([] : List UInt8)
                      · rw [if_pos c33] at H
                        have c33b0 : (((rd_T42 ((rd_T39 l0 a2).f3) a3).f1).toList == ([] : List UInt8)) = true := beq_iff_eq.mpr c33
                        have c33b1 : (((rd_T42 ((rd_T39 l0 a2).f3) a3).f1).toList != ([] : List UInt8)) = false := bne_eq_false_iff_eq.mpr c33
                        clear c33
                        simp only [Option.some.injEq, Prod.mk.injEq] at H
                        obtain ⟨rfl, rfl, rfl⟩ := H
                        have hcz34_0 : wc.cell? ⟨gb178, 0, none⟩ = some (.string ((rd_T42 ((rd_T39 l0 a2).f3) a3).f0)) := (blk_cell BK178.out 0).trans rfl
                        have hcz34_1 : wc.cell? ⟨gb178, 1, none⟩ = some (.string ((rd_T42 ((rd_T39 l0 a2).f3) a3).f1)) := (blk_cell BK178.out 1).trans rfl
                        have hcz34_2 : wc.cell? ⟨gb178, 2, none⟩ = some (.int .u64 ((rd_T42 ((rd_T39 l0 a2).f3) a3).f2)) := (blk_cell BK178.out 2).trans rfl
                        have hcz34_3 : wc.cell? ⟨gb178, 3, none⟩ = some (.int .u64 ((rd_T42 ((rd_T39 l0 a2).f3) a3).f3)) := (blk_cell BK178.out 3).trans rfl
                        have hcz34_4 : wc.cell? ⟨gb178, 4, none⟩ = some (.int .i64 ((rd_T42 ((rd_T39 l0 a2).f3) a3).f4)) := (blk_cell BK178.out 4).trans rfl
                        have hcz34_5 : wc.cell? ⟨gb178, 5, none⟩ = some (.int .i64 ((rd_T42 ((rd_T39 l0 a2).f3) a3).f5)) := (blk_cell BK178.out 5).trans rfl
                        have hcz34_6 : wc.cell? ⟨gb178, 6, none⟩ = some (.int .i64 ((rd_T42 ((rd_T39 l0 a2).f3) a3).f6)) := (blk_cell BK178.out 6).trans rfl
                        have hcz34_7 : wc.cell? ⟨gb178, 7, none⟩ = some (.bool ((rd_T42 ((rd_T39 l0 a2).f3) a3).f7)) := (blk_cell BK178.out 7).trans rfl
                        have hfz34_0 := blk_frozen BK178.out 0
                        have hfz34_1 := blk_frozen BK178.out 1
                        have hfz34_2 := blk_frozen BK178.out 2
                        have hfz34_3 := blk_frozen BK178.out 3
                        have hfz34_4 := blk_frozen BK178.out 4
                        have hfz34_5 := blk_frozen BK178.out 5
                        have hfz34_6 := blk_frozen BK178.out 6
                        have hfz34_7 := blk_frozen BK178.out 7
                        go_wp2_with (first | ((with_reducible refine gate_dst (N := 44) rfl ?_); (with_reducible refine gate_callee (f := 25) rfl ?_); refine goesL_ (some 44) rfl rfl Try.func25 (by kernel_rfl) rfl #[.slice (some ad176) l0.length c0, .slice A1 l1.length c1, .string ((rd_T42 ((rd_T39 l0 a2).f3) a3).f0), .string ((rd_T42 ((rd_T39 l0 a2).f3) a3).f1)] rfl (by (try simp only [List.map_toArray, List.map_cons, List.map_nil]); first | done | rfl | (simp only [List.length_drop, List.length_take]; rfl)) ?_; (with_reducible refine (curtilageref14_In.calls kj8 _ _ l0 _ _ l1 ((rd_T42 ((rd_T39 l0 a2).f3) a3).f0) ((rd_T42 ((rd_T39 l0 a2).f3) a3).f1) t179 t180 _ ?side1 ?side2 ?side3 ?side4 A20.out).mono ?_); (case side1 => repeat (first | exact (Kd.C_below HR0.out HB.out) | (with_reducible refine Kd.C_alloc ?_ _) | (with_reducible refine Kd.C_drewN ?_ _) | (with_reducible refine Kd.C_drew ?_))); (case side2 => exact HC0.out); (case side3 => repeat (first | exact (Kd.C_below HR1.out HB.out) | (with_reducible refine Kd.C_alloc ?_ _) | (with_reducible refine Kd.C_drewN ?_ _) | (with_reducible refine Kd.C_drew ?_))); (case side4 => exact HC1.out); rintro e w35 ⟨rfl, hb⟩; refine ⟨_, rfl, ?_⟩; have n0_ := Aside0.mk (blk_below (g := gb178) (o := .cells #[.string ((rd_T42 ((rd_T39 l0 a2).f3) a3).f0), .string ((rd_T42 ((rd_T39 l0 a2).f3) a3).f1), .int .u64 ((rd_T42 ((rd_T39 l0 a2).f3) a3).f2), .int .u64 ((rd_T42 ((rd_T39 l0 a2).f3) a3).f3), .int .i64 ((rd_T42 ((rd_T39 l0 a2).f3) a3).f4), .int .i64 ((rd_T42 ((rd_T39 l0 a2).f3) a3).f5), .int .i64 ((rd_T42 ((rd_T39 l0 a2).f3) a3).f6), .bool ((rd_T42 ((rd_T39 l0 a2).f3) a3).f7)] 42 (0, 0)) (by (with_reducible repeat (first | refine blk_drewN ?_ _ | refine blk_drew ?_ | refine blk_alloc ?_ _)); exact BK178.out) hb); have n1_ := Aside0.mk (below_step (by repeat (first | (with_reducible first | exact HB.out | apply below_alloc | apply pw_below_drewN | apply below_drew1 | refine below_set ?_ GE178.out) | exact HB.out)) hb); clear BK178; clear HB; have BK178 := n0_; have HB := n1_; clear n0_ n1_; (try clear hb); (try clear hb2); (try clear hk); (try clear hi); obtain ⟨hcz36_0, hcz36_1, hcz36_2, hcz36_3, hcz36_4, hcz36_5, hcz36_6, hcz36_7, hfz36_0, hfz36_1, hfz36_2, hfz36_3, hfz36_4, hfz36_5, hfz36_6, hfz36_7⟩ := cells8 BK178.out) | ((with_reducible refine gate_dst (N := 62) rfl ?_); (with_reducible refine gate_callee (f := 26) rfl ?_); refine goesL_ (some 62) rfl rfl Try.func26 (by kernel_rfl) rfl #[.slice (some ad176) l0.length c0, .slice A1 l1.length c1, .string ((rd_T42 ((rd_T39 l0 a2).f3) a3).f0)] rfl (by (try simp only [List.map_toArray, List.map_cons, List.map_nil]); first | done | rfl | (simp only [List.length_drop, List.length_take]; rfl)) ?_; (with_reducible refine (curtilageref14_Known.calls kj8 _ _ l0 _ _ l1 ((rd_T42 ((rd_T39 l0 a2).f3) a3).f0) t181 _ ?side1 ?side2 ?side3 ?side4 A32.out).mono ?_); (case side1 => repeat (first | exact (Kd.C_below HR0.out HB.out) | (with_reducible refine Kd.C_alloc ?_ _) | (with_reducible refine Kd.C_drewN ?_ _) | (with_reducible refine Kd.C_drew ?_))); (case side2 => exact HC0.out); (case side3 => repeat (first | exact (Kd.C_below HR1.out HB.out) | (with_reducible refine Kd.C_alloc ?_ _) | (with_reducible refine Kd.C_drewN ?_ _) | (with_reducible refine Kd.C_drew ?_))); (case side4 => exact HC1.out); rintro e w37 ⟨rfl, hb⟩; refine ⟨_, rfl, ?_⟩; have n0_ := Aside0.mk (blk_below (g := gb178) (o := .cells #[.string ((rd_T42 ((rd_T39 l0 a2).f3) a3).f0), .string ((rd_T42 ((rd_T39 l0 a2).f3) a3).f1), .int .u64 ((rd_T42 ((rd_T39 l0 a2).f3) a3).f2), .int .u64 ((rd_T42 ((rd_T39 l0 a2).f3) a3).f3), .int .i64 ((rd_T42 ((rd_T39 l0 a2).f3) a3).f4), .int .i64 ((rd_T42 ((rd_T39 l0 a2).f3) a3).f5), .int .i64 ((rd_T42 ((rd_T39 l0 a2).f3) a3).f6), .bool ((rd_T42 ((rd_T39 l0 a2).f3) a3).f7)] 42 (0, 0)) (by (with_reducible repeat (first | refine blk_drewN ?_ _ | refine blk_drew ?_ | refine blk_alloc ?_ _)); exact BK178.out) hb); have n1_ := Aside0.mk (below_step (by repeat (first | (with_reducible first | exact HB.out | apply below_alloc | apply pw_below_drewN | apply below_drew1 | refine below_set ?_ GE178.out) | exact HB.out)) hb); clear BK178; clear HB; have BK178 := n0_; have HB := n1_; clear n0_ n1_; (try clear hb); (try clear hb2); (try clear hk); (try clear hi); obtain ⟨hcz38_0, hcz38_1, hcz38_2, hcz38_3, hcz38_4, hcz38_5, hcz38_6, hcz38_7, hfz38_0, hfz38_1, hfz38_2, hfz38_3, hfz38_4, hfz38_5, hfz38_6, hfz38_7⟩ := cells8 BK178.out))
                        go_ret3
                        exact ⟨by first | rfl | (simp [errW_none, errW_some] <;> rfl) | (simp [*, errW_none, errW_some] <;> rfl), by repeat (first | (with_reducible first | exact HB.out | apply below_alloc | apply pw_below_drewN | apply below_drew1 | refine below_set ?_ GE178.out) | exact HB.out)⟩
                      · rw [if_neg c33] at H
                        have c33b0 : (((rd_T42 ((rd_T39 l0 a2).f3) a3).f1).toList == ([] : List UInt8)) = false := beq_eq_false_iff_ne.mpr c33
                        have c33b1 : (((rd_T42 ((rd_T39 l0 a2).f3) a3).f1).toList != ([] : List UInt8)) = true := bne_iff_ne.mpr c33
                        by_cases c39 : t181 = true
                        · subst c39
                          have H1 : (some (0, 0, 141)) = some (r1, r2, r3) := by rw [if_pos rfl] at H; exact H
                          clear H
                          have H := H1
                          clear H1
                          simp only [Option.some.injEq, Prod.mk.injEq] at H
                          obtain ⟨rfl, rfl, rfl⟩ := H
                          have hcz40_0 : wc.cell? ⟨gb178, 0, none⟩ = some (.string ((rd_T42 ((rd_T39 l0 a2).f3) a3).f0)) := (blk_cell BK178.out 0).trans rfl
                          have hcz40_1 : wc.cell? ⟨gb178, 1, none⟩ = some (.string ((rd_T42 ((rd_T39 l0 a2).f3) a3).f1)) := (blk_cell BK178.out 1).trans rfl
                          have hcz40_2 : wc.cell? ⟨gb178, 2, none⟩ = some (.int .u64 ((rd_T42 ((rd_T39 l0 a2).f3) a3).f2)) := (blk_cell BK178.out 2).trans rfl
                          have hcz40_3 : wc.cell? ⟨gb178, 3, none⟩ = some (.int .u64 ((rd_T42 ((rd_T39 l0 a2).f3) a3).f3)) := (blk_cell BK178.out 3).trans rfl
                          have hcz40_4 : wc.cell? ⟨gb178, 4, none⟩ = some (.int .i64 ((rd_T42 ((rd_T39 l0 a2).f3) a3).f4)) := (blk_cell BK178.out 4).trans rfl
                          have hcz40_5 : wc.cell? ⟨gb178, 5, none⟩ = some (.int .i64 ((rd_T42 ((rd_T39 l0 a2).f3) a3).f5)) := (blk_cell BK178.out 5).trans rfl
                          have hcz40_6 : wc.cell? ⟨gb178, 6, none⟩ = some (.int .i64 ((rd_T42 ((rd_T39 l0 a2).f3) a3).f6)) := (blk_cell BK178.out 6).trans rfl
                          have hcz40_7 : wc.cell? ⟨gb178, 7, none⟩ = some (.bool ((rd_T42 ((rd_T39 l0 a2).f3) a3).f7)) := (blk_cell BK178.out 7).trans rfl
                          have hfz40_0 := blk_frozen BK178.out 0
                          have hfz40_1 := blk_frozen BK178.out 1
                          have hfz40_2 := blk_frozen BK178.out 2
                          have hfz40_3 := blk_frozen BK178.out 3
                          have hfz40_4 := blk_frozen BK178.out 4
                          have hfz40_5 := blk_frozen BK178.out 5
                          have hfz40_6 := blk_frozen BK178.out 6
                          have hfz40_7 := blk_frozen BK178.out 7
                          go_wp2_with (first | ((with_reducible refine gate_dst (N := 44) rfl ?_); (with_reducible refine gate_callee (f := 25) rfl ?_); refine goesL_ (some 44) rfl rfl Try.func25 (by kernel_rfl) rfl #[.slice (some ad176) l0.length c0, .slice A1 l1.length c1, .string ((rd_T42 ((rd_T39 l0 a2).f3) a3).f0), .string ((rd_T42 ((rd_T39 l0 a2).f3) a3).f1)] rfl (by (try simp only [List.map_toArray, List.map_cons, List.map_nil]); first | done | rfl | (simp only [List.length_drop, List.length_take]; rfl)) ?_; (with_reducible refine (curtilageref14_In.calls kj8 _ _ l0 _ _ l1 ((rd_T42 ((rd_T39 l0 a2).f3) a3).f0) ((rd_T42 ((rd_T39 l0 a2).f3) a3).f1) t179 t180 _ ?side1 ?side2 ?side3 ?side4 A20.out).mono ?_); (case side1 => repeat (first | exact (Kd.C_below HR0.out HB.out) | (with_reducible refine Kd.C_alloc ?_ _) | (with_reducible refine Kd.C_drewN ?_ _) | (with_reducible refine Kd.C_drew ?_))); (case side2 => exact HC0.out); (case side3 => repeat (first | exact (Kd.C_below HR1.out HB.out) | (with_reducible refine Kd.C_alloc ?_ _) | (with_reducible refine Kd.C_drewN ?_ _) | (with_reducible refine Kd.C_drew ?_))); (case side4 => exact HC1.out); rintro e w41 ⟨rfl, hb⟩; refine ⟨_, rfl, ?_⟩; have n0_ := Aside0.mk (blk_below (g := gb178) (o := .cells #[.string ((rd_T42 ((rd_T39 l0 a2).f3) a3).f0), .string ((rd_T42 ((rd_T39 l0 a2).f3) a3).f1), .int .u64 ((rd_T42 ((rd_T39 l0 a2).f3) a3).f2), .int .u64 ((rd_T42 ((rd_T39 l0 a2).f3) a3).f3), .int .i64 ((rd_T42 ((rd_T39 l0 a2).f3) a3).f4), .int .i64 ((rd_T42 ((rd_T39 l0 a2).f3) a3).f5), .int .i64 ((rd_T42 ((rd_T39 l0 a2).f3) a3).f6), .bool ((rd_T42 ((rd_T39 l0 a2).f3) a3).f7)] 42 (0, 0)) (by (with_reducible repeat (first | refine blk_drewN ?_ _ | refine blk_drew ?_ | refine blk_alloc ?_ _)); exact BK178.out) hb); have n1_ := Aside0.mk (below_step (by repeat (first | (with_reducible first | exact HB.out | apply below_alloc | apply pw_below_drewN | apply below_drew1 | refine below_set ?_ GE178.out) | exact HB.out)) hb); clear BK178; clear HB; have BK178 := n0_; have HB := n1_; clear n0_ n1_; (try clear hb); (try clear hb2); (try clear hk); (try clear hi); obtain ⟨hcz42_0, hcz42_1, hcz42_2, hcz42_3, hcz42_4, hcz42_5, hcz42_6, hcz42_7, hfz42_0, hfz42_1, hfz42_2, hfz42_3, hfz42_4, hfz42_5, hfz42_6, hfz42_7⟩ := cells8 BK178.out) | ((with_reducible refine gate_dst (N := 62) rfl ?_); (with_reducible refine gate_callee (f := 26) rfl ?_); refine goesL_ (some 62) rfl rfl Try.func26 (by kernel_rfl) rfl #[.slice (some ad176) l0.length c0, .slice A1 l1.length c1, .string ((rd_T42 ((rd_T39 l0 a2).f3) a3).f0)] rfl (by (try simp only [List.map_toArray, List.map_cons, List.map_nil]); first | done | rfl | (simp only [List.length_drop, List.length_take]; rfl)) ?_; (with_reducible refine (curtilageref14_Known.calls kj8 _ _ l0 _ _ l1 ((rd_T42 ((rd_T39 l0 a2).f3) a3).f0) true _ ?side1 ?side2 ?side3 ?side4 A32.out).mono ?_); (case side1 => repeat (first | exact (Kd.C_below HR0.out HB.out) | (with_reducible refine Kd.C_alloc ?_ _) | (with_reducible refine Kd.C_drewN ?_ _) | (with_reducible refine Kd.C_drew ?_))); (case side2 => exact HC0.out); (case side3 => repeat (first | exact (Kd.C_below HR1.out HB.out) | (with_reducible refine Kd.C_alloc ?_ _) | (with_reducible refine Kd.C_drewN ?_ _) | (with_reducible refine Kd.C_drew ?_))); (case side4 => exact HC1.out); rintro e w43 ⟨rfl, hb⟩; refine ⟨_, rfl, ?_⟩; have n0_ := Aside0.mk (blk_below (g := gb178) (o := .cells #[.string ((rd_T42 ((rd_T39 l0 a2).f3) a3).f0), .string ((rd_T42 ((rd_T39 l0 a2).f3) a3).f1), .int .u64 ((rd_T42 ((rd_T39 l0 a2).f3) a3).f2), .int .u64 ((rd_T42 ((rd_T39 l0 a2).f3) a3).f3), .int .i64 ((rd_T42 ((rd_T39 l0 a2).f3) a3).f4), .int .i64 ((rd_T42 ((rd_T39 l0 a2).f3) a3).f5), .int .i64 ((rd_T42 ((rd_T39 l0 a2).f3) a3).f6), .bool ((rd_T42 ((rd_T39 l0 a2).f3) a3).f7)] 42 (0, 0)) (by (with_reducible repeat (first | refine blk_drewN ?_ _ | refine blk_drew ?_ | refine blk_alloc ?_ _)); exact BK178.out) hb); have n1_ := Aside0.mk (below_step (by repeat (first | (with_reducible first | exact HB.out | apply below_alloc | apply pw_below_drewN | apply below_drew1 | refine below_set ?_ GE178.out) | exact HB.out)) hb); clear BK178; clear HB; have BK178 := n0_; have HB := n1_; clear n0_ n1_; (try clear hb); (try clear hb2); (try clear hk); (try clear hi); obtain ⟨hcz44_0, hcz44_1, hcz44_2, hcz44_3, hcz44_4, hcz44_5, hcz44_6, hcz44_7, hfz44_0, hfz44_1, hfz44_2, hfz44_3, hfz44_4, hfz44_5, hfz44_6, hfz44_7⟩ := cells8 BK178.out))
                          go_ret3
                          exact ⟨by first | rfl | (simp [errW_none, errW_some] <;> rfl) | (simp [*, errW_none, errW_some] <;> rfl), by repeat (first | (with_reducible first | exact HB.out | apply below_alloc | apply pw_below_drewN | apply below_drew1 | refine below_set ?_ GE178.out) | exact HB.out)⟩
                        · replace c39 := Bool.eq_false_iff.mpr c39
                          subst c39
                          have H1 : (some (0, 0, 140)) = some (r1, r2, r3) := by rw [if_neg (show ¬ (false = true) by decide)] at H; exact H
                          clear H
                          have H := H1
                          clear H1
                          simp only [Option.some.injEq, Prod.mk.injEq] at H
                          obtain ⟨rfl, rfl, rfl⟩ := H
                          have hcz45_0 : wc.cell? ⟨gb178, 0, none⟩ = some (.string ((rd_T42 ((rd_T39 l0 a2).f3) a3).f0)) := (blk_cell BK178.out 0).trans rfl
                          have hcz45_1 : wc.cell? ⟨gb178, 1, none⟩ = some (.string ((rd_T42 ((rd_T39 l0 a2).f3) a3).f1)) := (blk_cell BK178.out 1).trans rfl
                          have hcz45_2 : wc.cell? ⟨gb178, 2, none⟩ = some (.int .u64 ((rd_T42 ((rd_T39 l0 a2).f3) a3).f2)) := (blk_cell BK178.out 2).trans rfl
                          have hcz45_3 : wc.cell? ⟨gb178, 3, none⟩ = some (.int .u64 ((rd_T42 ((rd_T39 l0 a2).f3) a3).f3)) := (blk_cell BK178.out 3).trans rfl
                          have hcz45_4 : wc.cell? ⟨gb178, 4, none⟩ = some (.int .i64 ((rd_T42 ((rd_T39 l0 a2).f3) a3).f4)) := (blk_cell BK178.out 4).trans rfl
                          have hcz45_5 : wc.cell? ⟨gb178, 5, none⟩ = some (.int .i64 ((rd_T42 ((rd_T39 l0 a2).f3) a3).f5)) := (blk_cell BK178.out 5).trans rfl
                          have hcz45_6 : wc.cell? ⟨gb178, 6, none⟩ = some (.int .i64 ((rd_T42 ((rd_T39 l0 a2).f3) a3).f6)) := (blk_cell BK178.out 6).trans rfl
                          have hcz45_7 : wc.cell? ⟨gb178, 7, none⟩ = some (.bool ((rd_T42 ((rd_T39 l0 a2).f3) a3).f7)) := (blk_cell BK178.out 7).trans rfl
                          have hfz45_0 := blk_frozen BK178.out 0
                          have hfz45_1 := blk_frozen BK178.out 1
                          have hfz45_2 := blk_frozen BK178.out 2
                          have hfz45_3 := blk_frozen BK178.out 3
                          have hfz45_4 := blk_frozen BK178.out 4
                          have hfz45_5 := blk_frozen BK178.out 5
                          have hfz45_6 := blk_frozen BK178.out 6
                          have hfz45_7 := blk_frozen BK178.out 7
                          go_wp2_with (first | ((with_reducible refine gate_dst (N := 44) rfl ?_); (with_reducible refine gate_callee (f := 25) rfl ?_); refine goesL_ (some 44) rfl rfl Try.func25 (by kernel_rfl) rfl #[.slice (some ad176) l0.length c0, .slice A1 l1.length c1, .string ((rd_T42 ((rd_T39 l0 a2).f3) a3).f0), .string ((rd_T42 ((rd_T39 l0 a2).f3) a3).f1)] rfl (by (try simp only [List.map_toArray, List.map_cons, List.map_nil]); first | done | rfl | (simp only [List.length_drop, List.length_take]; rfl)) ?_; (with_reducible refine (curtilageref14_In.calls kj8 _ _ l0 _ _ l1 ((rd_T42 ((rd_T39 l0 a2).f3) a3).f0) ((rd_T42 ((rd_T39 l0 a2).f3) a3).f1) t179 t180 _ ?side1 ?side2 ?side3 ?side4 A20.out).mono ?_); (case side1 => repeat (first | exact (Kd.C_below HR0.out HB.out) | (with_reducible refine Kd.C_alloc ?_ _) | (with_reducible refine Kd.C_drewN ?_ _) | (with_reducible refine Kd.C_drew ?_))); (case side2 => exact HC0.out); (case side3 => repeat (first | exact (Kd.C_below HR1.out HB.out) | (with_reducible refine Kd.C_alloc ?_ _) | (with_reducible refine Kd.C_drewN ?_ _) | (with_reducible refine Kd.C_drew ?_))); (case side4 => exact HC1.out); rintro e w46 ⟨rfl, hb⟩; refine ⟨_, rfl, ?_⟩; have n0_ := Aside0.mk (blk_below (g := gb178) (o := .cells #[.string ((rd_T42 ((rd_T39 l0 a2).f3) a3).f0), .string ((rd_T42 ((rd_T39 l0 a2).f3) a3).f1), .int .u64 ((rd_T42 ((rd_T39 l0 a2).f3) a3).f2), .int .u64 ((rd_T42 ((rd_T39 l0 a2).f3) a3).f3), .int .i64 ((rd_T42 ((rd_T39 l0 a2).f3) a3).f4), .int .i64 ((rd_T42 ((rd_T39 l0 a2).f3) a3).f5), .int .i64 ((rd_T42 ((rd_T39 l0 a2).f3) a3).f6), .bool ((rd_T42 ((rd_T39 l0 a2).f3) a3).f7)] 42 (0, 0)) (by (with_reducible repeat (first | refine blk_drewN ?_ _ | refine blk_drew ?_ | refine blk_alloc ?_ _)); exact BK178.out) hb); have n1_ := Aside0.mk (below_step (by repeat (first | (with_reducible first | exact HB.out | apply below_alloc | apply pw_below_drewN | apply below_drew1 | refine below_set ?_ GE178.out) | exact HB.out)) hb); clear BK178; clear HB; have BK178 := n0_; have HB := n1_; clear n0_ n1_; (try clear hb); (try clear hb2); (try clear hk); (try clear hi); obtain ⟨hcz47_0, hcz47_1, hcz47_2, hcz47_3, hcz47_4, hcz47_5, hcz47_6, hcz47_7, hfz47_0, hfz47_1, hfz47_2, hfz47_3, hfz47_4, hfz47_5, hfz47_6, hfz47_7⟩ := cells8 BK178.out) | ((with_reducible refine gate_dst (N := 62) rfl ?_); (with_reducible refine gate_callee (f := 26) rfl ?_); refine goesL_ (some 62) rfl rfl Try.func26 (by kernel_rfl) rfl #[.slice (some ad176) l0.length c0, .slice A1 l1.length c1, .string ((rd_T42 ((rd_T39 l0 a2).f3) a3).f0)] rfl (by (try simp only [List.map_toArray, List.map_cons, List.map_nil]); first | done | rfl | (simp only [List.length_drop, List.length_take]; rfl)) ?_; (with_reducible refine (curtilageref14_Known.calls kj8 _ _ l0 _ _ l1 ((rd_T42 ((rd_T39 l0 a2).f3) a3).f0) false _ ?side1 ?side2 ?side3 ?side4 A32.out).mono ?_); (case side1 => repeat (first | exact (Kd.C_below HR0.out HB.out) | (with_reducible refine Kd.C_alloc ?_ _) | (with_reducible refine Kd.C_drewN ?_ _) | (with_reducible refine Kd.C_drew ?_))); (case side2 => exact HC0.out); (case side3 => repeat (first | exact (Kd.C_below HR1.out HB.out) | (with_reducible refine Kd.C_alloc ?_ _) | (with_reducible refine Kd.C_drewN ?_ _) | (with_reducible refine Kd.C_drew ?_))); (case side4 => exact HC1.out); rintro e w48 ⟨rfl, hb⟩; refine ⟨_, rfl, ?_⟩; have n0_ := Aside0.mk (blk_below (g := gb178) (o := .cells #[.string ((rd_T42 ((rd_T39 l0 a2).f3) a3).f0), .string ((rd_T42 ((rd_T39 l0 a2).f3) a3).f1), .int .u64 ((rd_T42 ((rd_T39 l0 a2).f3) a3).f2), .int .u64 ((rd_T42 ((rd_T39 l0 a2).f3) a3).f3), .int .i64 ((rd_T42 ((rd_T39 l0 a2).f3) a3).f4), .int .i64 ((rd_T42 ((rd_T39 l0 a2).f3) a3).f5), .int .i64 ((rd_T42 ((rd_T39 l0 a2).f3) a3).f6), .bool ((rd_T42 ((rd_T39 l0 a2).f3) a3).f7)] 42 (0, 0)) (by (with_reducible repeat (first | refine blk_drewN ?_ _ | refine blk_drew ?_ | refine blk_alloc ?_ _)); exact BK178.out) hb); have n1_ := Aside0.mk (below_step (by repeat (first | (with_reducible first | exact HB.out | apply below_alloc | apply pw_below_drewN | apply below_drew1 | refine below_set ?_ GE178.out) | exact HB.out)) hb); clear BK178; clear HB; have BK178 := n0_; have HB := n1_; clear n0_ n1_; (try clear hb); (try clear hb2); (try clear hk); (try clear hi); obtain ⟨hcz49_0, hcz49_1, hcz49_2, hcz49_3, hcz49_4, hcz49_5, hcz49_6, hcz49_7, hfz49_0, hfz49_1, hfz49_2, hfz49_3, hfz49_4, hfz49_5, hfz49_6, hfz49_7⟩ := cells8 BK178.out))
                          go_ret3
                          exact ⟨by first | rfl | (simp [errW_none, errW_some] <;> rfl) | (simp [*, errW_none, errW_some] <;> rfl), by repeat (first | (with_reducible first | exact HB.out | apply below_alloc | apply pw_below_drewN | apply below_drew1 | refine below_set ?_ GE178.out) | exact HB.out)⟩
        · rw [if_neg c8] at H
          exact absurd H (by simp)
      · rw [if_neg c7] at H
        exact absurd H (by simp)
    · rw [if_neg c6] at H
      exact absurd H (by simp)
  · rw [if_neg c5] at H
    exact absurd H (by simp)

end Go.Proofs.Ytoakeildgpeffaa.P
