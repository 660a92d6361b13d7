/- What functions of the program, and of its laws, give, each proved of its code by a walk; no condition. -/
import Derived.Test.YtoakeildgpeffaaKPlanWholePx0
import Derived.Test.YtoakeildgpeffaaKPlanWholePx2
import Derived.Test.YtoakeildgpeffaaKPlanWholePx5
namespace Go.Proofs.Ytoakeildgpeffaa.P
open Go.RowKit Go.Proofs.YtoakeildgpeffaaW.PrintWords Go.Proofs.YtoakeildgpeffaaW.PrintLast Go.Proofs.YtoakeildgpeffaaW.PrintMore
attribute [local go_sem] max2_int min2_int max_two min_two max_three min_three max_four min_four   -- for this text's walks alone
set_option linter.unusedVariables false
set_option linter.unusedSimpArgs false

def lookup_Known.f (k : Nat) (l0 : List (S39)) (l1 : List Int) (a2 : ByteArray) : Option (Bool) := (lookup_In.f k l0 l1 a2 (⟨#[]⟩ : ByteArray)).bind fun bt124 => (some (decide (bt124.1 ≥ 0)))
theorem lookup_Known.mono : ∀ a0 a1 a2 k, LeO (lookup_Known.f k a0 a1 a2) (lookup_Known.f (k + 1) a0 a1 a2) := by
  intro a0 a1 a2 k
  unfold lookup_Known.f
  repeat' first
      | (with_reducible exact lookup_In.mono _ _ _ _ _)
      | (with_reducible exact LeO.refl _)
      | (with_reducible exact LeO.none _)
      | (with_reducible refine LeO.ite ?_ ?_)
      | (with_reducible refine LeO.bind ?_ (fun _ => ?_))
      | exact lookup_In.mono _ _ _ _ _
      | exact LeO.none _
      | refine LeO.ite ?_ ?_
      | refine LeO.bind ?_ (fun _ => ?_)
set_option maxHeartbeats 8000000 in
set_option maxRecDepth 100000 in
theorem lookup_Known.calls (k : Nat) (A0 : Option Addr) (c0 : Nat) (l0 : List (S39)) (A1 : Option Addr) (c1 : Nat) (l1 : List Int) (a2 : ByteArray) (r : Bool) (w : World) (hr0 : Kd.C k39 w A0 l0.length l0) (hc0 : l0.length ≤ c0) (hr1 : Kd.C (Kd.int .i64) w A1 l1.length l1) (hc1 : l1.length ≤ c1) (h : lookup_Known.f k l0 l1 a2 = some r) :
    Calls Try.prog 24 #[.slice A0 l0.length c0, .slice A1 l1.length c1, .string a2] w fun e w' => e = .returned (.bool r) ∧ Below w.heap.size w w' := by
  have HR0 := Aside0.mk hr0
  have HC0 := Aside0.mk hc0
  clear hr0 hc0
  have HR1 := Aside0.mk hr1
  have HC1 := Aside0.mk hc1
  clear hr1 hc1
  have HB := Aside0.mk (Below.refl w.heap.size w)
  have H : ((lookup_In.f k l0 l1 a2 (⟨#[]⟩ : ByteArray)).bind fun bt124 => (some (decide (bt124.1 ≥ 0)))) = some r := h
  clear h
  replace H := Option.bind_eq_some_iff.mp H
  obtain ⟨⟨t124, t125⟩, A40, H⟩ := H
  replace H : (some (decide (t124 ≥ 0))) = some r := H
  have A4 := Aside0.mk A40
  clear A40
  obtain rfl := Option.some.inj H
  go_enter Try.func24, Try.ntmps24
  go_wp2_with (first | ((with_reducible refine gate_dst (N := 13) rfl ?_); (with_reducible refine gate_callee (f := 23) rfl ?_); refine goesL_ (some 13) rfl rfl Try.func23 (by kernel_rfl) rfl #[.slice A0 l0.length c0, .slice A1 l1.length c1, .string a2, .string (⟨#[]⟩ : ByteArray)] rfl (by (try simp only [List.map_toArray, List.map_cons, List.map_nil]); first | done | rfl | (simp only [List.length_drop, List.length_take]; rfl)) ?_; (with_reducible refine (lookup_In.calls k _ _ l0 _ _ l1 a2 (⟨#[]⟩ : ByteArray) t124 t125 _ ?side1 ?side2 ?side3 ?side4 A4.out).mono ?_); (case side1 => repeat (first | exact HR0.out | (with_reducible refine Kd.C_alloc ?_ _) | (with_reducible refine Kd.C_drewN ?_ _) | (with_reducible refine Kd.C_drew ?_))); (case side2 => exact HC0.out); (case side3 => repeat (first | exact HR1.out | (with_reducible refine Kd.C_alloc ?_ _) | (with_reducible refine Kd.C_drewN ?_ _) | (with_reducible refine Kd.C_drew ?_))); (case side4 => exact HC1.out); rintro e w5 ⟨rfl, hb⟩; refine ⟨_, rfl, ?_⟩; have n0_ := Aside0.mk (below_step (by repeat (first | (with_reducible first | exact HB.out | apply below_alloc | apply pw_below_drewN | apply below_drew1) | exact HB.out)) hb); clear HB; have HB := n0_; clear n0_; (try clear hb); (try clear hb2); (try clear hk); (try clear hi)))
  go_ret
  exact ⟨by first | rfl | (simp [errW_none, errW_some] <;> rfl) | (simp [*, errW_none, errW_some] <;> rfl), by repeat (first | (with_reducible first | exact HB.out | apply below_alloc | apply pw_below_drewN | apply below_drew1) | exact HB.out)⟩

def lookup_Bind.j0 : Nat → List (S39) → List Int → Int → Int → Bool → ByteArray → ByteArray → Int → Int → Int → Int → Int → Bool → Option (Int × Int × Int)
  | 0, _, _, _, _, _, _, _, _, _, _, _, _, _ => none
  | k + 1, x0, x1, x2, x3, x26, x129000, x129001, x129002, x129003, x129004, x129005, x129006, x129007 => if x26 = true then (some (x2, x3, 0)) else ((lookup_In.f k x0 x1 x129000 x129001).bind fun bt130 => (if bt130.1 ≥ 0 then (some (bt130.1, bt130.2, 0)) else (if x129007 = true then (some (x2, x3, 0)) else (if x129005 = 3 then (some ((-1), (-1), 0)) else (if x129001.toList = ([] : List UInt8) then (some (0, 0, 140)) else ((lookup_Known.f k x0 x1 x129000).bind fun t132 => (if t132 = true then (some (0, 0, 141)) else (some (0, 0, 140)))))))))
def lookup_Bind.f (k : Nat) (l0 : List (S39)) (l1 : List Int) (a2 : Int) (a3 : Int) : Option (Int × Int × Int) := if 0 ≤ a2 then (if a2 < (l0.length : Int) then (if 0 ≤ a3 then (if a3 < (((rd_T39 l0 a2).f3).length : Int) then (if (rd_T42 ((rd_T39 l0 a2).f3) a3).f7 = true then ((hash_Shown.f ((rd_T42 ((rd_T39 l0 a2).f3) a3).f0) ((rd_T42 ((rd_T39 l0 a2).f3) a3).f1) ((rd_T42 ((rd_T39 l0 a2).f3) a3).f2) ((rd_T42 ((rd_T39 l0 a2).f3) a3).f3) ((rd_T42 ((rd_T39 l0 a2).f3) a3).f4) ((rd_T42 ((rd_T39 l0 a2).f3) a3).f5) ((rd_T42 ((rd_T39 l0 a2).f3) a3).f6) ((rd_T42 ((rd_T39 l0 a2).f3) a3).f7)).bind fun t129 => (lookup_Bind.j0 k l0 l1 a2 a3 (!t129) ((rd_T42 ((rd_T39 l0 a2).f3) a3).f0) ((rd_T42 ((rd_T39 l0 a2).f3) a3).f1) ((rd_T42 ((rd_T39 l0 a2).f3) a3).f2) ((rd_T42 ((rd_T39 l0 a2).f3) a3).f3) ((rd_T42 ((rd_T39 l0 a2).f3) a3).f4) ((rd_T42 ((rd_T39 l0 a2).f3) a3).f5) ((rd_T42 ((rd_T39 l0 a2).f3) a3).f6) ((rd_T42 ((rd_T39 l0 a2).f3) a3).f7))) else (lookup_Bind.j0 k l0 l1 a2 a3 false ((rd_T42 ((rd_T39 l0 a2).f3) a3).f0) ((rd_T42 ((rd_T39 l0 a2).f3) a3).f1) ((rd_T42 ((rd_T39 l0 a2).f3) a3).f2) ((rd_T42 ((rd_T39 l0 a2).f3) a3).f3) ((rd_T42 ((rd_T39 l0 a2).f3) a3).f4) ((rd_T42 ((rd_T39 l0 a2).f3) a3).f5) ((rd_T42 ((rd_T39 l0 a2).f3) a3).f6) ((rd_T42 ((rd_T39 l0 a2).f3) a3).f7))) else (none)) else (none)) else (none)) else (none)
theorem lookup_Bind.mono_l : ∀ k, (∀ y0 y1 y2 y3 y4 y5 y6 y7 y8 y9 y10 y11 y12, LeO (lookup_Bind.j0 k y0 y1 y2 y3 y4 y5 y6 y7 y8 y9 y10 y11 y12) (lookup_Bind.j0 (k + 1) y0 y1 y2 y3 y4 y5 y6 y7 y8 y9 y10 y11 y12))
  | 0 => fun _ _ _ _ _ _ _ _ _ _ _ _ _ r h => by simp [lookup_Bind.j0] at h
  | k + 1 => by
    have ih0 := lookup_Bind.mono_l k
    · intro y0 y1 y2 y3 y4 y5 y6 y7 y8 y9 y10 y11 y12
      unfold lookup_Bind.j0
      repeat' first
      | (with_reducible exact ih0 _ _ _ _ _ _ _ _ _ _ _ _ _)
      | (with_reducible exact lookup_In.mono _ _ _ _ _)
      | (with_reducible exact lookup_Known.mono _ _ _ _)
      | (with_reducible exact LeO.refl _)
      | (with_reducible exact LeO.none _)
      | (with_reducible refine LeO.ite ?_ ?_)
      | (with_reducible refine LeO.bind ?_ (fun _ => ?_))
      | exact ih0 _ _ _ _ _ _ _ _ _ _ _ _ _
      | exact lookup_In.mono _ _ _ _ _
      | exact lookup_Known.mono _ _ _ _
      | exact LeO.none _
      | refine LeO.ite ?_ ?_
      | refine LeO.bind ?_ (fun _ => ?_)
theorem lookup_Bind.mono : ∀ a0 a1 a2 a3 k, LeO (lookup_Bind.f k a0 a1 a2 a3) (lookup_Bind.f (k + 1) a0 a1 a2 a3) := by
  intro a0 a1 a2 a3 k
  have ih0 := lookup_Bind.mono_l k
  unfold lookup_Bind.f
  repeat' first
      | (with_reducible exact ih0 _ _ _ _ _ _ _ _ _ _ _ _ _)
      | (with_reducible exact lookup_In.mono _ _ _ _ _)
      | (with_reducible exact lookup_Known.mono _ _ _ _)
      | (with_reducible exact LeO.refl _)
      | (with_reducible exact LeO.none _)
      | (with_reducible refine LeO.ite ?_ ?_)
      | (with_reducible refine LeO.bind ?_ (fun _ => ?_))
      | exact ih0 _ _ _ _ _ _ _ _ _ _ _ _ _
      | exact lookup_In.mono _ _ _ _ _
      | exact lookup_Known.mono _ _ _ _
      | exact LeO.none _
      | refine LeO.ite ?_ ?_
      | refine LeO.bind ?_ (fun _ => ?_)
set_option maxHeartbeats 8000000 in
set_option maxRecDepth 100000 in
theorem lookup_Bind.calls (k : Nat) (A0 : Option Addr) (c0 : Nat) (l0 : List (S39)) (A1 : Option Addr) (c1 : Nat) (l1 : List Int) (a2 : Int) (a3 : Int) (r1 : Int) (r2 : Int) (r3 : Int) (w : World) (hr0 : Kd.C k39 w A0 l0.length l0) (hc0 : l0.length ≤ c0) (hr1 : Kd.C (Kd.int .i64) w A1 l1.length l1) (hc1 : l1.length ≤ c1) (h : lookup_Bind.f k l0 l1 a2 a3 = some (r1, r2, r3)) :
    Calls Try.prog 16 #[.slice A0 l0.length c0, .slice A1 l1.length c1, .int .i64 a2, .int .i64 a3] w fun e w' => e = .returned (.tuple #[.int .i64 r1, .int .i64 r2, .int .i64 r3]) ∧ Below w.heap.size w w' := by
  have hu42 := Try.underlying42
  have HR0 := Aside0.mk hr0
  have HC0 := Aside0.mk hc0
  clear hr0 hc0
  have HR1 := Aside0.mk hr1
  have HC1 := Aside0.mk hc1
  clear hr1 hc1
  have HB := Aside0.mk (Below.refl w.heap.size w)
  have H : (if 0 ≤ a2 then (if a2 < (l0.length : Int) then (if 0 ≤ a3 then (if a3 < (((rd_T39 l0 a2).f3).length : Int) then (if (rd_T42 ((rd_T39 l0 a2).f3) a3).f7 = true then ((hash_Shown.f ((rd_T42 ((rd_T39 l0 a2).f3) a3).f0) ((rd_T42 ((rd_T39 l0 a2).f3) a3).f1) ((rd_T42 ((rd_T39 l0 a2).f3) a3).f2) ((rd_T42 ((rd_T39 l0 a2).f3) a3).f3) ((rd_T42 ((rd_T39 l0 a2).f3) a3).f4) ((rd_T42 ((rd_T39 l0 a2).f3) a3).f5) ((rd_T42 ((rd_T39 l0 a2).f3) a3).f6) ((rd_T42 ((rd_T39 l0 a2).f3) a3).f7)).bind fun t129 => (lookup_Bind.j0 k l0 l1 a2 a3 (!t129) ((rd_T42 ((rd_T39 l0 a2).f3) a3).f0) ((rd_T42 ((rd_T39 l0 a2).f3) a3).f1) ((rd_T42 ((rd_T39 l0 a2).f3) a3).f2) ((rd_T42 ((rd_T39 l0 a2).f3) a3).f3) ((rd_T42 ((rd_T39 l0 a2).f3) a3).f4) ((rd_T42 ((rd_T39 l0 a2).f3) a3).f5) ((rd_T42 ((rd_T39 l0 a2).f3) a3).f6) ((rd_T42 ((rd_T39 l0 a2).f3) a3).f7))) else (lookup_Bind.j0 k l0 l1 a2 a3 false ((rd_T42 ((rd_T39 l0 a2).f3) a3).f0) ((rd_T42 ((rd_T39 l0 a2).f3) a3).f1) ((rd_T42 ((rd_T39 l0 a2).f3) a3).f2) ((rd_T42 ((rd_T39 l0 a2).f3) a3).f3) ((rd_T42 ((rd_T39 l0 a2).f3) a3).f4) ((rd_T42 ((rd_T39 l0 a2).f3) a3).f5) ((rd_T42 ((rd_T39 l0 a2).f3) a3).f6) ((rd_T42 ((rd_T39 l0 a2).f3) a3).f7))) else (none)) else (none)) else (none)) else (none)) = some (r1, r2, r3) := h
  clear h
  by_cases c5 : 0 ≤ a2
  · rw [if_pos c5] at H
    have c5b0 : decide (0 ≤ a2) = true := decide_eq_true c5
    clear c5
    by_cases c6 : a2 < (l0.length : Int)
    · rw [if_pos c6] at H
      have c6b0 : decide (a2 < (l0.length : Int)) = true := decide_eq_true c6
      clear c6
      by_cases c7 : 0 ≤ a3
      · rw [if_pos c7] at H
        have c7b0 : decide (0 ≤ a3) = true := decide_eq_true c7
        clear c7
        by_cases c8 : a3 < (((rd_T39 l0 a2).f3).length : Int)
        · rw [if_pos c8] at H
          have c8b0 : decide (a3 < (((rd_T39 l0 a2).f3).length : Int)) = true := decide_eq_true c8
          clear c8
          have HC9 := Aside0.mk H
          clear H
          have p126 : 0 ≤ (a2 : Int) := of_decide_eq_true (by first | (with_reducible assumption) | assumption)
          have q126 : a2 < (l0.length : Int) := of_decide_eq_true (by first | (with_reducible assumption) | assumption)
          obtain ⟨ad126, A126_1, c126_1, A126_2, c126_2, A126_3, c126_3, A126_4, c126_4, A126_5, c126_5, A126_6, c126_6, e126, hx126_0, hx126_1, hx126_2, hx126_3, hx126_4, hx126_5, hx126_6, hl126_1, hi126_1, hl126_2, hi126_2, hl126_3, hi126_3, hl126_4, hi126_4, hl126_5, hi126_5, hl126_6, hi126_6⟩ := at_T39 HR0.out a2 p126 q126
          cases e126
          have HR126_1 := Aside0.mk hi126_1
          have HC126_1 := Aside0.mk hl126_1
          clear hi126_1 hl126_1
          have HR126_2 := Aside0.mk hi126_2
          have HC126_2 := Aside0.mk hl126_2
          clear hi126_2 hl126_2
          have HR126_3 := Aside0.mk hi126_3
          have HC126_3 := Aside0.mk hl126_3
          clear hi126_3 hl126_3
          have HR126_4 := Aside0.mk hi126_4
          have HC126_4 := Aside0.mk hl126_4
          clear hi126_4 hl126_4
          have HR126_5 := Aside0.mk hi126_5
          have HC126_5 := Aside0.mk hl126_5
          clear hi126_5 hl126_5
          have HR126_6 := Aside0.mk hi126_6
          have HC126_6 := Aside0.mk hl126_6
          clear hi126_6 hl126_6
          replace p126 := eq_true p126
          replace q126 := eq_true q126
          have p127 : 0 ≤ (a3 : Int) := of_decide_eq_true (by first | (with_reducible assumption) | assumption)
          have q127 : a3 < (((rd_T39 l0 a2).f3).length : Int) := of_decide_eq_true (by first | (with_reducible assumption) | assumption)
          obtain ⟨ad127, e127, hx127_0, hx127_1, hx127_2, hx127_3, hx127_4, hx127_5, hx127_6, hx127_7⟩ := at_T42 HR126_3.out a3 p127 q127
          cases e127
          replace p127 := eq_true p127
          replace q127 := eq_true q127
          go_enter Try.func16, Try.ntmps16
          go_upto_region 2 with (first | ((with_reducible refine gate_dst (N := 11) rfl ?_); refine box_event ?hg (N := 11) ?hd (cs := #[.string (⟨#[]⟩ : ByteArray), .string (⟨#[]⟩ : ByteArray), .int .u64 0, .int .u64 0, .int .i64 0, .int .i64 0, .int .i64 0, .bool false]) (t := 42) ?hr ?_; (case hd => rfl); (case hg => rfl); (case hr => first | (go_simp; done) | (go_simp; rfl)); intro gb128 hg w10 hbox hb; have n0_ := Aside0.mk (below_step (by repeat (first | (with_reducible first | exact HB.out | apply below_alloc | apply pw_below_drewN | apply below_drew1) | exact HB.out)) hb); have n1_ := Aside0.mk (hbox); have n2_ := Aside0.mk ((by rw [hg]; exact (below_size (by repeat (first | (with_reducible first | exact HB.out | apply below_alloc | apply pw_below_drewN | apply below_drew1) | exact HB.out))) : w.heap.size ≤ gb128)); have n3_ := n2_; clear HB; have HB := n0_; have BK128 := n1_; have GW128 := n2_; have GE128 := n3_; clear n0_ n1_ n2_ n3_; clear hb hbox hg; obtain ⟨hcz11_0, hcz11_1, hcz11_2, hcz11_3, hcz11_4, hcz11_5, hcz11_6, hcz11_7, hfz11_0, hfz11_1, hfz11_2, hfz11_3, hfz11_4, hfz11_5, hfz11_6, hfz11_7⟩ := cells8 BK128.out) | ((with_reducible refine gate_store (t := 42) (p := 11) rfl ?_); refine store_event (t := 42) (p := 11) (v := ?vo_w12) (w1 := ((((((((w10.setCell ⟨gb128, 0, none⟩ (.string ((rd_T42 ((rd_T39 l0 a2).f3) a3).f0))).setCell ⟨gb128, 1, none⟩ (.string ((rd_T42 ((rd_T39 l0 a2).f3) a3).f1))).setCell ⟨gb128, 2, none⟩ (.int .u64 ((rd_T42 ((rd_T39 l0 a2).f3) a3).f2))).setCell ⟨gb128, 3, none⟩ (.int .u64 ((rd_T42 ((rd_T39 l0 a2).f3) a3).f3))).setCell ⟨gb128, 4, none⟩ (.int .i64 ((rd_T42 ((rd_T39 l0 a2).f3) a3).f4))).setCell ⟨gb128, 5, none⟩ (.int .i64 ((rd_T42 ((rd_T39 l0 a2).f3) a3).f5))).setCell ⟨gb128, 6, none⟩ (.int .i64 ((rd_T42 ((rd_T39 l0 a2).f3) a3).f6))).setCell ⟨gb128, 7, none⟩ (.bool ((rd_T42 ((rd_T39 l0 a2).f3) a3).f7)))) ?hg ?ho ?hn ?hr ?_; (case ho => rfl); (case hg => rfl); (case hn => rfl); (case hr => first | (go_simp; done) | (go_simp; rfl)); intro w12 hw; have n0_ : Aside0 (w12.heap[gb128]? = some (.cells #[.string ((rd_T42 ((rd_T39 l0 a2).f3) a3).f0), .string ((rd_T42 ((rd_T39 l0 a2).f3) a3).f1), .int .u64 ((rd_T42 ((rd_T39 l0 a2).f3) a3).f2), .int .u64 ((rd_T42 ((rd_T39 l0 a2).f3) a3).f3), .int .i64 ((rd_T42 ((rd_T39 l0 a2).f3) a3).f4), .int .i64 ((rd_T42 ((rd_T39 l0 a2).f3) a3).f5), .int .i64 ((rd_T42 ((rd_T39 l0 a2).f3) a3).f6), .bool ((rd_T42 ((rd_T39 l0 a2).f3) a3).f7)] 42 (0, 0))) := ⟨(by rw [hw]; exact (by (with_reducible repeat (first | refine blk_drewN ?_ _ | refine blk_drew ?_ | refine blk_alloc ?_ _)); refine blk_put (cs := #[.string ((rd_T42 ((rd_T39 l0 a2).f3) a3).f0), .string ((rd_T42 ((rd_T39 l0 a2).f3) a3).f1), .int .u64 ((rd_T42 ((rd_T39 l0 a2).f3) a3).f2), .int .u64 ((rd_T42 ((rd_T39 l0 a2).f3) a3).f3), .int .i64 ((rd_T42 ((rd_T39 l0 a2).f3) a3).f4), .int .i64 ((rd_T42 ((rd_T39 l0 a2).f3) a3).f5), .int .i64 ((rd_T42 ((rd_T39 l0 a2).f3) a3).f6), .bool false]) ?_ 7 _ rfl; (with_reducible repeat (first | refine blk_drewN ?_ _ | refine blk_drew ?_ | refine blk_alloc ?_ _)); refine blk_put (cs := #[.string ((rd_T42 ((rd_T39 l0 a2).f3) a3).f0), .string ((rd_T42 ((rd_T39 l0 a2).f3) a3).f1), .int .u64 ((rd_T42 ((rd_T39 l0 a2).f3) a3).f2), .int .u64 ((rd_T42 ((rd_T39 l0 a2).f3) a3).f3), .int .i64 ((rd_T42 ((rd_T39 l0 a2).f3) a3).f4), .int .i64 ((rd_T42 ((rd_T39 l0 a2).f3) a3).f5), .int .i64 0, .bool false]) ?_ 6 _ rfl; (with_reducible repeat (first | refine blk_drewN ?_ _ | refine blk_drew ?_ | refine blk_alloc ?_ _)); refine blk_put (cs := #[.string ((rd_T42 ((rd_T39 l0 a2).f3) a3).f0), .string ((rd_T42 ((rd_T39 l0 a2).f3) a3).f1), .int .u64 ((rd_T42 ((rd_T39 l0 a2).f3) a3).f2), .int .u64 ((rd_T42 ((rd_T39 l0 a2).f3) a3).f3), .int .i64 ((rd_T42 ((rd_T39 l0 a2).f3) a3).f4), .int .i64 0, .int .i64 0, .bool false]) ?_ 5 _ rfl; (with_reducible repeat (first | refine blk_drewN ?_ _ | refine blk_drew ?_ | refine blk_alloc ?_ _)); refine blk_put (cs := #[.string ((rd_T42 ((rd_T39 l0 a2).f3) a3).f0), .string ((rd_T42 ((rd_T39 l0 a2).f3) a3).f1), .int .u64 ((rd_T42 ((rd_T39 l0 a2).f3) a3).f2), .int .u64 ((rd_T42 ((rd_T39 l0 a2).f3) a3).f3), .int .i64 0, .int .i64 0, .int .i64 0, .bool false]) ?_ 4 _ rfl; (with_reducible repeat (first | refine blk_drewN ?_ _ | refine blk_drew ?_ | refine blk_alloc ?_ _)); refine blk_put (cs := #[.string ((rd_T42 ((rd_T39 l0 a2).f3) a3).f0), .string ((rd_T42 ((rd_T39 l0 a2).f3) a3).f1), .int .u64 ((rd_T42 ((rd_T39 l0 a2).f3) a3).f2), .int .u64 0, .int .i64 0, .int .i64 0, .int .i64 0, .bool false]) ?_ 3 _ rfl; (with_reducible repeat (first | refine blk_drewN ?_ _ | refine blk_drew ?_ | refine blk_alloc ?_ _)); refine blk_put (cs := #[.string ((rd_T42 ((rd_T39 l0 a2).f3) a3).f0), .string ((rd_T42 ((rd_T39 l0 a2).f3) a3).f1), .int .u64 0, .int .u64 0, .int .i64 0, .int .i64 0, .int .i64 0, .bool false]) ?_ 2 _ rfl; (with_reducible repeat (first | refine blk_drewN ?_ _ | refine blk_drew ?_ | refine blk_alloc ?_ _)); refine blk_put (cs := #[.string ((rd_T42 ((rd_T39 l0 a2).f3) a3).f0), .string (⟨#[]⟩ : ByteArray), .int .u64 0, .int .u64 0, .int .i64 0, .int .i64 0, .int .i64 0, .bool false]) ?_ 1 _ rfl; (with_reducible repeat (first | refine blk_drewN ?_ _ | refine blk_drew ?_ | refine blk_alloc ?_ _)); refine blk_put (cs := #[.string (⟨#[]⟩ : ByteArray), .string (⟨#[]⟩ : ByteArray), .int .u64 0, .int .u64 0, .int .i64 0, .int .i64 0, .int .i64 0, .bool false]) ?_ 0 _ rfl; (with_reducible repeat (first | refine blk_drewN ?_ _ | refine blk_drew ?_ | refine blk_alloc ?_ _)); exact BK128.out))⟩; have n1_ : Aside0 (Below w.heap.size w w12) := ⟨(by rw [hw]; exact (by repeat (first | (with_reducible first | exact HB.out | apply below_alloc | apply pw_below_drewN | apply below_drew1 | refine below_set ?_ GE128.out) | exact HB.out)))⟩; clear hw; clear BK128; clear HB; have BK128 := n0_; have HB := n1_; clear n0_ n1_))
          (try simp only [Act.put, List.setIfInBounds_toArray, List.set_cons_zero, List.set_cons_succ])
          go_cut [26] (fun v26 wc => ∃ (kq : Nat) (x26_8 : Bool), v26 = .bool x26_8 ∧ Aside0 (lookup_Bind.j0 kq l0 l1 a2 a3 x26_8 ((rd_T42 ((rd_T39 l0 a2).f3) a3).f0) ((rd_T42 ((rd_T39 l0 a2).f3) a3).f1) ((rd_T42 ((rd_T39 l0 a2).f3) a3).f2) ((rd_T42 ((rd_T39 l0 a2).f3) a3).f3) ((rd_T42 ((rd_T39 l0 a2).f3) a3).f4) ((rd_T42 ((rd_T39 l0 a2).f3) a3).f5) ((rd_T42 ((rd_T39 l0 a2).f3) a3).f6) ((rd_T42 ((rd_T39 l0 a2).f3) a3).f7) = some (r1, r2, r3)) ∧ Aside0 (kq ≤ k) ∧ Aside0 (wc.heap[gb128]? = some (.cells #[.string ((rd_T42 ((rd_T39 l0 a2).f3) a3).f0), .string ((rd_T42 ((rd_T39 l0 a2).f3) a3).f1), .int .u64 ((rd_T42 ((rd_T39 l0 a2).f3) a3).f2), .int .u64 ((rd_T42 ((rd_T39 l0 a2).f3) a3).f3), .int .i64 ((rd_T42 ((rd_T39 l0 a2).f3) a3).f4), .int .i64 ((rd_T42 ((rd_T39 l0 a2).f3) a3).f5), .int .i64 ((rd_T42 ((rd_T39 l0 a2).f3) a3).f6), .bool ((rd_T42 ((rd_T39 l0 a2).f3) a3).f7)] 42 (0, 0))) ∧ Aside0 (Below w.heap.size w wc))
          case first =>
            have H := HC9.out
            clear HC9
            obtain ⟨bq13, hbq13⟩ : ∃ b_ : Bool, b_ = ((rd_T42 ((rd_T39 l0 a2).f3) a3).f7) := ⟨_, rfl⟩
            replace H : (if bq13 = true then ((hash_Shown.f ((rd_T42 ((rd_T39 l0 a2).f3) a3).f0) ((rd_T42 ((rd_T39 l0 a2).f3) a3).f1) ((rd_T42 ((rd_T39 l0 a2).f3) a3).f2) ((rd_T42 ((rd_T39 l0 a2).f3) a3).f3) ((rd_T42 ((rd_T39 l0 a2).f3) a3).f4) ((rd_T42 ((rd_T39 l0 a2).f3) a3).f5) ((rd_T42 ((rd_T39 l0 a2).f3) a3).f6) (bq13)).bind fun t129 => (lookup_Bind.j0 k l0 l1 a2 a3 (!t129) ((rd_T42 ((rd_T39 l0 a2).f3) a3).f0) ((rd_T42 ((rd_T39 l0 a2).f3) a3).f1) ((rd_T42 ((rd_T39 l0 a2).f3) a3).f2) ((rd_T42 ((rd_T39 l0 a2).f3) a3).f3) ((rd_T42 ((rd_T39 l0 a2).f3) a3).f4) ((rd_T42 ((rd_T39 l0 a2).f3) a3).f5) ((rd_T42 ((rd_T39 l0 a2).f3) a3).f6) bq13)) else (lookup_Bind.j0 k l0 l1 a2 a3 false ((rd_T42 ((rd_T39 l0 a2).f3) a3).f0) ((rd_T42 ((rd_T39 l0 a2).f3) a3).f1) ((rd_T42 ((rd_T39 l0 a2).f3) a3).f2) ((rd_T42 ((rd_T39 l0 a2).f3) a3).f3) ((rd_T42 ((rd_T39 l0 a2).f3) a3).f4) ((rd_T42 ((rd_T39 l0 a2).f3) a3).f5) ((rd_T42 ((rd_T39 l0 a2).f3) a3).f6) bq13)) = some (r1, r2, r3) := by rw [← hbq13] at H; exact H
            have Nbq13 := Aside0.mk hbq13
            clear hbq13
            (try rw [← Nbq13.out])
            (try (have h_ := BK128.out; rw [← Nbq13.out] at h_; clear BK128; have BK128 := Aside0.mk h_; clear h_))
            by_cases c14 : bq13 = true
            · subst c14
              have H1 : ((hash_Shown.f ((rd_T42 ((rd_T39 l0 a2).f3) a3).f0) ((rd_T42 ((rd_T39 l0 a2).f3) a3).f1) ((rd_T42 ((rd_T39 l0 a2).f3) a3).f2) ((rd_T42 ((rd_T39 l0 a2).f3) a3).f3) ((rd_T42 ((rd_T39 l0 a2).f3) a3).f4) ((rd_T42 ((rd_T39 l0 a2).f3) a3).f5) ((rd_T42 ((rd_T39 l0 a2).f3) a3).f6) (true)).bind fun t129 => (lookup_Bind.j0 k l0 l1 a2 a3 (!t129) ((rd_T42 ((rd_T39 l0 a2).f3) a3).f0) ((rd_T42 ((rd_T39 l0 a2).f3) a3).f1) ((rd_T42 ((rd_T39 l0 a2).f3) a3).f2) ((rd_T42 ((rd_T39 l0 a2).f3) a3).f3) ((rd_T42 ((rd_T39 l0 a2).f3) a3).f4) ((rd_T42 ((rd_T39 l0 a2).f3) a3).f5) ((rd_T42 ((rd_T39 l0 a2).f3) a3).f6) true)) = some (r1, r2, r3) := by rw [if_pos rfl] at H; exact H
              clear H
              have H := H1
              clear H1
              replace H := Option.bind_eq_some_iff.mp H
              obtain ⟨t129, A150, H⟩ := H
              replace H : (lookup_Bind.j0 k l0 l1 a2 a3 (!t129) ((rd_T42 ((rd_T39 l0 a2).f3) a3).f0) ((rd_T42 ((rd_T39 l0 a2).f3) a3).f1) ((rd_T42 ((rd_T39 l0 a2).f3) a3).f2) ((rd_T42 ((rd_T39 l0 a2).f3) a3).f3) ((rd_T42 ((rd_T39 l0 a2).f3) a3).f4) ((rd_T42 ((rd_T39 l0 a2).f3) a3).f5) ((rd_T42 ((rd_T39 l0 a2).f3) a3).f6) true) = some (r1, r2, r3) := H
              have A15 := Aside0.mk A150
              clear A150
              have H' := Aside0.mk H
              clear H
              have hcz16_0 : w12.cell? ⟨gb128, 0, none⟩ = some (.string ((rd_T42 ((rd_T39 l0 a2).f3) a3).f0)) := (blk_cell BK128.out 0).trans rfl
              have hcz16_1 : w12.cell? ⟨gb128, 1, none⟩ = some (.string ((rd_T42 ((rd_T39 l0 a2).f3) a3).f1)) := (blk_cell BK128.out 1).trans rfl
              have hcz16_2 : w12.cell? ⟨gb128, 2, none⟩ = some (.int .u64 ((rd_T42 ((rd_T39 l0 a2).f3) a3).f2)) := (blk_cell BK128.out 2).trans rfl
              have hcz16_3 : w12.cell? ⟨gb128, 3, none⟩ = some (.int .u64 ((rd_T42 ((rd_T39 l0 a2).f3) a3).f3)) := (blk_cell BK128.out 3).trans rfl
              have hcz16_4 : w12.cell? ⟨gb128, 4, none⟩ = some (.int .i64 ((rd_T42 ((rd_T39 l0 a2).f3) a3).f4)) := (blk_cell BK128.out 4).trans rfl
              have hcz16_5 : w12.cell? ⟨gb128, 5, none⟩ = some (.int .i64 ((rd_T42 ((rd_T39 l0 a2).f3) a3).f5)) := (blk_cell BK128.out 5).trans rfl
              have hcz16_6 : w12.cell? ⟨gb128, 6, none⟩ = some (.int .i64 ((rd_T42 ((rd_T39 l0 a2).f3) a3).f6)) := (blk_cell BK128.out 6).trans rfl
              have hcz16_7 : w12.cell? ⟨gb128, 7, none⟩ = some (.bool true) := (blk_cell BK128.out 7).trans (by first | with_reducible rfl | (rw [← Nbq13.out]; rfl) | rfl)
              have hfz16_0 := blk_frozen BK128.out 0
              have hfz16_1 := blk_frozen BK128.out 1
              have hfz16_2 := blk_frozen BK128.out 2
              have hfz16_3 := blk_frozen BK128.out 3
              have hfz16_4 := blk_frozen BK128.out 4
              have hfz16_5 := blk_frozen BK128.out 5
              have hfz16_6 := blk_frozen BK128.out 6
              have hfz16_7 := blk_frozen BK128.out 7
              go_wp2_with (first | (go_at_call 22; (with_reducible refine (hash_Shown.calls ((rd_T42 ((rd_T39 l0 a2).f3) a3).f0) ((rd_T42 ((rd_T39 l0 a2).f3) a3).f1) ((rd_T42 ((rd_T39 l0 a2).f3) a3).f2) ((rd_T42 ((rd_T39 l0 a2).f3) a3).f3) ((rd_T42 ((rd_T39 l0 a2).f3) a3).f4) ((rd_T42 ((rd_T39 l0 a2).f3) a3).f5) ((rd_T42 ((rd_T39 l0 a2).f3) a3).f6) true t129 _ A15.out).mono ?_); rintro e w17 ⟨rfl, hb⟩; have n0_ := Aside0.mk (blk_below (g := gb128) (o := .cells #[.string ((rd_T42 ((rd_T39 l0 a2).f3) a3).f0), .string ((rd_T42 ((rd_T39 l0 a2).f3) a3).f1), .int .u64 ((rd_T42 ((rd_T39 l0 a2).f3) a3).f2), .int .u64 ((rd_T42 ((rd_T39 l0 a2).f3) a3).f3), .int .i64 ((rd_T42 ((rd_T39 l0 a2).f3) a3).f4), .int .i64 ((rd_T42 ((rd_T39 l0 a2).f3) a3).f5), .int .i64 ((rd_T42 ((rd_T39 l0 a2).f3) a3).f6), .bool true] 42 (0, 0)) (by (with_reducible repeat (first | refine blk_drewN ?_ _ | refine blk_drew ?_ | refine blk_alloc ?_ _)); exact BK128.out) hb); have n1_ := Aside0.mk (below_step (by repeat (first | (with_reducible first | exact HB.out | apply below_alloc | apply pw_below_drewN | apply below_drew1 | refine below_set ?_ GE128.out) | exact HB.out)) hb); clear BK128; clear HB; have BK128 := n0_; have HB := n1_; clear n0_ n1_; (try clear hb); (try clear hb2); (try clear hk); (try clear hi)))
              go_meet
              case rel => exact ⟨_, (!t129), (by first | rfl | (simp; done) | (simp [*]; done)), (by first | exact H' | (rw [← Nbq13.out]; exact H')), ⟨by first | omega | exact Nat.le_refl _⟩, ⟨by (with_reducible repeat (first | refine blk_drewN ?_ _ | refine blk_drew ?_ | refine blk_alloc ?_ _)); first | exact BK128.out | (rw [← Nbq13.out]; exact BK128.out)⟩, ⟨by repeat (first | (with_reducible first | exact HB.out | apply below_alloc | apply pw_below_drewN | apply below_drew1 | refine below_set ?_ GE128.out) | exact HB.out)⟩⟩
            · replace c14 := Bool.eq_false_iff.mpr c14
              subst c14
              have H1 : (lookup_Bind.j0 k l0 l1 a2 a3 false ((rd_T42 ((rd_T39 l0 a2).f3) a3).f0) ((rd_T42 ((rd_T39 l0 a2).f3) a3).f1) ((rd_T42 ((rd_T39 l0 a2).f3) a3).f2) ((rd_T42 ((rd_T39 l0 a2).f3) a3).f3) ((rd_T42 ((rd_T39 l0 a2).f3) a3).f4) ((rd_T42 ((rd_T39 l0 a2).f3) a3).f5) ((rd_T42 ((rd_T39 l0 a2).f3) a3).f6) false) = some (r1, r2, r3) := by rw [if_neg (show ¬ (false = true) by decide)] at H; exact H
              clear H
              have H := H1
              clear H1
              have H' := Aside0.mk H
              clear H
              have hcz18_0 : w12.cell? ⟨gb128, 0, none⟩ = some (.string ((rd_T42 ((rd_T39 l0 a2).f3) a3).f0)) := (blk_cell BK128.out 0).trans rfl
              have hcz18_1 : w12.cell? ⟨gb128, 1, none⟩ = some (.string ((rd_T42 ((rd_T39 l0 a2).f3) a3).f1)) := (blk_cell BK128.out 1).trans rfl
              have hcz18_2 : w12.cell? ⟨gb128, 2, none⟩ = some (.int .u64 ((rd_T42 ((rd_T39 l0 a2).f3) a3).f2)) := (blk_cell BK128.out 2).trans rfl
              have hcz18_3 : w12.cell? ⟨gb128, 3, none⟩ = some (.int .u64 ((rd_T42 ((rd_T39 l0 a2).f3) a3).f3)) := (blk_cell BK128.out 3).trans rfl
              have hcz18_4 : w12.cell? ⟨gb128, 4, none⟩ = some (.int .i64 ((rd_T42 ((rd_T39 l0 a2).f3) a3).f4)) := (blk_cell BK128.out 4).trans rfl
              have hcz18_5 : w12.cell? ⟨gb128, 5, none⟩ = some (.int .i64 ((rd_T42 ((rd_T39 l0 a2).f3) a3).f5)) := (blk_cell BK128.out 5).trans rfl
              have hcz18_6 : w12.cell? ⟨gb128, 6, none⟩ = some (.int .i64 ((rd_T42 ((rd_T39 l0 a2).f3) a3).f6)) := (blk_cell BK128.out 6).trans rfl
              have hcz18_7 : w12.cell? ⟨gb128, 7, none⟩ = some (.bool false) := (blk_cell BK128.out 7).trans (by first | with_reducible rfl | (rw [← Nbq13.out]; rfl) | rfl)
              have hfz18_0 := blk_frozen BK128.out 0
              have hfz18_1 := blk_frozen BK128.out 1
              have hfz18_2 := blk_frozen BK128.out 2
              have hfz18_3 := blk_frozen BK128.out 3
              have hfz18_4 := blk_frozen BK128.out 4
              have hfz18_5 := blk_frozen BK128.out 5
              have hfz18_6 := blk_frozen BK128.out 6
              have hfz18_7 := blk_frozen BK128.out 7
              go_wp2
              go_meet
              case rel => exact ⟨_, (false), (by first | rfl | (simp; done) | (simp [*]; done)), (by first | exact H' | (rw [← Nbq13.out]; exact H')), ⟨by first | omega | exact Nat.le_refl _⟩, ⟨by (with_reducible repeat (first | refine blk_drewN ?_ _ | refine blk_drew ?_ | refine blk_alloc ?_ _)); first | exact BK128.out | (rw [← Nbq13.out]; exact BK128.out)⟩, ⟨by repeat (first | (with_reducible first | exact HB.out | apply below_alloc | apply pw_below_drewN | apply below_drew1 | refine below_set ?_ GE128.out) | exact HB.out)⟩⟩
          case rest =>
            clear HC9
            try clear c1
            try clear p1
            try clear q1
            try clear hx1
            try clear p2
            try clear c5
            try clear c5b0
            try clear c6
            try clear c6b0
            try clear c7
            try clear c7b0
            try clear c8
            try clear c8b0
            try clear c12
            try clear p12
            try clear q12
            try clear hx12
            try clear q13
            try clear c14
            try clear c16
            try clear hcz11_0
            try clear hcz11_1
            try clear hcz11_2
            try clear hcz11_3
            try clear hcz11_4
            try clear hcz11_5
            try clear hcz11_6
            try clear hcz11_7
            try clear hcz16_0
            try clear hcz16_1
            try clear hcz16_2
            try clear hcz16_3
            try clear hcz16_4
            try clear hcz16_5
            try clear hcz16_6
            try clear hcz16_7
            try clear hcz18_0
            try clear hcz18_1
            try clear hcz18_2
            try clear hcz18_3
            try clear hcz18_4
            try clear hcz18_5
            try clear hcz18_6
            try clear hcz18_7
            try clear hfz11_0
            try clear hfz11_1
            try clear hfz11_2
            try clear hfz11_3
            try clear hfz11_4
            try clear hfz11_5
            try clear hfz11_6
            try clear hfz11_7
            try clear hfz16_0
            try clear hfz16_1
            try clear hfz16_2
            try clear hfz16_3
            try clear hfz16_4
            try clear hfz16_5
            try clear hfz16_6
            try clear hfz16_7
            try clear hfz18_0
            try clear hfz18_1
            try clear hfz18_2
            try clear hfz18_3
            try clear hfz18_4
            try clear hfz18_5
            try clear hfz18_6
            try clear hfz18_7
            try clear hx126_0
            try clear hx126_1
            try clear hx126_2
            try clear hx126_3
            try clear hx126_4
            try clear hx126_5
            try clear hx126_6
            try clear hx127_0
            try clear hx127_1
            try clear hx127_2
            try clear hx127_3
            try clear hx127_4
            try clear hx127_5
            try clear hx127_6
            try clear hx127_7
            try clear p126
            try clear p127
            try clear q126
            try clear q127
            obtain ⟨kq, x26_8, rfl, HA, HJ8, BK128, HB⟩ := hcut
            cases kq with
            | zero => exact absurd HA.out (by simp [lookup_Bind.j0])
            | succ kj8 =>
              have H := HA.out
              clear HA
              simp only [lookup_Bind.j0] at H
              by_cases c19 : x26_8 = true
              · subst c19
                have H1 : (some (a2, a3, 0)) = some (r1, r2, r3) := by rw [if_pos rfl] at H; exact H
                clear H
                have H := H1
                clear H1
                simp only [Option.some.injEq, Prod.mk.injEq] at H
                obtain ⟨rfl, rfl, rfl⟩ := H
                go_wp2
                go_ret3
                exact ⟨by first | rfl | (simp [errW_none, errW_some] <;> rfl) | (simp [*, errW_none, errW_some] <;> rfl), by repeat (first | (with_reducible first | exact HB.out | apply below_alloc | apply pw_below_drewN | apply below_drew1 | refine below_set ?_ GE128.out) | exact HB.out)⟩
              · replace c19 := Bool.eq_false_iff.mpr c19
                subst c19
                have H1 : ((lookup_In.f kj8 l0 l1 ((rd_T42 ((rd_T39 l0 a2).f3) a3).f0) ((rd_T42 ((rd_T39 l0 a2).f3) a3).f1)).bind fun bt130 => (if bt130.1 ≥ 0 then (some (bt130.1, bt130.2, 0)) else (if ((rd_T42 ((rd_T39 l0 a2).f3) a3).f7) = true then (some (a2, a3, 0)) else (if ((rd_T42 ((rd_T39 l0 a2).f3) a3).f5) = 3 then (some ((-1), (-1), 0)) else (if ((rd_T42 ((rd_T39 l0 a2).f3) a3).f1).toList = ([] : List UInt8) then (some (0, 0, 140)) else ((lookup_Known.f kj8 l0 l1 ((rd_T42 ((rd_T39 l0 a2).f3) a3).f0)).bind fun t132 => (if t132 = true then (some (0, 0, 141)) else (some (0, 0, 140))))))))) = some (r1, r2, r3) := by rw [if_neg (show ¬ (false = true) by decide)] at H; exact H
                clear H
                have H := H1
                clear H1
                replace H := Option.bind_eq_some_iff.mp H
                obtain ⟨⟨t130, t131⟩, A200, H⟩ := H
                replace H : (if t130 ≥ 0 then (some (t130, t131, 0)) else (if ((rd_T42 ((rd_T39 l0 a2).f3) a3).f7) = true then (some (a2, a3, 0)) else (if ((rd_T42 ((rd_T39 l0 a2).f3) a3).f5) = 3 then (some ((-1), (-1), 0)) else (if ((rd_T42 ((rd_T39 l0 a2).f3) a3).f1).toList = ([] : List UInt8) then (some (0, 0, 140)) else ((lookup_Known.f kj8 l0 l1 ((rd_T42 ((rd_T39 l0 a2).f3) a3).f0)).bind fun t132 => (if t132 = true then (some (0, 0, 141)) else (some (0, 0, 140)))))))) = some (r1, r2, r3) := H
                have A20 := Aside0.mk A200
                clear A200
                by_cases c21 : t130 ≥ 0
                · rw [if_pos c21] at H
                  have c21b0 : decide (0 ≤ t130) = true := decide_eq_true c21
                  clear c21
                  simp only [Option.some.injEq, Prod.mk.injEq] at H
                  obtain ⟨rfl, rfl, rfl⟩ := H
                  have hcz22_0 : wc.cell? ⟨gb128, 0, none⟩ = some (.string ((rd_T42 ((rd_T39 l0 a2).f3) a3).f0)) := (blk_cell BK128.out 0).trans rfl
                  have hcz22_1 : wc.cell? ⟨gb128, 1, none⟩ = some (.string ((rd_T42 ((rd_T39 l0 a2).f3) a3).f1)) := (blk_cell BK128.out 1).trans rfl
                  have hcz22_2 : wc.cell? ⟨gb128, 2, none⟩ = some (.int .u64 ((rd_T42 ((rd_T39 l0 a2).f3) a3).f2)) := (blk_cell BK128.out 2).trans rfl
                  have hcz22_3 : wc.cell? ⟨gb128, 3, none⟩ = some (.int .u64 ((rd_T42 ((rd_T39 l0 a2).f3) a3).f3)) := (blk_cell BK128.out 3).trans rfl
                  have hcz22_4 : wc.cell? ⟨gb128, 4, none⟩ = some (.int .i64 ((rd_T42 ((rd_T39 l0 a2).f3) a3).f4)) := (blk_cell BK128.out 4).trans rfl
                  have hcz22_5 : wc.cell? ⟨gb128, 5, none⟩ = some (.int .i64 ((rd_T42 ((rd_T39 l0 a2).f3) a3).f5)) := (blk_cell BK128.out 5).trans rfl
                  have hcz22_6 : wc.cell? ⟨gb128, 6, none⟩ = some (.int .i64 ((rd_T42 ((rd_T39 l0 a2).f3) a3).f6)) := (blk_cell BK128.out 6).trans rfl
                  have hcz22_7 : wc.cell? ⟨gb128, 7, none⟩ = some (.bool ((rd_T42 ((rd_T39 l0 a2).f3) a3).f7)) := (blk_cell BK128.out 7).trans rfl
                  have hfz22_0 := blk_frozen BK128.out 0
                  have hfz22_1 := blk_frozen BK128.out 1
                  have hfz22_2 := blk_frozen BK128.out 2
                  have hfz22_3 := blk_frozen BK128.out 3
                  have hfz22_4 := blk_frozen BK128.out 4
                  have hfz22_5 := blk_frozen BK128.out 5
                  have hfz22_6 := blk_frozen BK128.out 6
                  have hfz22_7 := blk_frozen BK128.out 7
                  go_wp2_with (first | ((with_reducible refine gate_dst (N := 36) rfl ?_); (with_reducible refine gate_callee (f := 23) rfl ?_); refine goesL_ (some 36) rfl rfl Try.func23 (by kernel_rfl) rfl #[.slice (some ad126) l0.length c0, .slice A1 l1.length c1, .string ((rd_T42 ((rd_T39 l0 a2).f3) a3).f0), .string ((rd_T42 ((rd_T39 l0 a2).f3) a3).f1)] rfl (by (try simp only [List.map_toArray, List.map_cons, List.map_nil]); first | done | rfl | (simp only [List.length_drop, List.length_take]; rfl)) ?_; (with_reducible refine (lookup_In.calls kj8 _ _ l0 _ _ l1 ((rd_T42 ((rd_T39 l0 a2).f3) a3).f0) ((rd_T42 ((rd_T39 l0 a2).f3) a3).f1) t130 t131 _ ?side1 ?side2 ?side3 ?side4 A20.out).mono ?_); (case side1 => repeat (first | exact (Kd.C_below HR0.out HB.out) | (with_reducible refine Kd.C_alloc ?_ _) | (with_reducible refine Kd.C_drewN ?_ _) | (with_reducible refine Kd.C_drew ?_))); (case side2 => exact HC0.out); (case side3 => repeat (first | exact (Kd.C_below HR1.out HB.out) | (with_reducible refine Kd.C_alloc ?_ _) | (with_reducible refine Kd.C_drewN ?_ _) | (with_reducible refine Kd.C_drew ?_))); (case side4 => exact HC1.out); rintro e w23 ⟨rfl, hb⟩; refine ⟨_, rfl, ?_⟩; have n0_ := Aside0.mk (blk_below (g := gb128) (o := .cells #[.string ((rd_T42 ((rd_T39 l0 a2).f3) a3).f0), .string ((rd_T42 ((rd_T39 l0 a2).f3) a3).f1), .int .u64 ((rd_T42 ((rd_T39 l0 a2).f3) a3).f2), .int .u64 ((rd_T42 ((rd_T39 l0 a2).f3) a3).f3), .int .i64 ((rd_T42 ((rd_T39 l0 a2).f3) a3).f4), .int .i64 ((rd_T42 ((rd_T39 l0 a2).f3) a3).f5), .int .i64 ((rd_T42 ((rd_T39 l0 a2).f3) a3).f6), .bool ((rd_T42 ((rd_T39 l0 a2).f3) a3).f7)] 42 (0, 0)) (by (with_reducible repeat (first | refine blk_drewN ?_ _ | refine blk_drew ?_ | refine blk_alloc ?_ _)); exact BK128.out) hb); have n1_ := Aside0.mk (below_step (by repeat (first | (with_reducible first | exact HB.out | apply below_alloc | apply pw_below_drewN | apply below_drew1 | refine below_set ?_ GE128.out) | exact HB.out)) hb); clear BK128; clear HB; have BK128 := n0_; have HB := n1_; clear n0_ n1_; (try clear hb); (try clear hb2); (try clear hk); (try clear hi)))
                  go_ret3
                  exact ⟨by first | rfl | (simp [errW_none, errW_some] <;> rfl) | (simp [*, errW_none, errW_some] <;> rfl), by repeat (first | (with_reducible first | exact HB.out | apply below_alloc | apply pw_below_drewN | apply below_drew1 | refine below_set ?_ GE128.out) | exact HB.out)⟩
                · rw [if_neg c21] at H
                  have c21b0 : decide (0 ≤ t130) = false := decide_eq_false c21
                  clear c21
                  by_cases c24 : ((rd_T42 ((rd_T39 l0 a2).f3) a3).f7) = true
                  · rw [if_pos c24] at H
                    have c24b0 : ((rd_T42 ((rd_T39 l0 a2).f3) a3).f7) = true := c24
                    clear c24
                    simp only [Option.some.injEq, Prod.mk.injEq] at H
                    obtain ⟨rfl, rfl, rfl⟩ := H
                    have hcz25_0 : wc.cell? ⟨gb128, 0, none⟩ = some (.string ((rd_T42 ((rd_T39 l0 a2).f3) a3).f0)) := (blk_cell BK128.out 0).trans rfl
                    have hcz25_1 : wc.cell? ⟨gb128, 1, none⟩ = some (.string ((rd_T42 ((rd_T39 l0 a2).f3) a3).f1)) := (blk_cell BK128.out 1).trans rfl
                    have hcz25_2 : wc.cell? ⟨gb128, 2, none⟩ = some (.int .u64 ((rd_T42 ((rd_T39 l0 a2).f3) a3).f2)) := (blk_cell BK128.out 2).trans rfl
                    have hcz25_3 : wc.cell? ⟨gb128, 3, none⟩ = some (.int .u64 ((rd_T42 ((rd_T39 l0 a2).f3) a3).f3)) := (blk_cell BK128.out 3).trans rfl
                    have hcz25_4 : wc.cell? ⟨gb128, 4, none⟩ = some (.int .i64 ((rd_T42 ((rd_T39 l0 a2).f3) a3).f4)) := (blk_cell BK128.out 4).trans rfl
                    have hcz25_5 : wc.cell? ⟨gb128, 5, none⟩ = some (.int .i64 ((rd_T42 ((rd_T39 l0 a2).f3) a3).f5)) := (blk_cell BK128.out 5).trans rfl
                    have hcz25_6 : wc.cell? ⟨gb128, 6, none⟩ = some (.int .i64 ((rd_T42 ((rd_T39 l0 a2).f3) a3).f6)) := (blk_cell BK128.out 6).trans rfl
                    have hcz25_7 : wc.cell? ⟨gb128, 7, none⟩ = some (.bool ((rd_T42 ((rd_T39 l0 a2).f3) a3).f7)) := (blk_cell BK128.out 7).trans rfl
                    have hfz25_0 := blk_frozen BK128.out 0
                    have hfz25_1 := blk_frozen BK128.out 1
                    have hfz25_2 := blk_frozen BK128.out 2
                    have hfz25_3 := blk_frozen BK128.out 3
                    have hfz25_4 := blk_frozen BK128.out 4
                    have hfz25_5 := blk_frozen BK128.out 5
                    have hfz25_6 := blk_frozen BK128.out 6
                    have hfz25_7 := blk_frozen BK128.out 7
                    go_wp2_with (first | ((with_reducible refine gate_dst (N := 36) rfl ?_); (with_reducible refine gate_callee (f := 23) rfl ?_); refine goesL_ (some 36) rfl rfl Try.func23 (by kernel_rfl) rfl #[.slice (some ad126) l0.length c0, .slice A1 l1.length c1, .string ((rd_T42 ((rd_T39 l0 a2).f3) a3).f0), .string ((rd_T42 ((rd_T39 l0 a2).f3) a3).f1)] rfl (by (try simp only [List.map_toArray, List.map_cons, List.map_nil]); first | done | rfl | (simp only [List.length_drop, List.length_take]; rfl)) ?_; (with_reducible refine (lookup_In.calls kj8 _ _ l0 _ _ l1 ((rd_T42 ((rd_T39 l0 a2).f3) a3).f0) ((rd_T42 ((rd_T39 l0 a2).f3) a3).f1) t130 t131 _ ?side1 ?side2 ?side3 ?side4 A20.out).mono ?_); (case side1 => repeat (first | exact (Kd.C_below HR0.out HB.out) | (with_reducible refine Kd.C_alloc ?_ _) | (with_reducible refine Kd.C_drewN ?_ _) | (with_reducible refine Kd.C_drew ?_))); (case side2 => exact HC0.out); (case side3 => repeat (first | exact (Kd.C_below HR1.out HB.out) | (with_reducible refine Kd.C_alloc ?_ _) | (with_reducible refine Kd.C_drewN ?_ _) | (with_reducible refine Kd.C_drew ?_))); (case side4 => exact HC1.out); rintro e w26 ⟨rfl, hb⟩; refine ⟨_, rfl, ?_⟩; have n0_ := Aside0.mk (blk_below (g := gb128) (o := .cells #[.string ((rd_T42 ((rd_T39 l0 a2).f3) a3).f0), .string ((rd_T42 ((rd_T39 l0 a2).f3) a3).f1), .int .u64 ((rd_T42 ((rd_T39 l0 a2).f3) a3).f2), .int .u64 ((rd_T42 ((rd_T39 l0 a2).f3) a3).f3), .int .i64 ((rd_T42 ((rd_T39 l0 a2).f3) a3).f4), .int .i64 ((rd_T42 ((rd_T39 l0 a2).f3) a3).f5), .int .i64 ((rd_T42 ((rd_T39 l0 a2).f3) a3).f6), .bool ((rd_T42 ((rd_T39 l0 a2).f3) a3).f7)] 42 (0, 0)) (by (with_reducible repeat (first | refine blk_drewN ?_ _ | refine blk_drew ?_ | refine blk_alloc ?_ _)); exact BK128.out) hb); have n1_ := Aside0.mk (below_step (by repeat (first | (with_reducible first | exact HB.out | apply below_alloc | apply pw_below_drewN | apply below_drew1 | refine below_set ?_ GE128.out) | exact HB.out)) hb); clear BK128; clear HB; have BK128 := n0_; have HB := n1_; clear n0_ n1_; (try clear hb); (try clear hb2); (try clear hk); (try clear hi); obtain ⟨hcz27_0, hcz27_1, hcz27_2, hcz27_3, hcz27_4, hcz27_5, hcz27_6, hcz27_7, hfz27_0, hfz27_1, hfz27_2, hfz27_3, hfz27_4, hfz27_5, hfz27_6, hfz27_7⟩ := cells8 BK128.out))
                    go_ret3
                    exact ⟨by first | rfl | (simp [errW_none, errW_some] <;> rfl) | (simp [*, errW_none, errW_some] <;> rfl), by repeat (first | (with_reducible first | exact HB.out | apply below_alloc | apply pw_below_drewN | apply below_drew1 | refine below_set ?_ GE128.out) | exact HB.out)⟩
                  · rw [if_neg c24] at H
                    have c24b0 : ((rd_T42 ((rd_T39 l0 a2).f3) a3).f7) = false := by simpa using c24
                    clear c24
                    by_cases c28 : ((rd_T42 ((rd_T39 l0 a2).f3) a3).f5) = 3
                    · rw [if_pos c28] at H
                      have c28b0 : (((rd_T42 ((rd_T39 l0 a2).f3) a3).f5) == 3) = true := beq_iff_eq.mpr c28
                      have c28b1 : (((rd_T42 ((rd_T39 l0 a2).f3) a3).f5) != 3) = false := bne_eq_false_iff_eq.mpr c28
                      clear c28
                      simp only [Option.some.injEq, Prod.mk.injEq] at H
                      obtain ⟨rfl, rfl, rfl⟩ := H
                      have hcz29_0 : wc.cell? ⟨gb128, 0, none⟩ = some (.string ((rd_T42 ((rd_T39 l0 a2).f3) a3).f0)) := (blk_cell BK128.out 0).trans rfl
                      have hcz29_1 : wc.cell? ⟨gb128, 1, none⟩ = some (.string ((rd_T42 ((rd_T39 l0 a2).f3) a3).f1)) := (blk_cell BK128.out 1).trans rfl
                      have hcz29_2 : wc.cell? ⟨gb128, 2, none⟩ = some (.int .u64 ((rd_T42 ((rd_T39 l0 a2).f3) a3).f2)) := (blk_cell BK128.out 2).trans rfl
                      have hcz29_3 : wc.cell? ⟨gb128, 3, none⟩ = some (.int .u64 ((rd_T42 ((rd_T39 l0 a2).f3) a3).f3)) := (blk_cell BK128.out 3).trans rfl
                      have hcz29_4 : wc.cell? ⟨gb128, 4, none⟩ = some (.int .i64 ((rd_T42 ((rd_T39 l0 a2).f3) a3).f4)) := (blk_cell BK128.out 4).trans rfl
                      have hcz29_5 : wc.cell? ⟨gb128, 5, none⟩ = some (.int .i64 ((rd_T42 ((rd_T39 l0 a2).f3) a3).f5)) := (blk_cell BK128.out 5).trans rfl
                      have hcz29_6 : wc.cell? ⟨gb128, 6, none⟩ = some (.int .i64 ((rd_T42 ((rd_T39 l0 a2).f3) a3).f6)) := (blk_cell BK128.out 6).trans rfl
                      have hcz29_7 : wc.cell? ⟨gb128, 7, none⟩ = some (.bool ((rd_T42 ((rd_T39 l0 a2).f3) a3).f7)) := (blk_cell BK128.out 7).trans rfl
                      have hfz29_0 := blk_frozen BK128.out 0
                      have hfz29_1 := blk_frozen BK128.out 1
                      have hfz29_2 := blk_frozen BK128.out 2
                      have hfz29_3 := blk_frozen BK128.out 3
                      have hfz29_4 := blk_frozen BK128.out 4
                      have hfz29_5 := blk_frozen BK128.out 5
                      have hfz29_6 := blk_frozen BK128.out 6
                      have hfz29_7 := blk_frozen BK128.out 7
                      go_wp2_with (first | ((with_reducible refine gate_dst (N := 36) rfl ?_); (with_reducible refine gate_callee (f := 23) rfl ?_); refine goesL_ (some 36) rfl rfl Try.func23 (by kernel_rfl) rfl #[.slice (some ad126) l0.length c0, .slice A1 l1.length c1, .string ((rd_T42 ((rd_T39 l0 a2).f3) a3).f0), .string ((rd_T42 ((rd_T39 l0 a2).f3) a3).f1)] rfl (by (try simp only [List.map_toArray, List.map_cons, List.map_nil]); first | done | rfl | (simp only [List.length_drop, List.length_take]; rfl)) ?_; (with_reducible refine (lookup_In.calls kj8 _ _ l0 _ _ l1 ((rd_T42 ((rd_T39 l0 a2).f3) a3).f0) ((rd_T42 ((rd_T39 l0 a2).f3) a3).f1) t130 t131 _ ?side1 ?side2 ?side3 ?side4 A20.out).mono ?_); (case side1 => repeat (first | exact (Kd.C_below HR0.out HB.out) | (with_reducible refine Kd.C_alloc ?_ _) | (with_reducible refine Kd.C_drewN ?_ _) | (with_reducible refine Kd.C_drew ?_))); (case side2 => exact HC0.out); (case side3 => repeat (first | exact (Kd.C_below HR1.out HB.out) | (with_reducible refine Kd.C_alloc ?_ _) | (with_reducible refine Kd.C_drewN ?_ _) | (with_reducible refine Kd.C_drew ?_))); (case side4 => exact HC1.out); rintro e w30 ⟨rfl, hb⟩; refine ⟨_, rfl, ?_⟩; have n0_ := Aside0.mk (blk_below (g := gb128) (o := .cells #[.string ((rd_T42 ((rd_T39 l0 a2).f3) a3).f0), .string ((rd_T42 ((rd_T39 l0 a2).f3) a3).f1), .int .u64 ((rd_T42 ((rd_T39 l0 a2).f3) a3).f2), .int .u64 ((rd_T42 ((rd_T39 l0 a2).f3) a3).f3), .int .i64 ((rd_T42 ((rd_T39 l0 a2).f3) a3).f4), .int .i64 ((rd_T42 ((rd_T39 l0 a2).f3) a3).f5), .int .i64 ((rd_T42 ((rd_T39 l0 a2).f3) a3).f6), .bool ((rd_T42 ((rd_T39 l0 a2).f3) a3).f7)] 42 (0, 0)) (by (with_reducible repeat (first | refine blk_drewN ?_ _ | refine blk_drew ?_ | refine blk_alloc ?_ _)); exact BK128.out) hb); have n1_ := Aside0.mk (below_step (by repeat (first | (with_reducible first | exact HB.out | apply below_alloc | apply pw_below_drewN | apply below_drew1 | refine below_set ?_ GE128.out) | exact HB.out)) hb); clear BK128; clear HB; have BK128 := n0_; have HB := n1_; clear n0_ n1_; (try clear hb); (try clear hb2); (try clear hk); (try clear hi); obtain ⟨hcz31_0, hcz31_1, hcz31_2, hcz31_3, hcz31_4, hcz31_5, hcz31_6, hcz31_7, hfz31_0, hfz31_1, hfz31_2, hfz31_3, hfz31_4, hfz31_5, hfz31_6, hfz31_7⟩ := cells8 BK128.out))
                      go_ret3
                      exact ⟨by first | rfl | (simp [errW_none, errW_some] <;> rfl) | (simp [*, errW_none, errW_some] <;> rfl), by repeat (first | (with_reducible first | exact HB.out | apply below_alloc | apply pw_below_drewN | apply below_drew1 | refine below_set ?_ GE128.out) | exact HB.out)⟩
                    · rw [if_neg c28] at H
                      have c28b0 : (((rd_T42 ((rd_T39 l0 a2).f3) a3).f5) == 3) = false := beq_eq_false_iff_ne.mpr c28
                      have c28b1 : (((rd_T42 ((rd_T39 l0 a2).f3) a3).f5) != 3) = true := bne_iff_ne.mpr c28
                      by_cases c32 : ((rd_T42 ((rd_T39 l0 a2).f3) a3).f1).toList = ([] : List UInt8)
                      · rw [if_pos c32] at H
                        have c32b0 : (((rd_T42 ((rd_T39 l0 a2).f3) a3).f1).toList == ([] : List UInt8)) = true := beq_iff_eq.mpr c32
                        have c32b1 : (((rd_T42 ((rd_T39 l0 a2).f3) a3).f1).toList != ([] : List UInt8)) = false := bne_eq_false_iff_eq.mpr c32
                        clear c32
                        simp only [Option.some.injEq, Prod.mk.injEq] at H
                        obtain ⟨rfl, rfl, rfl⟩ := H
                        have hcz33_0 : wc.cell? ⟨gb128, 0, none⟩ = some (.string ((rd_T42 ((rd_T39 l0 a2).f3) a3).f0)) := (blk_cell BK128.out 0).trans rfl
                        have hcz33_1 : wc.cell? ⟨gb128, 1, none⟩ = some (.string ((rd_T42 ((rd_T39 l0 a2).f3) a3).f1)) := (blk_cell BK128.out 1).trans rfl
                        have hcz33_2 : wc.cell? ⟨gb128, 2, none⟩ = some (.int .u64 ((rd_T42 ((rd_T39 l0 a2).f3) a3).f2)) := (blk_cell BK128.out 2).trans rfl
                        have hcz33_3 : wc.cell? ⟨gb128, 3, none⟩ = some (.int .u64 ((rd_T42 ((rd_T39 l0 a2).f3) a3).f3)) := (blk_cell BK128.out 3).trans rfl
                        have hcz33_4 : wc.cell? ⟨gb128, 4, none⟩ = some (.int .i64 ((rd_T42 ((rd_T39 l0 a2).f3) a3).f4)) := (blk_cell BK128.out 4).trans rfl
                        have hcz33_5 : wc.cell? ⟨gb128, 5, none⟩ = some (.int .i64 ((rd_T42 ((rd_T39 l0 a2).f3) a3).f5)) := (blk_cell BK128.out 5).trans rfl
                        have hcz33_6 : wc.cell? ⟨gb128, 6, none⟩ = some (.int .i64 ((rd_T42 ((rd_T39 l0 a2).f3) a3).f6)) := (blk_cell BK128.out 6).trans rfl
                        have hcz33_7 : wc.cell? ⟨gb128, 7, none⟩ = some (.bool ((rd_T42 ((rd_T39 l0 a2).f3) a3).f7)) := (blk_cell BK128.out 7).trans rfl
                        have hfz33_0 := blk_frozen BK128.out 0
                        have hfz33_1 := blk_frozen BK128.out 1
                        have hfz33_2 := blk_frozen BK128.out 2
                        have hfz33_3 := blk_frozen BK128.out 3
                        have hfz33_4 := blk_frozen BK128.out 4
                        have hfz33_5 := blk_frozen BK128.out 5
                        have hfz33_6 := blk_frozen BK128.out 6
                        have hfz33_7 := blk_frozen BK128.out 7
                        go_wp2_with (first | ((with_reducible refine gate_dst (N := 36) rfl ?_); (with_reducible refine gate_callee (f := 23) rfl ?_); refine goesL_ (some 36) rfl rfl Try.func23 (by kernel_rfl) rfl #[.slice (some ad126) l0.length c0, .slice A1 l1.length c1, .string ((rd_T42 ((rd_T39 l0 a2).f3) a3).f0), .string ((rd_T42 ((rd_T39 l0 a2).f3) a3).f1)] rfl (by (try simp only [List.map_toArray, List.map_cons, List.map_nil]); first | done | rfl | (simp only [List.length_drop, List.length_take]; rfl)) ?_; (with_reducible refine (lookup_In.calls kj8 _ _ l0 _ _ l1 ((rd_T42 ((rd_T39 l0 a2).f3) a3).f0) ((rd_T42 ((rd_T39 l0 a2).f3) a3).f1) t130 t131 _ ?side1 ?side2 ?side3 ?side4 A20.out).mono ?_); (case side1 => repeat (first | exact (Kd.C_below HR0.out HB.out) | (with_reducible refine Kd.C_alloc ?_ _) | (with_reducible refine Kd.C_drewN ?_ _) | (with_reducible refine Kd.C_drew ?_))); (case side2 => exact HC0.out); (case side3 => repeat (first | exact (Kd.C_below HR1.out HB.out) | (with_reducible refine Kd.C_alloc ?_ _) | (with_reducible refine Kd.C_drewN ?_ _) | (with_reducible refine Kd.C_drew ?_))); (case side4 => exact HC1.out); rintro e w34 ⟨rfl, hb⟩; refine ⟨_, rfl, ?_⟩; have n0_ := Aside0.mk (blk_below (g := gb128) (o := .cells #[.string ((rd_T42 ((rd_T39 l0 a2).f3) a3).f0), .string ((rd_T42 ((rd_T39 l0 a2).f3) a3).f1), .int .u64 ((rd_T42 ((rd_T39 l0 a2).f3) a3).f2), .int .u64 ((rd_T42 ((rd_T39 l0 a2).f3) a3).f3), .int .i64 ((rd_T42 ((rd_T39 l0 a2).f3) a3).f4), .int .i64 ((rd_T42 ((rd_T39 l0 a2).f3) a3).f5), .int .i64 ((rd_T42 ((rd_T39 l0 a2).f3) a3).f6), .bool ((rd_T42 ((rd_T39 l0 a2).f3) a3).f7)] 42 (0, 0)) (by (with_reducible repeat (first | refine blk_drewN ?_ _ | refine blk_drew ?_ | refine blk_alloc ?_ _)); exact BK128.out) hb); have n1_ := Aside0.mk (below_step (by repeat (first | (with_reducible first | exact HB.out | apply below_alloc | apply pw_below_drewN | apply below_drew1 | refine below_set ?_ GE128.out) | exact HB.out)) hb); clear BK128; clear HB; have BK128 := n0_; have HB := n1_; clear n0_ n1_; (try clear hb); (try clear hb2); (try clear hk); (try clear hi); obtain ⟨hcz35_0, hcz35_1, hcz35_2, hcz35_3, hcz35_4, hcz35_5, hcz35_6, hcz35_7, hfz35_0, hfz35_1, hfz35_2, hfz35_3, hfz35_4, hfz35_5, hfz35_6, hfz35_7⟩ := cells8 BK128.out))
                        go_ret3
                        exact ⟨by first | rfl | (simp [errW_none, errW_some] <;> rfl) | (simp [*, errW_none, errW_some] <;> rfl), by repeat (first | (with_reducible first | exact HB.out | apply below_alloc | apply pw_below_drewN | apply below_drew1 | refine below_set ?_ GE128.out) | exact HB.out)⟩
                      · rw [if_neg c32] at H
                        have c32b0 : (((rd_T42 ((rd_T39 l0 a2).f3) a3).f1).toList == ([] : List UInt8)) = false := beq_eq_false_iff_ne.mpr c32
                        have c32b1 : (((rd_T42 ((rd_T39 l0 a2).f3) a3).f1).toList != ([] : List UInt8)) = true := bne_iff_ne.mpr c32
                        replace H := Option.bind_eq_some_iff.mp H
                        obtain ⟨t132, A360, H⟩ := H
                        replace H : (if t132 = true then (some (0, 0, 141)) else (some (0, 0, 140))) = some (r1, r2, r3) := H
                        have A36 := Aside0.mk A360
                        clear A360
                        by_cases c37 : t132 = true
                        · subst c37
                          have H1 : (some (0, 0, 141)) = some (r1, r2, r3) := by rw [if_pos rfl] at H; exact H
                          clear H
                          have H := H1
                          clear H1
                          simp only [Option.some.injEq, Prod.mk.injEq] at H
                          obtain ⟨rfl, rfl, rfl⟩ := H
                          have hcz38_0 : wc.cell? ⟨gb128, 0, none⟩ = some (.string ((rd_T42 ((rd_T39 l0 a2).f3) a3).f0)) := (blk_cell BK128.out 0).trans rfl
                          have hcz38_1 : wc.cell? ⟨gb128, 1, none⟩ = some (.string ((rd_T42 ((rd_T39 l0 a2).f3) a3).f1)) := (blk_cell BK128.out 1).trans rfl
                          have hcz38_2 : wc.cell? ⟨gb128, 2, none⟩ = some (.int .u64 ((rd_T42 ((rd_T39 l0 a2).f3) a3).f2)) := (blk_cell BK128.out 2).trans rfl
                          have hcz38_3 : wc.cell? ⟨gb128, 3, none⟩ = some (.int .u64 ((rd_T42 ((rd_T39 l0 a2).f3) a3).f3)) := (blk_cell BK128.out 3).trans rfl
                          have hcz38_4 : wc.cell? ⟨gb128, 4, none⟩ = some (.int .i64 ((rd_T42 ((rd_T39 l0 a2).f3) a3).f4)) := (blk_cell BK128.out 4).trans rfl
                          have hcz38_5 : wc.cell? ⟨gb128, 5, none⟩ = some (.int .i64 ((rd_T42 ((rd_T39 l0 a2).f3) a3).f5)) := (blk_cell BK128.out 5).trans rfl
                          have hcz38_6 : wc.cell? ⟨gb128, 6, none⟩ = some (.int .i64 ((rd_T42 ((rd_T39 l0 a2).f3) a3).f6)) := (blk_cell BK128.out 6).trans rfl
                          have hcz38_7 : wc.cell? ⟨gb128, 7, none⟩ = some (.bool ((rd_T42 ((rd_T39 l0 a2).f3) a3).f7)) := (blk_cell BK128.out 7).trans rfl
                          have hfz38_0 := blk_frozen BK128.out 0
                          have hfz38_1 := blk_frozen BK128.out 1
                          have hfz38_2 := blk_frozen BK128.out 2
                          have hfz38_3 := blk_frozen BK128.out 3
                          have hfz38_4 := blk_frozen BK128.out 4
                          have hfz38_5 := blk_frozen BK128.out 5
                          have hfz38_6 := blk_frozen BK128.out 6
                          have hfz38_7 := blk_frozen BK128.out 7
                          go_wp2_with (first | ((with_reducible refine gate_dst (N := 36) rfl ?_); (with_reducible refine gate_callee (f := 23) rfl ?_); refine goesL_ (some 36) rfl rfl Try.func23 (by kernel_rfl) rfl #[.slice (some ad126) l0.length c0, .slice A1 l1.length c1, .string ((rd_T42 ((rd_T39 l0 a2).f3) a3).f0), .string ((rd_T42 ((rd_T39 l0 a2).f3) a3).f1)] rfl (by (try simp only [List.map_toArray, List.map_cons, List.map_nil]); first | done | rfl | (simp only [List.length_drop, List.length_take]; rfl)) ?_; (with_reducible refine (lookup_In.calls kj8 _ _ l0 _ _ l1 ((rd_T42 ((rd_T39 l0 a2).f3) a3).f0) ((rd_T42 ((rd_T39 l0 a2).f3) a3).f1) t130 t131 _ ?side1 ?side2 ?side3 ?side4 A20.out).mono ?_); (case side1 => repeat (first | exact (Kd.C_below HR0.out HB.out) | (with_reducible refine Kd.C_alloc ?_ _) | (with_reducible refine Kd.C_drewN ?_ _) | (with_reducible refine Kd.C_drew ?_))); (case side2 => exact HC0.out); (case side3 => repeat (first | exact (Kd.C_below HR1.out HB.out) | (with_reducible refine Kd.C_alloc ?_ _) | (with_reducible refine Kd.C_drewN ?_ _) | (with_reducible refine Kd.C_drew ?_))); (case side4 => exact HC1.out); rintro e w39 ⟨rfl, hb⟩; refine ⟨_, rfl, ?_⟩; have n0_ := Aside0.mk (blk_below (g := gb128) (o := .cells #[.string ((rd_T42 ((rd_T39 l0 a2).f3) a3).f0), .string ((rd_T42 ((rd_T39 l0 a2).f3) a3).f1), .int .u64 ((rd_T42 ((rd_T39 l0 a2).f3) a3).f2), .int .u64 ((rd_T42 ((rd_T39 l0 a2).f3) a3).f3), .int .i64 ((rd_T42 ((rd_T39 l0 a2).f3) a3).f4), .int .i64 ((rd_T42 ((rd_T39 l0 a2).f3) a3).f5), .int .i64 ((rd_T42 ((rd_T39 l0 a2).f3) a3).f6), .bool ((rd_T42 ((rd_T39 l0 a2).f3) a3).f7)] 42 (0, 0)) (by (with_reducible repeat (first | refine blk_drewN ?_ _ | refine blk_drew ?_ | refine blk_alloc ?_ _)); exact BK128.out) hb); have n1_ := Aside0.mk (below_step (by repeat (first | (with_reducible first | exact HB.out | apply below_alloc | apply pw_below_drewN | apply below_drew1 | refine below_set ?_ GE128.out) | exact HB.out)) hb); clear BK128; clear HB; have BK128 := n0_; have HB := n1_; clear n0_ n1_; (try clear hb); (try clear hb2); (try clear hk); (try clear hi); obtain ⟨hcz40_0, hcz40_1, hcz40_2, hcz40_3, hcz40_4, hcz40_5, hcz40_6, hcz40_7, hfz40_0, hfz40_1, hfz40_2, hfz40_3, hfz40_4, hfz40_5, hfz40_6, hfz40_7⟩ := cells8 BK128.out) | (go_at_call 24; (with_reducible refine (lookup_Known.calls kj8 _ _ l0 _ _ l1 ((rd_T42 ((rd_T39 l0 a2).f3) a3).f0) true _ ?side1 ?side2 ?side3 ?side4 A36.out).mono ?_); (case side1 => repeat (first | exact (Kd.C_below HR0.out HB.out) | (with_reducible refine Kd.C_alloc ?_ _) | (with_reducible refine Kd.C_drewN ?_ _) | (with_reducible refine Kd.C_drew ?_))); (case side2 => exact HC0.out); (case side3 => repeat (first | exact (Kd.C_below HR1.out HB.out) | (with_reducible refine Kd.C_alloc ?_ _) | (with_reducible refine Kd.C_drewN ?_ _) | (with_reducible refine Kd.C_drew ?_))); (case side4 => exact HC1.out); rintro e w41 ⟨rfl, hb⟩; have n0_ := Aside0.mk (blk_below (g := gb128) (o := .cells #[.string ((rd_T42 ((rd_T39 l0 a2).f3) a3).f0), .string ((rd_T42 ((rd_T39 l0 a2).f3) a3).f1), .int .u64 ((rd_T42 ((rd_T39 l0 a2).f3) a3).f2), .int .u64 ((rd_T42 ((rd_T39 l0 a2).f3) a3).f3), .int .i64 ((rd_T42 ((rd_T39 l0 a2).f3) a3).f4), .int .i64 ((rd_T42 ((rd_T39 l0 a2).f3) a3).f5), .int .i64 ((rd_T42 ((rd_T39 l0 a2).f3) a3).f6), .bool ((rd_T42 ((rd_T39 l0 a2).f3) a3).f7)] 42 (0, 0)) (by (with_reducible repeat (first | refine blk_drewN ?_ _ | refine blk_drew ?_ | refine blk_alloc ?_ _)); exact BK128.out) hb); have n1_ := Aside0.mk (below_step (by repeat (first | (with_reducible first | exact HB.out | apply below_alloc | apply pw_below_drewN | apply below_drew1 | refine below_set ?_ GE128.out) | exact HB.out)) hb); clear BK128; clear HB; have BK128 := n0_; have HB := n1_; clear n0_ n1_; (try clear hb); (try clear hb2); (try clear hk); (try clear hi)))
                          go_ret3
                          exact ⟨by first | rfl | (simp [errW_none, errW_some] <;> rfl) | (simp [*, errW_none, errW_some] <;> rfl), by repeat (first | (with_reducible first | exact HB.out | apply below_alloc | apply pw_below_drewN | apply below_drew1 | refine below_set ?_ GE128.out) | exact HB.out)⟩
                        · replace c37 := Bool.eq_false_iff.mpr c37
                          subst c37
                          have H1 : (some (0, 0, 140)) = some (r1, r2, r3) := by rw [if_neg (show ¬ (false = true) by decide)] at H; exact H
                          clear H
                          have H := H1
                          clear H1
                          simp only [Option.some.injEq, Prod.mk.injEq] at H
                          obtain ⟨rfl, rfl, rfl⟩ := H
                          have hcz42_0 : wc.cell? ⟨gb128, 0, none⟩ = some (.string ((rd_T42 ((rd_T39 l0 a2).f3) a3).f0)) := (blk_cell BK128.out 0).trans rfl
                          have hcz42_1 : wc.cell? ⟨gb128, 1, none⟩ = some (.string ((rd_T42 ((rd_T39 l0 a2).f3) a3).f1)) := (blk_cell BK128.out 1).trans rfl
                          have hcz42_2 : wc.cell? ⟨gb128, 2, none⟩ = some (.int .u64 ((rd_T42 ((rd_T39 l0 a2).f3) a3).f2)) := (blk_cell BK128.out 2).trans rfl
                          have hcz42_3 : wc.cell? ⟨gb128, 3, none⟩ = some (.int .u64 ((rd_T42 ((rd_T39 l0 a2).f3) a3).f3)) := (blk_cell BK128.out 3).trans rfl
                          have hcz42_4 : wc.cell? ⟨gb128, 4, none⟩ = some (.int .i64 ((rd_T42 ((rd_T39 l0 a2).f3) a3).f4)) := (blk_cell BK128.out 4).trans rfl
                          have hcz42_5 : wc.cell? ⟨gb128, 5, none⟩ = some (.int .i64 ((rd_T42 ((rd_T39 l0 a2).f3) a3).f5)) := (blk_cell BK128.out 5).trans rfl
                          have hcz42_6 : wc.cell? ⟨gb128, 6, none⟩ = some (.int .i64 ((rd_T42 ((rd_T39 l0 a2).f3) a3).f6)) := (blk_cell BK128.out 6).trans rfl
                          have hcz42_7 : wc.cell? ⟨gb128, 7, none⟩ = some (.bool ((rd_T42 ((rd_T39 l0 a2).f3) a3).f7)) := (blk_cell BK128.out 7).trans rfl
                          have hfz42_0 := blk_frozen BK128.out 0
                          have hfz42_1 := blk_frozen BK128.out 1
                          have hfz42_2 := blk_frozen BK128.out 2
                          have hfz42_3 := blk_frozen BK128.out 3
                          have hfz42_4 := blk_frozen BK128.out 4
                          have hfz42_5 := blk_frozen BK128.out 5
                          have hfz42_6 := blk_frozen BK128.out 6
                          have hfz42_7 := blk_frozen BK128.out 7
                          go_wp2_with (first | ((with_reducible refine gate_dst (N := 36) rfl ?_); (with_reducible refine gate_callee (f := 23) rfl ?_); refine goesL_ (some 36) rfl rfl Try.func23 (by kernel_rfl) rfl #[.slice (some ad126) l0.length c0, .slice A1 l1.length c1, .string ((rd_T42 ((rd_T39 l0 a2).f3) a3).f0), .string ((rd_T42 ((rd_T39 l0 a2).f3) a3).f1)] rfl (by (try simp only [List.map_toArray, List.map_cons, List.map_nil]); first | done | rfl | (simp only [List.length_drop, List.length_take]; rfl)) ?_; (with_reducible refine (lookup_In.calls kj8 _ _ l0 _ _ l1 ((rd_T42 ((rd_T39 l0 a2).f3) a3).f0) ((rd_T42 ((rd_T39 l0 a2).f3) a3).f1) t130 t131 _ ?side1 ?side2 ?side3 ?side4 A20.out).mono ?_); (case side1 => repeat (first | exact (Kd.C_below HR0.out HB.out) | (with_reducible refine Kd.C_alloc ?_ _) | (with_reducible refine Kd.C_drewN ?_ _) | (with_reducible refine Kd.C_drew ?_))); (case side2 => exact HC0.out); (case side3 => repeat (first | exact (Kd.C_below HR1.out HB.out) | (with_reducible refine Kd.C_alloc ?_ _) | (with_reducible refine Kd.C_drewN ?_ _) | (with_reducible refine Kd.C_drew ?_))); (case side4 => exact HC1.out); rintro e w43 ⟨rfl, hb⟩; refine ⟨_, rfl, ?_⟩; have n0_ := Aside0.mk (blk_below (g := gb128) (o := .cells #[.string ((rd_T42 ((rd_T39 l0 a2).f3) a3).f0), .string ((rd_T42 ((rd_T39 l0 a2).f3) a3).f1), .int .u64 ((rd_T42 ((rd_T39 l0 a2).f3) a3).f2), .int .u64 ((rd_T42 ((rd_T39 l0 a2).f3) a3).f3), .int .i64 ((rd_T42 ((rd_T39 l0 a2).f3) a3).f4), .int .i64 ((rd_T42 ((rd_T39 l0 a2).f3) a3).f5), .int .i64 ((rd_T42 ((rd_T39 l0 a2).f3) a3).f6), .bool ((rd_T42 ((rd_T39 l0 a2).f3) a3).f7)] 42 (0, 0)) (by (with_reducible repeat (first | refine blk_drewN ?_ _ | refine blk_drew ?_ | refine blk_alloc ?_ _)); exact BK128.out) hb); have n1_ := Aside0.mk (below_step (by repeat (first | (with_reducible first | exact HB.out | apply below_alloc | apply pw_below_drewN | apply below_drew1 | refine below_set ?_ GE128.out) | exact HB.out)) hb); clear BK128; clear HB; have BK128 := n0_; have HB := n1_; clear n0_ n1_; (try clear hb); (try clear hb2); (try clear hk); (try clear hi); obtain ⟨hcz44_0, hcz44_1, hcz44_2, hcz44_3, hcz44_4, hcz44_5, hcz44_6, hcz44_7, hfz44_0, hfz44_1, hfz44_2, hfz44_3, hfz44_4, hfz44_5, hfz44_6, hfz44_7⟩ := cells8 BK128.out) | (go_at_call 24; (with_reducible refine (lookup_Known.calls kj8 _ _ l0 _ _ l1 ((rd_T42 ((rd_T39 l0 a2).f3) a3).f0) false _ ?side1 ?side2 ?side3 ?side4 A36.out).mono ?_); (case side1 => repeat (first | exact (Kd.C_below HR0.out HB.out) | (with_reducible refine Kd.C_alloc ?_ _) | (with_reducible refine Kd.C_drewN ?_ _) | (with_reducible refine Kd.C_drew ?_))); (case side2 => exact HC0.out); (case side3 => repeat (first | exact (Kd.C_below HR1.out HB.out) | (with_reducible refine Kd.C_alloc ?_ _) | (with_reducible refine Kd.C_drewN ?_ _) | (with_reducible refine Kd.C_drew ?_))); (case side4 => exact HC1.out); rintro e w45 ⟨rfl, hb⟩; have n0_ := Aside0.mk (blk_below (g := gb128) (o := .cells #[.string ((rd_T42 ((rd_T39 l0 a2).f3) a3).f0), .string ((rd_T42 ((rd_T39 l0 a2).f3) a3).f1), .int .u64 ((rd_T42 ((rd_T39 l0 a2).f3) a3).f2), .int .u64 ((rd_T42 ((rd_T39 l0 a2).f3) a3).f3), .int .i64 ((rd_T42 ((rd_T39 l0 a2).f3) a3).f4), .int .i64 ((rd_T42 ((rd_T39 l0 a2).f3) a3).f5), .int .i64 ((rd_T42 ((rd_T39 l0 a2).f3) a3).f6), .bool ((rd_T42 ((rd_T39 l0 a2).f3) a3).f7)] 42 (0, 0)) (by (with_reducible repeat (first | refine blk_drewN ?_ _ | refine blk_drew ?_ | refine blk_alloc ?_ _)); exact BK128.out) hb); have n1_ := Aside0.mk (below_step (by repeat (first | (with_reducible first | exact HB.out | apply below_alloc | apply pw_below_drewN | apply below_drew1 | refine below_set ?_ GE128.out) | exact HB.out)) hb); clear BK128; clear HB; have BK128 := n0_; have HB := n1_; clear n0_ n1_; (try clear hb); (try clear hb2); (try clear hk); (try clear hi)))
                          go_ret3
                          exact ⟨by first | rfl | (simp [errW_none, errW_some] <;> rfl) | (simp [*, errW_none, errW_some] <;> rfl), by repeat (first | (with_reducible first | exact HB.out | apply below_alloc | apply pw_below_drewN | apply below_drew1 | refine below_set ?_ GE128.out) | exact HB.out)⟩
        · rw [if_neg c8] at H
          exact absurd H (by simp)
      · rw [if_neg c7] at H
        exact absurd H (by simp)
    · rw [if_neg c6] at H
      exact absurd H (by simp)
  · rw [if_neg c5] at H
    exact absurd H (by simp)

mutual
def plan_Link.l0 : Nat → List (S39) → List Int → List (S28) → List Int → Int → Int → Int → Int → Int → Int → Option ((List (S28)) × Int × Int × Int × Int × Int)
  | 0, _, _, _, _, _, _, _, _, _, _ => none
  | k + 1, x0, x1, x6, x16, x17, x18, x134000, x134001, x134002, x134003 => if x18 < x17 then (if 0 ≤ x18 then (if x18 < (x16.length : Int) then (if 0 ≤ (rd x16 x18) then (if (rd x16 x18) < (x0.length : Int) then (plan_Link.l1 k x0 x1 x6 (rd x16 x18) x16 x17 x18 ((rd_T39 x0 (rd x16 x18)).f4) (((rd_T39 x0 (rd x16 x18)).f4).length : Int) 0 x134000 x134001 x134002 x134003) else (none)) else (none)) else (none)) else (none)) else (some (x6, x134000, x134001, x134002, x134003, 0))
def plan_Link.l1 : Nat → List (S39) → List Int → List (S28) → Int → List Int → Int → Int → List (S44) → Int → Int → Int → Int → Int → Int → Option ((List (S28)) × Int × Int × Int × Int × Int)
  | 0, _, _, _, _, _, _, _, _, _, _, _, _, _, _ => none
  | k + 1, x0, x1, x6, x10, x16, x17, x18, x26, x27, x28, x134000, x134001, x134002, x134003 => if x28 < x27 then (if 0 ≤ x28 then (if x28 < (x26.length : Int) then ((lookup_Bind.f k x0 x1 x10 ((rd_T44 x26 x28).f1)).bind fun bt138 => (if bt138.2.2 = 0 then (if x6.length < 4398046511104 then (plan_Link.l1 k x0 x1 (x6 ++ [(⟨x10, x28, bt138.1, bt138.2.1⟩ : S28)]) x10 x16 x17 x18 x26 x27 (wrap64 (x28 + 1)) x134000 x134001 x134002 x134003) else (none)) else (some (([] : List (S28)), x10, x28, 0, 0, bt138.2.2)))) else (none)) else (none)) else (plan_Link.l0 k x0 x1 x6 x16 x17 (wrap64 (x18 + 1)) x134000 x134001 x134002 x134003)
end
def plan_Link.f (k : Nat) (l0 : List (S39)) (l1 : List Int) (l2 : List Int) : Option ((List (S28)) × Int × Int × Int × Int × Int) := plan_Link.l0 k l0 l1 ([] : List (S28)) l2 (l2.length : Int) 0 0 0 0 0
theorem plan_Link.mono_l : ∀ k, (∀ y0 y1 y2 y3 y4 y5 y6 y7 y8 y9, LeO (plan_Link.l0 k y0 y1 y2 y3 y4 y5 y6 y7 y8 y9) (plan_Link.l0 (k + 1) y0 y1 y2 y3 y4 y5 y6 y7 y8 y9)) ∧ (∀ y0 y1 y2 y3 y4 y5 y6 y7 y8 y9 y10 y11 y12 y13, LeO (plan_Link.l1 k y0 y1 y2 y3 y4 y5 y6 y7 y8 y9 y10 y11 y12 y13) (plan_Link.l1 (k + 1) y0 y1 y2 y3 y4 y5 y6 y7 y8 y9 y10 y11 y12 y13))
  | 0 => ⟨fun _ _ _ _ _ _ _ _ _ _ r h => by simp [plan_Link.l0] at h, fun _ _ _ _ _ _ _ _ _ _ _ _ _ _ r h => by simp [plan_Link.l1] at h⟩
  | k + 1 => by
    obtain ⟨ih0, ih1⟩ := plan_Link.mono_l k
    refine ⟨?_, ?_⟩
    · intro y0 y1 y2 y3 y4 y5 y6 y7 y8 y9
      unfold plan_Link.l0
      repeat' first
      | (with_reducible exact ih0 _ _ _ _ _ _ _ _ _ _)
      | (with_reducible exact ih1 _ _ _ _ _ _ _ _ _ _ _ _ _ _)
      | (with_reducible exact lookup_Bind.mono _ _ _ _ _)
      | (with_reducible exact LeO.refl _)
      | (with_reducible exact LeO.none _)
      | (with_reducible refine LeO.ite ?_ ?_)
      | (with_reducible refine LeO.bind ?_ (fun _ => ?_))
      | exact ih0 _ _ _ _ _ _ _ _ _ _
      | exact ih1 _ _ _ _ _ _ _ _ _ _ _ _ _ _
      | exact lookup_Bind.mono _ _ _ _ _
      | exact LeO.none _
      | refine LeO.ite ?_ ?_
      | refine LeO.bind ?_ (fun _ => ?_)
    · intro y0 y1 y2 y3 y4 y5 y6 y7 y8 y9 y10 y11 y12 y13
      unfold plan_Link.l1
      repeat' first
      | (with_reducible exact ih0 _ _ _ _ _ _ _ _ _ _)
      | (with_reducible exact ih1 _ _ _ _ _ _ _ _ _ _ _ _ _ _)
      | (with_reducible exact lookup_Bind.mono _ _ _ _ _)
      | (with_reducible exact LeO.refl _)
      | (with_reducible exact LeO.none _)
      | (with_reducible refine LeO.ite ?_ ?_)
      | (with_reducible refine LeO.bind ?_ (fun _ => ?_))
      | exact ih0 _ _ _ _ _ _ _ _ _ _
      | exact ih1 _ _ _ _ _ _ _ _ _ _ _ _ _ _
      | exact lookup_Bind.mono _ _ _ _ _
      | exact LeO.none _
      | refine LeO.ite ?_ ?_
      | refine LeO.bind ?_ (fun _ => ?_)
theorem plan_Link.mono : ∀ a0 a1 a2 k, LeO (plan_Link.f k a0 a1 a2) (plan_Link.f (k + 1) a0 a1 a2) := by
  intro a0 a1 a2 k
  obtain ⟨ih0, ih1⟩ := plan_Link.mono_l k
  unfold plan_Link.f
  repeat' first
      | (with_reducible exact ih0 _ _ _ _ _ _ _ _ _ _)
      | (with_reducible exact ih1 _ _ _ _ _ _ _ _ _ _ _ _ _ _)
      | (with_reducible exact lookup_Bind.mono _ _ _ _ _)
      | (with_reducible exact LeO.refl _)
      | (with_reducible exact LeO.none _)
      | (with_reducible refine LeO.ite ?_ ?_)
      | (with_reducible refine LeO.bind ?_ (fun _ => ?_))
      | exact ih0 _ _ _ _ _ _ _ _ _ _
      | exact ih1 _ _ _ _ _ _ _ _ _ _ _ _ _ _
      | exact lookup_Bind.mono _ _ _ _ _
      | exact LeO.none _
      | refine LeO.ite ?_ ?_
      | refine LeO.bind ?_ (fun _ => ?_)
set_option maxHeartbeats 8000000 in
set_option maxRecDepth 100000 in
theorem plan_Link.calls (k : Nat) (A0 : Option Addr) (c0 : Nat) (l0 : List (S39)) (A1 : Option Addr) (c1 : Nat) (l1 : List Int) (A2 : Option Addr) (c2 : Nat) (l2 : List Int) (r1 : List (S28)) (r2 : Int) (r3 : Int) (r4 : Int) (r5 : Int) (r6 : Int) (w : World) (hr0 : Kd.C k39 w A0 l0.length l0) (hc0 : l0.length ≤ c0) (hr1 : Kd.C (Kd.int .i64) w A1 l1.length l1) (hc1 : l1.length ≤ c1) (hr2 : Kd.C (Kd.int .i64) w A2 l2.length l2) (hc2 : l2.length ≤ c2) (h : plan_Link.f k l0 l1 l2 = some (r1, r2, r3, r4, r5, r6)) :
    Calls Try.prog 8 #[.slice A0 l0.length c0, .slice A1 l1.length c1, .slice A2 l2.length c2] w fun e w' => ∃ v0_ : Value, e = .returned (.tuple #[v0_, .agg #[.int .i64 r2, .int .i64 r3, .int .i64 r4, .int .i64 r5], .int .i64 r6]) ∧ Kd.R k28 28 w' w.heap.size (fun _ => True) v0_ r1 ∧ Below w.heap.size w w' := by
  have hu28 := Try.underlying28
  have hu44 := Try.underlying44
  have HR0 := Aside0.mk hr0
  have HC0 := Aside0.mk hc0
  clear hr0 hc0
  have HR1 := Aside0.mk hr1
  have HC1 := Aside0.mk hc1
  clear hr1 hc1
  have HR2 := Aside0.mk hr2
  have HC2 := Aside0.mk hc2
  clear hr2 hc2
  have HB := Aside0.mk (Below.refl w.heap.size w)
  have H : (plan_Link.l0 k l0 l1 ([] : List (S28)) l2 (l2.length : Int) 0 0 0 0 0) = some (r1, r2, r3, r4, r5, r6) := h
  clear h
  have H' := Aside0.mk H
  clear H
  go_enter Try.func8, Try.ntmps8
  go_wp2_with (first | ((with_reducible refine gate_dst (N := 7) rfl ?_); refine box_event ?hg (N := 7) ?hd (cs := #[.int .i64 0, .int .i64 0, .int .i64 0, .int .i64 0]) (t := 28) ?hr ?_; (case hd => rfl); (case hg => rfl); (case hr => first | (go_simp; done) | (go_simp; rfl)); intro gb133 hg w4 hbox hb; have n0_ := Aside0.mk (below_step (by repeat (first | (with_reducible first | exact HB.out | apply below_alloc | apply pw_below_drewN | apply below_drew1) | exact HB.out)) hb); have n1_ := Aside0.mk (hbox); have n2_ := Aside0.mk ((by rw [hg]; exact (below_size (by repeat (first | (with_reducible first | exact HB.out | apply below_alloc | apply pw_below_drewN | apply below_drew1) | exact HB.out))) : w.heap.size ≤ gb133)); have n3_ := Aside0.mk ((by rw [hg]; exact (below_size (by repeat (first | (with_reducible first | exact HB.out | apply below_alloc | apply pw_below_drewN | apply below_drew1) | exact HB.out))) : w.heap.size ≤ gb133)); clear HB; have HB := n0_; have BK133 := n1_; have GW133 := n2_; have GE133 := n3_; clear n0_ n1_ n2_ n3_; clear hb hbox hg))
  go_loopg [6, 18] k (fun kq v6 v18 w' => ∃ (x6_1 : List (S28)) (x18_1 : Int) (x134000_1 : Int) (x134001_1 : Int) (x134002_1 : Int) (x134003_1 : Int), v18 = .int .i64 x18_1 ∧ Aside0 (plan_Link.l0 kq l0 l1 x6_1 l2 (l2.length : Int) x18_1 x134000_1 x134001_1 x134002_1 x134003_1 = some (r1, r2, r3, r4, r5, r6)) ∧ Aside0 (kq ≤ k) ∧ Aside0 (Kd.R k28 28 w' w.heap.size (fun k_ => k_ ≠ gb133) v6 x6_1) ∧ Aside0 (w'.heap[gb133]? = some (.cells #[.int .i64 x134000_1, .int .i64 x134001_1, .int .i64 x134002_1, .int .i64 x134003_1] 28 (0, 0))) ∧ Aside0 (Below w.heap.size w w'))
  case atStart => exact ⟨(([] : List (S28))), (0), (0), (0), (0), (0), (by first | rfl | (simp; done) | (simp [*]; done)), H', ⟨Nat.le_refl _⟩, ⟨by first | exact Kd.R_nil _ _ _ _ _ | exact Kd.N_nil _ _ _ _ _ | exact Kd.V_nil _ _ _ _ _ | exact Kd.Q_nil _ _ _ _ _ | exact Kd.S_nil _ _ _ _ _⟩, ⟨by (with_reducible repeat (first | refine blk_drewN ?_ _ | refine blk_drew ?_ | refine blk_alloc ?_ _)); exact BK133.out⟩, ⟨by repeat (first | (with_reducible first | exact HB.out | apply below_alloc | apply pw_below_drewN | apply below_drew1 | refine below_set ?_ GE133.out) | exact HB.out)⟩⟩
  case round =>
    clear H'
    try clear c1
    try clear c2
    try clear p2
    obtain ⟨x6_1, x18_1, x134000_1, x134001_1, x134002_1, x134003_1, rfl, HA, HK1, HO_6, BK133, HB⟩ := hrel
    cases gk with
    | zero => exact absurd HA.out (by simp [plan_Link.l0])
    | succ k1 =>
      have H := HA.out
      clear HA
      simp only [plan_Link.l0] at H
      by_cases c5 : x18_1 < (l2.length : Int)
      · rw [if_pos c5] at H
        have c5b0 : decide (x18_1 < (l2.length : Int)) = true := decide_eq_true c5
        clear c5
        by_cases c6 : 0 ≤ x18_1
        · rw [if_pos c6] at H
          have c6b0 : decide (0 ≤ x18_1) = true := decide_eq_true c6
          clear c6
          by_cases c7 : x18_1 < (l2.length : Int)
          · rw [if_pos c7] at H
            have c7b0 : decide (x18_1 < (l2.length : Int)) = true := decide_eq_true c7
            clear c7
            by_cases c8 : 0 ≤ (rd l2 x18_1)
            · rw [if_pos c8] at H
              have c8b0 : decide (0 ≤ (rd l2 x18_1)) = true := decide_eq_true c8
              clear c8
              by_cases c9 : (rd l2 x18_1) < (l0.length : Int)
              · rw [if_pos c9] at H
                have c9b0 : decide ((rd l2 x18_1) < (l0.length : Int)) = true := decide_eq_true c9
                clear c9
                have H' := Aside0.mk H
                clear H
                have p134 : 0 ≤ (x18_1 : Int) := of_decide_eq_true (by first | (with_reducible assumption) | assumption)
                have q134 : x18_1 < (l2.length : Int) := of_decide_eq_true (by first | (with_reducible assumption) | assumption)
                obtain ⟨ad134, e134, hx134_0⟩ := Kd.at_int HR2.out x18_1 p134 q134
                cases e134
                replace hx134_0 := (HB.out.cell (World.block_lt_of_cell? w _ hx134_0)).trans hx134_0
                replace p134 := eq_true p134
                replace q134 := eq_true q134
                have p135 : 0 ≤ ((rd l2 x18_1) : Int) := of_decide_eq_true (by first | (with_reducible assumption) | assumption)
                have q135 : (rd l2 x18_1) < (l0.length : Int) := of_decide_eq_true (by first | (with_reducible assumption) | assumption)
                obtain ⟨ad135, A135_1, c135_1, A135_2, c135_2, A135_3, c135_3, A135_4, c135_4, A135_5, c135_5, A135_6, c135_6, e135, hx135_0, hx135_1, hx135_2, hx135_3, hx135_4, hx135_5, hx135_6, hl135_1, hi135_1, hl135_2, hi135_2, hl135_3, hi135_3, hl135_4, hi135_4, hl135_5, hi135_5, hl135_6, hi135_6⟩ := at_T39 HR0.out (rd l2 x18_1) p135 q135
                cases e135
                replace hx135_0 := (HB.out.cell (World.block_lt_of_cell? w _ hx135_0)).trans hx135_0
                replace hx135_1 := (HB.out.cell (World.block_lt_of_cell? w _ hx135_1)).trans hx135_1
                replace hx135_2 := (HB.out.cell (World.block_lt_of_cell? w _ hx135_2)).trans hx135_2
                replace hx135_3 := (HB.out.cell (World.block_lt_of_cell? w _ hx135_3)).trans hx135_3
                replace hx135_4 := (HB.out.cell (World.block_lt_of_cell? w _ hx135_4)).trans hx135_4
                replace hx135_5 := (HB.out.cell (World.block_lt_of_cell? w _ hx135_5)).trans hx135_5
                replace hx135_6 := (HB.out.cell (World.block_lt_of_cell? w _ hx135_6)).trans hx135_6
                have HR135_1 := Aside0.mk hi135_1
                have HC135_1 := Aside0.mk hl135_1
                clear hi135_1 hl135_1
                have HR135_2 := Aside0.mk hi135_2
                have HC135_2 := Aside0.mk hl135_2
                clear hi135_2 hl135_2
                have HR135_3 := Aside0.mk hi135_3
                have HC135_3 := Aside0.mk hl135_3
                clear hi135_3 hl135_3
                have HR135_4 := Aside0.mk hi135_4
                have HC135_4 := Aside0.mk hl135_4
                clear hi135_4 hl135_4
                have HR135_5 := Aside0.mk hi135_5
                have HC135_5 := Aside0.mk hl135_5
                clear hi135_5 hl135_5
                have HR135_6 := Aside0.mk hi135_6
                have HC135_6 := Aside0.mk hl135_6
                clear hi135_6 hl135_6
                replace p135 := eq_true p135
                replace q135 := eq_true q135
                go_wp2
                go_loopg [6, 28] k1 (fun kq v6 v28 w' => ∃ (x6_2 : List (S28)) (x28_2 : Int) (x134000_2 : Int) (x134001_2 : Int) (x134002_2 : Int) (x134003_2 : Int), v28 = .int .i64 x28_2 ∧ Aside0 (plan_Link.l1 kq l0 l1 x6_2 (rd l2 x18_1) l2 (l2.length : Int) x18_1 ((rd_T39 l0 (rd l2 x18_1)).f4) (((rd_T39 l0 (rd l2 x18_1)).f4).length : Int) x28_2 x134000_2 x134001_2 x134002_2 x134003_2 = some (r1, r2, r3, r4, r5, r6)) ∧ Aside0 (kq ≤ k1) ∧ Aside0 (Kd.R k28 28 w' w.heap.size (fun k_ => k_ ≠ gb133) v6 x6_2) ∧ Aside0 (w'.heap[gb133]? = some (.cells #[.int .i64 x134000_2, .int .i64 x134001_2, .int .i64 x134002_2, .int .i64 x134003_2] 28 (0, 0))) ∧ Aside0 (Below w.heap.size w w'))
                case atStart => exact ⟨(x6_1), (0), (x134000_1), (x134001_1), (x134002_1), (x134003_1), (by first | rfl | (simp; done) | (simp [*]; done)), H', ⟨Nat.le_refl _⟩, ⟨by (with_reducible repeat (first | apply Kd.R_alloc | apply Kd.R_drewN | apply Kd.R_drew)); exact HO_6.out⟩, ⟨by (with_reducible repeat (first | refine blk_drewN ?_ _ | refine blk_drew ?_ | refine blk_alloc ?_ _)); exact BK133.out⟩, ⟨by repeat (first | (with_reducible first | exact HB.out | apply below_alloc | apply pw_below_drewN | apply below_drew1 | refine below_set ?_ GE133.out) | exact HB.out)⟩⟩
                case round =>
                  clear H'
                  try clear c1
                  try clear p1
                  try clear q1
                  try clear hx1
                  try clear c2
                  try clear p2
                  try clear c5
                  try clear c5b0
                  try clear c6
                  try clear c6b0
                  try clear c7
                  try clear c7b0
                  try clear c8
                  try clear c8b0
                  try clear c9
                  try clear c9b0
                  try clear hx134_0
                  try clear hx135_0
                  try clear hx135_1
                  try clear hx135_2
                  try clear hx135_3
                  try clear hx135_4
                  try clear hx135_5
                  try clear hx135_6
                  try clear p134
                  try clear p135
                  try clear p2
                  try clear q134
                  try clear q135
                  obtain ⟨x6_2, x28_2, x134000_2, x134001_2, x134002_2, x134003_2, rfl, HA, HK2, HO_6, BK133, HB⟩ := hrel
                  cases gk with
                  | zero => exact absurd HA.out (by simp [plan_Link.l1])
                  | succ k2 =>
                    have H := HA.out
                    clear HA
                    simp only [plan_Link.l1] at H
                    by_cases c10 : x28_2 < (((rd_T39 l0 (rd l2 x18_1)).f4).length : Int)
                    · rw [if_pos c10] at H
                      have c10b0 : decide (x28_2 < (((rd_T39 l0 (rd l2 x18_1)).f4).length : Int)) = true := decide_eq_true c10
                      clear c10
                      by_cases c11 : 0 ≤ x28_2
                      · rw [if_pos c11] at H
                        have c11b0 : decide (0 ≤ x28_2) = true := decide_eq_true c11
                        clear c11
                        by_cases c12 : x28_2 < (((rd_T39 l0 (rd l2 x18_1)).f4).length : Int)
                        · rw [if_pos c12] at H
                          have c12b0 : decide (x28_2 < (((rd_T39 l0 (rd l2 x18_1)).f4).length : Int)) = true := decide_eq_true c12
                          clear c12
                          replace H := Option.bind_eq_some_iff.mp H
                          obtain ⟨⟨t138, t139, t140⟩, A130, H⟩ := H
                          replace H : (if t140 = 0 then (if x6_2.length < 4398046511104 then (plan_Link.l1 k2 l0 l1 (x6_2 ++ [(⟨(rd l2 x18_1), x28_2, t138, t139⟩ : S28)]) (rd l2 x18_1) l2 (l2.length : Int) x18_1 ((rd_T39 l0 (rd l2 x18_1)).f4) (((rd_T39 l0 (rd l2 x18_1)).f4).length : Int) (wrap64 (x28_2 + 1)) x134000_2 x134001_2 x134002_2 x134003_2) else (none)) else (some (([] : List (S28)), (rd l2 x18_1), x28_2, 0, 0, t140))) = some (r1, r2, r3, r4, r5, r6) := H
                          have A13 := Aside0.mk A130
                          clear A130
                          by_cases c14 : t140 = 0
                          · rw [if_pos c14] at H
                            have c14b0 : (t140 == 0) = true := beq_iff_eq.mpr c14
                            have c14b1 : (t140 != 0) = false := bne_eq_false_iff_eq.mpr c14
                            clear c14
                            by_cases c15 : x6_2.length < 4398046511104
                            · rw [if_pos c15] at H
                              have LMc15 := Aside0.mk c15
                              clear c15
                              obtain ⟨y141, hy141⟩ : ∃ y_ : List (S28), y_ = (x6_2 ++ [(⟨(rd l2 x18_1), x28_2, t138, t139⟩ : S28)]) := ⟨_, rfl⟩
                              replace H : (plan_Link.l1 k2 l0 l1 y141 (rd l2 x18_1) l2 (l2.length : Int) x18_1 ((rd_T39 l0 (rd l2 x18_1)).f4) (((rd_T39 l0 (rd l2 x18_1)).f4).length : Int) (wrap64 (x28_2 + 1)) x134000_2 x134001_2 x134002_2 x134003_2) = some (r1, r2, r3, r4, r5, r6) := by first | (rw [hy141]; with_reducible exact H) | (have H2_ := (Option.bind_some _ _).symm.trans H; rw [hy141]; with_reducible exact H2_) | (have H2_ := (Option.bind_some _ _).symm.trans H; with_reducible exact H2_) | with_reducible exact H | (rw [hy141]; exact H) | exact H
                              have Ny141 := Aside0.mk hy141
                              clear hy141
                              have H' := Aside0.mk H
                              clear H
                              have p136 : 0 ≤ (x28_2 : Int) := of_decide_eq_true (by first | (with_reducible assumption) | assumption)
                              have q136 : x28_2 < (((rd_T39 l0 (rd l2 x18_1)).f4).length : Int) := of_decide_eq_true (by first | (with_reducible assumption) | assumption)
                              obtain ⟨ad136, e136, hx136_0, hx136_1⟩ := at_T44 HR135_4.out x28_2 p136 q136
                              cases e136
                              replace hx136_0 := (HB.out.cell (World.block_lt_of_cell? w _ hx136_0)).trans hx136_0
                              replace hx136_1 := (HB.out.cell (World.block_lt_of_cell? w _ hx136_1)).trans hx136_1
                              replace p136 := eq_true p136
                              replace q136 := eq_true q136
                              go_wp2_with (first | ((with_reducible refine gate_dst (N := 12) rfl ?_); refine box_event ?hg (N := 12) ?hd (cs := #[.int .u64 0, .int .i64 0]) (t := 44) ?hr ?_; (case hd => rfl); (case hg => rfl); (case hr => first | (go_simp; done) | (go_simp; rfl)); intro gb137 hg w16 hbox hb; have n0_ := Aside0.mk (Kd.R_below (by (with_reducible repeat (first | apply Kd.R_alloc | apply Kd.R_drewN | apply Kd.R_drew)); exact HO_6.out) hb); have n1_ := Aside0.mk (blk_below (g := gb133) (o := .cells #[.int .i64 x134000_2, .int .i64 x134001_2, .int .i64 x134002_2, .int .i64 x134003_2] 28 (0, 0)) (by (with_reducible repeat (first | refine blk_drewN ?_ _ | refine blk_drew ?_ | refine blk_alloc ?_ _)); exact BK133.out) hb); have n2_ := Aside0.mk (below_step (by repeat (first | (with_reducible first | exact HB.out | apply below_alloc | apply pw_below_drewN | apply below_drew1 | refine below_set ?_ GE133.out) | exact HB.out)) hb); have n3_ := Aside0.mk (hbox); have n4_ := Aside0.mk ((by rw [hg]; exact (below_size (by repeat (first | (with_reducible first | exact HB.out | apply below_alloc | apply pw_below_drewN | apply below_drew1 | refine below_set ?_ GE133.out) | exact HB.out))) : w.heap.size ≤ gb137)); have n5_ := n4_; have n6_ := Aside0.mk ((by rw [hg]; exact Nat.ne_of_lt (blk_lt (g := gb133) (o := .cells #[.int .i64 x134000_2, .int .i64 x134001_2, .int .i64 x134002_2, .int .i64 x134003_2] 28 (0, 0)) (by (with_reducible repeat (first | refine blk_drewN ?_ _ | refine blk_drew ?_ | refine blk_alloc ?_ _)); exact BK133.out)) : gb133 ≠ gb137)); have n7_ := Aside0.mk n6_.out.symm; clear HO_6; clear BK133; clear HB; have HO_6 := n0_; have BK133 := n1_; have HB := n2_; have BK137 := n3_; have GW137 := n4_; have GE137 := n5_; have NB133_137 := n6_; have NB137_133 := n7_; clear n0_ n1_ n2_ n3_ n4_ n5_ n6_ n7_; clear hb hbox hg; have hnb17 := NB137_133.out; have hnc17 := NB133_137.out; obtain ⟨hcz18_0, hcz18_1, hfz18_0, hfz18_1⟩ := cells2 BK137.out) | ((with_reducible refine gate_store (t := 44) (p := 12) rfl ?_); refine store_event (t := 44) (p := 12) (v := ?vo_w19) (w1 := ((w16.setCell ⟨gb137, 0, none⟩ (.int .u64 ((rd_T44 ((rd_T39 l0 (rd l2 x18_1)).f4) x28_2).f0))).setCell ⟨gb137, 1, none⟩ (.int .i64 ((rd_T44 ((rd_T39 l0 (rd l2 x18_1)).f4) x28_2).f1)))) ?hg ?ho ?hn ?hr ?_; (case ho => rfl); (case hg => rfl); (case hn => rfl); (case hr => first | (go_simp; done) | (go_simp; rfl)); intro w19 hw; have n0_ : Aside0 (Kd.R k28 28 w19 w.heap.size (fun k_ => k_ ≠ gb133) u6 x6_2) := ⟨(by rw [hw]; exact (by (with_reducible repeat (first | apply Kd.R_alloc | apply Kd.R_drewN | apply Kd.R_drew)); exact Kd.R_mono (Kd.R_far (p := ⟨gb137, 1, none⟩) (Kd.R_far (p := ⟨gb137, 0, none⟩) (Kd.R_types HO_6.out BK137.out (by decide)) (fun _ hk => hk.2) (.int .u64 ((rd_T44 ((rd_T39 l0 (rd l2 x18_1)).f4) x28_2).f0))) (fun _ hk => hk.2) (.int .i64 ((rd_T44 ((rd_T39 l0 (rd l2 x18_1)).f4) x28_2).f1))) (fun _ hk => hk.1)))⟩; have n1_ : Aside0 (w19.heap[gb133]? = some (.cells #[.int .i64 x134000_2, .int .i64 x134001_2, .int .i64 x134002_2, .int .i64 x134003_2] 28 (0, 0))) := ⟨(by rw [hw]; exact (by (with_reducible repeat (first | refine blk_drewN ?_ _ | refine blk_drew ?_ | refine blk_alloc ?_ _)); refine blk_far ?_ NB133_137.out _; (with_reducible repeat (first | refine blk_drewN ?_ _ | refine blk_drew ?_ | refine blk_alloc ?_ _)); refine blk_far ?_ NB133_137.out _; (with_reducible repeat (first | refine blk_drewN ?_ _ | refine blk_drew ?_ | refine blk_alloc ?_ _)); exact BK133.out))⟩; have n2_ : Aside0 (w19.heap[gb137]? = some (.cells #[.int .u64 ((rd_T44 ((rd_T39 l0 (rd l2 x18_1)).f4) x28_2).f0), .int .i64 ((rd_T44 ((rd_T39 l0 (rd l2 x18_1)).f4) x28_2).f1)] 44 (0, 0))) := ⟨(by rw [hw]; exact (by (with_reducible repeat (first | refine blk_drewN ?_ _ | refine blk_drew ?_ | refine blk_alloc ?_ _)); refine blk_put (cs := #[.int .u64 ((rd_T44 ((rd_T39 l0 (rd l2 x18_1)).f4) x28_2).f0), .int .i64 0]) ?_ 1 _ rfl; (with_reducible repeat (first | refine blk_drewN ?_ _ | refine blk_drew ?_ | refine blk_alloc ?_ _)); refine blk_put (cs := #[.int .u64 0, .int .i64 0]) ?_ 0 _ rfl; (with_reducible repeat (first | refine blk_drewN ?_ _ | refine blk_drew ?_ | refine blk_alloc ?_ _)); exact BK137.out))⟩; have n3_ : Aside0 (Below w.heap.size w w19) := ⟨(by rw [hw]; exact (by repeat (first | (with_reducible first | exact HB.out | apply below_alloc | apply pw_below_drewN | apply below_drew1 | refine below_set ?_ GE133.out | refine below_set ?_ GE137.out) | exact HB.out)))⟩; clear hw; clear HO_6; clear BK133; clear BK137; clear HB; have HO_6 := n0_; have BK133 := n1_; have BK137 := n2_; have HB := n3_; clear n0_ n1_ n2_ n3_; obtain ⟨hcz20_0, hcz20_1, hfz20_0, hfz20_1⟩ := cells2 BK137.out) | ((with_reducible refine gate_dst (N := 39) rfl ?_); (with_reducible refine gate_callee (f := 16) rfl ?_); refine goesL_ (some 39) rfl rfl Try.func16 (by kernel_rfl) rfl #[.slice (some ad135) l0.length c0, .slice A1 l1.length c1, .int .i64 (rd l2 x18_1), .int .i64 ((rd_T44 ((rd_T39 l0 (rd l2 x18_1)).f4) x28_2).f1)] rfl (by (try simp only [List.map_toArray, List.map_cons, List.map_nil]); first | done | rfl | (simp only [List.length_drop, List.length_take]; rfl)) ?_; (with_reducible refine (lookup_Bind.calls k2 _ _ l0 _ _ l1 (rd l2 x18_1) ((rd_T44 ((rd_T39 l0 (rd l2 x18_1)).f4) x28_2).f1) t138 t139 t140 _ ?side1 ?side2 ?side3 ?side4 A13.out).mono ?_); (case side1 => repeat (first | exact (Kd.C_below HR0.out HB.out) | (with_reducible refine Kd.C_alloc ?_ _) | (with_reducible refine Kd.C_drewN ?_ _) | (with_reducible refine Kd.C_drew ?_))); (case side2 => exact HC0.out); (case side3 => repeat (first | exact (Kd.C_below HR1.out HB.out) | (with_reducible refine Kd.C_alloc ?_ _) | (with_reducible refine Kd.C_drewN ?_ _) | (with_reducible refine Kd.C_drew ?_))); (case side4 => exact HC1.out); rintro e w21 ⟨rfl, hb⟩; refine ⟨_, rfl, ?_⟩; have n0_ := Aside0.mk (Kd.R_below (by (with_reducible repeat (first | apply Kd.R_alloc | apply Kd.R_drewN | apply Kd.R_drew)); exact HO_6.out) hb); have n1_ := Aside0.mk (blk_below (g := gb133) (o := .cells #[.int .i64 x134000_2, .int .i64 x134001_2, .int .i64 x134002_2, .int .i64 x134003_2] 28 (0, 0)) (by (with_reducible repeat (first | refine blk_drewN ?_ _ | refine blk_drew ?_ | refine blk_alloc ?_ _)); exact BK133.out) hb); have n2_ := Aside0.mk (blk_below (g := gb137) (o := .cells #[.int .u64 ((rd_T44 ((rd_T39 l0 (rd l2 x18_1)).f4) x28_2).f0), .int .i64 ((rd_T44 ((rd_T39 l0 (rd l2 x18_1)).f4) x28_2).f1)] 44 (0, 0)) (by (with_reducible repeat (first | refine blk_drewN ?_ _ | refine blk_drew ?_ | refine blk_alloc ?_ _)); exact BK137.out) hb); have n3_ := Aside0.mk (below_step (by repeat (first | (with_reducible first | exact HB.out | apply below_alloc | apply pw_below_drewN | apply below_drew1 | refine below_set ?_ GE133.out | refine below_set ?_ GE137.out) | exact HB.out)) hb); clear HO_6; clear BK133; clear BK137; clear HB; have HO_6 := n0_; have BK133 := n1_; have BK137 := n2_; have HB := n3_; clear n0_ n1_ n2_ n3_; (try clear hb); (try clear hb2); (try clear hk); (try clear hi)) | ((with_reducible refine gate_builtin (b := .append) (xs := #[.tmp 49, .tmp 55]) rfl ?_); at_builtin; refine Kd.R_append k28 (w0 := w) w.heap.size rfl (.tmp 49) (.tmp 55) 26 28 (.agg #[(.int .i64 0), (.int .i64 0), (.int .i64 0), (.int .i64 0)]) 32 rfl Try.underlying26 info28 rfl (by decide) (by omega) u6 x6_2 (⟨(rd l2 x18_1), x28_2, t138, t139⟩ : S28) [.int .i64 (rd l2 x18_1), .int .i64 x28_2, .int .i64 t138, .int .i64 t139] (fun k_ => k_ ≠ gb133) (fun _ => False) rfl rfl ?aP (fun _ hk => hk.elim) ?aF ?aO ?aB ?aS ?aL ?_; (case aP => exact k28_mkM _ _ _ (⟨(rd l2 x18_1), x28_2, t138, t139⟩ : S28)); (case aB => exact (by repeat (first | (with_reducible first | exact HB.out | apply below_alloc | apply pw_below_drewN | apply below_drew1 | refine below_set ?_ GE133.out | refine below_set ?_ GE137.out) | exact HB.out))); (case aF => exact (fun k_ hk => Kd.freshB (g := gb133) (o := .cells #[.int .i64 x134000_2, .int .i64 x134001_2, .int .i64 x134002_2, .int .i64 x134003_2] 28 (0, 0)) (by (with_reducible repeat (first | refine blk_drewN ?_ _ | refine blk_drew ?_ | refine blk_alloc ?_ _)); exact BK133.out) k_ hk)); (case aO => exact (by (with_reducible repeat (first | apply Kd.R_alloc | apply Kd.R_drewN | apply Kd.R_drew)); exact HO_6.out)); (case aS => exact (below_size (by repeat (first | (with_reducible first | exact HB.out | apply below_alloc | apply pw_below_drewN | apply below_drew1 | refine below_set ?_ GE133.out | refine below_set ?_ GE137.out) | exact HB.out)))); (case aL => have := LMc15.out; omega); intro v142 w22 ho hb hg hat; rw [← Ny141.out] at ho; have n0_ := Aside0.mk (blk_grown (g := gb133) (o := .cells #[.int .i64 x134000_2, .int .i64 x134001_2, .int .i64 x134002_2, .int .i64 x134003_2] 28 (0, 0)) (by (with_reducible repeat (first | refine blk_drewN ?_ _ | refine blk_drew ?_ | refine blk_alloc ?_ _)); exact BK133.out) hg (Kd.R_away HO_6.out (fun _ hk => hk))); have n1_ := Aside0.mk (blk_grown (g := gb137) (o := .cells #[.int .u64 ((rd_T44 ((rd_T39 l0 (rd l2 x18_1)).f4) x28_2).f0), .int .i64 ((rd_T44 ((rd_T39 l0 (rd l2 x18_1)).f4) x28_2).f1)] 44 (0, 0)) (by (with_reducible repeat (first | refine blk_drewN ?_ _ | refine blk_drew ?_ | refine blk_alloc ?_ _)); exact BK137.out) hg (Kd.R_ne HO_6.out BK137.out (by decide))); have n2_ := Aside0.mk (hb); have n3_ := Aside0.mk (ho); clear BK133; clear BK137; clear HB; clear HO_6; have BK133 := n0_; have BK137 := n1_; have HB := n2_; have HO143 := n3_; clear n0_ n1_ n2_ n3_; clear ho hb hg hat))
                              go_roundg k2
                              case measure => have := HK1.out; have := HK2.out; omega
                              case rel => exact ⟨(y141), (wrap64 (x28_2 + 1)), (x134000_2), (x134001_2), (x134002_2), (x134003_2), (by first | rfl | (simp; done) | (simp [*]; done)), H', ⟨by have := HK1.out; have := HK2.out; omega⟩, ⟨by (with_reducible repeat (first | apply Kd.R_alloc | apply Kd.R_drewN | apply Kd.R_drew)); exact HO143.out⟩, ⟨by (with_reducible repeat (first | refine blk_drewN ?_ _ | refine blk_drew ?_ | refine blk_alloc ?_ _)); exact BK133.out⟩, ⟨by repeat (first | (with_reducible first | exact HB.out | apply below_alloc | apply pw_below_drewN | apply below_drew1 | refine below_set ?_ GE133.out | refine below_set ?_ GE137.out) | exact HB.out)⟩⟩
                            · rw [if_neg c15] at H
                              exact absurd H (by simp)
                          · rw [if_neg c14] at H
                            have c14b0 : (t140 == 0) = false := beq_eq_false_iff_ne.mpr c14
                            have c14b1 : (t140 != 0) = true := bne_iff_ne.mpr c14
                            simp only [Option.some.injEq, Prod.mk.injEq] at H
                            obtain ⟨rfl, rfl, rfl, rfl, rfl, rfl⟩ := H
                            have p136 : 0 ≤ (x28_2 : Int) := of_decide_eq_true (by first | (with_reducible assumption) | assumption)
                            have q136 : x28_2 < (((rd_T39 l0 (rd l2 x18_1)).f4).length : Int) := of_decide_eq_true (by first | (with_reducible assumption) | assumption)
                            obtain ⟨ad136, e136, hx136_0, hx136_1⟩ := at_T44 HR135_4.out x28_2 p136 q136
                            cases e136
                            replace hx136_0 := (HB.out.cell (World.block_lt_of_cell? w _ hx136_0)).trans hx136_0
                            replace hx136_1 := (HB.out.cell (World.block_lt_of_cell? w _ hx136_1)).trans hx136_1
                            replace p136 := eq_true p136
                            replace q136 := eq_true q136
                            go_wp2_with (first | ((with_reducible refine gate_dst (N := 12) rfl ?_); refine box_event ?hg (N := 12) ?hd (cs := #[.int .u64 0, .int .i64 0]) (t := 44) ?hr ?_; (case hd => rfl); (case hg => rfl); (case hr => first | (go_simp; done) | (go_simp; rfl)); intro gb137 hg w23 hbox hb; have n0_ := Aside0.mk (Kd.R_below (by (with_reducible repeat (first | apply Kd.R_alloc | apply Kd.R_drewN | apply Kd.R_drew)); exact HO_6.out) hb); have n1_ := Aside0.mk (blk_below (g := gb133) (o := .cells #[.int .i64 x134000_2, .int .i64 x134001_2, .int .i64 x134002_2, .int .i64 x134003_2] 28 (0, 0)) (by (with_reducible repeat (first | refine blk_drewN ?_ _ | refine blk_drew ?_ | refine blk_alloc ?_ _)); exact BK133.out) hb); have n2_ := Aside0.mk (below_step (by repeat (first | (with_reducible first | exact HB.out | apply below_alloc | apply pw_below_drewN | apply below_drew1 | refine below_set ?_ GE133.out) | exact HB.out)) hb); have n3_ := Aside0.mk (hbox); have n4_ := Aside0.mk ((by rw [hg]; exact (below_size (by repeat (first | (with_reducible first | exact HB.out | apply below_alloc | apply pw_below_drewN | apply below_drew1 | refine below_set ?_ GE133.out) | exact HB.out))) : w.heap.size ≤ gb137)); have n5_ := n4_; have n6_ := Aside0.mk ((by rw [hg]; exact Nat.ne_of_lt (blk_lt (g := gb133) (o := .cells #[.int .i64 x134000_2, .int .i64 x134001_2, .int .i64 x134002_2, .int .i64 x134003_2] 28 (0, 0)) (by (with_reducible repeat (first | refine blk_drewN ?_ _ | refine blk_drew ?_ | refine blk_alloc ?_ _)); exact BK133.out)) : gb133 ≠ gb137)); have n7_ := Aside0.mk n6_.out.symm; clear HO_6; clear BK133; clear HB; have HO_6 := n0_; have BK133 := n1_; have HB := n2_; have BK137 := n3_; have GW137 := n4_; have GE137 := n5_; have NB133_137 := n6_; have NB137_133 := n7_; clear n0_ n1_ n2_ n3_ n4_ n5_ n6_ n7_; clear hb hbox hg; have hnb24 := NB137_133.out; have hnc24 := NB133_137.out; obtain ⟨hcz25_0, hcz25_1, hfz25_0, hfz25_1⟩ := cells2 BK137.out) | ((with_reducible refine gate_store (t := 44) (p := 12) rfl ?_); refine store_event (t := 44) (p := 12) (v := ?vo_w26) (w1 := ((w23.setCell ⟨gb137, 0, none⟩ (.int .u64 ((rd_T44 ((rd_T39 l0 (rd l2 x18_1)).f4) x28_2).f0))).setCell ⟨gb137, 1, none⟩ (.int .i64 ((rd_T44 ((rd_T39 l0 (rd l2 x18_1)).f4) x28_2).f1)))) ?hg ?ho ?hn ?hr ?_; (case ho => rfl); (case hg => rfl); (case hn => rfl); (case hr => first | (go_simp; done) | (go_simp; rfl)); intro w26 hw; have n0_ : Aside0 (Kd.R k28 28 w26 w.heap.size (fun k_ => k_ ≠ gb133) u6 x6_2) := ⟨(by rw [hw]; exact (by (with_reducible repeat (first | apply Kd.R_alloc | apply Kd.R_drewN | apply Kd.R_drew)); exact Kd.R_mono (Kd.R_far (p := ⟨gb137, 1, none⟩) (Kd.R_far (p := ⟨gb137, 0, none⟩) (Kd.R_types HO_6.out BK137.out (by decide)) (fun _ hk => hk.2) (.int .u64 ((rd_T44 ((rd_T39 l0 (rd l2 x18_1)).f4) x28_2).f0))) (fun _ hk => hk.2) (.int .i64 ((rd_T44 ((rd_T39 l0 (rd l2 x18_1)).f4) x28_2).f1))) (fun _ hk => hk.1)))⟩; have n1_ : Aside0 (w26.heap[gb133]? = some (.cells #[.int .i64 x134000_2, .int .i64 x134001_2, .int .i64 x134002_2, .int .i64 x134003_2] 28 (0, 0))) := ⟨(by rw [hw]; exact (by (with_reducible repeat (first | refine blk_drewN ?_ _ | refine blk_drew ?_ | refine blk_alloc ?_ _)); refine blk_far ?_ NB133_137.out _; (with_reducible repeat (first | refine blk_drewN ?_ _ | refine blk_drew ?_ | refine blk_alloc ?_ _)); refine blk_far ?_ NB133_137.out _; (with_reducible repeat (first | refine blk_drewN ?_ _ | refine blk_drew ?_ | refine blk_alloc ?_ _)); exact BK133.out))⟩; have n2_ : Aside0 (w26.heap[gb137]? = some (.cells #[.int .u64 ((rd_T44 ((rd_T39 l0 (rd l2 x18_1)).f4) x28_2).f0), .int .i64 ((rd_T44 ((rd_T39 l0 (rd l2 x18_1)).f4) x28_2).f1)] 44 (0, 0))) := ⟨(by rw [hw]; exact (by (with_reducible repeat (first | refine blk_drewN ?_ _ | refine blk_drew ?_ | refine blk_alloc ?_ _)); refine blk_put (cs := #[.int .u64 ((rd_T44 ((rd_T39 l0 (rd l2 x18_1)).f4) x28_2).f0), .int .i64 0]) ?_ 1 _ rfl; (with_reducible repeat (first | refine blk_drewN ?_ _ | refine blk_drew ?_ | refine blk_alloc ?_ _)); refine blk_put (cs := #[.int .u64 0, .int .i64 0]) ?_ 0 _ rfl; (with_reducible repeat (first | refine blk_drewN ?_ _ | refine blk_drew ?_ | refine blk_alloc ?_ _)); exact BK137.out))⟩; have n3_ : Aside0 (Below w.heap.size w w26) := ⟨(by rw [hw]; exact (by repeat (first | (with_reducible first | exact HB.out | apply below_alloc | apply pw_below_drewN | apply below_drew1 | refine below_set ?_ GE133.out | refine below_set ?_ GE137.out) | exact HB.out)))⟩; clear hw; clear HO_6; clear BK133; clear BK137; clear HB; have HO_6 := n0_; have BK133 := n1_; have BK137 := n2_; have HB := n3_; clear n0_ n1_ n2_ n3_; obtain ⟨hcz27_0, hcz27_1, hfz27_0, hfz27_1⟩ := cells2 BK137.out) | ((with_reducible refine gate_dst (N := 39) rfl ?_); (with_reducible refine gate_callee (f := 16) rfl ?_); refine goesL_ (some 39) rfl rfl Try.func16 (by kernel_rfl) rfl #[.slice (some ad135) l0.length c0, .slice A1 l1.length c1, .int .i64 (rd l2 x18_1), .int .i64 ((rd_T44 ((rd_T39 l0 (rd l2 x18_1)).f4) x28_2).f1)] rfl (by (try simp only [List.map_toArray, List.map_cons, List.map_nil]); first | done | rfl | (simp only [List.length_drop, List.length_take]; rfl)) ?_; (with_reducible refine (lookup_Bind.calls k2 _ _ l0 _ _ l1 (rd l2 x18_1) ((rd_T44 ((rd_T39 l0 (rd l2 x18_1)).f4) x28_2).f1) t138 t139 t140 _ ?side1 ?side2 ?side3 ?side4 A13.out).mono ?_); (case side1 => repeat (first | exact (Kd.C_below HR0.out HB.out) | (with_reducible refine Kd.C_alloc ?_ _) | (with_reducible refine Kd.C_drewN ?_ _) | (with_reducible refine Kd.C_drew ?_))); (case side2 => exact HC0.out); (case side3 => repeat (first | exact (Kd.C_below HR1.out HB.out) | (with_reducible refine Kd.C_alloc ?_ _) | (with_reducible refine Kd.C_drewN ?_ _) | (with_reducible refine Kd.C_drew ?_))); (case side4 => exact HC1.out); rintro e w28 ⟨rfl, hb⟩; refine ⟨_, rfl, ?_⟩; have n0_ := Aside0.mk (Kd.R_below (by (with_reducible repeat (first | apply Kd.R_alloc | apply Kd.R_drewN | apply Kd.R_drew)); exact HO_6.out) hb); have n1_ := Aside0.mk (blk_below (g := gb133) (o := .cells #[.int .i64 x134000_2, .int .i64 x134001_2, .int .i64 x134002_2, .int .i64 x134003_2] 28 (0, 0)) (by (with_reducible repeat (first | refine blk_drewN ?_ _ | refine blk_drew ?_ | refine blk_alloc ?_ _)); exact BK133.out) hb); have n2_ := Aside0.mk (blk_below (g := gb137) (o := .cells #[.int .u64 ((rd_T44 ((rd_T39 l0 (rd l2 x18_1)).f4) x28_2).f0), .int .i64 ((rd_T44 ((rd_T39 l0 (rd l2 x18_1)).f4) x28_2).f1)] 44 (0, 0)) (by (with_reducible repeat (first | refine blk_drewN ?_ _ | refine blk_drew ?_ | refine blk_alloc ?_ _)); exact BK137.out) hb); have n3_ := Aside0.mk (below_step (by repeat (first | (with_reducible first | exact HB.out | apply below_alloc | apply pw_below_drewN | apply below_drew1 | refine below_set ?_ GE133.out | refine below_set ?_ GE137.out) | exact HB.out)) hb); clear HO_6; clear BK133; clear BK137; clear HB; have HO_6 := n0_; have BK133 := n1_; have BK137 := n2_; have HB := n3_; clear n0_ n1_ n2_ n3_; (try clear hb); (try clear hb2); (try clear hk); (try clear hi); obtain ⟨hcz29_0, hcz29_1, hcz29_2, hcz29_3, hfz29_0, hfz29_1, hfz29_2, hfz29_3⟩ := cells4 BK133.out) | ((with_reducible refine gate_store (t := 28) (p := 7) rfl ?_); refine store_event (t := 28) (p := 7) (v := ?vo_w30) (w1 := ((((w28.setCell ⟨gb133, 0, none⟩ (.int .i64 (rd l2 x18_1))).setCell ⟨gb133, 1, none⟩ (.int .i64 x28_2)).setCell ⟨gb133, 2, none⟩ (.int .i64 0)).setCell ⟨gb133, 3, none⟩ (.int .i64 0))) ?hg ?ho ?hn ?hr ?_; (case ho => rfl); (case hg => rfl); (case hn => rfl); (case hr => first | (go_simp; done) | (go_simp; rfl)); intro w30 hw; have n0_ : Aside0 (Kd.R k28 28 w30 w.heap.size (fun k_ => k_ ≠ gb133) u6 x6_2) := ⟨(by rw [hw]; exact (by (with_reducible repeat (first | apply Kd.R_alloc | apply Kd.R_drewN | apply Kd.R_drew)); exact Kd.R_mono (Kd.R_far (p := ⟨gb133, 3, none⟩) (Kd.R_far (p := ⟨gb133, 2, none⟩) (Kd.R_far (p := ⟨gb133, 1, none⟩) (Kd.R_far (p := ⟨gb133, 0, none⟩) (Kd.R_mono HO_6.out (fun k_ hk => (⟨hk, hk⟩ : _ ∧ k_ ≠ gb133))) (fun _ hk => hk.2) (.int .i64 (rd l2 x18_1))) (fun _ hk => hk.2) (.int .i64 x28_2)) (fun _ hk => hk.2) (.int .i64 0)) (fun _ hk => hk.2) (.int .i64 0)) (fun _ hk => hk.1)))⟩; have n1_ : Aside0 (w30.heap[gb133]? = some (.cells #[.int .i64 (rd l2 x18_1), .int .i64 x28_2, .int .i64 0, .int .i64 0] 28 (0, 0))) := ⟨(by rw [hw]; exact (by (with_reducible repeat (first | refine blk_drewN ?_ _ | refine blk_drew ?_ | refine blk_alloc ?_ _)); refine blk_put (cs := #[.int .i64 (rd l2 x18_1), .int .i64 x28_2, .int .i64 0, .int .i64 x134003_2]) ?_ 3 _ rfl; (with_reducible repeat (first | refine blk_drewN ?_ _ | refine blk_drew ?_ | refine blk_alloc ?_ _)); refine blk_put (cs := #[.int .i64 (rd l2 x18_1), .int .i64 x28_2, .int .i64 x134002_2, .int .i64 x134003_2]) ?_ 2 _ rfl; (with_reducible repeat (first | refine blk_drewN ?_ _ | refine blk_drew ?_ | refine blk_alloc ?_ _)); refine blk_put (cs := #[.int .i64 (rd l2 x18_1), .int .i64 x134001_2, .int .i64 x134002_2, .int .i64 x134003_2]) ?_ 1 _ rfl; (with_reducible repeat (first | refine blk_drewN ?_ _ | refine blk_drew ?_ | refine blk_alloc ?_ _)); refine blk_put (cs := #[.int .i64 x134000_2, .int .i64 x134001_2, .int .i64 x134002_2, .int .i64 x134003_2]) ?_ 0 _ rfl; (with_reducible repeat (first | refine blk_drewN ?_ _ | refine blk_drew ?_ | refine blk_alloc ?_ _)); exact BK133.out))⟩; have n2_ : Aside0 (w30.heap[gb137]? = some (.cells #[.int .u64 ((rd_T44 ((rd_T39 l0 (rd l2 x18_1)).f4) x28_2).f0), .int .i64 ((rd_T44 ((rd_T39 l0 (rd l2 x18_1)).f4) x28_2).f1)] 44 (0, 0))) := ⟨(by rw [hw]; exact (by (with_reducible repeat (first | refine blk_drewN ?_ _ | refine blk_drew ?_ | refine blk_alloc ?_ _)); refine blk_far ?_ NB137_133.out _; (with_reducible repeat (first | refine blk_drewN ?_ _ | refine blk_drew ?_ | refine blk_alloc ?_ _)); refine blk_far ?_ NB137_133.out _; (with_reducible repeat (first | refine blk_drewN ?_ _ | refine blk_drew ?_ | refine blk_alloc ?_ _)); refine blk_far ?_ NB137_133.out _; (with_reducible repeat (first | refine blk_drewN ?_ _ | refine blk_drew ?_ | refine blk_alloc ?_ _)); refine blk_far ?_ NB137_133.out _; (with_reducible repeat (first | refine blk_drewN ?_ _ | refine blk_drew ?_ | refine blk_alloc ?_ _)); exact BK137.out))⟩; have n3_ : Aside0 (Below w.heap.size w w30) := ⟨(by rw [hw]; exact (by repeat (first | (with_reducible first | exact HB.out | apply below_alloc | apply pw_below_drewN | apply below_drew1 | refine below_set ?_ GE133.out | refine below_set ?_ GE137.out) | exact HB.out)))⟩; clear hw; clear HO_6; clear BK133; clear BK137; clear HB; have HO_6 := n0_; have BK133 := n1_; have BK137 := n2_; have HB := n3_; clear n0_ n1_ n2_ n3_))
                            refine bodyPost_ret (results_list (rs := [.tmp 6, .cell 7 28, .tmp 8]) rfl (by simp) (.tmp (.cell gb133 28 #[.int .i64 (rd l2 x18_1), .int .i64 x28_2, .int .i64 0, .int .i64 0] (0, 0) _ rfl (by (with_reducible repeat (first | refine blk_drewN ?_ _ | refine blk_drew ?_ | refine blk_alloc ?_ _)); exact BK133.out) Try.underlying28 rfl (by kernel_rfl) (.tmp .nil)))) rfl ?_
                            exact ⟨_, by first | rfl | (simp [errW_none, errW_some] <;> rfl) | (simp [*, errW_none, errW_some] <;> rfl), by first | exact Kd.R_nil _ _ _ _ _ | exact Kd.N_nil _ _ _ _ _ | exact Kd.V_nil _ _ _ _ _ | exact Kd.Q_nil _ _ _ _ _ | exact Kd.S_nil _ _ _ _ _, by repeat (first | (with_reducible first | exact HB.out | apply below_alloc | apply pw_below_drewN | apply below_drew1 | refine below_set ?_ GE133.out | refine below_set ?_ GE137.out) | exact HB.out)⟩
                        · rw [if_neg c12] at H
                          exact absurd H (by simp)
                      · rw [if_neg c11] at H
                        exact absurd H (by simp)
                    · rw [if_neg c10] at H
                      have c10b0 : decide (x28_2 < (((rd_T39 l0 (rd l2 x18_1)).f4).length : Int)) = false := decide_eq_false c10
                      clear c10
                      have H' := Aside0.mk H
                      clear H
                      go_wp2
                      go_roundg k2
                      case measure => have := HK1.out; have := HK2.out; omega
                      case rel => exact ⟨(x6_2), (wrap64 (x18_1 + 1)), (x134000_2), (x134001_2), (x134002_2), (x134003_2), (by first | rfl | (simp; done) | (simp [*]; done)), H', ⟨by have := HK1.out; have := HK2.out; omega⟩, ⟨by (with_reducible repeat (first | apply Kd.R_alloc | apply Kd.R_drewN | apply Kd.R_drew)); exact HO_6.out⟩, ⟨by (with_reducible repeat (first | refine blk_drewN ?_ _ | refine blk_drew ?_ | refine blk_alloc ?_ _)); exact BK133.out⟩, ⟨by repeat (first | (with_reducible first | exact HB.out | apply below_alloc | apply pw_below_drewN | apply below_drew1 | refine below_set ?_ GE133.out) | exact HB.out)⟩⟩
              · rw [if_neg c9] at H
                exact absurd H (by simp)
            · rw [if_neg c8] at H
              exact absurd H (by simp)
          · rw [if_neg c7] at H
            exact absurd H (by simp)
        · rw [if_neg c6] at H
          exact absurd H (by simp)
      · rw [if_neg c5] at H
        have c5b0 : decide (x18_1 < (l2.length : Int)) = false := decide_eq_false c5
        clear c5
        simp only [Option.some.injEq, Prod.mk.injEq] at H
        obtain ⟨rfl, rfl, rfl, rfl, rfl, rfl⟩ := H
        try go_wp2
        have n0_ := Aside0.mk (Kd.R_drew HO_6.out)
        have n1_ := Aside0.mk (blk_drew BK133.out)
        have n2_ := Aside0.mk (below_drew1 HB.out)
        clear HO_6
        clear BK133
        clear HB
        have HO_6 := n0_
        have BK133 := n1_
        have HB := n2_
        clear n0_ n1_ n2_
        refine start_ (n := 5) (S := fun w' => w'.cell? ⟨gb133, 0, none⟩ = some (.int .i64 x134000_1) ∧ w'.cell? ⟨gb133, 1, none⟩ = some (.int .i64 x134001_1) ∧ w'.cell? ⟨gb133, 2, none⟩ = some (.int .i64 x134002_1) ∧ w'.cell? ⟨gb133, 3, none⟩ = some (.int .i64 x134003_1)) (ds := [3]) #[false, false, false, false, false] (by kernel_rfl) rfl rfl ⟨(blk_cell BK133.out 0).trans rfl, (blk_cell BK133.out 1).trans rfl, (blk_cell BK133.out 2).trans rfl, (blk_cell BK133.out 3).trans rfl⟩ (fun hHeld => ?_)
        generalize wr.drew = w31 at HO_6 BK133 HB hHeld ⊢
        refine pure_ (i := 0) (N := some 59) (v := ?_) (a' := ?_) #[true, false, false, false, false] rfl rfl (by kernel_rfl) (fun _ _ _ h => h) (Or.inl ⟨by rfl, ?_⟩) ?_ ?_
        rotate_left
        · intro w'
          go_simp
          with_reducible rfl
        rotate_left
        · simp only [Act.put, List.setIfInBounds_toArray, List.set_cons_zero, List.set_cons_succ, i64_w, i32_w]
          rfl
        refine pure_ (i := 2) (N := some 6) (v := ?_) (a' := ?_) #[true, false, true, false, false] rfl rfl (by kernel_rfl) (fun _ _ _ h => h) (Or.inl ⟨by rfl, ?_⟩) ?_ ?_
        rotate_left
        · intro w'
          go_simp
          with_reducible rfl
        rotate_left
        · simp only [Act.put, List.setIfInBounds_toArray, List.set_cons_zero, List.set_cons_succ, i64_w, i32_w]
          rfl
        refine take_ (i := 1) (N := some 60) (v := ?_) (a' := ?_) #[true, true, true, false, false] rfl rfl (by kernel_rfl) (fun _ _ _ h => h) (Or.inl ⟨by rfl, ?_⟩) hHeld ?_ ?_
        rotate_left
        · rintro w' ⟨s0, s1, s2, s3⟩
          go_simp
          with_reducible rfl
        rotate_left
        · simp only [Act.put, List.setIfInBounds_toArray, List.set_cons_zero, List.set_cons_succ, i64_w, i32_w]
          rfl
        refine last_ (i := 3) (N := none) #[true, true, true, true, false] rfl rfl (by kernel_rfl) (by decide) (fun K hK => ?_)
        have hs32 : w31.cell? ⟨gb133, 0, none⟩ = some (.int .i64 x134000_1) := (blk_cell BK133.out 0).trans rfl
        have hfs32 := blk_frozen BK133.out 0
        have hs33 : w31.cell? ⟨gb133, 1, none⟩ = some (.int .i64 x134001_1) := (blk_cell BK133.out 1).trans rfl
        have hfs33 := blk_frozen BK133.out 1
        have hs34 : w31.cell? ⟨gb133, 2, none⟩ = some (.int .i64 x134002_1) := (blk_cell BK133.out 2).trans rfl
        have hfs34 := blk_frozen BK133.out 2
        have hs35 : w31.cell? ⟨gb133, 3, none⟩ = some (.int .i64 x134003_1) := (blk_cell BK133.out 3).trans rfl
        have hfs35 := blk_frozen BK133.out 3
        refine skip_ (w1 := ?_) (by rfl) rfl ?_ ?_
        rotate_left
        · go_simp
          rfl
        refine hK.out _ _ ?_
        clear hK K
        refine pure_ (i := 4) (N := some 8) (v := ?_) (a' := ?_) #[true, true, true, true, true] rfl rfl (by kernel_rfl) (fun _ _ _ h => h) (Or.inl ⟨by rfl, ?_⟩) ?_ ?_
        rotate_left
        · intro w'
          go_simp
          with_reducible rfl
        rotate_left
        · simp only [Act.put, List.setIfInBounds_toArray, List.set_cons_zero, List.set_cons_succ, i64_w, i32_w]
          rfl
        refine done_ (by kernel_rfl) ?_
        try go_wp2
        refine bodyPost_ret (results_list (rs := [.tmp 6, .cell 7 28, .tmp 8]) rfl (by simp) (.tmp (.cell gb133 28 #[.int .i64 x134000_1, .int .i64 x134001_1, .int .i64 x134002_1, .int .i64 x134003_1] (0, 0) _ rfl (by (with_reducible repeat (first | refine blk_drewN ?_ _ | refine blk_drew ?_ | refine blk_alloc ?_ _)); refine blk_put (cs := #[.int .i64 x134000_1, .int .i64 x134001_1, .int .i64 x134002_1, .int .i64 x134003_1]) ?_ 3 _ rfl; (with_reducible repeat (first | refine blk_drewN ?_ _ | refine blk_drew ?_ | refine blk_alloc ?_ _)); refine blk_put (cs := #[.int .i64 x134000_1, .int .i64 x134001_1, .int .i64 x134002_1, .int .i64 x134003_1]) ?_ 2 _ rfl; (with_reducible repeat (first | refine blk_drewN ?_ _ | refine blk_drew ?_ | refine blk_alloc ?_ _)); refine blk_put (cs := #[.int .i64 x134000_1, .int .i64 x134001_1, .int .i64 x134002_1, .int .i64 x134003_1]) ?_ 1 _ rfl; (with_reducible repeat (first | refine blk_drewN ?_ _ | refine blk_drew ?_ | refine blk_alloc ?_ _)); refine blk_put (cs := #[.int .i64 x134000_1, .int .i64 x134001_1, .int .i64 x134002_1, .int .i64 x134003_1]) ?_ 0 _ rfl; (with_reducible repeat (first | refine blk_drewN ?_ _ | refine blk_drew ?_ | refine blk_alloc ?_ _)); exact BK133.out) Try.underlying28 rfl (by kernel_rfl) (.tmp .nil)))) rfl ?_
        exact ⟨_, by first | rfl | (simp [errW_none, errW_some] <;> rfl) | (simp [*, errW_none, errW_some] <;> rfl), by (with_reducible repeat (first | apply Kd.R_alloc | apply Kd.R_drewN | apply Kd.R_drew)); exact Kd.R_mono (Kd.R_far (p := ⟨gb133, 3, none⟩) (Kd.R_far (p := ⟨gb133, 2, none⟩) (Kd.R_far (p := ⟨gb133, 1, none⟩) (Kd.R_far (p := ⟨gb133, 0, none⟩) (Kd.R_mono HO_6.out (fun k_ hk => (⟨hk, hk⟩ : _ ∧ k_ ≠ gb133))) (fun _ hk => hk.2) (.int .i64 x134000_1)) (fun _ hk => hk.2) (.int .i64 x134001_1)) (fun _ hk => hk.2) (.int .i64 x134002_1)) (fun _ hk => hk.2) (.int .i64 x134003_1)) (fun _ hk => trivial), by repeat (first | (with_reducible first | exact HB.out | apply below_alloc | apply pw_below_drewN | apply below_drew1 | refine below_set ?_ GE133.out) | exact HB.out)⟩

end Go.Proofs.Ytoakeildgpeffaa.P
