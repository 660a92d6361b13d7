/- What functions of the program, and of its laws, give, each proved of its code by a walk; no condition. -/
import Derived.Test.YtdgmkmjmddjcfaaKLookupTwicePx0
import Derived.Test.YtdgmkmjmddjcfaaKLookupTwicePx3
import Derived.Test.YtdgmkmjmddjcfaaKLookupTwicePx6
namespace Go.Proofs.Ytdgmkmjmddjcfaa.P
open Go.RowKit Go.Proofs.YtdgmkmjmddjcfaaW.PrintWords Go.Proofs.YtdgmkmjmddjcfaaW.PrintLast Go.Proofs.YtdgmkmjmddjcfaaW.PrintMore
attribute [local go_sem] max2_int min2_int max_two min_two max_three min_three max_four min_four   -- for this text's walks alone
set_option linter.unusedVariables false
set_option linter.unusedSimpArgs false

def lookup_Known.f (k : Nat) (l0 : List (S32)) (l1 : List Int) (a2 : ByteArray) : Option (Bool) := (lookup_In.f k l0 l1 a2 (⟨#[]⟩ : ByteArray)).bind fun bt124 => (some (decide (bt124.1 ≥ 0)))
theorem lookup_Known.mono : ∀ a0 a1 a2 k, LeO (lookup_Known.f k a0 a1 a2) (lookup_Known.f (k + 1) a0 a1 a2) := by
  intro a0 a1 a2 k
  unfold lookup_Known.f
  repeat' first
      | (with_reducible exact lookup_In.mono _ _ _ _ _)
      | (with_reducible exact LeO.refl _)
      | (with_reducible exact LeO.none _)
      | (with_reducible refine LeO.ite ?_ ?_)
      | (with_reducible refine LeO.bind ?_ (fun _ => ?_))
      | exact lookup_In.mono _ _ _ _ _
      | exact LeO.none _
      | refine LeO.ite ?_ ?_
      | refine LeO.bind ?_ (fun _ => ?_)
set_option maxHeartbeats 8000000 in
set_option maxRecDepth 100000 in
theorem lookup_Known.calls (k : Nat) (A0 : Option Addr) (c0 : Nat) (l0 : List (S32)) (A1 : Option Addr) (c1 : Nat) (l1 : List Int) (a2 : ByteArray) (r : Bool) (w : World) (hr0 : Kd.C k32 w A0 l0.length l0) (hc0 : l0.length ≤ c0) (hr1 : Kd.C (Kd.int .i64) w A1 l1.length l1) (hc1 : l1.length ≤ c1) (h : lookup_Known.f k l0 l1 a2 = some r) :
    Calls Try.prog 16 #[.slice A0 l0.length c0, .slice A1 l1.length c1, .string a2] w fun e w' => e = .returned (.bool r) ∧ Below w.heap.size w w' := by
  have HR0 := Aside0.mk hr0
  have HC0 := Aside0.mk hc0
  clear hr0 hc0
  have HR1 := Aside0.mk hr1
  have HC1 := Aside0.mk hc1
  clear hr1 hc1
  have HB := Aside0.mk (Below.refl w.heap.size w)
  have H : ((lookup_In.f k l0 l1 a2 (⟨#[]⟩ : ByteArray)).bind fun bt124 => (some (decide (bt124.1 ≥ 0)))) = some r := h
  clear h
  replace H := Option.bind_eq_some_iff.mp H
  obtain ⟨⟨t124, t125⟩, A40, H⟩ := H
  replace H : (some (decide (t124 ≥ 0))) = some r := H
  have A4 := Aside0.mk A40
  clear A40
  obtain rfl := Option.some.inj H
  go_enter Try.func16, Try.ntmps16
  go_wp2_with (first | ((with_reducible refine gate_dst (N := 13) rfl ?_); (with_reducible refine gate_callee (f := 13) rfl ?_); refine goesL_ (some 13) rfl rfl Try.func13 (by kernel_rfl) rfl #[.slice A0 l0.length c0, .slice A1 l1.length c1, .string a2, .string (⟨#[]⟩ : ByteArray)] rfl (by (try simp only [List.map_toArray, List.map_cons, List.map_nil]); first | done | rfl | (simp only [List.length_drop, List.length_take]; rfl)) ?_; (with_reducible refine (lookup_In.calls k _ _ l0 _ _ l1 a2 (⟨#[]⟩ : ByteArray) t124 t125 _ ?side1 ?side2 ?side3 ?side4 A4.out).mono ?_); (case side1 => repeat (first | exact HR0.out | (with_reducible refine Kd.C_alloc ?_ _) | (with_reducible refine Kd.C_drewN ?_ _) | (with_reducible refine Kd.C_drew ?_))); (case side2 => exact HC0.out); (case side3 => repeat (first | exact HR1.out | (with_reducible refine Kd.C_alloc ?_ _) | (with_reducible refine Kd.C_drewN ?_ _) | (with_reducible refine Kd.C_drew ?_))); (case side4 => exact HC1.out); rintro e w5 ⟨rfl, hb⟩; refine ⟨_, rfl, ?_⟩; have n0_ := Aside0.mk (below_step (by repeat (first | (with_reducible first | exact HB.out | apply below_alloc | apply pw_below_drewN | apply below_drew1) | exact HB.out)) hb); clear HB; have HB := n0_; clear n0_; (try clear hb); (try clear hb2); (try clear hk); (try clear hi)))
  go_ret
  exact ⟨by first | rfl | (simp [errW_none, errW_some] <;> rfl) | (simp [*, errW_none, errW_some] <;> rfl), by repeat (first | (with_reducible first | exact HB.out | apply below_alloc | apply pw_below_drewN | apply below_drew1) | exact HB.out)⟩

def lookup_Bind.j0 : Nat → List (S32) → List Int → Int → Int → Bool → ByteArray → ByteArray → Int → Int → Int → Int → Int → Bool → Option (Int × Int × Int)
  | 0, _, _, _, _, _, _, _, _, _, _, _, _, _ => none
  | k + 1, x0, x1, x2, x3, x26, x129000, x129001, x129002, x129003, x129004, x129005, x129006, x129007 => if x26 = true then (some (x2, x3, 0)) else ((lookup_In.f k x0 x1 x129000 x129001).bind fun bt130 => (if bt130.1 ≥ 0 then (some (bt130.1, bt130.2, 0)) else (if x129007 = true then (some (x2, x3, 0)) else (if x129005 = 3 then (some ((-1), (-1), 0)) else (if x129001.toList = ([] : List UInt8) then (some (0, 0, 140)) else ((lookup_Known.f k x0 x1 x129000).bind fun t132 => (if t132 = true then (some (0, 0, 141)) else (some (0, 0, 140)))))))))
def lookup_Bind.f (k : Nat) (l0 : List (S32)) (l1 : List Int) (a2 : Int) (a3 : Int) : Option (Int × Int × Int) := if 0 ≤ a2 then (if a2 < (l0.length : Int) then (if 0 ≤ a3 then (if a3 < (((rd_T32 l0 a2).f3).length : Int) then (if (rd_T42 ((rd_T32 l0 a2).f3) a3).f7 = true then ((hash_Shown.f ((rd_T42 ((rd_T32 l0 a2).f3) a3).f0) ((rd_T42 ((rd_T32 l0 a2).f3) a3).f1) ((rd_T42 ((rd_T32 l0 a2).f3) a3).f2) ((rd_T42 ((rd_T32 l0 a2).f3) a3).f3) ((rd_T42 ((rd_T32 l0 a2).f3) a3).f4) ((rd_T42 ((rd_T32 l0 a2).f3) a3).f5) ((rd_T42 ((rd_T32 l0 a2).f3) a3).f6) ((rd_T42 ((rd_T32 l0 a2).f3) a3).f7)).bind fun t129 => (lookup_Bind.j0 k l0 l1 a2 a3 (!t129) ((rd_T42 ((rd_T32 l0 a2).f3) a3).f0) ((rd_T42 ((rd_T32 l0 a2).f3) a3).f1) ((rd_T42 ((rd_T32 l0 a2).f3) a3).f2) ((rd_T42 ((rd_T32 l0 a2).f3) a3).f3) ((rd_T42 ((rd_T32 l0 a2).f3) a3).f4) ((rd_T42 ((rd_T32 l0 a2).f3) a3).f5) ((rd_T42 ((rd_T32 l0 a2).f3) a3).f6) ((rd_T42 ((rd_T32 l0 a2).f3) a3).f7))) else (lookup_Bind.j0 k l0 l1 a2 a3 false ((rd_T42 ((rd_T32 l0 a2).f3) a3).f0) ((rd_T42 ((rd_T32 l0 a2).f3) a3).f1) ((rd_T42 ((rd_T32 l0 a2).f3) a3).f2) ((rd_T42 ((rd_T32 l0 a2).f3) a3).f3) ((rd_T42 ((rd_T32 l0 a2).f3) a3).f4) ((rd_T42 ((rd_T32 l0 a2).f3) a3).f5) ((rd_T42 ((rd_T32 l0 a2).f3) a3).f6) ((rd_T42 ((rd_T32 l0 a2).f3) a3).f7))) else (none)) else (none)) else (none)) else (none)
theorem lookup_Bind.mono_l : ∀ k, (∀ y0 y1 y2 y3 y4 y5 y6 y7 y8 y9 y10 y11 y12, LeO (lookup_Bind.j0 k y0 y1 y2 y3 y4 y5 y6 y7 y8 y9 y10 y11 y12) (lookup_Bind.j0 (k + 1) y0 y1 y2 y3 y4 y5 y6 y7 y8 y9 y10 y11 y12))
  | 0 => fun _ _ _ _ _ _ _ _ _ _ _ _ _ r h => by simp [lookup_Bind.j0] at h
  | k + 1 => by
    have ih0 := lookup_Bind.mono_l k
    · intro y0 y1 y2 y3 y4 y5 y6 y7 y8 y9 y10 y11 y12
      unfold lookup_Bind.j0
      repeat' first
      | (with_reducible exact ih0 _ _ _ _ _ _ _ _ _ _ _ _ _)
      | (with_reducible exact lookup_In.mono _ _ _ _ _)
      | (with_reducible exact lookup_Known.mono _ _ _ _)
      | (with_reducible exact LeO.refl _)
      | (with_reducible exact LeO.none _)
      | (with_reducible refine LeO.ite ?_ ?_)
      | (with_reducible refine LeO.bind ?_ (fun _ => ?_))
      | exact ih0 _ _ _ _ _ _ _ _ _ _ _ _ _
      | exact lookup_In.mono _ _ _ _ _
      | exact lookup_Known.mono _ _ _ _
      | exact LeO.none _
      | refine LeO.ite ?_ ?_
      | refine LeO.bind ?_ (fun _ => ?_)
theorem lookup_Bind.mono : ∀ a0 a1 a2 a3 k, LeO (lookup_Bind.f k a0 a1 a2 a3) (lookup_Bind.f (k + 1) a0 a1 a2 a3) := by
  intro a0 a1 a2 a3 k
  have ih0 := lookup_Bind.mono_l k
  unfold lookup_Bind.f
  repeat' first
      | (with_reducible exact ih0 _ _ _ _ _ _ _ _ _ _ _ _ _)
      | (with_reducible exact lookup_In.mono _ _ _ _ _)
      | (with_reducible exact lookup_Known.mono _ _ _ _)
      | (with_reducible exact LeO.refl _)
      | (with_reducible exact LeO.none _)
      | (with_reducible refine LeO.ite ?_ ?_)
      | (with_reducible refine LeO.bind ?_ (fun _ => ?_))
      | exact ih0 _ _ _ _ _ _ _ _ _ _ _ _ _
      | exact lookup_In.mono _ _ _ _ _
      | exact lookup_Known.mono _ _ _ _
      | exact LeO.none _
      | refine LeO.ite ?_ ?_
      | refine LeO.bind ?_ (fun _ => ?_)
set_option maxHeartbeats 8000000 in
set_option maxRecDepth 100000 in
theorem lookup_Bind.calls (k : Nat) (A0 : Option Addr) (c0 : Nat) (l0 : List (S32)) (A1 : Option Addr) (c1 : Nat) (l1 : List Int) (a2 : Int) (a3 : Int) (r1 : Int) (r2 : Int) (r3 : Int) (w : World) (hr0 : Kd.C k32 w A0 l0.length l0) (hc0 : l0.length ≤ c0) (hr1 : Kd.C (Kd.int .i64) w A1 l1.length l1) (hc1 : l1.length ≤ c1) (h : lookup_Bind.f k l0 l1 a2 a3 = some (r1, r2, r3)) :
    Calls Try.prog 11 #[.slice A0 l0.length c0, .slice A1 l1.length c1, .int .i64 a2, .int .i64 a3] w fun e w' => e = .returned (.tuple #[.int .i64 r1, .int .i64 r2, .int .i64 r3]) ∧ Below w.heap.size w w' := by
  have hu42 := Try.underlying42
  have HR0 := Aside0.mk hr0
  have HC0 := Aside0.mk hc0
  clear hr0 hc0
  have HR1 := Aside0.mk hr1
  have HC1 := Aside0.mk hc1
  clear hr1 hc1
  have HB := Aside0.mk (Below.refl w.heap.size w)
  have H : (if 0 ≤ a2 then (if a2 < (l0.length : Int) then (if 0 ≤ a3 then (if a3 < (((rd_T32 l0 a2).f3).length : Int) then (if (rd_T42 ((rd_T32 l0 a2).f3) a3).f7 = true then ((hash_Shown.f ((rd_T42 ((rd_T32 l0 a2).f3) a3).f0) ((rd_T42 ((rd_T32 l0 a2).f3) a3).f1) ((rd_T42 ((rd_T32 l0 a2).f3) a3).f2) ((rd_T42 ((rd_T32 l0 a2).f3) a3).f3) ((rd_T42 ((rd_T32 l0 a2).f3) a3).f4) ((rd_T42 ((rd_T32 l0 a2).f3) a3).f5) ((rd_T42 ((rd_T32 l0 a2).f3) a3).f6) ((rd_T42 ((rd_T32 l0 a2).f3) a3).f7)).bind fun t129 => (lookup_Bind.j0 k l0 l1 a2 a3 (!t129) ((rd_T42 ((rd_T32 l0 a2).f3) a3).f0) ((rd_T42 ((rd_T32 l0 a2).f3) a3).f1) ((rd_T42 ((rd_T32 l0 a2).f3) a3).f2) ((rd_T42 ((rd_T32 l0 a2).f3) a3).f3) ((rd_T42 ((rd_T32 l0 a2).f3) a3).f4) ((rd_T42 ((rd_T32 l0 a2).f3) a3).f5) ((rd_T42 ((rd_T32 l0 a2).f3) a3).f6) ((rd_T42 ((rd_T32 l0 a2).f3) a3).f7))) else (lookup_Bind.j0 k l0 l1 a2 a3 false ((rd_T42 ((rd_T32 l0 a2).f3) a3).f0) ((rd_T42 ((rd_T32 l0 a2).f3) a3).f1) ((rd_T42 ((rd_T32 l0 a2).f3) a3).f2) ((rd_T42 ((rd_T32 l0 a2).f3) a3).f3) ((rd_T42 ((rd_T32 l0 a2).f3) a3).f4) ((rd_T42 ((rd_T32 l0 a2).f3) a3).f5) ((rd_T42 ((rd_T32 l0 a2).f3) a3).f6) ((rd_T42 ((rd_T32 l0 a2).f3) a3).f7))) else (none)) else (none)) else (none)) else (none)) = some (r1, r2, r3) := h
  clear h
  by_cases c5 : 0 ≤ a2
  · rw [if_pos c5] at H
    have c5b0 : decide (0 ≤ a2) = true := decide_eq_true c5
    clear c5
    by_cases c6 : a2 < (l0.length : Int)
    · rw [if_pos c6] at H
      have c6b0 : decide (a2 < (l0.length : Int)) = true := decide_eq_true c6
      clear c6
      by_cases c7 : 0 ≤ a3
      · rw [if_pos c7] at H
        have c7b0 : decide (0 ≤ a3) = true := decide_eq_true c7
        clear c7
        by_cases c8 : a3 < (((rd_T32 l0 a2).f3).length : Int)
        · rw [if_pos c8] at H
          have c8b0 : decide (a3 < (((rd_T32 l0 a2).f3).length : Int)) = true := decide_eq_true c8
          clear c8
          have HC9 := Aside0.mk H
          clear H
          have p126 : 0 ≤ (a2 : Int) := of_decide_eq_true (by first | (with_reducible assumption) | assumption)
          have q126 : a2 < (l0.length : Int) := of_decide_eq_true (by first | (with_reducible assumption) | assumption)
          obtain ⟨ad126, A126_1, c126_1, A126_2, c126_2, A126_3, c126_3, A126_4, c126_4, A126_5, c126_5, A126_6, c126_6, e126, hx126_0, hx126_1, hx126_2, hx126_3, hx126_4, hx126_5, hx126_6, hl126_1, hi126_1, hl126_2, hi126_2, hl126_3, hi126_3, hl126_4, hi126_4, hl126_5, hi126_5, hl126_6, hi126_6⟩ := at_T32 HR0.out a2 p126 q126
          cases e126
          have HR126_1 := Aside0.mk hi126_1
          have HC126_1 := Aside0.mk hl126_1
          clear hi126_1 hl126_1
          have HR126_2 := Aside0.mk hi126_2
          have HC126_2 := Aside0.mk hl126_2
          clear hi126_2 hl126_2
          have HR126_3 := Aside0.mk hi126_3
          have HC126_3 := Aside0.mk hl126_3
          clear hi126_3 hl126_3
          have HR126_4 := Aside0.mk hi126_4
          have HC126_4 := Aside0.mk hl126_4
          clear hi126_4 hl126_4
          have HR126_5 := Aside0.mk hi126_5
          have HC126_5 := Aside0.mk hl126_5
          clear hi126_5 hl126_5
          have HR126_6 := Aside0.mk hi126_6
          have HC126_6 := Aside0.mk hl126_6
          clear hi126_6 hl126_6
          replace p126 := eq_true p126
          replace q126 := eq_true q126
          have p127 : 0 ≤ (a3 : Int) := of_decide_eq_true (by first | (with_reducible assumption) | assumption)
          have q127 : a3 < (((rd_T32 l0 a2).f3).length : Int) := of_decide_eq_true (by first | (with_reducible assumption) | assumption)
          obtain ⟨ad127, e127, hx127_0, hx127_1, hx127_2, hx127_3, hx127_4, hx127_5, hx127_6, hx127_7⟩ := at_T42 HR126_3.out a3 p127 q127
          cases e127
          replace p127 := eq_true p127
          replace q127 := eq_true q127
          go_enter Try.func11, Try.ntmps11
          go_upto_region 2 with (first | ((with_reducible refine gate_dst (N := 11) rfl ?_); refine box_event ?hg (N := 11) ?hd (cs := #[.string (⟨#[]⟩ : ByteArray), .string (⟨#[]⟩ : ByteArray), .int .u64 0, .int .u64 0, .int .i64 0, .int .i64 0, .int .i64 0, .bool false]) (t := 42) ?hr ?_; (case hd => rfl); (case hg => rfl); (case hr => first | (go_simp; done) | (go_simp; rfl)); intro gb128 hg w10 hbox hb; have n0_ := Aside0.mk (below_step (by repeat (first | (with_reducible first | exact HB.out | apply below_alloc | apply pw_below_drewN | apply below_drew1) | exact HB.out)) hb); have n1_ := Aside0.mk (hbox); have n2_ := Aside0.mk ((by rw [hg]; exact (below_size (by repeat (first | (with_reducible first | exact HB.out | apply below_alloc | apply pw_below_drewN | apply below_drew1) | exact HB.out))) : w.heap.size ≤ gb128)); have n3_ := n2_; clear HB; have HB := n0_; have BK128 := n1_; have GW128 := n2_; have GE128 := n3_; clear n0_ n1_ n2_ n3_; clear hb hbox hg; obtain ⟨hcz11_0, hcz11_1, hcz11_2, hcz11_3, hcz11_4, hcz11_5, hcz11_6, hcz11_7, hfz11_0, hfz11_1, hfz11_2, hfz11_3, hfz11_4, hfz11_5, hfz11_6, hfz11_7⟩ := cells8 BK128.out) | ((with_reducible refine gate_store (t := 42) (p := 11) rfl ?_); refine store_event (t := 42) (p := 11) (v := ?vo_w12) (w1 := ((((((((w10.setCell ⟨gb128, 0, none⟩ (.string ((rd_T42 ((rd_T32 l0 a2).f3) a3).f0))).setCell ⟨gb128, 1, none⟩ (.string ((rd_T42 ((rd_T32 l0 a2).f3) a3).f1))).setCell ⟨gb128, 2, none⟩ (.int .u64 ((rd_T42 ((rd_T32 l0 a2).f3) a3).f2))).setCell ⟨gb128, 3, none⟩ (.int .u64 ((rd_T42 ((rd_T32 l0 a2).f3) a3).f3))).setCell ⟨gb128, 4, none⟩ (.int .i64 ((rd_T42 ((rd_T32 l0 a2).f3) a3).f4))).setCell ⟨gb128, 5, none⟩ (.int .i64 ((rd_T42 ((rd_T32 l0 a2).f3) a3).f5))).setCell ⟨gb128, 6, none⟩ (.int .i64 ((rd_T42 ((rd_T32 l0 a2).f3) a3).f6))).setCell ⟨gb128, 7, none⟩ (.bool ((rd_T42 ((rd_T32 l0 a2).f3) a3).f7)))) ?hg ?ho ?hn ?hr ?_; (case ho => rfl); (case hg => rfl); (case hn => rfl); (case hr => first | (go_simp; done) | (go_simp; rfl)); intro w12 hw; have n0_ : Aside0 (w12.heap[gb128]? = some (.cells #[.string ((rd_T42 ((rd_T32 l0 a2).f3) a3).f0), .string ((rd_T42 ((rd_T32 l0 a2).f3) a3).f1), .int .u64 ((rd_T42 ((rd_T32 l0 a2).f3) a3).f2), .int .u64 ((rd_T42 ((rd_T32 l0 a2).f3) a3).f3), .int .i64 ((rd_T42 ((rd_T32 l0 a2).f3) a3).f4), .int .i64 ((rd_T42 ((rd_T32 l0 a2).f3) a3).f5), .int .i64 ((rd_T42 ((rd_T32 l0 a2).f3) a3).f6), .bool ((rd_T42 ((rd_T32 l0 a2).f3) a3).f7)] 42 (0, 0))) := ⟨(by rw [hw]; exact (by (with_reducible repeat (first | refine blk_drewN ?_ _ | refine blk_drew ?_ | refine blk_alloc ?_ _)); refine blk_put (cs := #[.string ((rd_T42 ((rd_T32 l0 a2).f3) a3).f0), .string ((rd_T42 ((rd_T32 l0 a2).f3) a3).f1), .int .u64 ((rd_T42 ((rd_T32 l0 a2).f3) a3).f2), .int .u64 ((rd_T42 ((rd_T32 l0 a2).f3) a3).f3), .int .i64 ((rd_T42 ((rd_T32 l0 a2).f3) a3).f4), .int .i64 ((rd_T42 ((rd_T32 l0 a2).f3) a3).f5), .int .i64 ((rd_T42 ((rd_T32 l0 a2).f3) a3).f6), .bool false]) ?_ 7 _ rfl; (with_reducible repeat (first | refine blk_drewN ?_ _ | refine blk_drew ?_ | refine blk_alloc ?_ _)); refine blk_put (cs := #[.string ((rd_T42 ((rd_T32 l0 a2).f3) a3).f0), .string ((rd_T42 ((rd_T32 l0 a2).f3) a3).f1), .int .u64 ((rd_T42 ((rd_T32 l0 a2).f3) a3).f2), .int .u64 ((rd_T42 ((rd_T32 l0 a2).f3) a3).f3), .int .i64 ((rd_T42 ((rd_T32 l0 a2).f3) a3).f4), .int .i64 ((rd_T42 ((rd_T32 l0 a2).f3) a3).f5), .int .i64 0, .bool false]) ?_ 6 _ rfl; (with_reducible repeat (first | refine blk_drewN ?_ _ | refine blk_drew ?_ | refine blk_alloc ?_ _)); refine blk_put (cs := #[.string ((rd_T42 ((rd_T32 l0 a2).f3) a3).f0), .string ((rd_T42 ((rd_T32 l0 a2).f3) a3).f1), .int .u64 ((rd_T42 ((rd_T32 l0 a2).f3) a3).f2), .int .u64 ((rd_T42 ((rd_T32 l0 a2).f3) a3).f3), .int .i64 ((rd_T42 ((rd_T32 l0 a2).f3) a3).f4), .int .i64 0, .int .i64 0, .bool false]) ?_ 5 _ rfl; (with_reducible repeat (first | refine blk_drewN ?_ _ | refine blk_drew ?_ | refine blk_alloc ?_ _)); refine blk_put (cs := #[.string ((rd_T42 ((rd_T32 l0 a2).f3) a3).f0), .string ((rd_T42 ((rd_T32 l0 a2).f3) a3).f1), .int .u64 ((rd_T42 ((rd_T32 l0 a2).f3) a3).f2), .int .u64 ((rd_T42 ((rd_T32 l0 a2).f3) a3).f3), .int .i64 0, .int .i64 0, .int .i64 0, .bool false]) ?_ 4 _ rfl; (with_reducible repeat (first | refine blk_drewN ?_ _ | refine blk_drew ?_ | refine blk_alloc ?_ _)); refine blk_put (cs := #[.string ((rd_T42 ((rd_T32 l0 a2).f3) a3).f0), .string ((rd_T42 ((rd_T32 l0 a2).f3) a3).f1), .int .u64 ((rd_T42 ((rd_T32 l0 a2).f3) a3).f2), .int .u64 0, .int .i64 0, .int .i64 0, .int .i64 0, .bool false]) ?_ 3 _ rfl; (with_reducible repeat (first | refine blk_drewN ?_ _ | refine blk_drew ?_ | refine blk_alloc ?_ _)); refine blk_put (cs := #[.string ((rd_T42 ((rd_T32 l0 a2).f3) a3).f0), .string ((rd_T42 ((rd_T32 l0 a2).f3) a3).f1), .int .u64 0, .int .u64 0, .int .i64 0, .int .i64 0, .int .i64 0, .bool false]) ?_ 2 _ rfl; (with_reducible repeat (first | refine blk_drewN ?_ _ | refine blk_drew ?_ | refine blk_alloc ?_ _)); refine blk_put (cs := #[.string ((rd_T42 ((rd_T32 l0 a2).f3) a3).f0), .string (⟨#[]⟩ : ByteArray), .int .u64 0, .int .u64 0, .int .i64 0, .int .i64 0, .int .i64 0, .bool false]) ?_ 1 _ rfl; (with_reducible repeat (first | refine blk_drewN ?_ _ | refine blk_drew ?_ | refine blk_alloc ?_ _)); refine blk_put (cs := #[.string (⟨#[]⟩ : ByteArray), .string (⟨#[]⟩ : ByteArray), .int .u64 0, .int .u64 0, .int .i64 0, .int .i64 0, .int .i64 0, .bool false]) ?_ 0 _ rfl; (with_reducible repeat (first | refine blk_drewN ?_ _ | refine blk_drew ?_ | refine blk_alloc ?_ _)); exact BK128.out))⟩; have n1_ : Aside0 (Below w.heap.size w w12) := ⟨(by rw [hw]; exact (by repeat (first | (with_reducible first | exact HB.out | apply below_alloc | apply pw_below_drewN | apply below_drew1 | refine below_set ?_ GE128.out) | exact HB.out)))⟩; clear hw; clear BK128; clear HB; have BK128 := n0_; have HB := n1_; clear n0_ n1_))
          (try simp only [Act.put, List.setIfInBounds_toArray, List.set_cons_zero, List.set_cons_succ])
          go_cut [26] (fun v26 wc => ∃ (kq : Nat) (x26_8 : Bool), v26 = .bool x26_8 ∧ Aside0 (lookup_Bind.j0 kq l0 l1 a2 a3 x26_8 ((rd_T42 ((rd_T32 l0 a2).f3) a3).f0) ((rd_T42 ((rd_T32 l0 a2).f3) a3).f1) ((rd_T42 ((rd_T32 l0 a2).f3) a3).f2) ((rd_T42 ((rd_T32 l0 a2).f3) a3).f3) ((rd_T42 ((rd_T32 l0 a2).f3) a3).f4) ((rd_T42 ((rd_T32 l0 a2).f3) a3).f5) ((rd_T42 ((rd_T32 l0 a2).f3) a3).f6) ((rd_T42 ((rd_T32 l0 a2).f3) a3).f7) = some (r1, r2, r3)) ∧ Aside0 (kq ≤ k) ∧ Aside0 (wc.heap[gb128]? = some (.cells #[.string ((rd_T42 ((rd_T32 l0 a2).f3) a3).f0), .string ((rd_T42 ((rd_T32 l0 a2).f3) a3).f1), .int .u64 ((rd_T42 ((rd_T32 l0 a2).f3) a3).f2), .int .u64 ((rd_T42 ((rd_T32 l0 a2).f3) a3).f3), .int .i64 ((rd_T42 ((rd_T32 l0 a2).f3) a3).f4), .int .i64 ((rd_T42 ((rd_T32 l0 a2).f3) a3).f5), .int .i64 ((rd_T42 ((rd_T32 l0 a2).f3) a3).f6), .bool ((rd_T42 ((rd_T32 l0 a2).f3) a3).f7)] 42 (0, 0))) ∧ Aside0 (Below w.heap.size w wc))
          case first =>
            have H := HC9.out
            clear HC9
            obtain ⟨bq13, hbq13⟩ : ∃ b_ : Bool, b_ = ((rd_T42 ((rd_T32 l0 a2).f3) a3).f7) := ⟨_, rfl⟩
            replace H : (if bq13 = true then ((hash_Shown.f ((rd_T42 ((rd_T32 l0 a2).f3) a3).f0) ((rd_T42 ((rd_T32 l0 a2).f3) a3).f1) ((rd_T42 ((rd_T32 l0 a2).f3) a3).f2) ((rd_T42 ((rd_T32 l0 a2).f3) a3).f3) ((rd_T42 ((rd_T32 l0 a2).f3) a3).f4) ((rd_T42 ((rd_T32 l0 a2).f3) a3).f5) ((rd_T42 ((rd_T32 l0 a2).f3) a3).f6) (bq13)).bind fun t129 => (lookup_Bind.j0 k l0 l1 a2 a3 (!t129) ((rd_T42 ((rd_T32 l0 a2).f3) a3).f0) ((rd_T42 ((rd_T32 l0 a2).f3) a3).f1) ((rd_T42 ((rd_T32 l0 a2).f3) a3).f2) ((rd_T42 ((rd_T32 l0 a2).f3) a3).f3) ((rd_T42 ((rd_T32 l0 a2).f3) a3).f4) ((rd_T42 ((rd_T32 l0 a2).f3) a3).f5) ((rd_T42 ((rd_T32 l0 a2).f3) a3).f6) bq13)) else (lookup_Bind.j0 k l0 l1 a2 a3 false ((rd_T42 ((rd_T32 l0 a2).f3) a3).f0) ((rd_T42 ((rd_T32 l0 a2).f3) a3).f1) ((rd_T42 ((rd_T32 l0 a2).f3) a3).f2) ((rd_T42 ((rd_T32 l0 a2).f3) a3).f3) ((rd_T42 ((rd_T32 l0 a2).f3) a3).f4) ((rd_T42 ((rd_T32 l0 a2).f3) a3).f5) ((rd_T42 ((rd_T32 l0 a2).f3) a3).f6) bq13)) = some (r1, r2, r3) := by rw [← hbq13] at H; exact H
            have Nbq13 := Aside0.mk hbq13
            clear hbq13
            (try rw [← Nbq13.out])
            (try (have h_ := BK128.out; rw [← Nbq13.out] at h_; clear BK128; have BK128 := Aside0.mk h_; clear h_))
            by_cases c14 : bq13 = true
            · subst c14
              have H1 : ((hash_Shown.f ((rd_T42 ((rd_T32 l0 a2).f3) a3).f0) ((rd_T42 ((rd_T32 l0 a2).f3) a3).f1) ((rd_T42 ((rd_T32 l0 a2).f3) a3).f2) ((rd_T42 ((rd_T32 l0 a2).f3) a3).f3) ((rd_T42 ((rd_T32 l0 a2).f3) a3).f4) ((rd_T42 ((rd_T32 l0 a2).f3) a3).f5) ((rd_T42 ((rd_T32 l0 a2).f3) a3).f6) (true)).bind fun t129 => (lookup_Bind.j0 k l0 l1 a2 a3 (!t129) ((rd_T42 ((rd_T32 l0 a2).f3) a3).f0) ((rd_T42 ((rd_T32 l0 a2).f3) a3).f1) ((rd_T42 ((rd_T32 l0 a2).f3) a3).f2) ((rd_T42 ((rd_T32 l0 a2).f3) a3).f3) ((rd_T42 ((rd_T32 l0 a2).f3) a3).f4) ((rd_T42 ((rd_T32 l0 a2).f3) a3).f5) ((rd_T42 ((rd_T32 l0 a2).f3) a3).f6) true)) = some (r1, r2, r3) := by rw [if_pos rfl] at H; exact H
              clear H
              have H := H1
              clear H1
              replace H := Option.bind_eq_some_iff.mp H
              obtain ⟨t129, A150, H⟩ := H
              replace H : (lookup_Bind.j0 k l0 l1 a2 a3 (!t129) ((rd_T42 ((rd_T32 l0 a2).f3) a3).f0) ((rd_T42 ((rd_T32 l0 a2).f3) a3).f1) ((rd_T42 ((rd_T32 l0 a2).f3) a3).f2) ((rd_T42 ((rd_T32 l0 a2).f3) a3).f3) ((rd_T42 ((rd_T32 l0 a2).f3) a3).f4) ((rd_T42 ((rd_T32 l0 a2).f3) a3).f5) ((rd_T42 ((rd_T32 l0 a2).f3) a3).f6) true) = some (r1, r2, r3) := H
              have A15 := Aside0.mk A150
              clear A150
              have H' := Aside0.mk H
              clear H
              have hcz16_0 : w12.cell? ⟨gb128, 0, none⟩ = some (.string ((rd_T42 ((rd_T32 l0 a2).f3) a3).f0)) := (blk_cell BK128.out 0).trans rfl
              have hcz16_1 : w12.cell? ⟨gb128, 1, none⟩ = some (.string ((rd_T42 ((rd_T32 l0 a2).f3) a3).f1)) := (blk_cell BK128.out 1).trans rfl
              have hcz16_2 : w12.cell? ⟨gb128, 2, none⟩ = some (.int .u64 ((rd_T42 ((rd_T32 l0 a2).f3) a3).f2)) := (blk_cell BK128.out 2).trans rfl
              have hcz16_3 : w12.cell? ⟨gb128, 3, none⟩ = some (.int .u64 ((rd_T42 ((rd_T32 l0 a2).f3) a3).f3)) := (blk_cell BK128.out 3).trans rfl
              have hcz16_4 : w12.cell? ⟨gb128, 4, none⟩ = some (.int .i64 ((rd_T42 ((rd_T32 l0 a2).f3) a3).f4)) := (blk_cell BK128.out 4).trans rfl
              have hcz16_5 : w12.cell? ⟨gb128, 5, none⟩ = some (.int .i64 ((rd_T42 ((rd_T32 l0 a2).f3) a3).f5)) := (blk_cell BK128.out 5).trans rfl
              have hcz16_6 : w12.cell? ⟨gb128, 6, none⟩ = some (.int .i64 ((rd_T42 ((rd_T32 l0 a2).f3) a3).f6)) := (blk_cell BK128.out 6).trans rfl
              have hcz16_7 : w12.cell? ⟨gb128, 7, none⟩ = some (.bool true) := (blk_cell BK128.out 7).trans (by first | with_reducible rfl | (rw [← Nbq13.out]; rfl) | rfl)
              have hfz16_0 := blk_frozen BK128.out 0
              have hfz16_1 := blk_frozen BK128.out 1
              have hfz16_2 := blk_frozen BK128.out 2
              have hfz16_3 := blk_frozen BK128.out 3
              have hfz16_4 := blk_frozen BK128.out 4
              have hfz16_5 := blk_frozen BK128.out 5
              have hfz16_6 := blk_frozen BK128.out 6
              have hfz16_7 := blk_frozen BK128.out 7
              go_wp2_with (first | (go_at_call 22; (with_reducible refine (hash_Shown.calls ((rd_T42 ((rd_T32 l0 a2).f3) a3).f0) ((rd_T42 ((rd_T32 l0 a2).f3) a3).f1) ((rd_T42 ((rd_T32 l0 a2).f3) a3).f2) ((rd_T42 ((rd_T32 l0 a2).f3) a3).f3) ((rd_T42 ((rd_T32 l0 a2).f3) a3).f4) ((rd_T42 ((rd_T32 l0 a2).f3) a3).f5) ((rd_T42 ((rd_T32 l0 a2).f3) a3).f6) true t129 _ A15.out).mono ?_); rintro e w17 ⟨rfl, hb⟩; have n0_ := Aside0.mk (blk_below (g := gb128) (o := .cells #[.string ((rd_T42 ((rd_T32 l0 a2).f3) a3).f0), .string ((rd_T42 ((rd_T32 l0 a2).f3) a3).f1), .int .u64 ((rd_T42 ((rd_T32 l0 a2).f3) a3).f2), .int .u64 ((rd_T42 ((rd_T32 l0 a2).f3) a3).f3), .int .i64 ((rd_T42 ((rd_T32 l0 a2).f3) a3).f4), .int .i64 ((rd_T42 ((rd_T32 l0 a2).f3) a3).f5), .int .i64 ((rd_T42 ((rd_T32 l0 a2).f3) a3).f6), .bool true] 42 (0, 0)) (by (with_reducible repeat (first | refine blk_drewN ?_ _ | refine blk_drew ?_ | refine blk_alloc ?_ _)); exact BK128.out) hb); have n1_ := Aside0.mk (below_step (by repeat (first | (with_reducible first | exact HB.out | apply below_alloc | apply pw_below_drewN | apply below_drew1 | refine below_set ?_ GE128.out) | exact HB.out)) hb); clear BK128; clear HB; have BK128 := n0_; have HB := n1_; clear n0_ n1_; (try clear hb); (try clear hb2); (try clear hk); (try clear hi)))
              go_meet
              case rel => exact ⟨_, (!t129), (by first | rfl | (simp; done) | (simp [*]; done)), (by first | exact H' | (rw [← Nbq13.out]; exact H')), ⟨by first | omega | exact Nat.le_refl _⟩, ⟨by (with_reducible repeat (first | refine blk_drewN ?_ _ | refine blk_drew ?_ | refine blk_alloc ?_ _)); first | exact BK128.out | (rw [← Nbq13.out]; exact BK128.out)⟩, ⟨by repeat (first | (with_reducible first | exact HB.out | apply below_alloc | apply pw_below_drewN | apply below_drew1 | refine below_set ?_ GE128.out) | exact HB.out)⟩⟩
            · replace c14 := Bool.eq_false_iff.mpr c14
              subst c14
              have H1 : (lookup_Bind.j0 k l0 l1 a2 a3 false ((rd_T42 ((rd_T32 l0 a2).f3) a3).f0) ((rd_T42 ((rd_T32 l0 a2).f3) a3).f1) ((rd_T42 ((rd_T32 l0 a2).f3) a3).f2) ((rd_T42 ((rd_T32 l0 a2).f3) a3).f3) ((rd_T42 ((rd_T32 l0 a2).f3) a3).f4) ((rd_T42 ((rd_T32 l0 a2).f3) a3).f5) ((rd_T42 ((rd_T32 l0 a2).f3) a3).f6) false) = some (r1, r2, r3) := by rw [if_neg (show ¬ (false = true) by decide)] at H; exact H
              clear H
              have H := H1
              clear H1
              have H' := Aside0.mk H
              clear H
              have hcz18_0 : w12.cell? ⟨gb128, 0, none⟩ = some (.string ((rd_T42 ((rd_T32 l0 a2).f3) a3).f0)) := (blk_cell BK128.out 0).trans rfl
              have hcz18_1 : w12.cell? ⟨gb128, 1, none⟩ = some (.string ((rd_T42 ((rd_T32 l0 a2).f3) a3).f1)) := (blk_cell BK128.out 1).trans rfl
              have hcz18_2 : w12.cell? ⟨gb128, 2, none⟩ = some (.int .u64 ((rd_T42 ((rd_T32 l0 a2).f3) a3).f2)) := (blk_cell BK128.out 2).trans rfl
              have hcz18_3 : w12.cell? ⟨gb128, 3, none⟩ = some (.int .u64 ((rd_T42 ((rd_T32 l0 a2).f3) a3).f3)) := (blk_cell BK128.out 3).trans rfl
              have hcz18_4 : w12.cell? ⟨gb128, 4, none⟩ = some (.int .i64 ((rd_T42 ((rd_T32 l0 a2).f3) a3).f4)) := (blk_cell BK128.out 4).trans rfl
              have hcz18_5 : w12.cell? ⟨gb128, 5, none⟩ = some (.int .i64 ((rd_T42 ((rd_T32 l0 a2).f3) a3).f5)) := (blk_cell BK128.out 5).trans rfl
              have hcz18_6 : w12.cell? ⟨gb128, 6, none⟩ = some (.int .i64 ((rd_T42 ((rd_T32 l0 a2).f3) a3).f6)) := (blk_cell BK128.out 6).trans rfl
              have hcz18_7 : w12.cell? ⟨gb128, 7, none⟩ = some (.bool false) := (blk_cell BK128.out 7).trans (by first | with_reducible rfl | (rw [← Nbq13.out]; rfl) | rfl)
              have hfz18_0 := blk_frozen BK128.out 0
              have hfz18_1 := blk_frozen BK128.out 1
              have hfz18_2 := blk_frozen BK128.out 2
              have hfz18_3 := blk_frozen BK128.out 3
              have hfz18_4 := blk_frozen BK128.out 4
              have hfz18_5 := blk_frozen BK128.out 5
              have hfz18_6 := blk_frozen BK128.out 6
              have hfz18_7 := blk_frozen BK128.out 7
              go_wp2
              go_meet
              case rel => exact ⟨_, (false), (by first | rfl | (simp; done) | (simp [*]; done)), (by first | exact H' | (rw [← Nbq13.out]; exact H')), ⟨by first | omega | exact Nat.le_refl _⟩, ⟨by (with_reducible repeat (first | refine blk_drewN ?_ _ | refine blk_drew ?_ | refine blk_alloc ?_ _)); first | exact BK128.out | (rw [← Nbq13.out]; exact BK128.out)⟩, ⟨by repeat (first | (with_reducible first | exact HB.out | apply below_alloc | apply pw_below_drewN | apply below_drew1 | refine below_set ?_ GE128.out) | exact HB.out)⟩⟩
          case rest =>
            clear HC9
            try clear c1
            try clear p1
            try clear q1
            try clear hx1
            try clear p2
            try clear c5
            try clear c5b0
            try clear c6
            try clear c6b0
            try clear c7
            try clear c7b0
            try clear c8
            try clear c8b0
            try clear c11
            try clear c12
            try clear p12
            try clear q12
            try clear hx12
            try clear q13
            try clear c14
            try clear hcz11_0
            try clear hcz11_1
            try clear hcz11_2
            try clear hcz11_3
            try clear hcz11_4
            try clear hcz11_5
            try clear hcz11_6
            try clear hcz11_7
            try clear hcz16_0
            try clear hcz16_1
            try clear hcz16_2
            try clear hcz16_3
            try clear hcz16_4
            try clear hcz16_5
            try clear hcz16_6
            try clear hcz16_7
            try clear hcz18_0
            try clear hcz18_1
            try clear hcz18_2
            try clear hcz18_3
            try clear hcz18_4
            try clear hcz18_5
            try clear hcz18_6
            try clear hcz18_7
            try clear hfz11_0
            try clear hfz11_1
            try clear hfz11_2
            try clear hfz11_3
            try clear hfz11_4
            try clear hfz11_5
            try clear hfz11_6
            try clear hfz11_7
            try clear hfz16_0
            try clear hfz16_1
            try clear hfz16_2
            try clear hfz16_3
            try clear hfz16_4
            try clear hfz16_5
            try clear hfz16_6
            try clear hfz16_7
            try clear hfz18_0
            try clear hfz18_1
            try clear hfz18_2
            try clear hfz18_3
            try clear hfz18_4
            try clear hfz18_5
            try clear hfz18_6
            try clear hfz18_7
            try clear hx126_0
            try clear hx126_1
            try clear hx126_2
            try clear hx126_3
            try clear hx126_4
            try clear hx126_5
            try clear hx126_6
            try clear hx127_0
            try clear hx127_1
            try clear hx127_2
            try clear hx127_3
            try clear hx127_4
            try clear hx127_5
            try clear hx127_6
            try clear hx127_7
            try clear p126
            try clear p127
            try clear q126
            try clear q127
            obtain ⟨kq, x26_8, rfl, HA, HJ8, BK128, HB⟩ := hcut
            cases kq with
            | zero => exact absurd HA.out (by simp [lookup_Bind.j0])
            | succ kj8 =>
              have H := HA.out
              clear HA
              simp only [lookup_Bind.j0] at H
              by_cases c19 : x26_8 = true
              · subst c19
                have H1 : (some (a2, a3, 0)) = some (r1, r2, r3) := by rw [if_pos rfl] at H; exact H
                clear H
                have H := H1
                clear H1
                simp only [Option.some.injEq, Prod.mk.injEq] at H
                obtain ⟨rfl, rfl, rfl⟩ := H
                go_wp2
                go_ret3
                exact ⟨by first | rfl | (simp [errW_none, errW_some] <;> rfl) | (simp [*, errW_none, errW_some] <;> rfl), by repeat (first | (with_reducible first | exact HB.out | apply below_alloc | apply pw_below_drewN | apply below_drew1 | refine below_set ?_ GE128.out) | exact HB.out)⟩
              · replace c19 := Bool.eq_false_iff.mpr c19
                subst c19
                have H1 : ((lookup_In.f kj8 l0 l1 ((rd_T42 ((rd_T32 l0 a2).f3) a3).f0) ((rd_T42 ((rd_T32 l0 a2).f3) a3).f1)).bind fun bt130 => (if bt130.1 ≥ 0 then (some (bt130.1, bt130.2, 0)) else (if ((rd_T42 ((rd_T32 l0 a2).f3) a3).f7) = true then (some (a2, a3, 0)) else (if ((rd_T42 ((rd_T32 l0 a2).f3) a3).f5) = 3 then (some ((-1), (-1), 0)) else (if ((rd_T42 ((rd_T32 l0 a2).f3) a3).f1).toList = ([] : List UInt8) then (some (0, 0, 140)) else ((lookup_Known.f kj8 l0 l1 ((rd_T42 ((rd_T32 l0 a2).f3) a3).f0)).bind fun t132 => (if t132 = true then (some (0, 0, 141)) else (some (0, 0, 140))))))))) = some (r1, r2, r3) := by rw [if_neg (show ¬ (false = true) by decide)] at H; exact H
                clear H
                have H := H1
                clear H1
                replace H := Option.bind_eq_some_iff.mp H
                obtain ⟨⟨t130, t131⟩, A200, H⟩ := H
                replace H : (if t130 ≥ 0 then (some (t130, t131, 0)) else (if ((rd_T42 ((rd_T32 l0 a2).f3) a3).f7) = true then (some (a2, a3, 0)) else (if ((rd_T42 ((rd_T32 l0 a2).f3) a3).f5) = 3 then (some ((-1), (-1), 0)) else (if ((rd_T42 ((rd_T32 l0 a2).f3) a3).f1).toList = ([] : List UInt8) then (some (0, 0, 140)) else ((lookup_Known.f kj8 l0 l1 ((rd_T42 ((rd_T32 l0 a2).f3) a3).f0)).bind fun t132 => (if t132 = true then (some (0, 0, 141)) else (some (0, 0, 140)))))))) = some (r1, r2, r3) := H
                have A20 := Aside0.mk A200
                clear A200
                by_cases c21 : t130 ≥ 0
                · rw [if_pos c21] at H
                  have c21b0 : decide (0 ≤ t130) = true := decide_eq_true c21
                  clear c21
                  simp only [Option.some.injEq, Prod.mk.injEq] at H
                  obtain ⟨rfl, rfl, rfl⟩ := H
                  have hcz22_0 : wc.cell? ⟨gb128, 0, none⟩ = some (.string ((rd_T42 ((rd_T32 l0 a2).f3) a3).f0)) := (blk_cell BK128.out 0).trans rfl
                  have hcz22_1 : wc.cell? ⟨gb128, 1, none⟩ = some (.string ((rd_T42 ((rd_T32 l0 a2).f3) a3).f1)) := (blk_cell BK128.out 1).trans rfl
                  have hcz22_2 : wc.cell? ⟨gb128, 2, none⟩ = some (.int .u64 ((rd_T42 ((rd_T32 l0 a2).f3) a3).f2)) := (blk_cell BK128.out 2).trans rfl
                  have hcz22_3 : wc.cell? ⟨gb128, 3, none⟩ = some (.int .u64 ((rd_T42 ((rd_T32 l0 a2).f3) a3).f3)) := (blk_cell BK128.out 3).trans rfl
                  have hcz22_4 : wc.cell? ⟨gb128, 4, none⟩ = some (.int .i64 ((rd_T42 ((rd_T32 l0 a2).f3) a3).f4)) := (blk_cell BK128.out 4).trans rfl
                  have hcz22_5 : wc.cell? ⟨gb128, 5, none⟩ = some (.int .i64 ((rd_T42 ((rd_T32 l0 a2).f3) a3).f5)) := (blk_cell BK128.out 5).trans rfl
                  have hcz22_6 : wc.cell? ⟨gb128, 6, none⟩ = some (.int .i64 ((rd_T42 ((rd_T32 l0 a2).f3) a3).f6)) := (blk_cell BK128.out 6).trans rfl
                  have hcz22_7 : wc.cell? ⟨gb128, 7, none⟩ = some (.bool ((rd_T42 ((rd_T32 l0 a2).f3) a3).f7)) := (blk_cell BK128.out 7).trans rfl
                  have hfz22_0 := blk_frozen BK128.out 0
                  have hfz22_1 := blk_frozen BK128.out 1
                  have hfz22_2 := blk_frozen BK128.out 2
                  have hfz22_3 := blk_frozen BK128.out 3
                  have hfz22_4 := blk_frozen BK128.out 4
                  have hfz22_5 := blk_frozen BK128.out 5
                  have hfz22_6 := blk_frozen BK128.out 6
                  have hfz22_7 := blk_frozen BK128.out 7
                  go_wp2_with (first | ((with_reducible refine gate_dst (N := 36) rfl ?_); (with_reducible refine gate_callee (f := 13) rfl ?_); refine goesL_ (some 36) rfl rfl Try.func13 (by kernel_rfl) rfl #[.slice (some ad126) l0.length c0, .slice A1 l1.length c1, .string ((rd_T42 ((rd_T32 l0 a2).f3) a3).f0), .string ((rd_T42 ((rd_T32 l0 a2).f3) a3).f1)] rfl (by (try simp only [List.map_toArray, List.map_cons, List.map_nil]); first | done | rfl | (simp only [List.length_drop, List.length_take]; rfl)) ?_; (with_reducible refine (lookup_In.calls kj8 _ _ l0 _ _ l1 ((rd_T42 ((rd_T32 l0 a2).f3) a3).f0) ((rd_T42 ((rd_T32 l0 a2).f3) a3).f1) t130 t131 _ ?side1 ?side2 ?side3 ?side4 A20.out).mono ?_); (case side1 => repeat (first | exact (Kd.C_below HR0.out HB.out) | (with_reducible refine Kd.C_alloc ?_ _) | (with_reducible refine Kd.C_drewN ?_ _) | (with_reducible refine Kd.C_drew ?_))); (case side2 => exact HC0.out); (case side3 => repeat (first | exact (Kd.C_below HR1.out HB.out) | (with_reducible refine Kd.C_alloc ?_ _) | (with_reducible refine Kd.C_drewN ?_ _) | (with_reducible refine Kd.C_drew ?_))); (case side4 => exact HC1.out); rintro e w23 ⟨rfl, hb⟩; refine ⟨_, rfl, ?_⟩; have n0_ := Aside0.mk (blk_below (g := gb128) (o := .cells #[.string ((rd_T42 ((rd_T32 l0 a2).f3) a3).f0), .string ((rd_T42 ((rd_T32 l0 a2).f3) a3).f1), .int .u64 ((rd_T42 ((rd_T32 l0 a2).f3) a3).f2), .int .u64 ((rd_T42 ((rd_T32 l0 a2).f3) a3).f3), .int .i64 ((rd_T42 ((rd_T32 l0 a2).f3) a3).f4), .int .i64 ((rd_T42 ((rd_T32 l0 a2).f3) a3).f5), .int .i64 ((rd_T42 ((rd_T32 l0 a2).f3) a3).f6), .bool ((rd_T42 ((rd_T32 l0 a2).f3) a3).f7)] 42 (0, 0)) (by (with_reducible repeat (first | refine blk_drewN ?_ _ | refine blk_drew ?_ | refine blk_alloc ?_ _)); exact BK128.out) hb); have n1_ := Aside0.mk (below_step (by repeat (first | (with_reducible first | exact HB.out | apply below_alloc | apply pw_below_drewN | apply below_drew1 | refine below_set ?_ GE128.out) | exact HB.out)) hb); clear BK128; clear HB; have BK128 := n0_; have HB := n1_; clear n0_ n1_; (try clear hb); (try clear hb2); (try clear hk); (try clear hi)))
                  go_ret3
                  exact ⟨by first | rfl | (simp [errW_none, errW_some] <;> rfl) | (simp [*, errW_none, errW_some] <;> rfl), by repeat (first | (with_reducible first | exact HB.out | apply below_alloc | apply pw_below_drewN | apply below_drew1 | refine below_set ?_ GE128.out) | exact HB.out)⟩
                · rw [if_neg c21] at H
                  have c21b0 : decide (0 ≤ t130) = false := decide_eq_false c21
                  clear c21
                  by_cases c24 : ((rd_T42 ((rd_T32 l0 a2).f3) a3).f7) = true
                  · rw [if_pos c24] at H
                    have c24b0 : ((rd_T42 ((rd_T32 l0 a2).f3) a3).f7) = true := c24
                    clear c24
                    simp only [Option.some.injEq, Prod.mk.injEq] at H
                    obtain ⟨rfl, rfl, rfl⟩ := H
                    have hcz25_0 : wc.cell? ⟨gb128, 0, none⟩ = some (.string ((rd_T42 ((rd_T32 l0 a2).f3) a3).f0)) := (blk_cell BK128.out 0).trans rfl
                    have hcz25_1 : wc.cell? ⟨gb128, 1, none⟩ = some (.string ((rd_T42 ((rd_T32 l0 a2).f3) a3).f1)) := (blk_cell BK128.out 1).trans rfl
                    have hcz25_2 : wc.cell? ⟨gb128, 2, none⟩ = some (.int .u64 ((rd_T42 ((rd_T32 l0 a2).f3) a3).f2)) := (blk_cell BK128.out 2).trans rfl
                    have hcz25_3 : wc.cell? ⟨gb128, 3, none⟩ = some (.int .u64 ((rd_T42 ((rd_T32 l0 a2).f3) a3).f3)) := (blk_cell BK128.out 3).trans rfl
                    have hcz25_4 : wc.cell? ⟨gb128, 4, none⟩ = some (.int .i64 ((rd_T42 ((rd_T32 l0 a2).f3) a3).f4)) := (blk_cell BK128.out 4).trans rfl
                    have hcz25_5 : wc.cell? ⟨gb128, 5, none⟩ = some (.int .i64 ((rd_T42 ((rd_T32 l0 a2).f3) a3).f5)) := (blk_cell BK128.out 5).trans rfl
                    have hcz25_6 : wc.cell? ⟨gb128, 6, none⟩ = some (.int .i64 ((rd_T42 ((rd_T32 l0 a2).f3) a3).f6)) := (blk_cell BK128.out 6).trans rfl
                    have hcz25_7 : wc.cell? ⟨gb128, 7, none⟩ = some (.bool ((rd_T42 ((rd_T32 l0 a2).f3) a3).f7)) := (blk_cell BK128.out 7).trans rfl
                    have hfz25_0 := blk_frozen BK128.out 0
                    have hfz25_1 := blk_frozen BK128.out 1
                    have hfz25_2 := blk_frozen BK128.out 2
                    have hfz25_3 := blk_frozen BK128.out 3
                    have hfz25_4 := blk_frozen BK128.out 4
                    have hfz25_5 := blk_frozen BK128.out 5
                    have hfz25_6 := blk_frozen BK128.out 6
                    have hfz25_7 := blk_frozen BK128.out 7
                    go_wp2_with (first | ((with_reducible refine gate_dst (N := 36) rfl ?_); (with_reducible refine gate_callee (f := 13) rfl ?_); refine goesL_ (some 36) rfl rfl Try.func13 (by kernel_rfl) rfl #[.slice (some ad126) l0.length c0, .slice A1 l1.length c1, .string ((rd_T42 ((rd_T32 l0 a2).f3) a3).f0), .string ((rd_T42 ((rd_T32 l0 a2).f3) a3).f1)] rfl (by (try simp only [List.map_toArray, List.map_cons, List.map_nil]); first | done | rfl | (simp only [List.length_drop, List.length_take]; rfl)) ?_; (with_reducible refine (lookup_In.calls kj8 _ _ l0 _ _ l1 ((rd_T42 ((rd_T32 l0 a2).f3) a3).f0) ((rd_T42 ((rd_T32 l0 a2).f3) a3).f1) t130 t131 _ ?side1 ?side2 ?side3 ?side4 A20.out).mono ?_); (case side1 => repeat (first | exact (Kd.C_below HR0.out HB.out) | (with_reducible refine Kd.C_alloc ?_ _) | (with_reducible refine Kd.C_drewN ?_ _) | (with_reducible refine Kd.C_drew ?_))); (case side2 => exact HC0.out); (case side3 => repeat (first | exact (Kd.C_below HR1.out HB.out) | (with_reducible refine Kd.C_alloc ?_ _) | (with_reducible refine Kd.C_drewN ?_ _) | (with_reducible refine Kd.C_drew ?_))); (case side4 => exact HC1.out); rintro e w26 ⟨rfl, hb⟩; refine ⟨_, rfl, ?_⟩; have n0_ := Aside0.mk (blk_below (g := gb128) (o := .cells #[.string ((rd_T42 ((rd_T32 l0 a2).f3) a3).f0), .string ((rd_T42 ((rd_T32 l0 a2).f3) a3).f1), .int .u64 ((rd_T42 ((rd_T32 l0 a2).f3) a3).f2), .int .u64 ((rd_T42 ((rd_T32 l0 a2).f3) a3).f3), .int .i64 ((rd_T42 ((rd_T32 l0 a2).f3) a3).f4), .int .i64 ((rd_T42 ((rd_T32 l0 a2).f3) a3).f5), .int .i64 ((rd_T42 ((rd_T32 l0 a2).f3) a3).f6), .bool ((rd_T42 ((rd_T32 l0 a2).f3) a3).f7)] 42 (0, 0)) (by (with_reducible repeat (first | refine blk_drewN ?_ _ | refine blk_drew ?_ | refine blk_alloc ?_ _)); exact BK128.out) hb); have n1_ := Aside0.mk (below_step (by repeat (first | (with_reducible first | exact HB.out | apply below_alloc | apply pw_below_drewN | apply below_drew1 | refine below_set ?_ GE128.out) | exact HB.out)) hb); clear BK128; clear HB; have BK128 := n0_; have HB := n1_; clear n0_ n1_; (try clear hb); (try clear hb2); (try clear hk); (try clear hi); obtain ⟨hcz27_0, hcz27_1, hcz27_2, hcz27_3, hcz27_4, hcz27_5, hcz27_6, hcz27_7, hfz27_0, hfz27_1, hfz27_2, hfz27_3, hfz27_4, hfz27_5, hfz27_6, hfz27_7⟩ := cells8 BK128.out))
                    go_ret3
                    exact ⟨by first | rfl | (simp [errW_none, errW_some] <;> rfl) | (simp [*, errW_none, errW_some] <;> rfl), by repeat (first | (with_reducible first | exact HB.out | apply below_alloc | apply pw_below_drewN | apply below_drew1 | refine below_set ?_ GE128.out) | exact HB.out)⟩
                  · rw [if_neg c24] at H
                    have c24b0 : ((rd_T42 ((rd_T32 l0 a2).f3) a3).f7) = false := by simpa using c24
                    clear c24
                    by_cases c28 : ((rd_T42 ((rd_T32 l0 a2).f3) a3).f5) = 3
                    · rw [if_pos c28] at H
                      have c28b0 : (((rd_T42 ((rd_T32 l0 a2).f3) a3).f5) == 3) = true := beq_iff_eq.mpr c28
                      have c28b1 : (((rd_T42 ((rd_T32 l0 a2).f3) a3).f5) != 3) = false := bne_eq_false_iff_eq.mpr c28
                      clear c28
                      simp only [Option.some.injEq, Prod.mk.injEq] at H
                      obtain ⟨rfl, rfl, rfl⟩ := H
                      have hcz29_0 : wc.cell? ⟨gb128, 0, none⟩ = some (.string ((rd_T42 ((rd_T32 l0 a2).f3) a3).f0)) := (blk_cell BK128.out 0).trans rfl
                      have hcz29_1 : wc.cell? ⟨gb128, 1, none⟩ = some (.string ((rd_T42 ((rd_T32 l0 a2).f3) a3).f1)) := (blk_cell BK128.out 1).trans rfl
                      have hcz29_2 : wc.cell? ⟨gb128, 2, none⟩ = some (.int .u64 ((rd_T42 ((rd_T32 l0 a2).f3) a3).f2)) := (blk_cell BK128.out 2).trans rfl
                      have hcz29_3 : wc.cell? ⟨gb128, 3, none⟩ = some (.int .u64 ((rd_T42 ((rd_T32 l0 a2).f3) a3).f3)) := (blk_cell BK128.out 3).trans rfl
                      have hcz29_4 : wc.cell? ⟨gb128, 4, none⟩ = some (.int .i64 ((rd_T42 ((rd_T32 l0 a2).f3) a3).f4)) := (blk_cell BK128.out 4).trans rfl
                      have hcz29_5 : wc.cell? ⟨gb128, 5, none⟩ = some (.int .i64 ((rd_T42 ((rd_T32 l0 a2).f3) a3).f5)) := (blk_cell BK128.out 5).trans rfl
                      have hcz29_6 : wc.cell? ⟨gb128, 6, none⟩ = some (.int .i64 ((rd_T42 ((rd_T32 l0 a2).f3) a3).f6)) := (blk_cell BK128.out 6).trans rfl
                      have hcz29_7 : wc.cell? ⟨gb128, 7, none⟩ = some (.bool ((rd_T42 ((rd_T32 l0 a2).f3) a3).f7)) := (blk_cell BK128.out 7).trans rfl
                      have hfz29_0 := blk_frozen BK128.out 0
                      have hfz29_1 := blk_frozen BK128.out 1
                      have hfz29_2 := blk_frozen BK128.out 2
                      have hfz29_3 := blk_frozen BK128.out 3
                      have hfz29_4 := blk_frozen BK128.out 4
                      have hfz29_5 := blk_frozen BK128.out 5
                      have hfz29_6 := blk_frozen BK128.out 6
                      have hfz29_7 := blk_frozen BK128.out 7
                      go_wp2_with (first | ((with_reducible refine gate_dst (N := 36) rfl ?_); (with_reducible refine gate_callee (f := 13) rfl ?_); refine goesL_ (some 36) rfl rfl Try.func13 (by kernel_rfl) rfl #[.slice (some ad126) l0.length c0, .slice A1 l1.length c1, .string ((rd_T42 ((rd_T32 l0 a2).f3) a3).f0), .string ((rd_T42 ((rd_T32 l0 a2).f3) a3).f1)] rfl (by (try simp only [List.map_toArray, List.map_cons, List.map_nil]); first | done | rfl | (simp only [List.length_drop, List.length_take]; rfl)) ?_; (with_reducible refine (lookup_In.calls kj8 _ _ l0 _ _ l1 ((rd_T42 ((rd_T32 l0 a2).f3) a3).f0) ((rd_T42 ((rd_T32 l0 a2).f3) a3).f1) t130 t131 _ ?side1 ?side2 ?side3 ?side4 A20.out).mono ?_); (case side1 => repeat (first | exact (Kd.C_below HR0.out HB.out) | (with_reducible refine Kd.C_alloc ?_ _) | (with_reducible refine Kd.C_drewN ?_ _) | (with_reducible refine Kd.C_drew ?_))); (case side2 => exact HC0.out); (case side3 => repeat (first | exact (Kd.C_below HR1.out HB.out) | (with_reducible refine Kd.C_alloc ?_ _) | (with_reducible refine Kd.C_drewN ?_ _) | (with_reducible refine Kd.C_drew ?_))); (case side4 => exact HC1.out); rintro e w30 ⟨rfl, hb⟩; refine ⟨_, rfl, ?_⟩; have n0_ := Aside0.mk (blk_below (g := gb128) (o := .cells #[.string ((rd_T42 ((rd_T32 l0 a2).f3) a3).f0), .string ((rd_T42 ((rd_T32 l0 a2).f3) a3).f1), .int .u64 ((rd_T42 ((rd_T32 l0 a2).f3) a3).f2), .int .u64 ((rd_T42 ((rd_T32 l0 a2).f3) a3).f3), .int .i64 ((rd_T42 ((rd_T32 l0 a2).f3) a3).f4), .int .i64 ((rd_T42 ((rd_T32 l0 a2).f3) a3).f5), .int .i64 ((rd_T42 ((rd_T32 l0 a2).f3) a3).f6), .bool ((rd_T42 ((rd_T32 l0 a2).f3) a3).f7)] 42 (0, 0)) (by (with_reducible repeat (first | refine blk_drewN ?_ _ | refine blk_drew ?_ | refine blk_alloc ?_ _)); exact BK128.out) hb); have n1_ := Aside0.mk (below_step (by repeat (first | (with_reducible first | exact HB.out | apply below_alloc | apply pw_below_drewN | apply below_drew1 | refine below_set ?_ GE128.out) | exact HB.out)) hb); clear BK128; clear HB; have BK128 := n0_; have HB := n1_; clear n0_ n1_; (try clear hb); (try clear hb2); (try clear hk); (try clear hi); obtain ⟨hcz31_0, hcz31_1, hcz31_2, hcz31_3, hcz31_4, hcz31_5, hcz31_6, hcz31_7, hfz31_0, hfz31_1, hfz31_2, hfz31_3, hfz31_4, hfz31_5, hfz31_6, hfz31_7⟩ := cells8 BK128.out))
                      go_ret3
                      exact ⟨by first | rfl | (simp [errW_none, errW_some] <;> rfl) | (simp [*, errW_none, errW_some] <;> rfl), by repeat (first | (with_reducible first | exact HB.out | apply below_alloc | apply pw_below_drewN | apply below_drew1 | refine below_set ?_ GE128.out) | exact HB.out)⟩
                    · rw [if_neg c28] at H
                      have c28b0 : (((rd_T42 ((rd_T32 l0 a2).f3) a3).f5) == 3) = false := beq_eq_false_iff_ne.mpr c28
                      have c28b1 : (((rd_T42 ((rd_T32 l0 a2).f3) a3).f5) != 3) = true := bne_iff_ne.mpr c28
                      by_cases c32 : ((rd_T42 ((rd_T32 l0 a2).f3) a3).f1).toList = ([] : List UInt8)
                      · rw [if_pos c32] at H
                        have c32b0 : (((rd_T42 ((rd_T32 l0 a2).f3) a3).f1).toList == ([] : List UInt8)) = true := beq_iff_eq.mpr c32
                        have c32b1 : (((rd_T42 ((rd_T32 l0 a2).f3) a3).f1).toList != ([] : List UInt8)) = false := bne_eq_false_iff_eq.mpr c32
                        clear c32
                        simp only [Option.some.injEq, Prod.mk.injEq] at H
                        obtain ⟨rfl, rfl, rfl⟩ := H
                        have hcz33_0 : wc.cell? ⟨gb128, 0, none⟩ = some (.string ((rd_T42 ((rd_T32 l0 a2).f3) a3).f0)) := (blk_cell BK128.out 0).trans rfl
                        have hcz33_1 : wc.cell? ⟨gb128, 1, none⟩ = some (.string ((rd_T42 ((rd_T32 l0 a2).f3) a3).f1)) := (blk_cell BK128.out 1).trans rfl
                        have hcz33_2 : wc.cell? ⟨gb128, 2, none⟩ = some (.int .u64 ((rd_T42 ((rd_T32 l0 a2).f3) a3).f2)) := (blk_cell BK128.out 2).trans rfl
                        have hcz33_3 : wc.cell? ⟨gb128, 3, none⟩ = some (.int .u64 ((rd_T42 ((rd_T32 l0 a2).f3) a3).f3)) := (blk_cell BK128.out 3).trans rfl
                        have hcz33_4 : wc.cell? ⟨gb128, 4, none⟩ = some (.int .i64 ((rd_T42 ((rd_T32 l0 a2).f3) a3).f4)) := (blk_cell BK128.out 4).trans rfl
                        have hcz33_5 : wc.cell? ⟨gb128, 5, none⟩ = some (.int .i64 ((rd_T42 ((rd_T32 l0 a2).f3) a3).f5)) := (blk_cell BK128.out 5).trans rfl
                        have hcz33_6 : wc.cell? ⟨gb128, 6, none⟩ = some (.int .i64 ((rd_T42 ((rd_T32 l0 a2).f3) a3).f6)) := (blk_cell BK128.out 6).trans rfl
                        have hcz33_7 : wc.cell? ⟨gb128, 7, none⟩ = some (.bool ((rd_T42 ((rd_T32 l0 a2).f3) a3).f7)) := (blk_cell BK128.out 7).trans rfl
                        have hfz33_0 := blk_frozen BK128.out 0
                        have hfz33_1 := blk_frozen BK128.out 1
                        have hfz33_2 := blk_frozen BK128.out 2
                        have hfz33_3 := blk_frozen BK128.out 3
                        have hfz33_4 := blk_frozen BK128.out 4
                        have hfz33_5 := blk_frozen BK128.out 5
                        have hfz33_6 := blk_frozen BK128.out 6
                        have hfz33_7 := blk_frozen BK128.out 7
                        go_wp2_with (first | ((with_reducible refine gate_dst (N := 36) rfl ?_); (with_reducible refine gate_callee (f := 13) rfl ?_); refine goesL_ (some 36) rfl rfl Try.func13 (by kernel_rfl) rfl #[.slice (some ad126) l0.length c0, .slice A1 l1.length c1, .string ((rd_T42 ((rd_T32 l0 a2).f3) a3).f0), .string ((rd_T42 ((rd_T32 l0 a2).f3) a3).f1)] rfl (by (try simp only [List.map_toArray, List.map_cons, List.map_nil]); first | done | rfl | (simp only [List.length_drop, List.length_take]; rfl)) ?_; (with_reducible refine (lookup_In.calls kj8 _ _ l0 _ _ l1 ((rd_T42 ((rd_T32 l0 a2).f3) a3).f0) ((rd_T42 ((rd_T32 l0 a2).f3) a3).f1) t130 t131 _ ?side1 ?side2 ?side3 ?side4 A20.out).mono ?_); (case side1 => repeat (first | exact (Kd.C_below HR0.out HB.out) | (with_reducible refine Kd.C_alloc ?_ _) | (with_reducible refine Kd.C_drewN ?_ _) | (with_reducible refine Kd.C_drew ?_))); (case side2 => exact HC0.out); (case side3 => repeat (first | exact (Kd.C_below HR1.out HB.out) | (with_reducible refine Kd.C_alloc ?_ _) | (with_reducible refine Kd.C_drewN ?_ _) | (with_reducible refine Kd.C_drew ?_))); (case side4 => exact HC1.out); rintro e w34 ⟨rfl, hb⟩; refine ⟨_, rfl, ?_⟩; have n0_ := Aside0.mk (blk_below (g := gb128) (o := .cells #[.string ((rd_T42 ((rd_T32 l0 a2).f3) a3).f0), .string ((rd_T42 ((rd_T32 l0 a2).f3) a3).f1), .int .u64 ((rd_T42 ((rd_T32 l0 a2).f3) a3).f2), .int .u64 ((rd_T42 ((rd_T32 l0 a2).f3) a3).f3), .int .i64 ((rd_T42 ((rd_T32 l0 a2).f3) a3).f4), .int .i64 ((rd_T42 ((rd_T32 l0 a2).f3) a3).f5), .int .i64 ((rd_T42 ((rd_T32 l0 a2).f3) a3).f6), .bool ((rd_T42 ((rd_T32 l0 a2).f3) a3).f7)] 42 (0, 0)) (by (with_reducible repeat (first | refine blk_drewN ?_ _ | refine blk_drew ?_ | refine blk_alloc ?_ _)); exact BK128.out) hb); have n1_ := Aside0.mk (below_step (by repeat (first | (with_reducible first | exact HB.out | apply below_alloc | apply pw_below_drewN | apply below_drew1 | refine below_set ?_ GE128.out) | exact HB.out)) hb); clear BK128; clear HB; have BK128 := n0_; have HB := n1_; clear n0_ n1_; (try clear hb); (try clear hb2); (try clear hk); (try clear hi); obtain ⟨hcz35_0, hcz35_1, hcz35_2, hcz35_3, hcz35_4, hcz35_5, hcz35_6, hcz35_7, hfz35_0, hfz35_1, hfz35_2, hfz35_3, hfz35_4, hfz35_5, hfz35_6, hfz35_7⟩ := cells8 BK128.out))
                        go_ret3
                        exact ⟨by first | rfl | (simp [errW_none, errW_some] <;> rfl) | (simp [*, errW_none, errW_some] <;> rfl), by repeat (first | (with_reducible first | exact HB.out | apply below_alloc | apply pw_below_drewN | apply below_drew1 | refine below_set ?_ GE128.out) | exact HB.out)⟩
                      · rw [if_neg c32] at H
                        have c32b0 : (((rd_T42 ((rd_T32 l0 a2).f3) a3).f1).toList == ([] : List UInt8)) = false := beq_eq_false_iff_ne.mpr c32
                        have c32b1 : (((rd_T42 ((rd_T32 l0 a2).f3) a3).f1).toList != ([] : List UInt8)) = true := bne_iff_ne.mpr c32
                        replace H := Option.bind_eq_some_iff.mp H
                        obtain ⟨t132, A360, H⟩ := H
                        replace H : (if t132 = true then (some (0, 0, 141)) else (some (0, 0, 140))) = some (r1, r2, r3) := H
                        have A36 := Aside0.mk A360
                        clear A360
                        by_cases c37 : t132 = true
                        · subst c37
                          have H1 : (some (0, 0, 141)) = some (r1, r2, r3) := by rw [if_pos rfl] at H; exact H
                          clear H
                          have H := H1
                          clear H1
                          simp only [Option.some.injEq, Prod.mk.injEq] at H
                          obtain ⟨rfl, rfl, rfl⟩ := H
                          have hcz38_0 : wc.cell? ⟨gb128, 0, none⟩ = some (.string ((rd_T42 ((rd_T32 l0 a2).f3) a3).f0)) := (blk_cell BK128.out 0).trans rfl
                          have hcz38_1 : wc.cell? ⟨gb128, 1, none⟩ = some (.string ((rd_T42 ((rd_T32 l0 a2).f3) a3).f1)) := (blk_cell BK128.out 1).trans rfl
                          have hcz38_2 : wc.cell? ⟨gb128, 2, none⟩ = some (.int .u64 ((rd_T42 ((rd_T32 l0 a2).f3) a3).f2)) := (blk_cell BK128.out 2).trans rfl
                          have hcz38_3 : wc.cell? ⟨gb128, 3, none⟩ = some (.int .u64 ((rd_T42 ((rd_T32 l0 a2).f3) a3).f3)) := (blk_cell BK128.out 3).trans rfl
                          have hcz38_4 : wc.cell? ⟨gb128, 4, none⟩ = some (.int .i64 ((rd_T42 ((rd_T32 l0 a2).f3) a3).f4)) := (blk_cell BK128.out 4).trans rfl
                          have hcz38_5 : wc.cell? ⟨gb128, 5, none⟩ = some (.int .i64 ((rd_T42 ((rd_T32 l0 a2).f3) a3).f5)) := (blk_cell BK128.out 5).trans rfl
                          have hcz38_6 : wc.cell? ⟨gb128, 6, none⟩ = some (.int .i64 ((rd_T42 ((rd_T32 l0 a2).f3) a3).f6)) := (blk_cell BK128.out 6).trans rfl
                          have hcz38_7 : wc.cell? ⟨gb128, 7, none⟩ = some (.bool ((rd_T42 ((rd_T32 l0 a2).f3) a3).f7)) := (blk_cell BK128.out 7).trans rfl
                          have hfz38_0 := blk_frozen BK128.out 0
                          have hfz38_1 := blk_frozen BK128.out 1
                          have hfz38_2 := blk_frozen BK128.out 2
                          have hfz38_3 := blk_frozen BK128.out 3
                          have hfz38_4 := blk_frozen BK128.out 4
                          have hfz38_5 := blk_frozen BK128.out 5
                          have hfz38_6 := blk_frozen BK128.out 6
                          have hfz38_7 := blk_frozen BK128.out 7
                          go_wp2_with (first | ((with_reducible refine gate_dst (N := 36) rfl ?_); (with_reducible refine gate_callee (f := 13) rfl ?_); refine goesL_ (some 36) rfl rfl Try.func13 (by kernel_rfl) rfl #[.slice (some ad126) l0.length c0, .slice A1 l1.length c1, .string ((rd_T42 ((rd_T32 l0 a2).f3) a3).f0), .string ((rd_T42 ((rd_T32 l0 a2).f3) a3).f1)] rfl (by (try simp only [List.map_toArray, List.map_cons, List.map_nil]); first | done | rfl | (simp only [List.length_drop, List.length_take]; rfl)) ?_; (with_reducible refine (lookup_In.calls kj8 _ _ l0 _ _ l1 ((rd_T42 ((rd_T32 l0 a2).f3) a3).f0) ((rd_T42 ((rd_T32 l0 a2).f3) a3).f1) t130 t131 _ ?side1 ?side2 ?side3 ?side4 A20.out).mono ?_); (case side1 => repeat (first | exact (Kd.C_below HR0.out HB.out) | (with_reducible refine Kd.C_alloc ?_ _) | (with_reducible refine Kd.C_drewN ?_ _) | (with_reducible refine Kd.C_drew ?_))); (case side2 => exact HC0.out); (case side3 => repeat (first | exact (Kd.C_below HR1.out HB.out) | (with_reducible refine Kd.C_alloc ?_ _) | (with_reducible refine Kd.C_drewN ?_ _) | (with_reducible refine Kd.C_drew ?_))); (case side4 => exact HC1.out); rintro e w39 ⟨rfl, hb⟩; refine ⟨_, rfl, ?_⟩; have n0_ := Aside0.mk (blk_below (g := gb128) (o := .cells #[.string ((rd_T42 ((rd_T32 l0 a2).f3) a3).f0), .string ((rd_T42 ((rd_T32 l0 a2).f3) a3).f1), .int .u64 ((rd_T42 ((rd_T32 l0 a2).f3) a3).f2), .int .u64 ((rd_T42 ((rd_T32 l0 a2).f3) a3).f3), .int .i64 ((rd_T42 ((rd_T32 l0 a2).f3) a3).f4), .int .i64 ((rd_T42 ((rd_T32 l0 a2).f3) a3).f5), .int .i64 ((rd_T42 ((rd_T32 l0 a2).f3) a3).f6), .bool ((rd_T42 ((rd_T32 l0 a2).f3) a3).f7)] 42 (0, 0)) (by (with_reducible repeat (first | refine blk_drewN ?_ _ | refine blk_drew ?_ | refine blk_alloc ?_ _)); exact BK128.out) hb); have n1_ := Aside0.mk (below_step (by repeat (first | (with_reducible first | exact HB.out | apply below_alloc | apply pw_below_drewN | apply below_drew1 | refine below_set ?_ GE128.out) | exact HB.out)) hb); clear BK128; clear HB; have BK128 := n0_; have HB := n1_; clear n0_ n1_; (try clear hb); (try clear hb2); (try clear hk); (try clear hi); obtain ⟨hcz40_0, hcz40_1, hcz40_2, hcz40_3, hcz40_4, hcz40_5, hcz40_6, hcz40_7, hfz40_0, hfz40_1, hfz40_2, hfz40_3, hfz40_4, hfz40_5, hfz40_6, hfz40_7⟩ := cells8 BK128.out) | (go_at_call 16; (with_reducible refine (lookup_Known.calls kj8 _ _ l0 _ _ l1 ((rd_T42 ((rd_T32 l0 a2).f3) a3).f0) true _ ?side1 ?side2 ?side3 ?side4 A36.out).mono ?_); (case side1 => repeat (first | exact (Kd.C_below HR0.out HB.out) | (with_reducible refine Kd.C_alloc ?_ _) | (with_reducible refine Kd.C_drewN ?_ _) | (with_reducible refine Kd.C_drew ?_))); (case side2 => exact HC0.out); (case side3 => repeat (first | exact (Kd.C_below HR1.out HB.out) | (with_reducible refine Kd.C_alloc ?_ _) | (with_reducible refine Kd.C_drewN ?_ _) | (with_reducible refine Kd.C_drew ?_))); (case side4 => exact HC1.out); rintro e w41 ⟨rfl, hb⟩; have n0_ := Aside0.mk (blk_below (g := gb128) (o := .cells #[.string ((rd_T42 ((rd_T32 l0 a2).f3) a3).f0), .string ((rd_T42 ((rd_T32 l0 a2).f3) a3).f1), .int .u64 ((rd_T42 ((rd_T32 l0 a2).f3) a3).f2), .int .u64 ((rd_T42 ((rd_T32 l0 a2).f3) a3).f3), .int .i64 ((rd_T42 ((rd_T32 l0 a2).f3) a3).f4), .int .i64 ((rd_T42 ((rd_T32 l0 a2).f3) a3).f5), .int .i64 ((rd_T42 ((rd_T32 l0 a2).f3) a3).f6), .bool ((rd_T42 ((rd_T32 l0 a2).f3) a3).f7)] 42 (0, 0)) (by (with_reducible repeat (first | refine blk_drewN ?_ _ | refine blk_drew ?_ | refine blk_alloc ?_ _)); exact BK128.out) hb); have n1_ := Aside0.mk (below_step (by repeat (first | (with_reducible first | exact HB.out | apply below_alloc | apply pw_below_drewN | apply below_drew1 | refine below_set ?_ GE128.out) | exact HB.out)) hb); clear BK128; clear HB; have BK128 := n0_; have HB := n1_; clear n0_ n1_; (try clear hb); (try clear hb2); (try clear hk); (try clear hi)))
                          go_ret3
                          exact ⟨by first | rfl | (simp [errW_none, errW_some] <;> rfl) | (simp [*, errW_none, errW_some] <;> rfl), by repeat (first | (with_reducible first | exact HB.out | apply below_alloc | apply pw_below_drewN | apply below_drew1 | refine below_set ?_ GE128.out) | exact HB.out)⟩
                        · replace c37 := Bool.eq_false_iff.mpr c37
                          subst c37
                          have H1 : (some (0, 0, 140)) = some (r1, r2, r3) := by rw [if_neg (show ¬ (false = true) by decide)] at H; exact H
                          clear H
                          have H := H1
                          clear H1
                          simp only [Option.some.injEq, Prod.mk.injEq] at H
                          obtain ⟨rfl, rfl, rfl⟩ := H
                          have hcz42_0 : wc.cell? ⟨gb128, 0, none⟩ = some (.string ((rd_T42 ((rd_T32 l0 a2).f3) a3).f0)) := (blk_cell BK128.out 0).trans rfl
                          have hcz42_1 : wc.cell? ⟨gb128, 1, none⟩ = some (.string ((rd_T42 ((rd_T32 l0 a2).f3) a3).f1)) := (blk_cell BK128.out 1).trans rfl
                          have hcz42_2 : wc.cell? ⟨gb128, 2, none⟩ = some (.int .u64 ((rd_T42 ((rd_T32 l0 a2).f3) a3).f2)) := (blk_cell BK128.out 2).trans rfl
                          have hcz42_3 : wc.cell? ⟨gb128, 3, none⟩ = some (.int .u64 ((rd_T42 ((rd_T32 l0 a2).f3) a3).f3)) := (blk_cell BK128.out 3).trans rfl
                          have hcz42_4 : wc.cell? ⟨gb128, 4, none⟩ = some (.int .i64 ((rd_T42 ((rd_T32 l0 a2).f3) a3).f4)) := (blk_cell BK128.out 4).trans rfl
                          have hcz42_5 : wc.cell? ⟨gb128, 5, none⟩ = some (.int .i64 ((rd_T42 ((rd_T32 l0 a2).f3) a3).f5)) := (blk_cell BK128.out 5).trans rfl
                          have hcz42_6 : wc.cell? ⟨gb128, 6, none⟩ = some (.int .i64 ((rd_T42 ((rd_T32 l0 a2).f3) a3).f6)) := (blk_cell BK128.out 6).trans rfl
                          have hcz42_7 : wc.cell? ⟨gb128, 7, none⟩ = some (.bool ((rd_T42 ((rd_T32 l0 a2).f3) a3).f7)) := (blk_cell BK128.out 7).trans rfl
                          have hfz42_0 := blk_frozen BK128.out 0
                          have hfz42_1 := blk_frozen BK128.out 1
                          have hfz42_2 := blk_frozen BK128.out 2
                          have hfz42_3 := blk_frozen BK128.out 3
                          have hfz42_4 := blk_frozen BK128.out 4
                          have hfz42_5 := blk_frozen BK128.out 5
                          have hfz42_6 := blk_frozen BK128.out 6
                          have hfz42_7 := blk_frozen BK128.out 7
                          go_wp2_with (first | ((with_reducible refine gate_dst (N := 36) rfl ?_); (with_reducible refine gate_callee (f := 13) rfl ?_); refine goesL_ (some 36) rfl rfl Try.func13 (by kernel_rfl) rfl #[.slice (some ad126) l0.length c0, .slice A1 l1.length c1, .string ((rd_T42 ((rd_T32 l0 a2).f3) a3).f0), .string ((rd_T42 ((rd_T32 l0 a2).f3) a3).f1)] rfl (by (try simp only [List.map_toArray, List.map_cons, List.map_nil]); first | done | rfl | (simp only [List.length_drop, List.length_take]; rfl)) ?_; (with_reducible refine (lookup_In.calls kj8 _ _ l0 _ _ l1 ((rd_T42 ((rd_T32 l0 a2).f3) a3).f0) ((rd_T42 ((rd_T32 l0 a2).f3) a3).f1) t130 t131 _ ?side1 ?side2 ?side3 ?side4 A20.out).mono ?_); (case side1 => repeat (first | exact (Kd.C_below HR0.out HB.out) | (with_reducible refine Kd.C_alloc ?_ _) | (with_reducible refine Kd.C_drewN ?_ _) | (with_reducible refine Kd.C_drew ?_))); (case side2 => exact HC0.out); (case side3 => repeat (first | exact (Kd.C_below HR1.out HB.out) | (with_reducible refine Kd.C_alloc ?_ _) | (with_reducible refine Kd.C_drewN ?_ _) | (with_reducible refine Kd.C_drew ?_))); (case side4 => exact HC1.out); rintro e w43 ⟨rfl, hb⟩; refine ⟨_, rfl, ?_⟩; have n0_ := Aside0.mk (blk_below (g := gb128) (o := .cells #[.string ((rd_T42 ((rd_T32 l0 a2).f3) a3).f0), .string ((rd_T42 ((rd_T32 l0 a2).f3) a3).f1), .int .u64 ((rd_T42 ((rd_T32 l0 a2).f3) a3).f2), .int .u64 ((rd_T42 ((rd_T32 l0 a2).f3) a3).f3), .int .i64 ((rd_T42 ((rd_T32 l0 a2).f3) a3).f4), .int .i64 ((rd_T42 ((rd_T32 l0 a2).f3) a3).f5), .int .i64 ((rd_T42 ((rd_T32 l0 a2).f3) a3).f6), .bool ((rd_T42 ((rd_T32 l0 a2).f3) a3).f7)] 42 (0, 0)) (by (with_reducible repeat (first | refine blk_drewN ?_ _ | refine blk_drew ?_ | refine blk_alloc ?_ _)); exact BK128.out) hb); have n1_ := Aside0.mk (below_step (by repeat (first | (with_reducible first | exact HB.out | apply below_alloc | apply pw_below_drewN | apply below_drew1 | refine below_set ?_ GE128.out) | exact HB.out)) hb); clear BK128; clear HB; have BK128 := n0_; have HB := n1_; clear n0_ n1_; (try clear hb); (try clear hb2); (try clear hk); (try clear hi); obtain ⟨hcz44_0, hcz44_1, hcz44_2, hcz44_3, hcz44_4, hcz44_5, hcz44_6, hcz44_7, hfz44_0, hfz44_1, hfz44_2, hfz44_3, hfz44_4, hfz44_5, hfz44_6, hfz44_7⟩ := cells8 BK128.out) | (go_at_call 16; (with_reducible refine (lookup_Known.calls kj8 _ _ l0 _ _ l1 ((rd_T42 ((rd_T32 l0 a2).f3) a3).f0) false _ ?side1 ?side2 ?side3 ?side4 A36.out).mono ?_); (case side1 => repeat (first | exact (Kd.C_below HR0.out HB.out) | (with_reducible refine Kd.C_alloc ?_ _) | (with_reducible refine Kd.C_drewN ?_ _) | (with_reducible refine Kd.C_drew ?_))); (case side2 => exact HC0.out); (case side3 => repeat (first | exact (Kd.C_below HR1.out HB.out) | (with_reducible refine Kd.C_alloc ?_ _) | (with_reducible refine Kd.C_drewN ?_ _) | (with_reducible refine Kd.C_drew ?_))); (case side4 => exact HC1.out); rintro e w45 ⟨rfl, hb⟩; have n0_ := Aside0.mk (blk_below (g := gb128) (o := .cells #[.string ((rd_T42 ((rd_T32 l0 a2).f3) a3).f0), .string ((rd_T42 ((rd_T32 l0 a2).f3) a3).f1), .int .u64 ((rd_T42 ((rd_T32 l0 a2).f3) a3).f2), .int .u64 ((rd_T42 ((rd_T32 l0 a2).f3) a3).f3), .int .i64 ((rd_T42 ((rd_T32 l0 a2).f3) a3).f4), .int .i64 ((rd_T42 ((rd_T32 l0 a2).f3) a3).f5), .int .i64 ((rd_T42 ((rd_T32 l0 a2).f3) a3).f6), .bool ((rd_T42 ((rd_T32 l0 a2).f3) a3).f7)] 42 (0, 0)) (by (with_reducible repeat (first | refine blk_drewN ?_ _ | refine blk_drew ?_ | refine blk_alloc ?_ _)); exact BK128.out) hb); have n1_ := Aside0.mk (below_step (by repeat (first | (with_reducible first | exact HB.out | apply below_alloc | apply pw_below_drewN | apply below_drew1 | refine below_set ?_ GE128.out) | exact HB.out)) hb); clear BK128; clear HB; have BK128 := n0_; have HB := n1_; clear n0_ n1_; (try clear hb); (try clear hb2); (try clear hk); (try clear hi)))
                          go_ret3
                          exact ⟨by first | rfl | (simp [errW_none, errW_some] <;> rfl) | (simp [*, errW_none, errW_some] <;> rfl), by repeat (first | (with_reducible first | exact HB.out | apply below_alloc | apply pw_below_drewN | apply below_drew1 | refine below_set ?_ GE128.out) | exact HB.out)⟩
        · rw [if_neg c8] at H
          exact absurd H (by simp)
      · rw [if_neg c7] at H
        exact absurd H (by simp)
    · rw [if_neg c6] at H
      exact absurd H (by simp)
  · rw [if_neg c5] at H
    exact absurd H (by simp)

def curtilagelaw14_def.f (a0 : ByteArray) (a1 : ByteArray) : Option (ByteArray × ByteArray × Int × Int × Int × Int × Int × Bool) := some (a0, a1, 0, 0, 1, 2, 1, true)
set_option maxHeartbeats 8000000 in
set_option maxRecDepth 100000 in
theorem curtilagelaw14_def.calls (a0 : ByteArray) (a1 : ByteArray) (r1 : ByteArray) (r2 : ByteArray) (r3 : Int) (r4 : Int) (r5 : Int) (r6 : Int) (r7 : Int) (r8 : Bool) (w : World) (h : curtilagelaw14_def.f a0 a1 = some (r1, r2, r3, r4, r5, r6, r7, r8)) :
    Calls Try.prog 20 #[.string a0, .string a1] w fun e w' => e = .returned (.agg #[.string r1, .string r2, .int .u64 r3, .int .u64 r4, .int .i64 r5, .int .i64 r6, .int .i64 r7, .bool r8]) ∧ Below w.heap.size w w' := by
  have hu42 := Try.underlying42
  have HB := Aside0.mk (Below.refl w.heap.size w)
  have H : (some (a0, a1, 0, 0, 1, 2, 1, true)) = some (r1, r2, r3, r4, r5, r6, r7, r8) := h
  clear h
  simp only [Option.some.injEq, Prod.mk.injEq] at H
  obtain ⟨rfl, rfl, rfl, rfl, rfl, rfl, rfl, rfl⟩ := H
  go_enter Try.func20, Try.ntmps20
  go_wp2_with (first | ((with_reducible refine gate_dst (N := 4) rfl ?_); refine box_event ?hg (N := 4) ?hd (cs := #[.string (⟨#[]⟩ : ByteArray), .string (⟨#[]⟩ : ByteArray), .int .u64 0, .int .u64 0, .int .i64 0, .int .i64 0, .int .i64 0, .bool false]) (t := 42) ?hr ?_; (case hd => rfl); (case hg => rfl); (case hr => first | (go_simp; done) | (go_simp; rfl)); intro gb133 hg w3 hbox hb; have n0_ := Aside0.mk (below_step (by repeat (first | (with_reducible first | exact HB.out | apply below_alloc | apply pw_below_drewN | apply below_drew1) | exact HB.out)) hb); have n1_ := Aside0.mk (hbox); have n2_ := Aside0.mk ((by rw [hg]; exact (below_size (by repeat (first | (with_reducible first | exact HB.out | apply below_alloc | apply pw_below_drewN | apply below_drew1) | exact HB.out))) : w.heap.size ≤ gb133)); have n3_ := n2_; clear HB; have HB := n0_; have BK133 := n1_; have GW133 := n2_; have GE133 := n3_; clear n0_ n1_ n2_ n3_; clear hb hbox hg; obtain ⟨hcz4_0, hcz4_1, hcz4_2, hcz4_3, hcz4_4, hcz4_5, hcz4_6, hcz4_7, hfz4_0, hfz4_1, hfz4_2, hfz4_3, hfz4_4, hfz4_5, hfz4_6, hfz4_7⟩ := cells8 BK133.out) | ((with_reducible refine gate_store (t := 42) (p := 4) rfl ?_); refine store_event (t := 42) (p := 4) (v := ?vo_w5) (w1 := ((((((((w3.setCell ⟨gb133, 0, none⟩ (.string a0)).setCell ⟨gb133, 1, none⟩ (.string a1)).setCell ⟨gb133, 2, none⟩ (.int .u64 0)).setCell ⟨gb133, 3, none⟩ (.int .u64 0)).setCell ⟨gb133, 4, none⟩ (.int .i64 1)).setCell ⟨gb133, 5, none⟩ (.int .i64 2)).setCell ⟨gb133, 6, none⟩ (.int .i64 1)).setCell ⟨gb133, 7, none⟩ (.bool true))) ?hg ?ho ?hn ?hr ?_; (case ho => rfl); (case hg => rfl); (case hn => rfl); (case hr => first | (go_simp; done) | (go_simp; rfl)); intro w5 hw; have n0_ : Aside0 (w5.heap[gb133]? = some (.cells #[.string a0, .string a1, .int .u64 0, .int .u64 0, .int .i64 1, .int .i64 2, .int .i64 1, .bool true] 42 (0, 0))) := ⟨(by rw [hw]; exact (by (with_reducible repeat (first | refine blk_drewN ?_ _ | refine blk_drew ?_ | refine blk_alloc ?_ _)); refine blk_put (cs := #[.string a0, .string a1, .int .u64 0, .int .u64 0, .int .i64 1, .int .i64 2, .int .i64 1, .bool false]) ?_ 7 _ rfl; (with_reducible repeat (first | refine blk_drewN ?_ _ | refine blk_drew ?_ | refine blk_alloc ?_ _)); refine blk_put (cs := #[.string a0, .string a1, .int .u64 0, .int .u64 0, .int .i64 1, .int .i64 2, .int .i64 0, .bool false]) ?_ 6 _ rfl; (with_reducible repeat (first | refine blk_drewN ?_ _ | refine blk_drew ?_ | refine blk_alloc ?_ _)); refine blk_put (cs := #[.string a0, .string a1, .int .u64 0, .int .u64 0, .int .i64 1, .int .i64 0, .int .i64 0, .bool false]) ?_ 5 _ rfl; (with_reducible repeat (first | refine blk_drewN ?_ _ | refine blk_drew ?_ | refine blk_alloc ?_ _)); refine blk_put (cs := #[.string a0, .string a1, .int .u64 0, .int .u64 0, .int .i64 0, .int .i64 0, .int .i64 0, .bool false]) ?_ 4 _ rfl; (with_reducible repeat (first | refine blk_drewN ?_ _ | refine blk_drew ?_ | refine blk_alloc ?_ _)); refine blk_put (cs := #[.string a0, .string a1, .int .u64 0, .int .u64 0, .int .i64 0, .int .i64 0, .int .i64 0, .bool false]) ?_ 3 _ rfl; (with_reducible repeat (first | refine blk_drewN ?_ _ | refine blk_drew ?_ | refine blk_alloc ?_ _)); refine blk_put (cs := #[.string a0, .string a1, .int .u64 0, .int .u64 0, .int .i64 0, .int .i64 0, .int .i64 0, .bool false]) ?_ 2 _ rfl; (with_reducible repeat (first | refine blk_drewN ?_ _ | refine blk_drew ?_ | refine blk_alloc ?_ _)); refine blk_put (cs := #[.string a0, .string (⟨#[]⟩ : ByteArray), .int .u64 0, .int .u64 0, .int .i64 0, .int .i64 0, .int .i64 0, .bool false]) ?_ 1 _ rfl; (with_reducible repeat (first | refine blk_drewN ?_ _ | refine blk_drew ?_ | refine blk_alloc ?_ _)); refine blk_put (cs := #[.string (⟨#[]⟩ : ByteArray), .string (⟨#[]⟩ : ByteArray), .int .u64 0, .int .u64 0, .int .i64 0, .int .i64 0, .int .i64 0, .bool false]) ?_ 0 _ rfl; (with_reducible repeat (first | refine blk_drewN ?_ _ | refine blk_drew ?_ | refine blk_alloc ?_ _)); exact BK133.out))⟩; have n1_ : Aside0 (Below w.heap.size w w5) := ⟨(by rw [hw]; exact (by repeat (first | (with_reducible first | exact HB.out | apply below_alloc | apply pw_below_drewN | apply below_drew1 | refine below_set ?_ GE133.out) | exact HB.out)))⟩; clear hw; clear BK133; clear HB; have BK133 := n0_; have HB := n1_; clear n0_ n1_))
  refine bodyPost_ret (results_cell_row rfl _ _ gb133 42 #[.string a0, .string a1, .int .u64 0, .int .u64 0, .int .i64 1, .int .i64 2, .int .i64 1, .bool true] (0, 0) _ rfl (by (with_reducible repeat (first | refine blk_drewN ?_ _ | refine blk_drew ?_ | refine blk_alloc ?_ _)); exact BK133.out) Try.underlying42 rfl (by kernel_rfl)) rfl ?_
  exact ⟨by first | rfl | (simp [errW_none, errW_some] <;> rfl) | (simp [*, errW_none, errW_some] <;> rfl), by repeat (first | (with_reducible first | exact HB.out | apply below_alloc | apply pw_below_drewN | apply below_drew1 | refine below_set ?_ GE133.out) | exact HB.out)⟩

def curtilagelaw14_use.f (a0 : ByteArray) (a1 : ByteArray) (a2 : Int) : Option (ByteArray × ByteArray × Int × Int × Int × Int × Int × Bool) := some (a0, a1, 0, 0, 1, a2, 1, false)
set_option maxHeartbeats 8000000 in
set_option maxRecDepth 100000 in
theorem curtilagelaw14_use.calls (a0 : ByteArray) (a1 : ByteArray) (a2 : Int) (r1 : ByteArray) (r2 : ByteArray) (r3 : Int) (r4 : Int) (r5 : Int) (r6 : Int) (r7 : Int) (r8 : Bool) (w : World) (h : curtilagelaw14_use.f a0 a1 a2 = some (r1, r2, r3, r4, r5, r6, r7, r8)) :
    Calls Try.prog 21 #[.string a0, .string a1, .int .i64 a2] w fun e w' => e = .returned (.agg #[.string r1, .string r2, .int .u64 r3, .int .u64 r4, .int .i64 r5, .int .i64 r6, .int .i64 r7, .bool r8]) ∧ Below w.heap.size w w' := by
  have hu42 := Try.underlying42
  have HB := Aside0.mk (Below.refl w.heap.size w)
  have H : (some (a0, a1, 0, 0, 1, a2, 1, false)) = some (r1, r2, r3, r4, r5, r6, r7, r8) := h
  clear h
  simp only [Option.some.injEq, Prod.mk.injEq] at H
  obtain ⟨rfl, rfl, rfl, rfl, rfl, rfl, rfl, rfl⟩ := H
  go_enter Try.func21, Try.ntmps21
  go_wp2_with (first | ((with_reducible refine gate_dst (N := 6) rfl ?_); refine box_event ?hg (N := 6) ?hd (cs := #[.string (⟨#[]⟩ : ByteArray), .string (⟨#[]⟩ : ByteArray), .int .u64 0, .int .u64 0, .int .i64 0, .int .i64 0, .int .i64 0, .bool false]) (t := 42) ?hr ?_; (case hd => rfl); (case hg => rfl); (case hr => first | (go_simp; done) | (go_simp; rfl)); intro gb134 hg w4 hbox hb; have n0_ := Aside0.mk (below_step (by repeat (first | (with_reducible first | exact HB.out | apply below_alloc | apply pw_below_drewN | apply below_drew1) | exact HB.out)) hb); have n1_ := Aside0.mk (hbox); have n2_ := Aside0.mk ((by rw [hg]; exact (below_size (by repeat (first | (with_reducible first | exact HB.out | apply below_alloc | apply pw_below_drewN | apply below_drew1) | exact HB.out))) : w.heap.size ≤ gb134)); have n3_ := n2_; clear HB; have HB := n0_; have BK134 := n1_; have GW134 := n2_; have GE134 := n3_; clear n0_ n1_ n2_ n3_; clear hb hbox hg; obtain ⟨hcz5_0, hcz5_1, hcz5_2, hcz5_3, hcz5_4, hcz5_5, hcz5_6, hcz5_7, hfz5_0, hfz5_1, hfz5_2, hfz5_3, hfz5_4, hfz5_5, hfz5_6, hfz5_7⟩ := cells8 BK134.out) | ((with_reducible refine gate_store (t := 42) (p := 6) rfl ?_); refine store_event (t := 42) (p := 6) (v := ?vo_w6) (w1 := ((((((((w4.setCell ⟨gb134, 0, none⟩ (.string a0)).setCell ⟨gb134, 1, none⟩ (.string a1)).setCell ⟨gb134, 2, none⟩ (.int .u64 0)).setCell ⟨gb134, 3, none⟩ (.int .u64 0)).setCell ⟨gb134, 4, none⟩ (.int .i64 1)).setCell ⟨gb134, 5, none⟩ (.int .i64 a2)).setCell ⟨gb134, 6, none⟩ (.int .i64 1)).setCell ⟨gb134, 7, none⟩ (.bool false))) ?hg ?ho ?hn ?hr ?_; (case ho => rfl); (case hg => rfl); (case hn => rfl); (case hr => first | (go_simp; done) | (go_simp; rfl)); intro w6 hw; have n0_ : Aside0 (w6.heap[gb134]? = some (.cells #[.string a0, .string a1, .int .u64 0, .int .u64 0, .int .i64 1, .int .i64 a2, .int .i64 1, .bool false] 42 (0, 0))) := ⟨(by rw [hw]; exact (by (with_reducible repeat (first | refine blk_drewN ?_ _ | refine blk_drew ?_ | refine blk_alloc ?_ _)); refine blk_put (cs := #[.string a0, .string a1, .int .u64 0, .int .u64 0, .int .i64 1, .int .i64 a2, .int .i64 1, .bool false]) ?_ 7 _ rfl; (with_reducible repeat (first | refine blk_drewN ?_ _ | refine blk_drew ?_ | refine blk_alloc ?_ _)); refine blk_put (cs := #[.string a0, .string a1, .int .u64 0, .int .u64 0, .int .i64 1, .int .i64 a2, .int .i64 0, .bool false]) ?_ 6 _ rfl; (with_reducible repeat (first | refine blk_drewN ?_ _ | refine blk_drew ?_ | refine blk_alloc ?_ _)); refine blk_put (cs := #[.string a0, .string a1, .int .u64 0, .int .u64 0, .int .i64 1, .int .i64 0, .int .i64 0, .bool false]) ?_ 5 _ rfl; (with_reducible repeat (first | refine blk_drewN ?_ _ | refine blk_drew ?_ | refine blk_alloc ?_ _)); refine blk_put (cs := #[.string a0, .string a1, .int .u64 0, .int .u64 0, .int .i64 0, .int .i64 0, .int .i64 0, .bool false]) ?_ 4 _ rfl; (with_reducible repeat (first | refine blk_drewN ?_ _ | refine blk_drew ?_ | refine blk_alloc ?_ _)); refine blk_put (cs := #[.string a0, .string a1, .int .u64 0, .int .u64 0, .int .i64 0, .int .i64 0, .int .i64 0, .bool false]) ?_ 3 _ rfl; (with_reducible repeat (first | refine blk_drewN ?_ _ | refine blk_drew ?_ | refine blk_alloc ?_ _)); refine blk_put (cs := #[.string a0, .string a1, .int .u64 0, .int .u64 0, .int .i64 0, .int .i64 0, .int .i64 0, .bool false]) ?_ 2 _ rfl; (with_reducible repeat (first | refine blk_drewN ?_ _ | refine blk_drew ?_ | refine blk_alloc ?_ _)); refine blk_put (cs := #[.string a0, .string (⟨#[]⟩ : ByteArray), .int .u64 0, .int .u64 0, .int .i64 0, .int .i64 0, .int .i64 0, .bool false]) ?_ 1 _ rfl; (with_reducible repeat (first | refine blk_drewN ?_ _ | refine blk_drew ?_ | refine blk_alloc ?_ _)); refine blk_put (cs := #[.string (⟨#[]⟩ : ByteArray), .string (⟨#[]⟩ : ByteArray), .int .u64 0, .int .u64 0, .int .i64 0, .int .i64 0, .int .i64 0, .bool false]) ?_ 0 _ rfl; (with_reducible repeat (first | refine blk_drewN ?_ _ | refine blk_drew ?_ | refine blk_alloc ?_ _)); exact BK134.out))⟩; have n1_ : Aside0 (Below w.heap.size w w6) := ⟨(by rw [hw]; exact (by repeat (first | (with_reducible first | exact HB.out | apply below_alloc | apply pw_below_drewN | apply below_drew1 | refine below_set ?_ GE134.out) | exact HB.out)))⟩; clear hw; clear BK134; clear HB; have BK134 := n0_; have HB := n1_; clear n0_ n1_))
  refine bodyPost_ret (results_cell_row rfl _ _ gb134 42 #[.string a0, .string a1, .int .u64 0, .int .u64 0, .int .i64 1, .int .i64 a2, .int .i64 1, .bool false] (0, 0) _ rfl (by (with_reducible repeat (first | refine blk_drewN ?_ _ | refine blk_drew ?_ | refine blk_alloc ?_ _)); exact BK134.out) Try.underlying42 rfl (by kernel_rfl)) rfl ?_
  exact ⟨by first | rfl | (simp [errW_none, errW_some] <;> rfl) | (simp [*, errW_none, errW_some] <;> rfl), by repeat (first | (with_reducible first | exact HB.out | apply below_alloc | apply pw_below_drewN | apply below_drew1 | refine below_set ?_ GE134.out) | exact HB.out)⟩

end Go.Proofs.Ytdgmkmjmddjcfaa.P
