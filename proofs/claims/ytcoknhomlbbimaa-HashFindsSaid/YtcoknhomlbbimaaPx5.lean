/- What functions of the program, and of its laws, give, each proved of its code by a walk; no condition. -/
import Derived.Test.YtcoknhomlbbimaaPx0
import Derived.Test.YtcoknhomlbbimaaPx2
import Derived.Test.YtcoknhomlbbimaaPx3
import Derived.Test.YtcoknhomlbbimaaPx4
namespace Go.Proofs.Ytcoknhomlbbimaa.P
open Go.RowKit Go.Proofs.YtcoknhomlbbimaaW.PrintWords Go.Proofs.YtcoknhomlbbimaaW.PrintLast Go.Proofs.YtcoknhomlbbimaaW.PrintMore
attribute [local go_sem] max2_int min2_int max_two min_two max_three min_three max_four min_four   -- for this text's walks alone
set_option linter.unusedVariables false
set_option linter.unusedSimpArgs false

/-! ### curtilagelaw12_HashFinds: function 4 -/
mutual
def curtilagelaw12_HashFinds.j0 : Nat → List (S24) → Int → ByteArray → ByteArray → Bool → Int → Bool → List Int → List Int → Option (Bool)
  | 0, _, _, _, _, _, _, _, _, _ => none
  | k + 1, x0, x1, x2, x3, x9, x11, x31, x161000, x161001 => if x31 = true then (some x9) else (if x11 = 0 then (if (x161000.length : Int) = x1 then (curtilagelaw12_HashFinds.j1 k x0 x2 x3 x9 ((x161001.length : Int) != (x0.length : Int)) x161000 x161001) else (curtilagelaw12_HashFinds.j1 k x0 x2 x3 x9 true x161000 x161001)) else (curtilagelaw12_HashFinds.j1 k x0 x2 x3 x9 true x161000 x161001))
def curtilagelaw12_HashFinds.j1 : Nat → List (S24) → ByteArray → ByteArray → Bool → Bool → List Int → List Int → Option (Bool)
  | 0, _, _, _, _, _, _, _ => none
  | k + 1, x0, x2, x3, x9, x49, x161000, x161001 => if x49 = true then (some false) else ((hash_Find.f k x161000 x161001 x0 x2 x3).bind fun t161 => ((hash_Find.f k ([] : List Int) ([] : List Int) x0 x2 x3).bind fun t162 => (if x9 = true then ((curtilageref12_Find.f k x0 x2 x3).bind fun t163 => (if t161 = t163 then (some (t162 == (-1))) else (some false))) else (some false))))
end
def curtilagelaw12_HashFinds.f (k : Nat) (l0 : List (S24)) (a1 : Int) (a2 : ByteArray) (a3 : ByteArray) : Option (Bool) := (curtilagelaw12_awake.f k).bind fun t152 => ((hash_Make.f l0 a1).bind fun bt153 => (if a1 < 1 then (curtilagelaw12_HashFinds.j0 k l0 a1 a2 a3 t152 bt153.2.2 true bt153.1 bt153.2.1) else (if a1 > 64 then (curtilagelaw12_HashFinds.j0 k l0 a1 a2 a3 t152 bt153.2.2 true bt153.1 bt153.2.1) else (curtilagelaw12_HashFinds.j0 k l0 a1 a2 a3 t152 bt153.2.2 (decide ((l0.length : Int) > 40)) bt153.1 bt153.2.1))))
theorem curtilagelaw12_HashFinds.mono_l : ∀ k, (∀ y0 y1 y2 y3 y4 y5 y6 y7 y8, LeO (curtilagelaw12_HashFinds.j0 k y0 y1 y2 y3 y4 y5 y6 y7 y8) (curtilagelaw12_HashFinds.j0 (k + 1) y0 y1 y2 y3 y4 y5 y6 y7 y8)) ∧ (∀ y0 y1 y2 y3 y4 y5 y6, LeO (curtilagelaw12_HashFinds.j1 k y0 y1 y2 y3 y4 y5 y6) (curtilagelaw12_HashFinds.j1 (k + 1) y0 y1 y2 y3 y4 y5 y6))
  | 0 => ⟨fun _ _ _ _ _ _ _ _ _ r h => by simp [curtilagelaw12_HashFinds.j0] at h, fun _ _ _ _ _ _ _ r h => by simp [curtilagelaw12_HashFinds.j1] at h⟩
  | k + 1 => by
    obtain ⟨ih0, ih1⟩ := curtilagelaw12_HashFinds.mono_l k
    refine ⟨?_, ?_⟩
    · intro y0 y1 y2 y3 y4 y5 y6 y7 y8
      unfold curtilagelaw12_HashFinds.j0
      repeat' first
      | (with_reducible exact ih0 _ _ _ _ _ _ _ _ _)
      | (with_reducible exact ih1 _ _ _ _ _ _ _)
      | (with_reducible exact curtilagelaw12_awake.mono _)
      | (with_reducible exact curtilageref12_Find.mono _ _ _ _)
      | (with_reducible exact hash_Find.mono _ _ _ _ _ _)
      | (with_reducible exact LeO.refl _)
      | (with_reducible exact LeO.none _)
      | (with_reducible refine LeO.ite ?_ ?_)
      | (with_reducible refine LeO.bind ?_ (fun _ => ?_))
      | exact ih0 _ _ _ _ _ _ _ _ _
      | exact ih1 _ _ _ _ _ _ _
      | exact curtilagelaw12_awake.mono _
      | exact curtilageref12_Find.mono _ _ _ _
      | exact hash_Find.mono _ _ _ _ _ _
      | exact LeO.none _
      | refine LeO.ite ?_ ?_
      | refine LeO.bind ?_ (fun _ => ?_)
    · intro y0 y1 y2 y3 y4 y5 y6
      unfold curtilagelaw12_HashFinds.j1
      repeat' first
      | (with_reducible exact ih0 _ _ _ _ _ _ _ _ _)
      | (with_reducible exact ih1 _ _ _ _ _ _ _)
      | (with_reducible exact curtilagelaw12_awake.mono _)
      | (with_reducible exact curtilageref12_Find.mono _ _ _ _)
      | (with_reducible exact hash_Find.mono _ _ _ _ _ _)
      | (with_reducible exact LeO.refl _)
      | (with_reducible exact LeO.none _)
      | (with_reducible refine LeO.ite ?_ ?_)
      | (with_reducible refine LeO.bind ?_ (fun _ => ?_))
      | exact ih0 _ _ _ _ _ _ _ _ _
      | exact ih1 _ _ _ _ _ _ _
      | exact curtilagelaw12_awake.mono _
      | exact curtilageref12_Find.mono _ _ _ _
      | exact hash_Find.mono _ _ _ _ _ _
      | exact LeO.none _
      | refine LeO.ite ?_ ?_
      | refine LeO.bind ?_ (fun _ => ?_)
theorem curtilagelaw12_HashFinds.mono : ∀ a0 a1 a2 a3 k, LeO (curtilagelaw12_HashFinds.f k a0 a1 a2 a3) (curtilagelaw12_HashFinds.f (k + 1) a0 a1 a2 a3) := by
  intro a0 a1 a2 a3 k
  obtain ⟨ih0, ih1⟩ := curtilagelaw12_HashFinds.mono_l k
  unfold curtilagelaw12_HashFinds.f
  repeat' first
      | (with_reducible exact ih0 _ _ _ _ _ _ _ _ _)
      | (with_reducible exact ih1 _ _ _ _ _ _ _)
      | (with_reducible exact curtilagelaw12_awake.mono _)
      | (with_reducible exact curtilageref12_Find.mono _ _ _ _)
      | (with_reducible exact hash_Find.mono _ _ _ _ _ _)
      | (with_reducible exact LeO.refl _)
      | (with_reducible exact LeO.none _)
      | (with_reducible refine LeO.ite ?_ ?_)
      | (with_reducible refine LeO.bind ?_ (fun _ => ?_))
      | exact ih0 _ _ _ _ _ _ _ _ _
      | exact ih1 _ _ _ _ _ _ _
      | exact curtilagelaw12_awake.mono _
      | exact curtilageref12_Find.mono _ _ _ _
      | exact hash_Find.mono _ _ _ _ _ _
      | exact LeO.none _
      | refine LeO.ite ?_ ?_
      | refine LeO.bind ?_ (fun _ => ?_)
set_option maxHeartbeats 8000000 in
set_option maxRecDepth 100000 in
theorem curtilagelaw12_HashFinds.calls (k : Nat) (A0 : Option Addr) (c0 : Nat) (l0 : List (S24)) (a1 : Int) (a2 : ByteArray) (a3 : ByteArray) (r : Bool) (w : World) (hr0 : Kd.C k24 w A0 l0.length l0) (hc0 : l0.length ≤ c0) (h : curtilagelaw12_HashFinds.f k l0 a1 a2 a3 = some r) :
    Calls Try.prog 4 #[.slice A0 l0.length c0, .int .i64 a1, .string a2, .string a3] w fun e w' => e = .returned (.bool r) ∧ Below w.heap.size w w' := by
  have hu33 := Try.underlying33
  have HR0 := Aside0.mk hr0
  have HC0 := Aside0.mk hc0
  clear hr0 hc0
  have HB := Aside0.mk (Below.refl w.heap.size w)
  have H : ((curtilagelaw12_awake.f k).bind fun t152 => ((hash_Make.f l0 a1).bind fun bt153 => (if a1 < 1 then (curtilagelaw12_HashFinds.j0 k l0 a1 a2 a3 t152 bt153.2.2 true bt153.1 bt153.2.1) else (if a1 > 64 then (curtilagelaw12_HashFinds.j0 k l0 a1 a2 a3 t152 bt153.2.2 true bt153.1 bt153.2.1) else (curtilagelaw12_HashFinds.j0 k l0 a1 a2 a3 t152 bt153.2.2 (decide ((l0.length : Int) > 40)) bt153.1 bt153.2.1))))) = some r := h
  clear h
  replace H := Option.bind_eq_some_iff.mp H
  obtain ⟨t152, A50, H⟩ := H
  replace H : ((hash_Make.f l0 a1).bind fun bt153 => (if a1 < 1 then (curtilagelaw12_HashFinds.j0 k l0 a1 a2 a3 t152 bt153.2.2 true bt153.1 bt153.2.1) else (if a1 > 64 then (curtilagelaw12_HashFinds.j0 k l0 a1 a2 a3 t152 bt153.2.2 true bt153.1 bt153.2.1) else (curtilagelaw12_HashFinds.j0 k l0 a1 a2 a3 t152 bt153.2.2 (decide ((l0.length : Int) > 40)) bt153.1 bt153.2.1)))) = some r := H
  have A5 := Aside0.mk A50
  clear A50
  replace H := Option.bind_eq_some_iff.mp H
  obtain ⟨⟨t153, t156, t159⟩, A60, H⟩ := H
  replace H : (if a1 < 1 then (curtilagelaw12_HashFinds.j0 k l0 a1 a2 a3 t152 t159 true t153 t156) else (if a1 > 64 then (curtilagelaw12_HashFinds.j0 k l0 a1 a2 a3 t152 t159 true t153 t156) else (curtilagelaw12_HashFinds.j0 k l0 a1 a2 a3 t152 t159 (decide ((l0.length : Int) > 40)) t153 t156))) = some r := H
  have A6 := Aside0.mk A60
  clear A60
  have HC7 := Aside0.mk H
  clear H
  go_enter Try.func4, Try.ntmps4
  go_upto_region 3 with (first | ((with_reducible refine gate_callee (f := 9) rfl ?_); refine goesL_ (some 14) rfl rfl Try.func9 (by kernel_rfl) rfl #[] rfl (by (try simp only [List.map_toArray, List.map_cons, List.map_nil]); first | done | rfl | (simp only [List.length_drop, List.length_take]; rfl)) ?_; (with_reducible refine (curtilagelaw12_awake.calls k  t152 _ A5.out).mono ?_); rintro e w8 ⟨rfl, hb⟩; refine ⟨_, rfl, ?_⟩; have n0_ := Aside0.mk (below_step (by repeat (first | (with_reducible first | exact HB.out | apply below_alloc | apply pw_below_drewN | apply below_drew1) | exact HB.out)) hb); clear HB; have HB := n0_; clear n0_; (try clear hb); (try clear hb2); (try clear hk); (try clear hi)) | ((with_reducible refine gate_callee (f := 14) rfl ?_); refine goesL_ (some 18) rfl rfl Try.func14 (by kernel_rfl) rfl #[.slice A0 l0.length c0, .int .i64 a1] rfl (by (try simp only [List.map_toArray, List.map_cons, List.map_nil]); first | done | rfl | (simp only [List.length_drop, List.length_take]; rfl)) ?_; (with_reducible refine (hash_Make.calls _ _ l0 a1 t153 t156 t159 _ ?side1 ?side2 A6.out).mono ?_); (case side1 => repeat (first | exact (Kd.C_below HR0.out HB.out) | (with_reducible refine Kd.C_alloc ?_ _) | (with_reducible refine Kd.C_drewN ?_ _) | (with_reducible refine Kd.C_drew ?_))); (case side2 => exact HC0.out); rintro e w9 ⟨v154, v157, rfl, ho0, ho1, hb⟩; refine ⟨_, rfl, ?_⟩; have n0_ := Aside0.mk (Kd.R_lower ho0 (below_size (by repeat (first | (with_reducible first | exact HB.out | apply below_alloc | apply pw_below_drewN | apply below_drew1) | exact HB.out)))); have n1_ := Aside0.mk (Kd.R_lower ho1 (below_size (by repeat (first | (with_reducible first | exact HB.out | apply below_alloc | apply pw_below_drewN | apply below_drew1) | exact HB.out)))); have n2_ := Aside0.mk (below_step (by repeat (first | (with_reducible first | exact HB.out | apply below_alloc | apply pw_below_drewN | apply below_drew1) | exact HB.out)) hb); clear HB; have HO155 := n0_; have HO158 := n1_; have HB := n2_; clear n0_ n1_ n2_; (try clear hb); (try clear hb2); (try clear hk); (try clear hi); (try clear ho0); (try clear ho1)) | ((with_reducible refine gate_dst (N := 10) rfl ?_); (try (refine gate_guard (by rfl) ?_; dsimp only)); refine box_event ?hg (N := 10) ?hd (cs := #[.slice none 0 0, .slice none 0 0]) (t := 33) ?hr ?_; (case hd => rfl); (case hg => rfl); (case hr => first | (go_simp; done) | (go_simp; rfl)); intro gb160 hg w10 hbox hb; have n0_ := Aside0.mk (Kd.R_below (by (with_reducible repeat (first | apply Kd.R_alloc | apply Kd.R_drewN | apply Kd.R_drew)); exact HO155.out) hb); have n1_ := Aside0.mk (Kd.R_below (by (with_reducible repeat (first | apply Kd.R_alloc | apply Kd.R_drewN | apply Kd.R_drew)); exact HO158.out) hb); have n2_ := Aside0.mk (below_step (by repeat (first | (with_reducible first | exact HB.out | apply below_alloc | apply pw_below_drewN | apply below_drew1) | exact HB.out)) hb); have n3_ := Aside0.mk (hbox); have n4_ := Aside0.mk ((by rw [hg]; exact (below_size (by repeat (first | (with_reducible first | exact HB.out | apply below_alloc | apply pw_below_drewN | apply below_drew1) | exact HB.out))) : w.heap.size ≤ gb160)); have n5_ := Aside0.mk ((by rw [hg]; exact (below_size (by repeat (first | (with_reducible first | exact HB.out | apply below_alloc | apply pw_below_drewN | apply below_drew1) | exact HB.out))) : w.heap.size ≤ gb160)); clear HO155; clear HO158; clear HB; have HO155 := n0_; have HO158 := n1_; have HB := n2_; have BK160 := n3_; have GW160 := n4_; have GE160 := n5_; clear n0_ n1_ n2_ n3_ n4_ n5_; clear hb hbox hg; obtain ⟨Ao11, co11, eo11⟩ := Kd.R_slice HO155.out; subst eo11; have hcz12_0 : w10.cell? ⟨gb160, 0, none⟩ = some (.slice none 0 0) := (blk_cell BK160.out 0).trans rfl; have hcz12_1 : w10.cell? ⟨gb160, 1, none⟩ = some (.slice none 0 0) := (blk_cell BK160.out 1).trans rfl; have hfz12_0 := blk_frozen BK160.out 0; have hfz12_1 := blk_frozen BK160.out 1; obtain ⟨Ao13, co13, eo13⟩ := Kd.R_slice HO158.out; subst eo13))
  (try simp only [Act.put, List.setIfInBounds_toArray, List.set_cons_zero, List.set_cons_succ])
  go_cut [31] (fun v31 wc => ∃ (kq : Nat) (x31_6 : Bool), v31 = .bool x31_6 ∧ Aside0 (curtilagelaw12_HashFinds.j0 kq l0 a1 a2 a3 t152 t159 x31_6 t153 t156 = some r) ∧ Aside0 (kq ≤ k) ∧ Aside0 (Kd.R (Kd.int .i64) 3 wc w.heap.size (fun k_ => some k_ ≠ ((.slice Ao13 t156.length co13) : Value).ownBlock) (.slice Ao11 t153.length co11) t153) ∧ Aside0 (Kd.R (Kd.int .i64) 3 wc w.heap.size (fun k_ => some k_ ≠ ((.slice Ao11 t153.length co11) : Value).ownBlock) (.slice Ao13 t156.length co13) t156) ∧ Aside0 (wc.heap[gb160]? = some (.cells #[(.slice Ao11 t153.length co11), (.slice Ao13 t156.length co13)] 33 (0, 0))) ∧ Aside0 (Below w.heap.size w wc))
  case first =>
    have H := HC7.out
    clear HC7
    by_cases c14 : a1 < 1
    · rw [if_pos c14] at H
      have c14b0 : decide (a1 < 1) = true := decide_eq_true c14
      clear c14
      (first | rw [c14b0] | (simp only [i64_w, i32_w]; rw [c14b0]) | skip)
      have H' := Aside0.mk H
      clear H
      go_wp2
      go_meet
      case rel => exact ⟨_, (true), (by first | rfl | (simp; done) | (simp [*]; done)), H', ⟨by first | omega | exact Nat.le_refl _⟩, ⟨by (with_reducible repeat (first | apply Kd.R_alloc | apply Kd.R_drewN | apply Kd.R_drew)); exact Kd.R_mono (Kd.R_far (p := ⟨gb160, 1, none⟩) (Kd.R_far (p := ⟨gb160, 0, none⟩) (Kd.R_types HO155.out BK160.out (by decide)) (fun _ hk => hk.2) (.slice Ao11 t153.length co11)) (fun _ hk => hk.2) (.slice Ao13 t156.length co13)) (fun _ hk => hk.1)⟩, ⟨by (with_reducible repeat (first | apply Kd.R_alloc | apply Kd.R_drewN | apply Kd.R_drew)); exact Kd.R_mono (Kd.R_far (p := ⟨gb160, 1, none⟩) (Kd.R_far (p := ⟨gb160, 0, none⟩) (Kd.R_types HO158.out BK160.out (by decide)) (fun _ hk => hk.2) (.slice Ao11 t153.length co11)) (fun _ hk => hk.2) (.slice Ao13 t156.length co13)) (fun _ hk => hk.1)⟩, ⟨by (with_reducible repeat (first | refine blk_drewN ?_ _ | refine blk_drew ?_ | refine blk_alloc ?_ _)); refine blk_put (cs := #[.slice Ao11 t153.length co11, .slice none 0 0]) ?_ 1 _ rfl; (with_reducible repeat (first | refine blk_drewN ?_ _ | refine blk_drew ?_ | refine blk_alloc ?_ _)); refine blk_put (cs := #[.slice none 0 0, .slice none 0 0]) ?_ 0 _ rfl; (with_reducible repeat (first | refine blk_drewN ?_ _ | refine blk_drew ?_ | refine blk_alloc ?_ _)); exact BK160.out⟩, ⟨by repeat (first | (with_reducible first | exact HB.out | apply below_alloc | apply pw_below_drewN | apply below_drew1 | refine below_set ?_ GE160.out) | exact HB.out)⟩⟩
    · rw [if_neg c14] at H
      have c14b0 : decide (a1 < 1) = false := decide_eq_false c14
      clear c14
      (first | rw [c14b0] | (simp only [i64_w, i32_w]; rw [c14b0]) | skip)
      by_cases c15 : a1 > 64
      · rw [if_pos c15] at H
        have c15b0 : decide (64 < a1) = true := decide_eq_true c15
        clear c15
        have H' := Aside0.mk H
        clear H
        go_wp2
        go_meet
        case rel => exact ⟨_, (true), (by first | rfl | (simp; done) | (simp [*]; done)), H', ⟨by first | omega | exact Nat.le_refl _⟩, ⟨by (with_reducible repeat (first | apply Kd.R_alloc | apply Kd.R_drewN | apply Kd.R_drew)); exact Kd.R_mono (Kd.R_far (p := ⟨gb160, 1, none⟩) (Kd.R_far (p := ⟨gb160, 0, none⟩) (Kd.R_types HO155.out BK160.out (by decide)) (fun _ hk => hk.2) (.slice Ao11 t153.length co11)) (fun _ hk => hk.2) (.slice Ao13 t156.length co13)) (fun _ hk => hk.1)⟩, ⟨by (with_reducible repeat (first | apply Kd.R_alloc | apply Kd.R_drewN | apply Kd.R_drew)); exact Kd.R_mono (Kd.R_far (p := ⟨gb160, 1, none⟩) (Kd.R_far (p := ⟨gb160, 0, none⟩) (Kd.R_types HO158.out BK160.out (by decide)) (fun _ hk => hk.2) (.slice Ao11 t153.length co11)) (fun _ hk => hk.2) (.slice Ao13 t156.length co13)) (fun _ hk => hk.1)⟩, ⟨by (with_reducible repeat (first | refine blk_drewN ?_ _ | refine blk_drew ?_ | refine blk_alloc ?_ _)); refine blk_put (cs := #[.slice Ao11 t153.length co11, .slice none 0 0]) ?_ 1 _ rfl; (with_reducible repeat (first | refine blk_drewN ?_ _ | refine blk_drew ?_ | refine blk_alloc ?_ _)); refine blk_put (cs := #[.slice none 0 0, .slice none 0 0]) ?_ 0 _ rfl; (with_reducible repeat (first | refine blk_drewN ?_ _ | refine blk_drew ?_ | refine blk_alloc ?_ _)); exact BK160.out⟩, ⟨by repeat (first | (with_reducible first | exact HB.out | apply below_alloc | apply pw_below_drewN | apply below_drew1 | refine below_set ?_ GE160.out) | exact HB.out)⟩⟩
      · rw [if_neg c15] at H
        have c15b0 : decide (64 < a1) = false := decide_eq_false c15
        clear c15
        have H' := Aside0.mk H
        clear H
        go_wp2
        go_meet
        case rel => exact ⟨_, (decide ((l0.length : Int) > 40)), (by first | rfl | (simp; done) | (simp [*]; done)), H', ⟨by first | omega | exact Nat.le_refl _⟩, ⟨by (with_reducible repeat (first | apply Kd.R_alloc | apply Kd.R_drewN | apply Kd.R_drew)); exact Kd.R_mono (Kd.R_far (p := ⟨gb160, 1, none⟩) (Kd.R_far (p := ⟨gb160, 0, none⟩) (Kd.R_types HO155.out BK160.out (by decide)) (fun _ hk => hk.2) (.slice Ao11 t153.length co11)) (fun _ hk => hk.2) (.slice Ao13 t156.length co13)) (fun _ hk => hk.1)⟩, ⟨by (with_reducible repeat (first | apply Kd.R_alloc | apply Kd.R_drewN | apply Kd.R_drew)); exact Kd.R_mono (Kd.R_far (p := ⟨gb160, 1, none⟩) (Kd.R_far (p := ⟨gb160, 0, none⟩) (Kd.R_types HO158.out BK160.out (by decide)) (fun _ hk => hk.2) (.slice Ao11 t153.length co11)) (fun _ hk => hk.2) (.slice Ao13 t156.length co13)) (fun _ hk => hk.1)⟩, ⟨by (with_reducible repeat (first | refine blk_drewN ?_ _ | refine blk_drew ?_ | refine blk_alloc ?_ _)); refine blk_put (cs := #[.slice Ao11 t153.length co11, .slice none 0 0]) ?_ 1 _ rfl; (with_reducible repeat (first | refine blk_drewN ?_ _ | refine blk_drew ?_ | refine blk_alloc ?_ _)); refine blk_put (cs := #[.slice none 0 0, .slice none 0 0]) ?_ 0 _ rfl; (with_reducible repeat (first | refine blk_drewN ?_ _ | refine blk_drew ?_ | refine blk_alloc ?_ _)); exact BK160.out⟩, ⟨by repeat (first | (with_reducible first | exact HB.out | apply below_alloc | apply pw_below_drewN | apply below_drew1 | refine below_set ?_ GE160.out) | exact HB.out)⟩⟩
  case rest =>
    clear HC7
    try clear c1
    try clear p2
    try clear c4
    try clear c9
    try clear c14
    try clear c14b0
    try clear c15
    try clear c15b0
    try clear hcz12_0
    try clear hcz12_1
    try clear hfz12_0
    try clear hfz12_1
    obtain ⟨kq, x31_6, rfl, HA, HJ6, HO_161000, HO_161001, BK160, HB⟩ := hcut
    cases kq with
    | zero => exact absurd HA.out (by simp [curtilagelaw12_HashFinds.j0])
    | succ kj6 =>
      have H := HA.out
      clear HA
      simp only [curtilagelaw12_HashFinds.j0] at H
      by_cases c16 : x31_6 = true
      · subst c16
        have H1 : (some t152) = some r := by rw [if_pos rfl] at H; exact H
        clear H
        have H := H1
        clear H1
        obtain rfl := Option.some.inj H
        go_wp2
        go_ret
        exact ⟨by first | rfl | (simp [errW_none, errW_some] <;> rfl) | (simp [*, errW_none, errW_some] <;> rfl), by repeat (first | (with_reducible first | exact HB.out | apply below_alloc | apply pw_below_drewN | apply below_drew1 | refine below_set ?_ GE160.out) | exact HB.out)⟩
      · replace c16 := Bool.eq_false_iff.mpr c16
        subst c16
        have H1 : (if t159 = 0 then (if (t153.length : Int) = a1 then (curtilagelaw12_HashFinds.j1 kj6 l0 a2 a3 t152 ((t156.length : Int) != (l0.length : Int)) t153 t156) else (curtilagelaw12_HashFinds.j1 kj6 l0 a2 a3 t152 true t153 t156)) else (curtilagelaw12_HashFinds.j1 kj6 l0 a2 a3 t152 true t153 t156)) = some r := by rw [if_neg (show ¬ (false = true) by decide)] at H; exact H
        clear H
        have H := H1
        clear H1
        have HC17 := Aside0.mk H
        clear H
        go_upto_region 5 with (fail)
        go_cut [49] (fun v49 wc => ∃ (kq : Nat) (x49_16 : Bool), v49 = .bool x49_16 ∧ Aside0 (curtilagelaw12_HashFinds.j1 kq l0 a2 a3 t152 x49_16 t153 t156 = some r) ∧ Aside0 (kq ≤ kj6) ∧ Aside0 (Kd.R (Kd.int .i64) 3 wc w.heap.size (fun k_ => some k_ ≠ ((.slice Ao13 t156.length co13) : Value).ownBlock) (.slice Ao11 t153.length co11) t153) ∧ Aside0 (Kd.R (Kd.int .i64) 3 wc w.heap.size (fun k_ => some k_ ≠ ((.slice Ao11 t153.length co11) : Value).ownBlock) (.slice Ao13 t156.length co13) t156) ∧ Aside0 (wc.heap[gb160]? = some (.cells #[(.slice Ao11 t153.length co11), (.slice Ao13 t156.length co13)] 33 (0, 0))) ∧ Aside0 (Below w.heap.size w wc))
        case first =>
          have H := HC17.out
          clear HC17
          by_cases c18 : t159 = 0
          · rw [if_pos c18] at H
            have c18b0 : (t159 == 0) = true := beq_iff_eq.mpr c18
            have c18b1 : (t159 != 0) = false := bne_eq_false_iff_eq.mpr c18
            clear c18
            (first | rw [c18b0] | (simp only [i64_w, i32_w]; rw [c18b0]) | skip)
            by_cases c19 : (t153.length : Int) = a1
            · rw [if_pos c19] at H
              have c19b0 : ((t153.length : Int) == a1) = true := beq_iff_eq.mpr c19
              have c19b1 : ((t153.length : Int) != a1) = false := bne_eq_false_iff_eq.mpr c19
              clear c19
              have H' := Aside0.mk H
              clear H
              have hcz20_0 : wc.cell? ⟨gb160, 0, none⟩ = some (.slice Ao11 t153.length co11) := (blk_cell BK160.out 0).trans rfl
              have hcz20_1 : wc.cell? ⟨gb160, 1, none⟩ = some (.slice Ao13 t156.length co13) := (blk_cell BK160.out 1).trans rfl
              have hfz20_0 := blk_frozen BK160.out 0
              have hfz20_1 := blk_frozen BK160.out 1
              go_wp2
              go_meet
              case rel => exact ⟨_, (((t156.length : Int) != (l0.length : Int))), (by first | rfl | (simp; done) | (simp [*]; done)), H', ⟨by have := HJ6.out; first | omega | exact Nat.le_refl _⟩, ⟨by (with_reducible repeat (first | apply Kd.R_alloc | apply Kd.R_drewN | apply Kd.R_drew)); exact HO_161000.out⟩, ⟨by (with_reducible repeat (first | apply Kd.R_alloc | apply Kd.R_drewN | apply Kd.R_drew)); exact HO_161001.out⟩, ⟨by (with_reducible repeat (first | refine blk_drewN ?_ _ | refine blk_drew ?_ | refine blk_alloc ?_ _)); exact BK160.out⟩, ⟨by repeat (first | (with_reducible first | exact HB.out | apply below_alloc | apply pw_below_drewN | apply below_drew1 | refine below_set ?_ GE160.out) | exact HB.out)⟩⟩
            · rw [if_neg c19] at H
              have c19b0 : ((t153.length : Int) == a1) = false := beq_eq_false_iff_ne.mpr c19
              have c19b1 : ((t153.length : Int) != a1) = true := bne_iff_ne.mpr c19
              have H' := Aside0.mk H
              clear H
              have hcz21_0 : wc.cell? ⟨gb160, 0, none⟩ = some (.slice Ao11 t153.length co11) := (blk_cell BK160.out 0).trans rfl
              have hcz21_1 : wc.cell? ⟨gb160, 1, none⟩ = some (.slice Ao13 t156.length co13) := (blk_cell BK160.out 1).trans rfl
              have hfz21_0 := blk_frozen BK160.out 0
              have hfz21_1 := blk_frozen BK160.out 1
              go_wp2
              go_meet
              case rel => exact ⟨_, (true), (by first | rfl | (simp; done) | (simp [*]; done)), H', ⟨by have := HJ6.out; first | omega | exact Nat.le_refl _⟩, ⟨by (with_reducible repeat (first | apply Kd.R_alloc | apply Kd.R_drewN | apply Kd.R_drew)); exact HO_161000.out⟩, ⟨by (with_reducible repeat (first | apply Kd.R_alloc | apply Kd.R_drewN | apply Kd.R_drew)); exact HO_161001.out⟩, ⟨by (with_reducible repeat (first | refine blk_drewN ?_ _ | refine blk_drew ?_ | refine blk_alloc ?_ _)); exact BK160.out⟩, ⟨by repeat (first | (with_reducible first | exact HB.out | apply below_alloc | apply pw_below_drewN | apply below_drew1 | refine below_set ?_ GE160.out) | exact HB.out)⟩⟩
          · rw [if_neg c18] at H
            have c18b0 : (t159 == 0) = false := beq_eq_false_iff_ne.mpr c18
            have c18b1 : (t159 != 0) = true := bne_iff_ne.mpr c18
            (first | rw [c18b0] | (simp only [i64_w, i32_w]; rw [c18b0]) | skip)
            have H' := Aside0.mk H
            clear H
            go_wp2
            go_meet
            case rel => exact ⟨_, (true), (by first | rfl | (simp; done) | (simp [*]; done)), H', ⟨by have := HJ6.out; first | omega | exact Nat.le_refl _⟩, ⟨by (with_reducible repeat (first | apply Kd.R_alloc | apply Kd.R_drewN | apply Kd.R_drew)); exact HO_161000.out⟩, ⟨by (with_reducible repeat (first | apply Kd.R_alloc | apply Kd.R_drewN | apply Kd.R_drew)); exact HO_161001.out⟩, ⟨by (with_reducible repeat (first | refine blk_drewN ?_ _ | refine blk_drew ?_ | refine blk_alloc ?_ _)); exact BK160.out⟩, ⟨by repeat (first | (with_reducible first | exact HB.out | apply below_alloc | apply pw_below_drewN | apply below_drew1 | refine below_set ?_ GE160.out) | exact HB.out)⟩⟩
        case rest =>
          clear HC17
          try clear c1
          try clear p2
          try clear c4
          try clear c9
          try clear c14
          try clear c14b0
          try clear c15
          try clear c15b0
          try clear c16
          try clear c18
          try clear c18b0
          try clear c18b1
          try clear c19
          try clear c19b0
          try clear c19b1
          try clear hcz12_0
          try clear hcz12_1
          try clear hcz20_0
          try clear hcz20_1
          try clear hcz21_0
          try clear hcz21_1
          try clear hfz12_0
          try clear hfz12_1
          try clear hfz20_0
          try clear hfz20_1
          try clear hfz21_0
          try clear hfz21_1
          try clear p2
          obtain ⟨kq, x49_16, rfl, HA, HJ16, HO_161000, HO_161001, BK160, HB⟩ := hcut
          cases kq with
          | zero => exact absurd HA.out (by simp [curtilagelaw12_HashFinds.j1])
          | succ kj16 =>
            have H := HA.out
            clear HA
            simp only [curtilagelaw12_HashFinds.j1] at H
            by_cases c22 : x49_16 = true
            · subst c22
              have H1 : (some false) = some r := by rw [if_pos rfl] at H; exact H
              clear H
              have H := H1
              clear H1
              obtain rfl := Option.some.inj H
              go_wp2
              go_ret
              exact ⟨by first | rfl | (simp [errW_none, errW_some] <;> rfl) | (simp [*, errW_none, errW_some] <;> rfl), by repeat (first | (with_reducible first | exact HB.out | apply below_alloc | apply pw_below_drewN | apply below_drew1 | refine below_set ?_ GE160.out) | exact HB.out)⟩
            · replace c22 := Bool.eq_false_iff.mpr c22
              subst c22
              have H1 : ((hash_Find.f kj16 t153 t156 l0 a2 a3).bind fun t161 => ((hash_Find.f kj16 ([] : List Int) ([] : List Int) l0 a2 a3).bind fun t162 => (if t152 = true then ((curtilageref12_Find.f kj16 l0 a2 a3).bind fun t163 => (if t161 = t163 then (some (t162 == (-1))) else (some false))) else (some false)))) = some r := by rw [if_neg (show ¬ (false = true) by decide)] at H; exact H
              clear H
              have H := H1
              clear H1
              replace H := Option.bind_eq_some_iff.mp H
              obtain ⟨t161, A230, H⟩ := H
              replace H : ((hash_Find.f kj16 ([] : List Int) ([] : List Int) l0 a2 a3).bind fun t162 => (if t152 = true then ((curtilageref12_Find.f kj16 l0 a2 a3).bind fun t163 => (if t161 = t163 then (some (t162 == (-1))) else (some false))) else (some false))) = some r := H
              have A23 := Aside0.mk A230
              clear A230
              replace H := Option.bind_eq_some_iff.mp H
              obtain ⟨t162, A240, H⟩ := H
              replace H : (if t152 = true then ((curtilageref12_Find.f kj16 l0 a2 a3).bind fun t163 => (if t161 = t163 then (some (t162 == (-1))) else (some false))) else (some false)) = some r := H
              have A24 := Aside0.mk A240
              clear A240
              by_cases c25 : t152 = true
              · subst c25
                have H1 : ((curtilageref12_Find.f kj16 l0 a2 a3).bind fun t163 => (if t161 = t163 then (some (t162 == (-1))) else (some false))) = some r := by rw [if_pos rfl] at H; exact H
                clear H
                have H := H1
                clear H1
                replace H := Option.bind_eq_some_iff.mp H
                obtain ⟨t163, A260, H⟩ := H
                replace H : (if t161 = t163 then (some (t162 == (-1))) else (some false)) = some r := H
                have A26 := Aside0.mk A260
                clear A260
                by_cases c27 : t161 = t163
                · rw [if_pos c27] at H
                  have c27b0 : (t161 == t163) = true := beq_iff_eq.mpr c27
                  have c27b1 : (t161 != t163) = false := bne_eq_false_iff_eq.mpr c27
                  clear c27
                  obtain rfl := Option.some.inj H
                  have hcz28_0 : wc.cell? ⟨gb160, 0, none⟩ = some (.slice Ao11 t153.length co11) := (blk_cell BK160.out 0).trans rfl
                  have hcz28_1 : wc.cell? ⟨gb160, 1, none⟩ = some (.slice Ao13 t156.length co13) := (blk_cell BK160.out 1).trans rfl
                  have hfz28_0 := blk_frozen BK160.out 0
                  have hfz28_1 := blk_frozen BK160.out 1
                  go_wp2_with (first | ((with_reducible refine gate_callee (f := 15) rfl ?_); refine goesL_ (some 54) rfl rfl Try.func15 (by kernel_rfl) rfl #[.agg #[.slice Ao11 t153.length co11, .slice Ao13 t156.length co13], .slice A0 l0.length c0, .string a2, .string a3] rfl (by (try simp only [List.map_toArray, List.map_cons, List.map_nil]); first | done | rfl | (simp only [List.length_drop, List.length_take]; rfl)) ?_; (with_reducible refine (hash_Find.calls kj16 _ _ t153 _ _ t156 _ _ l0 a2 a3 t161 _ ?side1 ?side2 ?side3 ?side4 ?side5 ?side6 A23.out).mono ?_); (case side1 => repeat (first | exact (Kd.R_reads' HO_161000.out).2.2 | (with_reducible refine Kd.C_alloc ?_ _) | (with_reducible refine Kd.C_drewN ?_ _) | (with_reducible refine Kd.C_drew ?_))); (case side2 => exact (Kd.R_reads' HO_161000.out).2.1); (case side3 => repeat (first | exact (Kd.R_reads' HO_161001.out).2.2 | (with_reducible refine Kd.C_alloc ?_ _) | (with_reducible refine Kd.C_drewN ?_ _) | (with_reducible refine Kd.C_drew ?_))); (case side4 => exact (Kd.R_reads' HO_161001.out).2.1); (case side5 => repeat (first | exact (Kd.C_below HR0.out HB.out) | (with_reducible refine Kd.C_alloc ?_ _) | (with_reducible refine Kd.C_drewN ?_ _) | (with_reducible refine Kd.C_drew ?_))); (case side6 => exact HC0.out); rintro e w29 ⟨rfl, hb⟩; refine ⟨_, rfl, ?_⟩; have n0_ := Aside0.mk (Kd.R_below (by (with_reducible repeat (first | apply Kd.R_alloc | apply Kd.R_drewN | apply Kd.R_drew)); exact HO_161000.out) hb); have n1_ := Aside0.mk (Kd.R_below (by (with_reducible repeat (first | apply Kd.R_alloc | apply Kd.R_drewN | apply Kd.R_drew)); exact HO_161001.out) hb); have n2_ := Aside0.mk (blk_below (g := gb160) (o := .cells #[.slice Ao11 t153.length co11, .slice Ao13 t156.length co13] 33 (0, 0)) (by (with_reducible repeat (first | refine blk_drewN ?_ _ | refine blk_drew ?_ | refine blk_alloc ?_ _)); exact BK160.out) hb); have n3_ := Aside0.mk (below_step (by repeat (first | (with_reducible first | exact HB.out | apply below_alloc | apply pw_below_drewN | apply below_drew1 | refine below_set ?_ GE160.out) | exact HB.out)) hb); clear HO_161000; clear HO_161001; clear BK160; clear HB; have HO_161000 := n0_; have HO_161001 := n1_; have BK160 := n2_; have HB := n3_; clear n0_ n1_ n2_ n3_; (try clear hb); (try clear hb2); (try clear hk); (try clear hi)) | ((with_reducible refine gate_callee (f := 15) rfl ?_); refine goesL_ (some 59) rfl rfl Try.func15 (by kernel_rfl) rfl #[.agg #[.slice none 0 0, .slice none 0 0], .slice A0 l0.length c0, .string a2, .string a3] rfl (by (try simp only [List.map_toArray, List.map_cons, List.map_nil]); first | done | rfl | (simp only [List.length_drop, List.length_take]; rfl)) ?_; (refine (hash_Find.calls kj16 _ _ ([] : List Int) _ _ ([] : List Int) _ _ l0 a2 a3 t162 _ ?side1 ?side2 ?side3 ?side4 ?side5 ?side6 A24.out).mono ?_); (case side1 => exact Kd.C_nil _ _); (case side2 => exact Nat.le_refl _); (case side3 => exact Kd.C_nil _ _); (case side4 => exact Nat.le_refl _); (case side5 => repeat (first | exact (Kd.C_below HR0.out HB.out) | (with_reducible refine Kd.C_alloc ?_ _) | (with_reducible refine Kd.C_drewN ?_ _) | (with_reducible refine Kd.C_drew ?_))); (case side6 => exact HC0.out); rintro e w30 ⟨rfl, hb⟩; refine ⟨_, rfl, ?_⟩; have n0_ := Aside0.mk (Kd.R_below (by (with_reducible repeat (first | apply Kd.R_alloc | apply Kd.R_drewN | apply Kd.R_drew)); exact HO_161000.out) hb); have n1_ := Aside0.mk (Kd.R_below (by (with_reducible repeat (first | apply Kd.R_alloc | apply Kd.R_drewN | apply Kd.R_drew)); exact HO_161001.out) hb); have n2_ := Aside0.mk (blk_below (g := gb160) (o := .cells #[.slice Ao11 t153.length co11, .slice Ao13 t156.length co13] 33 (0, 0)) (by (with_reducible repeat (first | refine blk_drewN ?_ _ | refine blk_drew ?_ | refine blk_alloc ?_ _)); exact BK160.out) hb); have n3_ := Aside0.mk (below_step (by repeat (first | (with_reducible first | exact HB.out | apply below_alloc | apply pw_below_drewN | apply below_drew1 | refine below_set ?_ GE160.out) | exact HB.out)) hb); clear HO_161000; clear HO_161001; clear BK160; clear HB; have HO_161000 := n0_; have HO_161001 := n1_; have BK160 := n2_; have HB := n3_; clear n0_ n1_ n2_ n3_; (try clear hb); (try clear hb2); (try clear hk); (try clear hi)) | (go_at_call 16; (with_reducible refine (curtilageref12_Find.calls kj16 _ _ l0 a2 a3 t163 _ ?side1 ?side2 A26.out).mono ?_); (case side1 => repeat (first | exact (Kd.C_below HR0.out HB.out) | (with_reducible refine Kd.C_alloc ?_ _) | (with_reducible refine Kd.C_drewN ?_ _) | (with_reducible refine Kd.C_drew ?_))); (case side2 => exact HC0.out); rintro e w31 ⟨rfl, hb⟩; have n0_ := Aside0.mk (Kd.R_below (by (with_reducible repeat (first | apply Kd.R_alloc | apply Kd.R_drewN | apply Kd.R_drew)); exact HO_161000.out) hb); have n1_ := Aside0.mk (Kd.R_below (by (with_reducible repeat (first | apply Kd.R_alloc | apply Kd.R_drewN | apply Kd.R_drew)); exact HO_161001.out) hb); have n2_ := Aside0.mk (blk_below (g := gb160) (o := .cells #[.slice Ao11 t153.length co11, .slice Ao13 t156.length co13] 33 (0, 0)) (by (with_reducible repeat (first | refine blk_drewN ?_ _ | refine blk_drew ?_ | refine blk_alloc ?_ _)); exact BK160.out) hb); have n3_ := Aside0.mk (below_step (by repeat (first | (with_reducible first | exact HB.out | apply below_alloc | apply pw_below_drewN | apply below_drew1 | refine below_set ?_ GE160.out) | exact HB.out)) hb); clear HO_161000; clear HO_161001; clear BK160; clear HB; have HO_161000 := n0_; have HO_161001 := n1_; have BK160 := n2_; have HB := n3_; clear n0_ n1_ n2_ n3_; (try clear hb); (try clear hb2); (try clear hk); (try clear hi)))
                  go_ret
                  exact ⟨by first | rfl | (simp [errW_none, errW_some] <;> rfl) | (simp [*, errW_none, errW_some] <;> rfl), by repeat (first | (with_reducible first | exact HB.out | apply below_alloc | apply pw_below_drewN | apply below_drew1 | refine below_set ?_ GE160.out) | exact HB.out)⟩
                · rw [if_neg c27] at H
                  have c27b0 : (t161 == t163) = false := beq_eq_false_iff_ne.mpr c27
                  have c27b1 : (t161 != t163) = true := bne_iff_ne.mpr c27
                  obtain rfl := Option.some.inj H
                  have hcz32_0 : wc.cell? ⟨gb160, 0, none⟩ = some (.slice Ao11 t153.length co11) := (blk_cell BK160.out 0).trans rfl
                  have hcz32_1 : wc.cell? ⟨gb160, 1, none⟩ = some (.slice Ao13 t156.length co13) := (blk_cell BK160.out 1).trans rfl
                  have hfz32_0 := blk_frozen BK160.out 0
                  have hfz32_1 := blk_frozen BK160.out 1
                  go_wp2_with (first | ((with_reducible refine gate_callee (f := 15) rfl ?_); refine goesL_ (some 54) rfl rfl Try.func15 (by kernel_rfl) rfl #[.agg #[.slice Ao11 t153.length co11, .slice Ao13 t156.length co13], .slice A0 l0.length c0, .string a2, .string a3] rfl (by (try simp only [List.map_toArray, List.map_cons, List.map_nil]); first | done | rfl | (simp only [List.length_drop, List.length_take]; rfl)) ?_; (with_reducible refine (hash_Find.calls kj16 _ _ t153 _ _ t156 _ _ l0 a2 a3 t161 _ ?side1 ?side2 ?side3 ?side4 ?side5 ?side6 A23.out).mono ?_); (case side1 => repeat (first | exact (Kd.R_reads' HO_161000.out).2.2 | (with_reducible refine Kd.C_alloc ?_ _) | (with_reducible refine Kd.C_drewN ?_ _) | (with_reducible refine Kd.C_drew ?_))); (case side2 => exact (Kd.R_reads' HO_161000.out).2.1); (case side3 => repeat (first | exact (Kd.R_reads' HO_161001.out).2.2 | (with_reducible refine Kd.C_alloc ?_ _) | (with_reducible refine Kd.C_drewN ?_ _) | (with_reducible refine Kd.C_drew ?_))); (case side4 => exact (Kd.R_reads' HO_161001.out).2.1); (case side5 => repeat (first | exact (Kd.C_below HR0.out HB.out) | (with_reducible refine Kd.C_alloc ?_ _) | (with_reducible refine Kd.C_drewN ?_ _) | (with_reducible refine Kd.C_drew ?_))); (case side6 => exact HC0.out); rintro e w33 ⟨rfl, hb⟩; refine ⟨_, rfl, ?_⟩; have n0_ := Aside0.mk (Kd.R_below (by (with_reducible repeat (first | apply Kd.R_alloc | apply Kd.R_drewN | apply Kd.R_drew)); exact HO_161000.out) hb); have n1_ := Aside0.mk (Kd.R_below (by (with_reducible repeat (first | apply Kd.R_alloc | apply Kd.R_drewN | apply Kd.R_drew)); exact HO_161001.out) hb); have n2_ := Aside0.mk (blk_below (g := gb160) (o := .cells #[.slice Ao11 t153.length co11, .slice Ao13 t156.length co13] 33 (0, 0)) (by (with_reducible repeat (first | refine blk_drewN ?_ _ | refine blk_drew ?_ | refine blk_alloc ?_ _)); exact BK160.out) hb); have n3_ := Aside0.mk (below_step (by repeat (first | (with_reducible first | exact HB.out | apply below_alloc | apply pw_below_drewN | apply below_drew1 | refine below_set ?_ GE160.out) | exact HB.out)) hb); clear HO_161000; clear HO_161001; clear BK160; clear HB; have HO_161000 := n0_; have HO_161001 := n1_; have BK160 := n2_; have HB := n3_; clear n0_ n1_ n2_ n3_; (try clear hb); (try clear hb2); (try clear hk); (try clear hi)) | ((with_reducible refine gate_callee (f := 15) rfl ?_); refine goesL_ (some 59) rfl rfl Try.func15 (by kernel_rfl) rfl #[.agg #[.slice none 0 0, .slice none 0 0], .slice A0 l0.length c0, .string a2, .string a3] rfl (by (try simp only [List.map_toArray, List.map_cons, List.map_nil]); first | done | rfl | (simp only [List.length_drop, List.length_take]; rfl)) ?_; (refine (hash_Find.calls kj16 _ _ ([] : List Int) _ _ ([] : List Int) _ _ l0 a2 a3 t162 _ ?side1 ?side2 ?side3 ?side4 ?side5 ?side6 A24.out).mono ?_); (case side1 => exact Kd.C_nil _ _); (case side2 => exact Nat.le_refl _); (case side3 => exact Kd.C_nil _ _); (case side4 => exact Nat.le_refl _); (case side5 => repeat (first | exact (Kd.C_below HR0.out HB.out) | (with_reducible refine Kd.C_alloc ?_ _) | (with_reducible refine Kd.C_drewN ?_ _) | (with_reducible refine Kd.C_drew ?_))); (case side6 => exact HC0.out); rintro e w34 ⟨rfl, hb⟩; refine ⟨_, rfl, ?_⟩; have n0_ := Aside0.mk (Kd.R_below (by (with_reducible repeat (first | apply Kd.R_alloc | apply Kd.R_drewN | apply Kd.R_drew)); exact HO_161000.out) hb); have n1_ := Aside0.mk (Kd.R_below (by (with_reducible repeat (first | apply Kd.R_alloc | apply Kd.R_drewN | apply Kd.R_drew)); exact HO_161001.out) hb); have n2_ := Aside0.mk (blk_below (g := gb160) (o := .cells #[.slice Ao11 t153.length co11, .slice Ao13 t156.length co13] 33 (0, 0)) (by (with_reducible repeat (first | refine blk_drewN ?_ _ | refine blk_drew ?_ | refine blk_alloc ?_ _)); exact BK160.out) hb); have n3_ := Aside0.mk (below_step (by repeat (first | (with_reducible first | exact HB.out | apply below_alloc | apply pw_below_drewN | apply below_drew1 | refine below_set ?_ GE160.out) | exact HB.out)) hb); clear HO_161000; clear HO_161001; clear BK160; clear HB; have HO_161000 := n0_; have HO_161001 := n1_; have BK160 := n2_; have HB := n3_; clear n0_ n1_ n2_ n3_; (try clear hb); (try clear hb2); (try clear hk); (try clear hi)) | (go_at_call 16; (with_reducible refine (curtilageref12_Find.calls kj16 _ _ l0 a2 a3 t163 _ ?side1 ?side2 A26.out).mono ?_); (case side1 => repeat (first | exact (Kd.C_below HR0.out HB.out) | (with_reducible refine Kd.C_alloc ?_ _) | (with_reducible refine Kd.C_drewN ?_ _) | (with_reducible refine Kd.C_drew ?_))); (case side2 => exact HC0.out); rintro e w35 ⟨rfl, hb⟩; have n0_ := Aside0.mk (Kd.R_below (by (with_reducible repeat (first | apply Kd.R_alloc | apply Kd.R_drewN | apply Kd.R_drew)); exact HO_161000.out) hb); have n1_ := Aside0.mk (Kd.R_below (by (with_reducible repeat (first | apply Kd.R_alloc | apply Kd.R_drewN | apply Kd.R_drew)); exact HO_161001.out) hb); have n2_ := Aside0.mk (blk_below (g := gb160) (o := .cells #[.slice Ao11 t153.length co11, .slice Ao13 t156.length co13] 33 (0, 0)) (by (with_reducible repeat (first | refine blk_drewN ?_ _ | refine blk_drew ?_ | refine blk_alloc ?_ _)); exact BK160.out) hb); have n3_ := Aside0.mk (below_step (by repeat (first | (with_reducible first | exact HB.out | apply below_alloc | apply pw_below_drewN | apply below_drew1 | refine below_set ?_ GE160.out) | exact HB.out)) hb); clear HO_161000; clear HO_161001; clear BK160; clear HB; have HO_161000 := n0_; have HO_161001 := n1_; have BK160 := n2_; have HB := n3_; clear n0_ n1_ n2_ n3_; (try clear hb); (try clear hb2); (try clear hk); (try clear hi)))
                  go_ret
                  exact ⟨by first | rfl | (simp [errW_none, errW_some] <;> rfl) | (simp [*, errW_none, errW_some] <;> rfl), by repeat (first | (with_reducible first | exact HB.out | apply below_alloc | apply pw_below_drewN | apply below_drew1 | refine below_set ?_ GE160.out) | exact HB.out)⟩
              · replace c25 := Bool.eq_false_iff.mpr c25
                subst c25
                have H1 : (some false) = some r := by rw [if_neg (show ¬ (false = true) by decide)] at H; exact H
                clear H
                have H := H1
                clear H1
                obtain rfl := Option.some.inj H
                have hcz36_0 : wc.cell? ⟨gb160, 0, none⟩ = some (.slice Ao11 t153.length co11) := (blk_cell BK160.out 0).trans rfl
                have hcz36_1 : wc.cell? ⟨gb160, 1, none⟩ = some (.slice Ao13 t156.length co13) := (blk_cell BK160.out 1).trans rfl
                have hfz36_0 := blk_frozen BK160.out 0
                have hfz36_1 := blk_frozen BK160.out 1
                go_wp2_with (first | ((with_reducible refine gate_callee (f := 15) rfl ?_); refine goesL_ (some 54) rfl rfl Try.func15 (by kernel_rfl) rfl #[.agg #[.slice Ao11 t153.length co11, .slice Ao13 t156.length co13], .slice A0 l0.length c0, .string a2, .string a3] rfl (by (try simp only [List.map_toArray, List.map_cons, List.map_nil]); first | done | rfl | (simp only [List.length_drop, List.length_take]; rfl)) ?_; (with_reducible refine (hash_Find.calls kj16 _ _ t153 _ _ t156 _ _ l0 a2 a3 t161 _ ?side1 ?side2 ?side3 ?side4 ?side5 ?side6 A23.out).mono ?_); (case side1 => repeat (first | exact (Kd.R_reads' HO_161000.out).2.2 | (with_reducible refine Kd.C_alloc ?_ _) | (with_reducible refine Kd.C_drewN ?_ _) | (with_reducible refine Kd.C_drew ?_))); (case side2 => exact (Kd.R_reads' HO_161000.out).2.1); (case side3 => repeat (first | exact (Kd.R_reads' HO_161001.out).2.2 | (with_reducible refine Kd.C_alloc ?_ _) | (with_reducible refine Kd.C_drewN ?_ _) | (with_reducible refine Kd.C_drew ?_))); (case side4 => exact (Kd.R_reads' HO_161001.out).2.1); (case side5 => repeat (first | exact (Kd.C_below HR0.out HB.out) | (with_reducible refine Kd.C_alloc ?_ _) | (with_reducible refine Kd.C_drewN ?_ _) | (with_reducible refine Kd.C_drew ?_))); (case side6 => exact HC0.out); rintro e w37 ⟨rfl, hb⟩; refine ⟨_, rfl, ?_⟩; have n0_ := Aside0.mk (Kd.R_below (by (with_reducible repeat (first | apply Kd.R_alloc | apply Kd.R_drewN | apply Kd.R_drew)); exact HO_161000.out) hb); have n1_ := Aside0.mk (Kd.R_below (by (with_reducible repeat (first | apply Kd.R_alloc | apply Kd.R_drewN | apply Kd.R_drew)); exact HO_161001.out) hb); have n2_ := Aside0.mk (blk_below (g := gb160) (o := .cells #[.slice Ao11 t153.length co11, .slice Ao13 t156.length co13] 33 (0, 0)) (by (with_reducible repeat (first | refine blk_drewN ?_ _ | refine blk_drew ?_ | refine blk_alloc ?_ _)); exact BK160.out) hb); have n3_ := Aside0.mk (below_step (by repeat (first | (with_reducible first | exact HB.out | apply below_alloc | apply pw_below_drewN | apply below_drew1 | refine below_set ?_ GE160.out) | exact HB.out)) hb); clear HO_161000; clear HO_161001; clear BK160; clear HB; have HO_161000 := n0_; have HO_161001 := n1_; have BK160 := n2_; have HB := n3_; clear n0_ n1_ n2_ n3_; (try clear hb); (try clear hb2); (try clear hk); (try clear hi)) | ((with_reducible refine gate_callee (f := 15) rfl ?_); refine goesL_ (some 59) rfl rfl Try.func15 (by kernel_rfl) rfl #[.agg #[.slice none 0 0, .slice none 0 0], .slice A0 l0.length c0, .string a2, .string a3] rfl (by (try simp only [List.map_toArray, List.map_cons, List.map_nil]); first | done | rfl | (simp only [List.length_drop, List.length_take]; rfl)) ?_; (refine (hash_Find.calls kj16 _ _ ([] : List Int) _ _ ([] : List Int) _ _ l0 a2 a3 t162 _ ?side1 ?side2 ?side3 ?side4 ?side5 ?side6 A24.out).mono ?_); (case side1 => exact Kd.C_nil _ _); (case side2 => exact Nat.le_refl _); (case side3 => exact Kd.C_nil _ _); (case side4 => exact Nat.le_refl _); (case side5 => repeat (first | exact (Kd.C_below HR0.out HB.out) | (with_reducible refine Kd.C_alloc ?_ _) | (with_reducible refine Kd.C_drewN ?_ _) | (with_reducible refine Kd.C_drew ?_))); (case side6 => exact HC0.out); rintro e w38 ⟨rfl, hb⟩; refine ⟨_, rfl, ?_⟩; have n0_ := Aside0.mk (Kd.R_below (by (with_reducible repeat (first | apply Kd.R_alloc | apply Kd.R_drewN | apply Kd.R_drew)); exact HO_161000.out) hb); have n1_ := Aside0.mk (Kd.R_below (by (with_reducible repeat (first | apply Kd.R_alloc | apply Kd.R_drewN | apply Kd.R_drew)); exact HO_161001.out) hb); have n2_ := Aside0.mk (blk_below (g := gb160) (o := .cells #[.slice Ao11 t153.length co11, .slice Ao13 t156.length co13] 33 (0, 0)) (by (with_reducible repeat (first | refine blk_drewN ?_ _ | refine blk_drew ?_ | refine blk_alloc ?_ _)); exact BK160.out) hb); have n3_ := Aside0.mk (below_step (by repeat (first | (with_reducible first | exact HB.out | apply below_alloc | apply pw_below_drewN | apply below_drew1 | refine below_set ?_ GE160.out) | exact HB.out)) hb); clear HO_161000; clear HO_161001; clear BK160; clear HB; have HO_161000 := n0_; have HO_161001 := n1_; have BK160 := n2_; have HB := n3_; clear n0_ n1_ n2_ n3_; (try clear hb); (try clear hb2); (try clear hk); (try clear hi)))
                go_ret
                exact ⟨by first | rfl | (simp [errW_none, errW_some] <;> rfl) | (simp [*, errW_none, errW_some] <;> rfl), by repeat (first | (with_reducible first | exact HB.out | apply below_alloc | apply pw_below_drewN | apply below_drew1 | refine below_set ?_ GE160.out) | exact HB.out)⟩

end Go.Proofs.Ytcoknhomlbbimaa.P
