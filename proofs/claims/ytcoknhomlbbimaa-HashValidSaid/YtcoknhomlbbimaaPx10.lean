/- What functions of the program, and of its laws, give, each proved of its code by a walk; no condition. -/
import Derived.Test.YtcoknhomlbbimaaPx0
import Derived.Test.YtcoknhomlbbimaaPx2
import Derived.Test.YtcoknhomlbbimaaPx4
import Derived.Test.YtcoknhomlbbimaaPx7
namespace Go.Proofs.Ytcoknhomlbbimaa.P
open Go.RowKit Go.Proofs.YtcoknhomlbbimaaW.PrintWords Go.Proofs.YtcoknhomlbbimaaW.PrintLast Go.Proofs.YtcoknhomlbbimaaW.PrintMore
attribute [local go_sem] max2_int min2_int max_two min_two max_three min_three max_four min_four   -- for this text's walks alone
set_option linter.unusedVariables false
set_option linter.unusedSimpArgs false

/-! ### curtilagelaw12_HashValid: function 8 -/
mutual
def curtilagelaw12_HashValid.j0 : Nat → List (S24) → Int → Int → Int → Bool → Int → Bool → List Int → List Int → Option (Bool)
  | 0, _, _, _, _, _, _, _, _, _ => none
  | k + 1, x0, x1, x2, x3, x9, x11, x39, x273000, x273001 => if x39 = true then (if x9 = true then (some (x11 == 1)) else (some false)) else ((some (([] : List Int) : List Int)).bind fun y273 => (if y273.length + x273000.length < 17592186044416 then ((some (y273 ++ x273000 : List Int)).bind fun y276 => ((some (([] : List Int) : List Int)).bind fun y279 => (if y279.length + x273001.length < 17592186044416 then ((some (y279 ++ x273001 : List Int)).bind fun y282 => (if x2 < 0 then (curtilagelaw12_HashValid.j1 k x0 x1 x2 x3 x9 true x273000 x273001 y276 y282) else (curtilagelaw12_HashValid.j1 k x0 x1 x2 x3 x9 (decide (x2 ≥ (wrap64 (x1 + (x0.length : Int))))) x273000 x273001 y276 y282))) else (none)))) else (none)))
def curtilagelaw12_HashValid.j1 : Nat → List (S24) → Int → Int → Int → Bool → Bool → List Int → List Int → List Int → List Int → Option (Bool)
  | 0, _, _, _, _, _, _, _, _, _, _ => none
  | k + 1, x0, x1, x2, x3, x9, x63, x273000, x273001, x286000, x286001 => if x63 = true then (some x9) else (if x2 < x1 then (if 0 ≤ x2 then (if x2 < (x286000.length : Int) then ((hash_Valid.f k (x286000.set (x2 : Int).toNat x3) x286001 x0).bind fun t288 => ((hash_Valid.f k x273000 ([] : List Int) x0).bind fun t289 => (if x9 = true then (if (t288 == ((rd x286000 x2) == x3)) = true then (some (t289 == ((x0.length : Int) == 0))) else (some false)) else (some false)))) else (none)) else (none)) else (if 0 ≤ (wrap64 (x2 - x1)) then (if (wrap64 (x2 - x1)) < (x286001.length : Int) then ((hash_Valid.f k x286000 (x286001.set ((wrap64 (x2 - x1)) : Int).toNat x3) x0).bind fun t292 => ((hash_Valid.f k x273000 ([] : List Int) x0).bind fun t293 => (if x9 = true then (if (t292 == ((rd x286001 (wrap64 (x2 - x1))) == x3)) = true then (some (t293 == ((x0.length : Int) == 0))) else (some false)) else (some false)))) else (none)) else (none)))
end
def curtilagelaw12_HashValid.f (k : Nat) (l0 : List (S24)) (a1 : Int) (a2 : Int) (a3 : Int) : Option (Bool) := (curtilagelaw12_awake.f k).bind fun t264 => ((hash_Make.f l0 a1).bind fun bt265 => (if bt265.2.2 = 0 then (if (bt265.1.length : Int) = a1 then (curtilagelaw12_HashValid.j0 k l0 a1 a2 a3 t264 bt265.2.2 ((bt265.2.1.length : Int) != (l0.length : Int)) bt265.1 bt265.2.1) else (curtilagelaw12_HashValid.j0 k l0 a1 a2 a3 t264 bt265.2.2 true bt265.1 bt265.2.1)) else (curtilagelaw12_HashValid.j0 k l0 a1 a2 a3 t264 bt265.2.2 true bt265.1 bt265.2.1)))
theorem curtilagelaw12_HashValid.mono_l : ∀ k, (∀ y0 y1 y2 y3 y4 y5 y6 y7 y8, LeO (curtilagelaw12_HashValid.j0 k y0 y1 y2 y3 y4 y5 y6 y7 y8) (curtilagelaw12_HashValid.j0 (k + 1) y0 y1 y2 y3 y4 y5 y6 y7 y8)) ∧ (∀ y0 y1 y2 y3 y4 y5 y6 y7 y8 y9, LeO (curtilagelaw12_HashValid.j1 k y0 y1 y2 y3 y4 y5 y6 y7 y8 y9) (curtilagelaw12_HashValid.j1 (k + 1) y0 y1 y2 y3 y4 y5 y6 y7 y8 y9))
  | 0 => ⟨fun _ _ _ _ _ _ _ _ _ r h => by simp [curtilagelaw12_HashValid.j0] at h, fun _ _ _ _ _ _ _ _ _ _ r h => by simp [curtilagelaw12_HashValid.j1] at h⟩
  | k + 1 => by
    obtain ⟨ih0, ih1⟩ := curtilagelaw12_HashValid.mono_l k
    refine ⟨?_, ?_⟩
    · intro y0 y1 y2 y3 y4 y5 y6 y7 y8
      unfold curtilagelaw12_HashValid.j0
      repeat' first
      | (with_reducible exact ih0 _ _ _ _ _ _ _ _ _)
      | (with_reducible exact ih1 _ _ _ _ _ _ _ _ _ _)
      | (with_reducible exact curtilagelaw12_awake.mono _)
      | (with_reducible exact hash_Valid.mono _ _ _ _)
      | (with_reducible exact LeO.refl _)
      | (with_reducible exact LeO.none _)
      | (with_reducible refine LeO.ite ?_ ?_)
      | (with_reducible refine LeO.bind ?_ (fun _ => ?_))
      | exact ih0 _ _ _ _ _ _ _ _ _
      | exact ih1 _ _ _ _ _ _ _ _ _ _
      | exact curtilagelaw12_awake.mono _
      | exact hash_Valid.mono _ _ _ _
      | exact LeO.none _
      | refine LeO.ite ?_ ?_
      | refine LeO.bind ?_ (fun _ => ?_)
    · intro y0 y1 y2 y3 y4 y5 y6 y7 y8 y9
      unfold curtilagelaw12_HashValid.j1
      repeat' first
      | (with_reducible exact ih0 _ _ _ _ _ _ _ _ _)
      | (with_reducible exact ih1 _ _ _ _ _ _ _ _ _ _)
      | (with_reducible exact curtilagelaw12_awake.mono _)
      | (with_reducible exact hash_Valid.mono _ _ _ _)
      | (with_reducible exact LeO.refl _)
      | (with_reducible exact LeO.none _)
      | (with_reducible refine LeO.ite ?_ ?_)
      | (with_reducible refine LeO.bind ?_ (fun _ => ?_))
      | exact ih0 _ _ _ _ _ _ _ _ _
      | exact ih1 _ _ _ _ _ _ _ _ _ _
      | exact curtilagelaw12_awake.mono _
      | exact hash_Valid.mono _ _ _ _
      | exact LeO.none _
      | refine LeO.ite ?_ ?_
      | refine LeO.bind ?_ (fun _ => ?_)
theorem curtilagelaw12_HashValid.mono : ∀ a0 a1 a2 a3 k, LeO (curtilagelaw12_HashValid.f k a0 a1 a2 a3) (curtilagelaw12_HashValid.f (k + 1) a0 a1 a2 a3) := by
  intro a0 a1 a2 a3 k
  obtain ⟨ih0, ih1⟩ := curtilagelaw12_HashValid.mono_l k
  unfold curtilagelaw12_HashValid.f
  repeat' first
      | (with_reducible exact ih0 _ _ _ _ _ _ _ _ _)
      | (with_reducible exact ih1 _ _ _ _ _ _ _ _ _ _)
      | (with_reducible exact curtilagelaw12_awake.mono _)
      | (with_reducible exact hash_Valid.mono _ _ _ _)
      | (with_reducible exact LeO.refl _)
      | (with_reducible exact LeO.none _)
      | (with_reducible refine LeO.ite ?_ ?_)
      | (with_reducible refine LeO.bind ?_ (fun _ => ?_))
      | exact ih0 _ _ _ _ _ _ _ _ _
      | exact ih1 _ _ _ _ _ _ _ _ _ _
      | exact curtilagelaw12_awake.mono _
      | exact hash_Valid.mono _ _ _ _
      | exact LeO.none _
      | refine LeO.ite ?_ ?_
      | refine LeO.bind ?_ (fun _ => ?_)
def curtilagelaw12_HashValid.T5 : Bool × List (List Nat × List Nat) := (true, [([], []), ([], []), ([1], [1]), ([0, 2], [0, 2]), ([], []), ([], []), ([5], [5]), ([4, 6, 3], [4, 6]), ([3, 7], [3, 7]), ([], []), ([9, 8, 7, 0, 1, 2, 3, 4, 5, 6, 7, 8, 9], [8, 9])])
def curtilagelaw12_HashValid.B5 : List Nat := [0, 0, 2, 7, 0, 0, 32, 127, 255, 0, 1023]
theorem curtilagelaw12_HashValid.tab5 : rtab .any (opsOf Try.f8 5) = curtilagelaw12_HashValid.T5 := by kernel_rfl
theorem curtilagelaw12_HashValid.bits5 : waitsOk curtilagelaw12_HashValid.T5.2 curtilagelaw12_HashValid.B5 = true := by kernel_rfl
set_option maxHeartbeats 8000000 in
set_option maxRecDepth 100000 in
theorem curtilagelaw12_HashValid.calls (k : Nat) (A0 : Option Addr) (c0 : Nat) (l0 : List (S24)) (a1 : Int) (a2 : Int) (a3 : Int) (r : Bool) (w : World) (hr0 : Kd.C k24 w A0 l0.length l0) (hc0 : l0.length ≤ c0) (h : curtilagelaw12_HashValid.f k l0 a1 a2 a3 = some r) (hr0 : r = true) :
    Calls Try.prog 8 #[.slice A0 l0.length c0, .int .i64 a1, .int .i64 a2, .int .i64 a3] w fun e w' => e = .returned (.bool r) ∧ Below w.heap.size w w' := by
  have HT := Aside0.mk hr0
  clear hr0
  have hu33 := Try.underlying33
  have HR0 := Aside0.mk hr0
  have HC0 := Aside0.mk hc0
  clear hr0 hc0
  have HB := Aside0.mk (Below.refl w.heap.size w)
  have H : ((curtilagelaw12_awake.f k).bind fun t264 => ((hash_Make.f l0 a1).bind fun bt265 => (if bt265.2.2 = 0 then (if (bt265.1.length : Int) = a1 then (curtilagelaw12_HashValid.j0 k l0 a1 a2 a3 t264 bt265.2.2 ((bt265.2.1.length : Int) != (l0.length : Int)) bt265.1 bt265.2.1) else (curtilagelaw12_HashValid.j0 k l0 a1 a2 a3 t264 bt265.2.2 true bt265.1 bt265.2.1)) else (curtilagelaw12_HashValid.j0 k l0 a1 a2 a3 t264 bt265.2.2 true bt265.1 bt265.2.1)))) = some r := h
  clear h
  replace H := Option.bind_eq_some_iff.mp H
  obtain ⟨t264, A50, H⟩ := H
  replace H : ((hash_Make.f l0 a1).bind fun bt265 => (if bt265.2.2 = 0 then (if (bt265.1.length : Int) = a1 then (curtilagelaw12_HashValid.j0 k l0 a1 a2 a3 t264 bt265.2.2 ((bt265.2.1.length : Int) != (l0.length : Int)) bt265.1 bt265.2.1) else (curtilagelaw12_HashValid.j0 k l0 a1 a2 a3 t264 bt265.2.2 true bt265.1 bt265.2.1)) else (curtilagelaw12_HashValid.j0 k l0 a1 a2 a3 t264 bt265.2.2 true bt265.1 bt265.2.1))) = some r := H
  have A5 := Aside0.mk A50
  clear A50
  replace H := Option.bind_eq_some_iff.mp H
  obtain ⟨⟨t265, t268, t271⟩, A60, H⟩ := H
  replace H : (if t271 = 0 then (if (t265.length : Int) = a1 then (curtilagelaw12_HashValid.j0 k l0 a1 a2 a3 t264 t271 ((t268.length : Int) != (l0.length : Int)) t265 t268) else (curtilagelaw12_HashValid.j0 k l0 a1 a2 a3 t264 t271 true t265 t268)) else (curtilagelaw12_HashValid.j0 k l0 a1 a2 a3 t264 t271 true t265 t268)) = some r := H
  have A6 := Aside0.mk A60
  clear A60
  have HC7 := Aside0.mk H
  clear H
  go_enter Try.func8, Try.ntmps8
  go_upto_region 3 with (first | ((with_reducible refine gate_callee (f := 9) rfl ?_); refine goesL_ (some 16) rfl rfl Try.func9 (by kernel_rfl) rfl #[] rfl (by (try simp only [List.map_toArray, List.map_cons, List.map_nil]); first | done | rfl | (simp only [List.length_drop, List.length_take]; rfl)) ?_; (with_reducible refine (curtilagelaw12_awake.calls k  t264 _ A5.out).mono ?_); rintro e w8 ⟨rfl, hb⟩; refine ⟨_, rfl, ?_⟩; have n0_ := Aside0.mk (below_step (by repeat (first | (with_reducible first | exact HB.out | apply below_alloc | apply pw_below_drewN | apply below_drew1) | exact HB.out)) hb); clear HB; have HB := n0_; clear n0_; (try clear hb); (try clear hb2); (try clear hk); (try clear hi)) | ((with_reducible refine gate_callee (f := 14) rfl ?_); refine goesL_ (some 20) rfl rfl Try.func14 (by kernel_rfl) rfl #[.slice A0 l0.length c0, .int .i64 a1] rfl (by (try simp only [List.map_toArray, List.map_cons, List.map_nil]); first | done | rfl | (simp only [List.length_drop, List.length_take]; rfl)) ?_; (with_reducible refine (hash_Make.calls _ _ l0 a1 t265 t268 t271 _ ?side1 ?side2 A6.out).mono ?_); (case side1 => repeat (first | exact (Kd.C_below HR0.out HB.out) | (with_reducible refine Kd.C_alloc ?_ _) | (with_reducible refine Kd.C_drewN ?_ _) | (with_reducible refine Kd.C_drew ?_))); (case side2 => exact HC0.out); rintro e w9 ⟨v266, v269, rfl, ho0, ho1, hb⟩; refine ⟨_, rfl, ?_⟩; have n0_ := Aside0.mk (Kd.R_lower ho0 (below_size (by repeat (first | (with_reducible first | exact HB.out | apply below_alloc | apply pw_below_drewN | apply below_drew1) | exact HB.out)))); have n1_ := Aside0.mk (Kd.R_lower ho1 (below_size (by repeat (first | (with_reducible first | exact HB.out | apply below_alloc | apply pw_below_drewN | apply below_drew1) | exact HB.out)))); have n2_ := Aside0.mk (below_step (by repeat (first | (with_reducible first | exact HB.out | apply below_alloc | apply pw_below_drewN | apply below_drew1) | exact HB.out)) hb); clear HB; have HO267 := n0_; have HO270 := n1_; have HB := n2_; clear n0_ n1_ n2_; (try clear hb); (try clear hb2); (try clear hk); (try clear hi); (try clear ho0); (try clear ho1)) | ((with_reducible refine gate_dst (N := 10) rfl ?_); (try (refine gate_guard (by rfl) ?_; dsimp only)); refine box_event ?hg (N := 10) ?hd (cs := #[.slice none 0 0, .slice none 0 0]) (t := 33) ?hr ?_; (case hd => rfl); (case hg => rfl); (case hr => first | (go_simp; done) | (go_simp; rfl)); intro gb272 hg w10 hbox hb; have n0_ := Aside0.mk (Kd.R_below (by (with_reducible repeat (first | apply Kd.R_alloc | apply Kd.R_drewN | apply Kd.R_drew)); exact HO267.out) hb); have n1_ := Aside0.mk (Kd.R_below (by (with_reducible repeat (first | apply Kd.R_alloc | apply Kd.R_drewN | apply Kd.R_drew)); exact HO270.out) hb); have n2_ := Aside0.mk (below_step (by repeat (first | (with_reducible first | exact HB.out | apply below_alloc | apply pw_below_drewN | apply below_drew1) | exact HB.out)) hb); have n3_ := Aside0.mk (hbox); have n4_ := Aside0.mk ((by rw [hg]; exact (below_size (by repeat (first | (with_reducible first | exact HB.out | apply below_alloc | apply pw_below_drewN | apply below_drew1) | exact HB.out))) : w.heap.size ≤ gb272)); have n5_ := Aside0.mk ((by rw [hg]; exact (below_size (by repeat (first | (with_reducible first | exact HB.out | apply below_alloc | apply pw_below_drewN | apply below_drew1) | exact HB.out))) : w.heap.size ≤ gb272)); clear HO267; clear HO270; clear HB; have HO267 := n0_; have HO270 := n1_; have HB := n2_; have BK272 := n3_; have GW272 := n4_; have GE272 := n5_; clear n0_ n1_ n2_ n3_ n4_ n5_; clear hb hbox hg; obtain ⟨Ao11, co11, eo11⟩ := Kd.R_slice HO267.out; subst eo11; have hcz12_0 : w10.cell? ⟨gb272, 0, none⟩ = some (.slice none 0 0) := (blk_cell BK272.out 0).trans rfl; have hcz12_1 : w10.cell? ⟨gb272, 1, none⟩ = some (.slice none 0 0) := (blk_cell BK272.out 1).trans rfl; have hfz12_0 := blk_frozen BK272.out 0; have hfz12_1 := blk_frozen BK272.out 1; obtain ⟨Ao13, co13, eo13⟩ := Kd.R_slice HO270.out; subst eo13))
  (try simp only [Act.put, List.setIfInBounds_toArray, List.set_cons_zero, List.set_cons_succ])
  go_cut [39] (fun v39 wc => ∃ (kq : Nat) (x39_6 : Bool), v39 = .bool x39_6 ∧ Aside0 (curtilagelaw12_HashValid.j0 kq l0 a1 a2 a3 t264 t271 x39_6 t265 t268 = some r) ∧ Aside0 (kq ≤ k) ∧ Aside0 (Kd.R (Kd.int .i64) 3 wc w.heap.size (fun k_ => some k_ ≠ ((.slice Ao13 t268.length co13) : Value).ownBlock) (.slice Ao11 t265.length co11) t265) ∧ Aside0 (Kd.R (Kd.int .i64) 3 wc w.heap.size (fun k_ => some k_ ≠ ((.slice Ao11 t265.length co11) : Value).ownBlock) (.slice Ao13 t268.length co13) t268) ∧ Aside0 (wc.heap[gb272]? = some (.cells #[(.slice Ao11 t265.length co11), (.slice Ao13 t268.length co13)] 33 (0, 0))) ∧ Aside0 (Below w.heap.size w wc))
  case first =>
    have H := HC7.out
    clear HC7
    by_cases c14 : t271 = 0
    · rw [if_pos c14] at H
      have c14b0 : (t271 == 0) = true := beq_iff_eq.mpr c14
      have c14b1 : (t271 != 0) = false := bne_eq_false_iff_eq.mpr c14
      clear c14
      (first | rw [c14b0] | (simp only [i64_w, i32_w]; rw [c14b0]) | skip)
      by_cases c15 : (t265.length : Int) = a1
      · rw [if_pos c15] at H
        have c15b0 : ((t265.length : Int) == a1) = true := beq_iff_eq.mpr c15
        have c15b1 : ((t265.length : Int) != a1) = false := bne_eq_false_iff_eq.mpr c15
        clear c15
        have H' := Aside0.mk H
        clear H
        have hcz16_0 : w10.cell? ⟨gb272, 0, none⟩ = some (.slice none 0 0) := (blk_cell BK272.out 0).trans rfl
        have hcz16_1 : w10.cell? ⟨gb272, 1, none⟩ = some (.slice none 0 0) := (blk_cell BK272.out 1).trans rfl
        have hfz16_0 := blk_frozen BK272.out 0
        have hfz16_1 := blk_frozen BK272.out 1
        go_wp2
        go_meet
        case rel => exact ⟨_, (((t268.length : Int) != (l0.length : Int))), (by first | rfl | (simp; done) | (simp [*]; done)), H', ⟨by first | omega | exact Nat.le_refl _⟩, ⟨by (with_reducible repeat (first | apply Kd.R_alloc | apply Kd.R_drewN | apply Kd.R_drew)); exact Kd.R_mono (Kd.R_far (p := ⟨gb272, 1, none⟩) (Kd.R_far (p := ⟨gb272, 0, none⟩) (Kd.R_types HO267.out BK272.out (by decide)) (fun _ hk => hk.2) (.slice Ao11 t265.length co11)) (fun _ hk => hk.2) (.slice Ao13 t268.length co13)) (fun _ hk => hk.1)⟩, ⟨by (with_reducible repeat (first | apply Kd.R_alloc | apply Kd.R_drewN | apply Kd.R_drew)); exact Kd.R_mono (Kd.R_far (p := ⟨gb272, 1, none⟩) (Kd.R_far (p := ⟨gb272, 0, none⟩) (Kd.R_types HO270.out BK272.out (by decide)) (fun _ hk => hk.2) (.slice Ao11 t265.length co11)) (fun _ hk => hk.2) (.slice Ao13 t268.length co13)) (fun _ hk => hk.1)⟩, ⟨by (with_reducible repeat (first | refine blk_drewN ?_ _ | refine blk_drew ?_ | refine blk_alloc ?_ _)); refine blk_put (cs := #[.slice Ao11 t265.length co11, .slice none 0 0]) ?_ 1 _ rfl; (with_reducible repeat (first | refine blk_drewN ?_ _ | refine blk_drew ?_ | refine blk_alloc ?_ _)); refine blk_put (cs := #[.slice none 0 0, .slice none 0 0]) ?_ 0 _ rfl; (with_reducible repeat (first | refine blk_drewN ?_ _ | refine blk_drew ?_ | refine blk_alloc ?_ _)); exact BK272.out⟩, ⟨by repeat (first | (with_reducible first | exact HB.out | apply below_alloc | apply pw_below_drewN | apply below_drew1 | refine below_set ?_ GE272.out) | exact HB.out)⟩⟩
      · rw [if_neg c15] at H
        have c15b0 : ((t265.length : Int) == a1) = false := beq_eq_false_iff_ne.mpr c15
        have c15b1 : ((t265.length : Int) != a1) = true := bne_iff_ne.mpr c15
        have H' := Aside0.mk H
        clear H
        have hcz17_0 : w10.cell? ⟨gb272, 0, none⟩ = some (.slice none 0 0) := (blk_cell BK272.out 0).trans rfl
        have hcz17_1 : w10.cell? ⟨gb272, 1, none⟩ = some (.slice none 0 0) := (blk_cell BK272.out 1).trans rfl
        have hfz17_0 := blk_frozen BK272.out 0
        have hfz17_1 := blk_frozen BK272.out 1
        go_wp2
        go_meet
        case rel => exact ⟨_, (true), (by first | rfl | (simp; done) | (simp [*]; done)), H', ⟨by first | omega | exact Nat.le_refl _⟩, ⟨by (with_reducible repeat (first | apply Kd.R_alloc | apply Kd.R_drewN | apply Kd.R_drew)); exact Kd.R_mono (Kd.R_far (p := ⟨gb272, 1, none⟩) (Kd.R_far (p := ⟨gb272, 0, none⟩) (Kd.R_types HO267.out BK272.out (by decide)) (fun _ hk => hk.2) (.slice Ao11 t265.length co11)) (fun _ hk => hk.2) (.slice Ao13 t268.length co13)) (fun _ hk => hk.1)⟩, ⟨by (with_reducible repeat (first | apply Kd.R_alloc | apply Kd.R_drewN | apply Kd.R_drew)); exact Kd.R_mono (Kd.R_far (p := ⟨gb272, 1, none⟩) (Kd.R_far (p := ⟨gb272, 0, none⟩) (Kd.R_types HO270.out BK272.out (by decide)) (fun _ hk => hk.2) (.slice Ao11 t265.length co11)) (fun _ hk => hk.2) (.slice Ao13 t268.length co13)) (fun _ hk => hk.1)⟩, ⟨by (with_reducible repeat (first | refine blk_drewN ?_ _ | refine blk_drew ?_ | refine blk_alloc ?_ _)); refine blk_put (cs := #[.slice Ao11 t265.length co11, .slice none 0 0]) ?_ 1 _ rfl; (with_reducible repeat (first | refine blk_drewN ?_ _ | refine blk_drew ?_ | refine blk_alloc ?_ _)); refine blk_put (cs := #[.slice none 0 0, .slice none 0 0]) ?_ 0 _ rfl; (with_reducible repeat (first | refine blk_drewN ?_ _ | refine blk_drew ?_ | refine blk_alloc ?_ _)); exact BK272.out⟩, ⟨by repeat (first | (with_reducible first | exact HB.out | apply below_alloc | apply pw_below_drewN | apply below_drew1 | refine below_set ?_ GE272.out) | exact HB.out)⟩⟩
    · rw [if_neg c14] at H
      have c14b0 : (t271 == 0) = false := beq_eq_false_iff_ne.mpr c14
      have c14b1 : (t271 != 0) = true := bne_iff_ne.mpr c14
      (first | rw [c14b0] | (simp only [i64_w, i32_w]; rw [c14b0]) | skip)
      have H' := Aside0.mk H
      clear H
      go_wp2
      go_meet
      case rel => exact ⟨_, (true), (by first | rfl | (simp; done) | (simp [*]; done)), H', ⟨by first | omega | exact Nat.le_refl _⟩, ⟨by (with_reducible repeat (first | apply Kd.R_alloc | apply Kd.R_drewN | apply Kd.R_drew)); exact Kd.R_mono (Kd.R_far (p := ⟨gb272, 1, none⟩) (Kd.R_far (p := ⟨gb272, 0, none⟩) (Kd.R_types HO267.out BK272.out (by decide)) (fun _ hk => hk.2) (.slice Ao11 t265.length co11)) (fun _ hk => hk.2) (.slice Ao13 t268.length co13)) (fun _ hk => hk.1)⟩, ⟨by (with_reducible repeat (first | apply Kd.R_alloc | apply Kd.R_drewN | apply Kd.R_drew)); exact Kd.R_mono (Kd.R_far (p := ⟨gb272, 1, none⟩) (Kd.R_far (p := ⟨gb272, 0, none⟩) (Kd.R_types HO270.out BK272.out (by decide)) (fun _ hk => hk.2) (.slice Ao11 t265.length co11)) (fun _ hk => hk.2) (.slice Ao13 t268.length co13)) (fun _ hk => hk.1)⟩, ⟨by (with_reducible repeat (first | refine blk_drewN ?_ _ | refine blk_drew ?_ | refine blk_alloc ?_ _)); refine blk_put (cs := #[.slice Ao11 t265.length co11, .slice none 0 0]) ?_ 1 _ rfl; (with_reducible repeat (first | refine blk_drewN ?_ _ | refine blk_drew ?_ | refine blk_alloc ?_ _)); refine blk_put (cs := #[.slice none 0 0, .slice none 0 0]) ?_ 0 _ rfl; (with_reducible repeat (first | refine blk_drewN ?_ _ | refine blk_drew ?_ | refine blk_alloc ?_ _)); exact BK272.out⟩, ⟨by repeat (first | (with_reducible first | exact HB.out | apply below_alloc | apply pw_below_drewN | apply below_drew1 | refine below_set ?_ GE272.out) | exact HB.out)⟩⟩
  case rest =>
    clear HC7
    try clear c1
    try clear p2
    try clear c8
    try clear c9
    try clear c14
    try clear c14b0
    try clear c14b1
    try clear c15
    try clear c15b0
    try clear c15b1
    try clear hcz12_0
    try clear hcz12_1
    try clear hcz16_0
    try clear hcz16_1
    try clear hcz17_0
    try clear hcz17_1
    try clear hfz12_0
    try clear hfz12_1
    try clear hfz16_0
    try clear hfz16_1
    try clear hfz17_0
    try clear hfz17_1
    obtain ⟨kq, x39_6, rfl, HA, HJ6, HO_273000, HO_273001, BK272, HB⟩ := hcut
    cases kq with
    | zero => exact absurd HA.out (by simp [curtilagelaw12_HashValid.j0])
    | succ kj6 =>
      have H := HA.out
      clear HA
      simp only [curtilagelaw12_HashValid.j0] at H
      by_cases c18 : x39_6 = true
      · subst c18
        have H1 : (if t264 = true then (some (t271 == 1)) else (some false)) = some r := by rw [if_pos rfl] at H; exact H
        clear H
        have H := H1
        clear H1
        by_cases c19 : t264 = true
        · subst c19
          have H1 : (some (t271 == 1)) = some r := by rw [if_pos rfl] at H; exact H
          clear H
          have H := H1
          clear H1
          obtain rfl := Option.some.inj H
          go_wp2
          go_ret
          exact ⟨by first | rfl | (simp [errW_none, errW_some] <;> rfl) | (simp [*, errW_none, errW_some] <;> rfl), by repeat (first | (with_reducible first | exact HB.out | apply below_alloc | apply pw_below_drewN | apply below_drew1 | refine below_set ?_ GE272.out) | exact HB.out)⟩
        · replace c19 := Bool.eq_false_iff.mpr c19
          subst c19
          have H1 : (some false) = some r := by rw [if_neg (show ¬ (false = true) by decide)] at H; exact H
          clear H
          have H := H1
          clear H1
          exact absurd ((Option.some.inj H).trans HT.out) (by decide)
      · replace c18 := Bool.eq_false_iff.mpr c18
        subst c18
        have H1 : ((some (([] : List Int) : List Int)).bind fun y273 => (if y273.length + t265.length < 17592186044416 then ((some (y273 ++ t265 : List Int)).bind fun y276 => ((some (([] : List Int) : List Int)).bind fun y279 => (if y279.length + t268.length < 17592186044416 then ((some (y279 ++ t268 : List Int)).bind fun y282 => (if a2 < 0 then (curtilagelaw12_HashValid.j1 kj6 l0 a1 a2 a3 t264 true t265 t268 y276 y282) else (curtilagelaw12_HashValid.j1 kj6 l0 a1 a2 a3 t264 (decide (a2 ≥ (wrap64 (a1 + (l0.length : Int))))) t265 t268 y276 y282))) else (none)))) else (none))) = some r := by rw [if_neg (show ¬ (false = true) by decide)] at H; exact H
        clear H
        have H := H1
        clear H1
        obtain ⟨y273, hy273⟩ : ∃ y_ : List Int, y_ = (([] : List Int)) := ⟨_, rfl⟩
        replace H : (if y273.length + t265.length < 17592186044416 then ((some (y273 ++ t265 : List Int)).bind fun y276 => ((some (([] : List Int) : List Int)).bind fun y279 => (if y279.length + t268.length < 17592186044416 then ((some (y279 ++ t268 : List Int)).bind fun y282 => (if a2 < 0 then (curtilagelaw12_HashValid.j1 kj6 l0 a1 a2 a3 t264 true t265 t268 y276 y282) else (curtilagelaw12_HashValid.j1 kj6 l0 a1 a2 a3 t264 (decide (a2 ≥ (wrap64 (a1 + (l0.length : Int))))) t265 t268 y276 y282))) else (none)))) else (none)) = some r := by first | (rw [hy273]; with_reducible exact H) | (have H2_ := (Option.bind_some _ _).symm.trans H; rw [hy273]; with_reducible exact H2_) | (have H2_ := (Option.bind_some _ _).symm.trans H; with_reducible exact H2_) | with_reducible exact H | (rw [hy273]; exact H) | exact H
        have Ny273 := Aside0.mk hy273
        clear hy273
        by_cases c20 : y273.length + t265.length < 17592186044416
        · rw [if_pos c20] at H
          have LMc20 := Aside0.mk c20
          clear c20
          obtain ⟨y276, hy276⟩ : ∃ y_ : List Int, y_ = (y273 ++ t265) := ⟨_, rfl⟩
          replace H : ((some (([] : List Int) : List Int)).bind fun y279 => (if y279.length + t268.length < 17592186044416 then ((some (y279 ++ t268 : List Int)).bind fun y282 => (if a2 < 0 then (curtilagelaw12_HashValid.j1 kj6 l0 a1 a2 a3 t264 true t265 t268 y276 y282) else (curtilagelaw12_HashValid.j1 kj6 l0 a1 a2 a3 t264 (decide (a2 ≥ (wrap64 (a1 + (l0.length : Int))))) t265 t268 y276 y282))) else (none))) = some r := by first | (rw [hy276]; with_reducible exact H) | (have H2_ := (Option.bind_some _ _).symm.trans H; rw [hy276]; with_reducible exact H2_) | (have H2_ := (Option.bind_some _ _).symm.trans H; with_reducible exact H2_) | with_reducible exact H | (rw [hy276]; exact H) | exact H
          have Ny276 := Aside0.mk hy276
          clear hy276
          obtain ⟨y279, hy279⟩ : ∃ y_ : List Int, y_ = (([] : List Int)) := ⟨_, rfl⟩
          replace H : (if y279.length + t268.length < 17592186044416 then ((some (y279 ++ t268 : List Int)).bind fun y282 => (if a2 < 0 then (curtilagelaw12_HashValid.j1 kj6 l0 a1 a2 a3 t264 true t265 t268 y276 y282) else (curtilagelaw12_HashValid.j1 kj6 l0 a1 a2 a3 t264 (decide (a2 ≥ (wrap64 (a1 + (l0.length : Int))))) t265 t268 y276 y282))) else (none)) = some r := by first | (rw [hy279]; with_reducible exact H) | (have H2_ := (Option.bind_some _ _).symm.trans H; rw [hy279]; with_reducible exact H2_) | (have H2_ := (Option.bind_some _ _).symm.trans H; with_reducible exact H2_) | with_reducible exact H | (rw [hy279]; exact H) | exact H
          have Ny279 := Aside0.mk hy279
          clear hy279
          by_cases c21 : y279.length + t268.length < 17592186044416
          · rw [if_pos c21] at H
            have LMc21 := Aside0.mk c21
            clear c21
            obtain ⟨y282, hy282⟩ : ∃ y_ : List Int, y_ = (y279 ++ t268) := ⟨_, rfl⟩
            replace H : (if a2 < 0 then (curtilagelaw12_HashValid.j1 kj6 l0 a1 a2 a3 t264 true t265 t268 y276 y282) else (curtilagelaw12_HashValid.j1 kj6 l0 a1 a2 a3 t264 (decide (a2 ≥ (wrap64 (a1 + (l0.length : Int))))) t265 t268 y276 y282)) = some r := by first | (rw [hy282]; with_reducible exact H) | (have H2_ := (Option.bind_some _ _).symm.trans H; rw [hy282]; with_reducible exact H2_) | (have H2_ := (Option.bind_some _ _).symm.trans H; with_reducible exact H2_) | with_reducible exact H | (rw [hy282]; exact H) | exact H
            have Ny282 := Aside0.mk hy282
            clear hy282
            have HC22 := Aside0.mk H
            clear H
            try go_wp2
            have n0_ := Aside0.mk (Kd.R_drew HO_273000.out)
            have n1_ := Aside0.mk (Kd.R_drew HO_273001.out)
            have n2_ := Aside0.mk (blk_drew BK272.out)
            have n3_ := Aside0.mk (below_drew1 HB.out)
            clear HO_273000
            clear HO_273001
            clear BK272
            clear HB
            have HO_273000 := n0_
            have HO_273001 := n1_
            have BK272 := n2_
            have HB := n3_
            clear n0_ n1_ n2_ n3_
            refine start_ (n := 11) (S := fun w' => w'.cell? ⟨gb272, 0, none⟩ = some (.slice Ao11 t265.length co11) ∧ w'.cell? ⟨gb272, 1, none⟩ = some (.slice Ao13 t268.length co13)) (ds := []) #[false, false, false, false, false, false, false, false, false, false, false] (by kernel_rfl) rfl rfl ⟨(blk_cell BK272.out 0).trans rfl, (blk_cell BK272.out 1).trans rfl⟩ (fun hHeld => ?_); refine with_tabW curtilagelaw12_HashValid.tab5 curtilagelaw12_HashValid.bits5 (fun HT_ HW_ => ?_)
            generalize wc.drew = w23 at HO_273000 HO_273001 BK272 HB hHeld ⊢
            refine pure_ (i := 1) (N := some 46) (v := ?_) (a' := ?_) #[false, true, false, false, false, false, false, false, false, false, false] rfl rfl (any_of HT_.out (by kernel_rfl)) (fun _ _ _ h => h) (Or.inl ⟨by rfl, ?_⟩) ?_ ?_
            rotate_left
            · intro w'
              go_simp
              with_reducible rfl
            rotate_left
            · simp only [Act.put, List.setIfInBounds_toArray, List.set_cons_zero, List.set_cons_succ, i64_w, i32_w]
              rfl
            refine pure_ (i := 5) (N := some 50) (v := ?_) (a' := ?_) #[false, true, false, false, false, true, false, false, false, false, false] rfl rfl (any_of HT_.out (by kernel_rfl)) (fun _ _ _ h => h) (Or.inl ⟨by rfl, ?_⟩) ?_ ?_
            rotate_left
            · intro w'
              go_simp
              with_reducible rfl
            rotate_left
            · simp only [Act.put, List.setIfInBounds_toArray, List.set_cons_zero, List.set_cons_succ, i64_w, i32_w]
              rfl
            refine take_ (i := 2) (N := some 47) (v := ?_) (a' := ?_) #[false, true, true, false, false, true, false, false, false, false, false] rfl rfl (take_ofW HT_.out HW_.out (by kernel_rfl)) (fun _ _ _ h => h) (Or.inl ⟨by rfl, ?_⟩) hHeld ?_ ?_
            rotate_left
            · rintro w' ⟨s0, s1⟩
              go_simp
              with_reducible rfl
            rotate_left
            · simp only [Act.put, List.setIfInBounds_toArray, List.set_cons_zero, List.set_cons_succ, i64_w, i32_w]
              rfl
            refine take_ (i := 6) (N := some 51) (v := ?_) (a' := ?_) #[false, true, true, false, false, true, true, false, false, false, false] rfl rfl (take_ofW HT_.out HW_.out (by kernel_rfl)) (fun _ _ _ h => h) (Or.inl ⟨by rfl, ?_⟩) hHeld ?_ ?_
            rotate_left
            · rintro w' ⟨s0, s1⟩
              go_simp
              with_reducible rfl
            rotate_left
            · simp only [Act.put, List.setIfInBounds_toArray, List.set_cons_zero, List.set_cons_succ, i64_w, i32_w]
              rfl
            refine join_ (σ := Value × Value × Value × Value × Nat) 1 #[true, true, true, true, true, true, true, true, true, true, false] (fun s_ => [(45, s_.1), (48, s_.2.1), (49, s_.2.2.1), (52, s_.2.2.2.1), (12, .pointer (some ⟨s_.2.2.2.2, 0, none⟩)), (53, .agg #[s_.2.1, s_.2.2.2.1])]) (fun s_ w' => (w'.cell? ⟨gb272, 0, none⟩ = some (.slice Ao11 t265.length co11) ∧ w'.cell? ⟨gb272, 1, none⟩ = some (.slice Ao13 t268.length co13)) ∧ (Kd.R (Kd.int .i64) 3 w' w.heap.size (fun k_ => some k_ ≠ (s_.2.2.2.1 : Value).ownBlock ∧ some k_ ≠ (.slice Ao11 t265.length co11 : Value).ownBlock ∧ some k_ ≠ (.slice Ao13 t268.length co13 : Value).ownBlock) s_.2.1 y276) ∧ (Kd.R (Kd.int .i64) 3 w' w.heap.size (fun k_ => some k_ ≠ (s_.2.1 : Value).ownBlock ∧ some k_ ≠ (.slice Ao11 t265.length co11 : Value).ownBlock ∧ some k_ ≠ (.slice Ao13 t268.length co13 : Value).ownBlock) s_.2.2.2.1 y282) ∧ (Kd.R (Kd.int .i64) 3 w' w.heap.size (fun k_ => some k_ ≠ (s_.2.1 : Value).ownBlock ∧ some k_ ≠ (s_.2.2.2.1 : Value).ownBlock ∧ some k_ ≠ (.slice Ao13 t268.length co13 : Value).ownBlock) (.slice Ao11 t265.length co11) t265) ∧ (Kd.R (Kd.int .i64) 3 w' w.heap.size (fun k_ => some k_ ≠ (s_.2.1 : Value).ownBlock ∧ some k_ ≠ (s_.2.2.2.1 : Value).ownBlock ∧ some k_ ≠ (.slice Ao11 t265.length co11 : Value).ownBlock) (.slice Ao13 t268.length co13) t268) ∧ (w'.heap[gb272]? = some (.cells #[.slice Ao11 t265.length co11, .slice Ao13 t268.length co13] 33 (0, 0))) ∧ (w'.heap[s_.2.2.2.2]? = some (.cells #[.slice none 0 0, .slice none 0 0] 33 (0, 0))) ∧ (w.heap.size ≤ s_.2.2.2.2) ∧ (w.heap.size ≤ s_.2.2.2.2) ∧ (gb272 ≠ s_.2.2.2.2) ∧ (s_.2.2.2.2 ≠ gb272) ∧ (Below w.heap.size w w')) ?_ ?_
            rotate_left
            · intro hJ0_3_4_7_9
              refine join_ (σ := Value × Value × Value × Value) 2 #[true, true, true, true, true, true, true, true, true, false, false] (fun s_ => [(45, s_.1), (48, s_.2.1), (49, s_.2.2.1), (52, s_.2.2.2), (53, .agg #[s_.2.1, s_.2.2.2])]) (fun s_ w' => (w'.cell? ⟨gb272, 0, none⟩ = some (.slice Ao11 t265.length co11) ∧ w'.cell? ⟨gb272, 1, none⟩ = some (.slice Ao13 t268.length co13)) ∧ (Kd.R (Kd.int .i64) 3 w' w.heap.size (fun k_ => some k_ ≠ (s_.2.2.2 : Value).ownBlock ∧ some k_ ≠ (.slice Ao11 t265.length co11 : Value).ownBlock ∧ some k_ ≠ (.slice Ao13 t268.length co13 : Value).ownBlock) s_.2.1 y276) ∧ (Kd.R (Kd.int .i64) 3 w' w.heap.size (fun k_ => some k_ ≠ (s_.2.1 : Value).ownBlock ∧ some k_ ≠ (.slice Ao11 t265.length co11 : Value).ownBlock ∧ some k_ ≠ (.slice Ao13 t268.length co13 : Value).ownBlock) s_.2.2.2 y282) ∧ (Kd.R (Kd.int .i64) 3 w' w.heap.size (fun k_ => some k_ ≠ (s_.2.1 : Value).ownBlock ∧ some k_ ≠ (s_.2.2.2 : Value).ownBlock ∧ some k_ ≠ (.slice Ao13 t268.length co13 : Value).ownBlock) (.slice Ao11 t265.length co11) t265) ∧ (Kd.R (Kd.int .i64) 3 w' w.heap.size (fun k_ => some k_ ≠ (s_.2.1 : Value).ownBlock ∧ some k_ ≠ (s_.2.2.2 : Value).ownBlock ∧ some k_ ≠ (.slice Ao11 t265.length co11 : Value).ownBlock) (.slice Ao13 t268.length co13) t268) ∧ (w'.heap[gb272]? = some (.cells #[.slice Ao11 t265.length co11, .slice Ao13 t268.length co13] 33 (0, 0))) ∧ (Below w.heap.size w w')) ?_ ?_
              rotate_left
              · intro hJ0_3_4_7
                refine join_ (σ := Value × Value × Value × Nat) 3 #[true, true, true, true, true, true, true, false, false, true, false] (fun s_ => [(45, s_.1), (48, s_.2.1), (49, s_.2.2.1), (12, .pointer (some ⟨s_.2.2.2, 0, none⟩))]) (fun s_ w' => (w'.cell? ⟨gb272, 0, none⟩ = some (.slice Ao11 t265.length co11) ∧ w'.cell? ⟨gb272, 1, none⟩ = some (.slice Ao13 t268.length co13)) ∧ (Kd.R (Kd.int .i64) 3 w' w.heap.size (fun k_ => some k_ ≠ (s_.2.2.1 : Value).ownBlock ∧ some k_ ≠ (.slice Ao11 t265.length co11 : Value).ownBlock ∧ some k_ ≠ (.slice Ao13 t268.length co13 : Value).ownBlock) s_.2.1 y276) ∧ (Kd.R (Kd.int .i64) 3 w' w.heap.size (fun k_ => some k_ ≠ (s_.2.1 : Value).ownBlock ∧ some k_ ≠ (.slice Ao11 t265.length co11 : Value).ownBlock ∧ some k_ ≠ (.slice Ao13 t268.length co13 : Value).ownBlock) s_.2.2.1 y279) ∧ (Kd.R (Kd.int .i64) 3 w' w.heap.size (fun k_ => some k_ ≠ (s_.2.1 : Value).ownBlock ∧ some k_ ≠ (s_.2.2.1 : Value).ownBlock ∧ some k_ ≠ (.slice Ao13 t268.length co13 : Value).ownBlock) (.slice Ao11 t265.length co11) t265) ∧ (Kd.R (Kd.int .i64) 3 w' w.heap.size (fun k_ => some k_ ≠ (s_.2.1 : Value).ownBlock ∧ some k_ ≠ (s_.2.2.1 : Value).ownBlock ∧ some k_ ≠ (.slice Ao11 t265.length co11 : Value).ownBlock) (.slice Ao13 t268.length co13) t268) ∧ (w'.heap[gb272]? = some (.cells #[.slice Ao11 t265.length co11, .slice Ao13 t268.length co13] 33 (0, 0))) ∧ (w'.heap[s_.2.2.2]? = some (.cells #[.slice none 0 0, .slice none 0 0] 33 (0, 0))) ∧ (w.heap.size ≤ s_.2.2.2) ∧ (w.heap.size ≤ s_.2.2.2) ∧ (gb272 ≠ s_.2.2.2) ∧ (s_.2.2.2 ≠ gb272) ∧ (Below w.heap.size w w')) ?_ ?_
                rotate_left
                · intro hJ0_3_4_9
                  refine join_ (σ := Value × Value × Value) 4 #[true, true, true, true, true, true, true, false, false, false, false] (fun s_ => [(45, s_.1), (48, s_.2.1), (49, s_.2.2)]) (fun s_ w' => (w'.cell? ⟨gb272, 0, none⟩ = some (.slice Ao11 t265.length co11) ∧ w'.cell? ⟨gb272, 1, none⟩ = some (.slice Ao13 t268.length co13)) ∧ (Kd.R (Kd.int .i64) 3 w' w.heap.size (fun k_ => some k_ ≠ (s_.2.2 : Value).ownBlock ∧ some k_ ≠ (.slice Ao11 t265.length co11 : Value).ownBlock ∧ some k_ ≠ (.slice Ao13 t268.length co13 : Value).ownBlock) s_.2.1 y276) ∧ (Kd.R (Kd.int .i64) 3 w' w.heap.size (fun k_ => some k_ ≠ (s_.2.1 : Value).ownBlock ∧ some k_ ≠ (.slice Ao11 t265.length co11 : Value).ownBlock ∧ some k_ ≠ (.slice Ao13 t268.length co13 : Value).ownBlock) s_.2.2 y279) ∧ (Kd.R (Kd.int .i64) 3 w' w.heap.size (fun k_ => some k_ ≠ (s_.2.1 : Value).ownBlock ∧ some k_ ≠ (s_.2.2 : Value).ownBlock ∧ some k_ ≠ (.slice Ao13 t268.length co13 : Value).ownBlock) (.slice Ao11 t265.length co11) t265) ∧ (Kd.R (Kd.int .i64) 3 w' w.heap.size (fun k_ => some k_ ≠ (s_.2.1 : Value).ownBlock ∧ some k_ ≠ (s_.2.2 : Value).ownBlock ∧ some k_ ≠ (.slice Ao11 t265.length co11 : Value).ownBlock) (.slice Ao13 t268.length co13) t268) ∧ (w'.heap[gb272]? = some (.cells #[.slice Ao11 t265.length co11, .slice Ao13 t268.length co13] 33 (0, 0))) ∧ (Below w.heap.size w w')) ?_ ?_
                  rotate_left
                  · intro hJ0_3_4
                    refine join_ (σ := Value × Value × Nat) 4 #[true, true, true, true, false, true, true, false, false, true, false] (fun s_ => [(45, s_.1), (48, s_.2.1), (12, .pointer (some ⟨s_.2.2, 0, none⟩))]) (fun s_ w' => (w'.cell? ⟨gb272, 0, none⟩ = some (.slice Ao11 t265.length co11) ∧ w'.cell? ⟨gb272, 1, none⟩ = some (.slice Ao13 t268.length co13)) ∧ (Kd.R (Kd.int .i64) 3 w' w.heap.size (fun k_ => some k_ ≠ (.slice Ao11 t265.length co11 : Value).ownBlock ∧ some k_ ≠ (.slice Ao13 t268.length co13 : Value).ownBlock) s_.2.1 y276) ∧ (Kd.R (Kd.int .i64) 3 w' w.heap.size (fun k_ => some k_ ≠ (s_.2.1 : Value).ownBlock ∧ some k_ ≠ (.slice Ao13 t268.length co13 : Value).ownBlock) (.slice Ao11 t265.length co11) t265) ∧ (Kd.R (Kd.int .i64) 3 w' w.heap.size (fun k_ => some k_ ≠ (s_.2.1 : Value).ownBlock ∧ some k_ ≠ (.slice Ao11 t265.length co11 : Value).ownBlock) (.slice Ao13 t268.length co13) t268) ∧ (w'.heap[gb272]? = some (.cells #[.slice Ao11 t265.length co11, .slice Ao13 t268.length co13] 33 (0, 0))) ∧ (w'.heap[s_.2.2]? = some (.cells #[.slice none 0 0, .slice none 0 0] 33 (0, 0))) ∧ (w.heap.size ≤ s_.2.2) ∧ (w.heap.size ≤ s_.2.2) ∧ (gb272 ≠ s_.2.2) ∧ (s_.2.2 ≠ gb272) ∧ (Below w.heap.size w w')) ?_ ?_
                    rotate_left
                    · intro hJ0_3_9
                      refine join_ (σ := Value × Value × Nat) 4 #[true, true, true, false, true, true, true, false, false, true, false] (fun s_ => [(45, s_.1), (49, s_.2.1), (12, .pointer (some ⟨s_.2.2, 0, none⟩))]) (fun s_ w' => (w'.cell? ⟨gb272, 0, none⟩ = some (.slice Ao11 t265.length co11) ∧ w'.cell? ⟨gb272, 1, none⟩ = some (.slice Ao13 t268.length co13)) ∧ (Kd.R (Kd.int .i64) 3 w' w.heap.size (fun k_ => some k_ ≠ (s_.2.1 : Value).ownBlock ∧ some k_ ≠ (.slice Ao11 t265.length co11 : Value).ownBlock ∧ some k_ ≠ (.slice Ao13 t268.length co13 : Value).ownBlock) s_.1 y273) ∧ (Kd.R (Kd.int .i64) 3 w' w.heap.size (fun k_ => some k_ ≠ (s_.1 : Value).ownBlock ∧ some k_ ≠ (.slice Ao11 t265.length co11 : Value).ownBlock ∧ some k_ ≠ (.slice Ao13 t268.length co13 : Value).ownBlock) s_.2.1 y279) ∧ (Kd.R (Kd.int .i64) 3 w' w.heap.size (fun k_ => some k_ ≠ (s_.1 : Value).ownBlock ∧ some k_ ≠ (s_.2.1 : Value).ownBlock ∧ some k_ ≠ (.slice Ao13 t268.length co13 : Value).ownBlock) (.slice Ao11 t265.length co11) t265) ∧ (Kd.R (Kd.int .i64) 3 w' w.heap.size (fun k_ => some k_ ≠ (s_.1 : Value).ownBlock ∧ some k_ ≠ (s_.2.1 : Value).ownBlock ∧ some k_ ≠ (.slice Ao11 t265.length co11 : Value).ownBlock) (.slice Ao13 t268.length co13) t268) ∧ (w'.heap[gb272]? = some (.cells #[.slice Ao11 t265.length co11, .slice Ao13 t268.length co13] 33 (0, 0))) ∧ (w'.heap[s_.2.2]? = some (.cells #[.slice none 0 0, .slice none 0 0] 33 (0, 0))) ∧ (w.heap.size ≤ s_.2.2) ∧ (w.heap.size ≤ s_.2.2) ∧ (gb272 ≠ s_.2.2) ∧ (s_.2.2 ≠ gb272) ∧ (Below w.heap.size w w')) ?_ ?_
                      rotate_left
                      · intro hJ0_4_9
                        refine join_ (σ := Value × Value) 5 #[true, true, true, true, false, true, true, false, false, false, false] (fun s_ => [(45, s_.1), (48, s_.2)]) (fun s_ w' => (w'.cell? ⟨gb272, 0, none⟩ = some (.slice Ao11 t265.length co11) ∧ w'.cell? ⟨gb272, 1, none⟩ = some (.slice Ao13 t268.length co13)) ∧ (Kd.R (Kd.int .i64) 3 w' w.heap.size (fun k_ => some k_ ≠ (.slice Ao11 t265.length co11 : Value).ownBlock ∧ some k_ ≠ (.slice Ao13 t268.length co13 : Value).ownBlock) s_.2 y276) ∧ (Kd.R (Kd.int .i64) 3 w' w.heap.size (fun k_ => some k_ ≠ (s_.2 : Value).ownBlock ∧ some k_ ≠ (.slice Ao13 t268.length co13 : Value).ownBlock) (.slice Ao11 t265.length co11) t265) ∧ (Kd.R (Kd.int .i64) 3 w' w.heap.size (fun k_ => some k_ ≠ (s_.2 : Value).ownBlock ∧ some k_ ≠ (.slice Ao11 t265.length co11 : Value).ownBlock) (.slice Ao13 t268.length co13) t268) ∧ (w'.heap[gb272]? = some (.cells #[.slice Ao11 t265.length co11, .slice Ao13 t268.length co13] 33 (0, 0))) ∧ (Below w.heap.size w w')) ?_ ?_
                        rotate_left
                        · intro hJ0_3
                          refine join_ (σ := Value × Value) 5 #[true, true, true, false, true, true, true, false, false, false, false] (fun s_ => [(45, s_.1), (49, s_.2)]) (fun s_ w' => (w'.cell? ⟨gb272, 0, none⟩ = some (.slice Ao11 t265.length co11) ∧ w'.cell? ⟨gb272, 1, none⟩ = some (.slice Ao13 t268.length co13)) ∧ (Kd.R (Kd.int .i64) 3 w' w.heap.size (fun k_ => some k_ ≠ (s_.2 : Value).ownBlock ∧ some k_ ≠ (.slice Ao11 t265.length co11 : Value).ownBlock ∧ some k_ ≠ (.slice Ao13 t268.length co13 : Value).ownBlock) s_.1 y273) ∧ (Kd.R (Kd.int .i64) 3 w' w.heap.size (fun k_ => some k_ ≠ (s_.1 : Value).ownBlock ∧ some k_ ≠ (.slice Ao11 t265.length co11 : Value).ownBlock ∧ some k_ ≠ (.slice Ao13 t268.length co13 : Value).ownBlock) s_.2 y279) ∧ (Kd.R (Kd.int .i64) 3 w' w.heap.size (fun k_ => some k_ ≠ (s_.1 : Value).ownBlock ∧ some k_ ≠ (s_.2 : Value).ownBlock ∧ some k_ ≠ (.slice Ao13 t268.length co13 : Value).ownBlock) (.slice Ao11 t265.length co11) t265) ∧ (Kd.R (Kd.int .i64) 3 w' w.heap.size (fun k_ => some k_ ≠ (s_.1 : Value).ownBlock ∧ some k_ ≠ (s_.2 : Value).ownBlock ∧ some k_ ≠ (.slice Ao11 t265.length co11 : Value).ownBlock) (.slice Ao13 t268.length co13) t268) ∧ (w'.heap[gb272]? = some (.cells #[.slice Ao11 t265.length co11, .slice Ao13 t268.length co13] 33 (0, 0))) ∧ (Below w.heap.size w w')) ?_ ?_
                          rotate_left
                          · intro hJ0_4
                            refine join_ (σ := Value × Nat) 5 #[true, true, true, false, false, true, true, false, false, true, false] (fun s_ => [(45, s_.1), (12, .pointer (some ⟨s_.2, 0, none⟩))]) (fun s_ w' => (w'.cell? ⟨gb272, 0, none⟩ = some (.slice Ao11 t265.length co11) ∧ w'.cell? ⟨gb272, 1, none⟩ = some (.slice Ao13 t268.length co13)) ∧ (Kd.R (Kd.int .i64) 3 w' w.heap.size (fun k_ => some k_ ≠ (.slice Ao11 t265.length co11 : Value).ownBlock ∧ some k_ ≠ (.slice Ao13 t268.length co13 : Value).ownBlock) s_.1 y273) ∧ (Kd.R (Kd.int .i64) 3 w' w.heap.size (fun k_ => some k_ ≠ (s_.1 : Value).ownBlock ∧ some k_ ≠ (.slice Ao13 t268.length co13 : Value).ownBlock) (.slice Ao11 t265.length co11) t265) ∧ (Kd.R (Kd.int .i64) 3 w' w.heap.size (fun k_ => some k_ ≠ (s_.1 : Value).ownBlock ∧ some k_ ≠ (.slice Ao11 t265.length co11 : Value).ownBlock) (.slice Ao13 t268.length co13) t268) ∧ (w'.heap[gb272]? = some (.cells #[.slice Ao11 t265.length co11, .slice Ao13 t268.length co13] 33 (0, 0))) ∧ (w'.heap[s_.2]? = some (.cells #[.slice none 0 0, .slice none 0 0] 33 (0, 0))) ∧ (w.heap.size ≤ s_.2) ∧ (w.heap.size ≤ s_.2) ∧ (gb272 ≠ s_.2) ∧ (s_.2 ≠ gb272) ∧ (Below w.heap.size w w')) ?_ ?_
                            rotate_left
                            · intro hJ0_9
                              refine join_ (σ := Value × Nat) 5 #[false, true, true, false, true, true, true, false, false, true, false] (fun s_ => [(49, s_.1), (12, .pointer (some ⟨s_.2, 0, none⟩))]) (fun s_ w' => (w'.cell? ⟨gb272, 0, none⟩ = some (.slice Ao11 t265.length co11) ∧ w'.cell? ⟨gb272, 1, none⟩ = some (.slice Ao13 t268.length co13)) ∧ (Kd.R (Kd.int .i64) 3 w' w.heap.size (fun k_ => some k_ ≠ (.slice Ao11 t265.length co11 : Value).ownBlock ∧ some k_ ≠ (.slice Ao13 t268.length co13 : Value).ownBlock) s_.1 y279) ∧ (Kd.R (Kd.int .i64) 3 w' w.heap.size (fun k_ => some k_ ≠ (s_.1 : Value).ownBlock ∧ some k_ ≠ (.slice Ao13 t268.length co13 : Value).ownBlock) (.slice Ao11 t265.length co11) t265) ∧ (Kd.R (Kd.int .i64) 3 w' w.heap.size (fun k_ => some k_ ≠ (s_.1 : Value).ownBlock ∧ some k_ ≠ (.slice Ao11 t265.length co11 : Value).ownBlock) (.slice Ao13 t268.length co13) t268) ∧ (w'.heap[gb272]? = some (.cells #[.slice Ao11 t265.length co11, .slice Ao13 t268.length co13] 33 (0, 0))) ∧ (w'.heap[s_.2]? = some (.cells #[.slice none 0 0, .slice none 0 0] 33 (0, 0))) ∧ (w.heap.size ≤ s_.2) ∧ (w.heap.size ≤ s_.2) ∧ (gb272 ≠ s_.2) ∧ (s_.2 ≠ gb272) ∧ (Below w.heap.size w w')) ?_ ?_
                              rotate_left
                              · intro hJ4_9
                                refine join_ (σ := Value) 6 #[true, true, true, false, false, true, true, false, false, false, false] (fun s_ => [(45, s_)]) (fun s_ w' => (w'.cell? ⟨gb272, 0, none⟩ = some (.slice Ao11 t265.length co11) ∧ w'.cell? ⟨gb272, 1, none⟩ = some (.slice Ao13 t268.length co13)) ∧ (Kd.R (Kd.int .i64) 3 w' w.heap.size (fun k_ => some k_ ≠ (.slice Ao11 t265.length co11 : Value).ownBlock ∧ some k_ ≠ (.slice Ao13 t268.length co13 : Value).ownBlock) s_ y273) ∧ (Kd.R (Kd.int .i64) 3 w' w.heap.size (fun k_ => some k_ ≠ (s_ : Value).ownBlock ∧ some k_ ≠ (.slice Ao13 t268.length co13 : Value).ownBlock) (.slice Ao11 t265.length co11) t265) ∧ (Kd.R (Kd.int .i64) 3 w' w.heap.size (fun k_ => some k_ ≠ (s_ : Value).ownBlock ∧ some k_ ≠ (.slice Ao11 t265.length co11 : Value).ownBlock) (.slice Ao13 t268.length co13) t268) ∧ (w'.heap[gb272]? = some (.cells #[.slice Ao11 t265.length co11, .slice Ao13 t268.length co13] 33 (0, 0))) ∧ (Below w.heap.size w w')) ?_ ?_
                                rotate_left
                                · intro hJ0
                                  refine join_ (σ := Value) 6 #[false, true, true, false, true, true, true, false, false, false, false] (fun s_ => [(49, s_)]) (fun s_ w' => (w'.cell? ⟨gb272, 0, none⟩ = some (.slice Ao11 t265.length co11) ∧ w'.cell? ⟨gb272, 1, none⟩ = some (.slice Ao13 t268.length co13)) ∧ (Kd.R (Kd.int .i64) 3 w' w.heap.size (fun k_ => some k_ ≠ (.slice Ao11 t265.length co11 : Value).ownBlock ∧ some k_ ≠ (.slice Ao13 t268.length co13 : Value).ownBlock) s_ y279) ∧ (Kd.R (Kd.int .i64) 3 w' w.heap.size (fun k_ => some k_ ≠ (s_ : Value).ownBlock ∧ some k_ ≠ (.slice Ao13 t268.length co13 : Value).ownBlock) (.slice Ao11 t265.length co11) t265) ∧ (Kd.R (Kd.int .i64) 3 w' w.heap.size (fun k_ => some k_ ≠ (s_ : Value).ownBlock ∧ some k_ ≠ (.slice Ao11 t265.length co11 : Value).ownBlock) (.slice Ao13 t268.length co13) t268) ∧ (w'.heap[gb272]? = some (.cells #[.slice Ao11 t265.length co11, .slice Ao13 t268.length co13] 33 (0, 0))) ∧ (Below w.heap.size w w')) ?_ ?_
                                  rotate_left
                                  · intro hJ4
                                    refine join_ (σ := Nat) 6 #[false, true, true, false, false, true, true, false, false, true, false] (fun s_ => [(12, .pointer (some ⟨s_, 0, none⟩))]) (fun s_ w' => (w'.cell? ⟨gb272, 0, none⟩ = some (.slice Ao11 t265.length co11) ∧ w'.cell? ⟨gb272, 1, none⟩ = some (.slice Ao13 t268.length co13)) ∧ (Kd.R (Kd.int .i64) 3 w' w.heap.size (fun k_ => some k_ ≠ (.slice Ao13 t268.length co13 : Value).ownBlock) (.slice Ao11 t265.length co11) t265) ∧ (Kd.R (Kd.int .i64) 3 w' w.heap.size (fun k_ => some k_ ≠ (.slice Ao11 t265.length co11 : Value).ownBlock) (.slice Ao13 t268.length co13) t268) ∧ (w'.heap[gb272]? = some (.cells #[.slice Ao11 t265.length co11, .slice Ao13 t268.length co13] 33 (0, 0))) ∧ (w'.heap[s_]? = some (.cells #[.slice none 0 0, .slice none 0 0] 33 (0, 0))) ∧ (w.heap.size ≤ s_) ∧ (w.heap.size ≤ s_) ∧ (gb272 ≠ s_) ∧ (s_ ≠ gb272) ∧ (Below w.heap.size w w')) ?_ ?_
                                    rotate_left
                                    · intro hJ9
                                      refine three_ (i := 0) (j := 4) (k := 9) (Ni := some 45) (Nj := some 49) (Nk := some 12) #[true, true, true, false, false, true, true, false, false, false, false] #[false, true, true, false, true, true, true, false, false, false, false] #[false, true, true, false, false, true, true, false, false, true, false] rfl rfl rfl rfl rfl rfl (three_of HT_.out (by kernel_rfl)) (by decide) (by decide) (by decide) (fun K hK => ?_) (fun K hK => ?_) (fun K hK => ?_)
                                      · skip
                                        refine Kd.R_lit_step (Kd.int .i64) _ 3 ?hg (N := 45) ?hd (xs := ([] : List Int)) (inner := []) (ok := fun _ => True) (okp := fun _ => True) ?hr ?hp (fun _ hk => hk) trivial (Below.refl _ _) (Nat.le_refl _) (by simp) ?_; (case hd => rfl); (case hg => rfl); (case hr => first | (go_simp; done) | (go_simp; rfl)); (case hp => exact (Reps.none _ _))
                                        intro v274 w24 ho25 hb hg_ hnew_
                                        clear hg_ hnew_
                                        (first | rw [← Ny273.out] at ho25 | (simp only [Int.reduceToNat] at ho25; rw [← Ny273.out] at ho25))
                                        have n0_ := Aside0.mk (Kd.R_elder' (by (with_reducible repeat (first | apply Kd.R_alloc | apply Kd.R_drewN | apply Kd.R_drew)); exact HO_273000.out) (Kd.R_base ho25) hb)
                                        have n1_ := Aside0.mk (Kd.R_elder' (by (with_reducible repeat (first | apply Kd.R_alloc | apply Kd.R_drewN | apply Kd.R_drew)); exact HO_273001.out) (Kd.R_base ho25) hb)
                                        have n2_ := Aside0.mk (Kd.R_lower (Kd.R_new' (Kd.R_new' ho25 (Kd.R_lt (by (with_reducible repeat (first | apply Kd.R_alloc | apply Kd.R_drewN | apply Kd.R_drew)); exact HO_273000.out))) (Kd.R_lt (by (with_reducible repeat (first | apply Kd.R_alloc | apply Kd.R_drewN | apply Kd.R_drew)); exact HO_273001.out))) (below_size (by repeat (first | (with_reducible first | exact HB.out | apply below_alloc | apply pw_below_drewN | apply below_drew1 | refine below_set ?_ GE272.out) | exact HB.out))))
                                        have n3_ := Aside0.mk (blk_below (g := gb272) (o := .cells #[.slice Ao11 t265.length co11, .slice Ao13 t268.length co13] 33 (0, 0)) (by (with_reducible repeat (first | refine blk_drewN ?_ _ | refine blk_drew ?_ | refine blk_alloc ?_ _)); exact BK272.out) hb)
                                        have n4_ := Aside0.mk (below_step (by repeat (first | (with_reducible first | exact HB.out | apply below_alloc | apply pw_below_drewN | apply below_drew1 | refine below_set ?_ GE272.out) | exact HB.out)) hb)
                                        clear HO_273000
                                        clear HO_273001
                                        clear BK272
                                        clear HB
                                        have HO_273000 := n0_
                                        have HO_273001 := n1_
                                        have HO275 := n2_
                                        have BK272 := n3_
                                        have HB := n4_
                                        clear n0_ n1_ n2_ n3_ n4_
                                        clear hb ho25
                                        refine hK.out _ _ ⟨(blk_cell BK272.out 0).trans rfl, (blk_cell BK272.out 1).trans rfl⟩ (fun hHeld => ?_)
                                        clear hK K
                                        refine norm_ (a' := ?_) ?_ ?_
                                        rotate_left
                                        · show Act.put _ (some 45) _ = _
                                          simp only [Act.put, List.setIfInBounds_toArray, List.set_cons_zero, List.set_cons_succ, i64_w, i32_w]
                                          rfl
                                        exact norm_ (by first | (simp only [putAll, Act.put, List.setIfInBounds_toArray, List.set_cons_zero, List.set_cons_succ]; done) | (simp only [putAll, Act.put, List.setIfInBounds_toArray, List.set_cons_zero, List.set_cons_succ]; rfl)) (hJ0 (v274) _ ⟨hHeld, (by (with_reducible repeat (first | apply Kd.R_alloc | apply Kd.R_drewN | apply Kd.R_drew)); exact Kd.R_mono HO275.out (fun _ hk => ⟨hk.1.2, hk.2⟩)), (by (with_reducible repeat (first | apply Kd.R_alloc | apply Kd.R_drewN | apply Kd.R_drew)); exact Kd.R_mono HO_273000.out (fun _ hk => ⟨hk.2, hk.1⟩)), (by (with_reducible repeat (first | apply Kd.R_alloc | apply Kd.R_drewN | apply Kd.R_drew)); exact Kd.R_mono HO_273001.out (fun _ hk => ⟨hk.2, hk.1⟩)), (by (with_reducible repeat (first | refine blk_drewN ?_ _ | refine blk_drew ?_ | refine blk_alloc ?_ _)); exact BK272.out), (by repeat (first | (with_reducible first | exact HB.out | apply below_alloc | apply pw_below_drewN | apply below_drew1 | refine below_set ?_ GE272.out) | exact HB.out))⟩)
                                      · skip
                                        refine Kd.R_lit_step (Kd.int .i64) _ 3 ?hg (N := 49) ?hd (xs := ([] : List Int)) (inner := []) (ok := fun _ => True) (okp := fun _ => True) ?hr ?hp (fun _ hk => hk) trivial (Below.refl _ _) (Nat.le_refl _) (by simp) ?_; (case hd => rfl); (case hg => rfl); (case hr => first | (go_simp; done) | (go_simp; rfl)); (case hp => exact (Reps.none _ _))
                                        intro v280 w24 ho25 hb hg_ hnew_
                                        clear hg_ hnew_
                                        (first | rw [← Ny279.out] at ho25 | (simp only [Int.reduceToNat] at ho25; rw [← Ny279.out] at ho25))
                                        have n0_ := Aside0.mk (Kd.R_elder' (by (with_reducible repeat (first | apply Kd.R_alloc | apply Kd.R_drewN | apply Kd.R_drew)); exact HO_273000.out) (Kd.R_base ho25) hb)
                                        have n1_ := Aside0.mk (Kd.R_elder' (by (with_reducible repeat (first | apply Kd.R_alloc | apply Kd.R_drewN | apply Kd.R_drew)); exact HO_273001.out) (Kd.R_base ho25) hb)
                                        have n2_ := Aside0.mk (Kd.R_lower (Kd.R_new' (Kd.R_new' ho25 (Kd.R_lt (by (with_reducible repeat (first | apply Kd.R_alloc | apply Kd.R_drewN | apply Kd.R_drew)); exact HO_273000.out))) (Kd.R_lt (by (with_reducible repeat (first | apply Kd.R_alloc | apply Kd.R_drewN | apply Kd.R_drew)); exact HO_273001.out))) (below_size (by repeat (first | (with_reducible first | exact HB.out | apply below_alloc | apply pw_below_drewN | apply below_drew1 | refine below_set ?_ GE272.out) | exact HB.out))))
                                        have n3_ := Aside0.mk (blk_below (g := gb272) (o := .cells #[.slice Ao11 t265.length co11, .slice Ao13 t268.length co13] 33 (0, 0)) (by (with_reducible repeat (first | refine blk_drewN ?_ _ | refine blk_drew ?_ | refine blk_alloc ?_ _)); exact BK272.out) hb)
                                        have n4_ := Aside0.mk (below_step (by repeat (first | (with_reducible first | exact HB.out | apply below_alloc | apply pw_below_drewN | apply below_drew1 | refine below_set ?_ GE272.out) | exact HB.out)) hb)
                                        clear HO_273000
                                        clear HO_273001
                                        clear BK272
                                        clear HB
                                        have HO_273000 := n0_
                                        have HO_273001 := n1_
                                        have HO281 := n2_
                                        have BK272 := n3_
                                        have HB := n4_
                                        clear n0_ n1_ n2_ n3_ n4_
                                        clear hb ho25
                                        refine hK.out _ _ ⟨(blk_cell BK272.out 0).trans rfl, (blk_cell BK272.out 1).trans rfl⟩ (fun hHeld => ?_)
                                        clear hK K
                                        refine norm_ (a' := ?_) ?_ ?_
                                        rotate_left
                                        · show Act.put _ (some 49) _ = _
                                          simp only [Act.put, List.setIfInBounds_toArray, List.set_cons_zero, List.set_cons_succ, i64_w, i32_w]
                                          rfl
                                        exact norm_ (by first | (simp only [putAll, Act.put, List.setIfInBounds_toArray, List.set_cons_zero, List.set_cons_succ]; done) | (simp only [putAll, Act.put, List.setIfInBounds_toArray, List.set_cons_zero, List.set_cons_succ]; rfl)) (hJ4 (v280) _ ⟨hHeld, (by (with_reducible repeat (first | apply Kd.R_alloc | apply Kd.R_drewN | apply Kd.R_drew)); exact Kd.R_mono HO281.out (fun _ hk => ⟨hk.1.2, hk.2⟩)), (by (with_reducible repeat (first | apply Kd.R_alloc | apply Kd.R_drewN | apply Kd.R_drew)); exact Kd.R_mono HO_273000.out (fun _ hk => ⟨hk.2, hk.1⟩)), (by (with_reducible repeat (first | apply Kd.R_alloc | apply Kd.R_drewN | apply Kd.R_drew)); exact Kd.R_mono HO_273001.out (fun _ hk => ⟨hk.2, hk.1⟩)), (by (with_reducible repeat (first | refine blk_drewN ?_ _ | refine blk_drew ?_ | refine blk_alloc ?_ _)); exact BK272.out), (by repeat (first | (with_reducible first | exact HB.out | apply below_alloc | apply pw_below_drewN | apply below_drew1 | refine below_set ?_ GE272.out) | exact HB.out))⟩)
                                      · skip
                                        refine box_step ?hg (N := 12) ?hd (cs := #[.slice none 0 0, .slice none 0 0]) (t := 33) ?hr ?_; (case hd => rfl); (case hg => rfl); (case hr => first | (go_simp; done) | (go_simp; rfl))
                                        intro gb285 hg w24 hbox hb
                                        have n0_ := Aside0.mk (Kd.R_below (by (with_reducible repeat (first | apply Kd.R_alloc | apply Kd.R_drewN | apply Kd.R_drew)); exact HO_273000.out) hb)
                                        have n1_ := Aside0.mk (Kd.R_below (by (with_reducible repeat (first | apply Kd.R_alloc | apply Kd.R_drewN | apply Kd.R_drew)); exact HO_273001.out) hb)
                                        have n2_ := Aside0.mk (blk_below (g := gb272) (o := .cells #[.slice Ao11 t265.length co11, .slice Ao13 t268.length co13] 33 (0, 0)) (by (with_reducible repeat (first | refine blk_drewN ?_ _ | refine blk_drew ?_ | refine blk_alloc ?_ _)); exact BK272.out) hb)
                                        have n3_ := Aside0.mk (below_step (by repeat (first | (with_reducible first | exact HB.out | apply below_alloc | apply pw_below_drewN | apply below_drew1 | refine below_set ?_ GE272.out) | exact HB.out)) hb)
                                        have n4_ := Aside0.mk (hbox)
                                        have n5_ := Aside0.mk ((by rw [hg]; exact (below_size (by repeat (first | (with_reducible first | exact HB.out | apply below_alloc | apply pw_below_drewN | apply below_drew1 | refine below_set ?_ GE272.out) | exact HB.out))) : w.heap.size ≤ gb285))
                                        have n6_ := Aside0.mk ((by rw [hg]; exact (below_size (by repeat (first | (with_reducible first | exact HB.out | apply below_alloc | apply pw_below_drewN | apply below_drew1 | refine below_set ?_ GE272.out) | exact HB.out))) : w.heap.size ≤ gb285))
                                        have n7_ := Aside0.mk ((by rw [hg]; exact Nat.ne_of_lt (blk_lt (g := gb272) (o := .cells #[.slice Ao11 t265.length co11, .slice Ao13 t268.length co13] 33 (0, 0)) (by (with_reducible repeat (first | refine blk_drewN ?_ _ | refine blk_drew ?_ | refine blk_alloc ?_ _)); exact BK272.out)) : gb272 ≠ gb285))
                                        have n8_ := Aside0.mk ((by rw [hg]; exact Nat.ne_of_gt (blk_lt (g := gb272) (o := .cells #[.slice Ao11 t265.length co11, .slice Ao13 t268.length co13] 33 (0, 0)) (by (with_reducible repeat (first | refine blk_drewN ?_ _ | refine blk_drew ?_ | refine blk_alloc ?_ _)); exact BK272.out)) : gb285 ≠ gb272))
                                        clear HO_273000
                                        clear HO_273001
                                        clear BK272
                                        clear HB
                                        have HO_273000 := n0_
                                        have HO_273001 := n1_
                                        have BK272 := n2_
                                        have HB := n3_
                                        have BK285 := n4_
                                        have GW285 := n5_
                                        have GE285 := n6_
                                        have NB272_285 := n7_
                                        have NB285_272 := n8_
                                        clear n0_ n1_ n2_ n3_ n4_ n5_ n6_ n7_ n8_
                                        clear hb hbox hg
                                        refine hK.out _ _ ⟨(blk_cell BK272.out 0).trans rfl, (blk_cell BK272.out 1).trans rfl⟩ (fun hHeld => ?_)
                                        clear hK K
                                        refine norm_ (a' := ?_) ?_ ?_
                                        rotate_left
                                        · show Act.put _ (some 12) _ = _
                                          simp only [Act.put, List.setIfInBounds_toArray, List.set_cons_zero, List.set_cons_succ, i64_w, i32_w]
                                          rfl
                                        exact norm_ (by first | (simp only [putAll, Act.put, List.setIfInBounds_toArray, List.set_cons_zero, List.set_cons_succ]; done) | (simp only [putAll, Act.put, List.setIfInBounds_toArray, List.set_cons_zero, List.set_cons_succ]; rfl)) (hJ9 (gb285) _ ⟨hHeld, (by (with_reducible repeat (first | apply Kd.R_alloc | apply Kd.R_drewN | apply Kd.R_drew)); exact HO_273000.out), (by (with_reducible repeat (first | apply Kd.R_alloc | apply Kd.R_drewN | apply Kd.R_drew)); exact HO_273001.out), (by (with_reducible repeat (first | refine blk_drewN ?_ _ | refine blk_drew ?_ | refine blk_alloc ?_ _)); exact BK272.out), (by (with_reducible repeat (first | refine blk_drewN ?_ _ | refine blk_drew ?_ | refine blk_alloc ?_ _)); exact BK285.out), GW285.out, GE285.out, NB272_285.out, NB285_272.out, (by repeat (first | (with_reducible first | exact HB.out | apply below_alloc | apply pw_below_drewN | apply below_drew1 | refine below_set ?_ GE272.out | refine below_set ?_ GE285.out) | exact HB.out))⟩)
                                    · skip
                                      rintro gb285 w25 ⟨hS_, h0_, h1_, h2_, h3_, h4_, h5_, h6_, h7_, h8_⟩
                                      have n0_ : Aside0 (Kd.R (Kd.int .i64) 3 w25 w.heap.size (fun k_ => some k_ ≠ (.slice Ao13 t268.length co13 : Value).ownBlock) (.slice Ao11 t265.length co11) t265) := ⟨h0_⟩
                                      have n1_ : Aside0 (Kd.R (Kd.int .i64) 3 w25 w.heap.size (fun k_ => some k_ ≠ (.slice Ao11 t265.length co11 : Value).ownBlock) (.slice Ao13 t268.length co13) t268) := ⟨h1_⟩
                                      have n2_ : Aside0 (w25.heap[gb272]? = some (.cells #[.slice Ao11 t265.length co11, .slice Ao13 t268.length co13] 33 (0, 0))) := ⟨h2_⟩
                                      have n3_ : Aside0 (w25.heap[gb285]? = some (.cells #[.slice none 0 0, .slice none 0 0] 33 (0, 0))) := ⟨h3_⟩
                                      have n4_ : Aside0 (w.heap.size ≤ gb285) := ⟨h4_⟩
                                      have n5_ : Aside0 (w.heap.size ≤ gb285) := ⟨h5_⟩
                                      have n6_ : Aside0 (gb272 ≠ gb285) := ⟨h6_⟩
                                      have n7_ : Aside0 (gb285 ≠ gb272) := ⟨h7_⟩
                                      have n8_ : Aside0 (Below w.heap.size w w25) := ⟨h8_⟩
                                      clear HO_273000
                                      clear HO_273001
                                      clear BK272
                                      clear HB
                                      clear h0_ h1_ h2_ h3_ h4_ h5_ h6_ h7_ h8_
                                      have HO_273000 := n0_
                                      have HO_273001 := n1_
                                      have BK272 := n2_
                                      have BK285 := n3_
                                      have GW285 := n4_
                                      have GE285 := n5_
                                      have NB272_285 := n6_
                                      have NB285_272 := n7_
                                      have HB := n8_
                                      clear n0_ n1_ n2_ n3_ n4_ n5_ n6_ n7_ n8_
                                      have hHeld : w25.cell? ⟨gb272, 0, none⟩ = some (.slice Ao11 t265.length co11) ∧ w25.cell? ⟨gb272, 1, none⟩ = some (.slice Ao13 t268.length co13) := hS_
                                      refine norm_ (a' := ?_) ?_ ?_
                                      rotate_left
                                      · simp only [putAll, Act.put, List.setIfInBounds_toArray, List.set_cons_zero, List.set_cons_succ]
                                        rfl
                                      refine two_ (i := 0) (j := 4) (Ni := some 45) (Nj := some 49) #[true, true, true, false, false, true, true, false, false, true, false] #[false, true, true, false, true, true, true, false, false, true, false] rfl rfl rfl rfl (two_of HT_.out (by kernel_rfl)) (by decide) (by decide) (fun K hK => ?_) (fun K hK => ?_)
                                      · skip
                                        refine Kd.R_lit_step (Kd.int .i64) _ 3 ?hg (N := 45) ?hd (xs := ([] : List Int)) (inner := []) (ok := fun _ => True) (okp := fun _ => True) ?hr ?hp (fun _ hk => hk) trivial (Below.refl _ _) (Nat.le_refl _) (by simp) ?_; (case hd => rfl); (case hg => rfl); (case hr => first | (go_simp; done) | (go_simp; rfl)); (case hp => exact (Reps.none _ _))
                                        intro v274 w26 ho27 hb hg_ hnew_
                                        clear hg_ hnew_
                                        (first | rw [← Ny273.out] at ho27 | (simp only [Int.reduceToNat] at ho27; rw [← Ny273.out] at ho27))
                                        have n0_ := Aside0.mk (Kd.R_elder' (by (with_reducible repeat (first | apply Kd.R_alloc | apply Kd.R_drewN | apply Kd.R_drew)); exact HO_273000.out) (Kd.R_base ho27) hb)
                                        have n1_ := Aside0.mk (Kd.R_elder' (by (with_reducible repeat (first | apply Kd.R_alloc | apply Kd.R_drewN | apply Kd.R_drew)); exact HO_273001.out) (Kd.R_base ho27) hb)
                                        have n2_ := Aside0.mk (Kd.R_lower (Kd.R_new' (Kd.R_new' ho27 (Kd.R_lt (by (with_reducible repeat (first | apply Kd.R_alloc | apply Kd.R_drewN | apply Kd.R_drew)); exact HO_273000.out))) (Kd.R_lt (by (with_reducible repeat (first | apply Kd.R_alloc | apply Kd.R_drewN | apply Kd.R_drew)); exact HO_273001.out))) (below_size (by repeat (first | (with_reducible first | exact HB.out | apply below_alloc | apply pw_below_drewN | apply below_drew1 | refine below_set ?_ GE272.out | refine below_set ?_ GE285.out) | exact HB.out))))
                                        have n3_ := Aside0.mk (blk_below (g := gb272) (o := .cells #[.slice Ao11 t265.length co11, .slice Ao13 t268.length co13] 33 (0, 0)) (by (with_reducible repeat (first | refine blk_drewN ?_ _ | refine blk_drew ?_ | refine blk_alloc ?_ _)); exact BK272.out) hb)
                                        have n4_ := Aside0.mk (blk_below (g := gb285) (o := .cells #[.slice none 0 0, .slice none 0 0] 33 (0, 0)) (by (with_reducible repeat (first | refine blk_drewN ?_ _ | refine blk_drew ?_ | refine blk_alloc ?_ _)); exact BK285.out) hb)
                                        have n5_ := Aside0.mk (below_step (by repeat (first | (with_reducible first | exact HB.out | apply below_alloc | apply pw_below_drewN | apply below_drew1 | refine below_set ?_ GE272.out | refine below_set ?_ GE285.out) | exact HB.out)) hb)
                                        clear HO_273000
                                        clear HO_273001
                                        clear BK272
                                        clear BK285
                                        clear HB
                                        have HO_273000 := n0_
                                        have HO_273001 := n1_
                                        have HO275 := n2_
                                        have BK272 := n3_
                                        have BK285 := n4_
                                        have HB := n5_
                                        clear n0_ n1_ n2_ n3_ n4_ n5_
                                        clear hb ho27
                                        refine hK.out _ _ ⟨(blk_cell BK272.out 0).trans rfl, (blk_cell BK272.out 1).trans rfl⟩ (fun hHeld => ?_)
                                        clear hK K
                                        refine norm_ (a' := ?_) ?_ ?_
                                        rotate_left
                                        · show Act.put _ (some 45) _ = _
                                          simp only [Act.put, List.setIfInBounds_toArray, List.set_cons_zero, List.set_cons_succ, i64_w, i32_w]
                                          rfl
                                        exact norm_ (by first | (simp only [putAll, Act.put, List.setIfInBounds_toArray, List.set_cons_zero, List.set_cons_succ]; done) | (simp only [putAll, Act.put, List.setIfInBounds_toArray, List.set_cons_zero, List.set_cons_succ]; rfl)) (hJ0_9 (v274, gb285) _ ⟨hHeld, (by (with_reducible repeat (first | apply Kd.R_alloc | apply Kd.R_drewN | apply Kd.R_drew)); exact Kd.R_mono HO275.out (fun _ hk => ⟨hk.1.2, hk.2⟩)), (by (with_reducible repeat (first | apply Kd.R_alloc | apply Kd.R_drewN | apply Kd.R_drew)); exact Kd.R_mono HO_273000.out (fun _ hk => ⟨hk.2, hk.1⟩)), (by (with_reducible repeat (first | apply Kd.R_alloc | apply Kd.R_drewN | apply Kd.R_drew)); exact Kd.R_mono HO_273001.out (fun _ hk => ⟨hk.2, hk.1⟩)), (by (with_reducible repeat (first | refine blk_drewN ?_ _ | refine blk_drew ?_ | refine blk_alloc ?_ _)); exact BK272.out), (by (with_reducible repeat (first | refine blk_drewN ?_ _ | refine blk_drew ?_ | refine blk_alloc ?_ _)); exact BK285.out), GW285.out, GE285.out, NB272_285.out, NB285_272.out, (by repeat (first | (with_reducible first | exact HB.out | apply below_alloc | apply pw_below_drewN | apply below_drew1 | refine below_set ?_ GE272.out | refine below_set ?_ GE285.out) | exact HB.out))⟩)
                                      · skip
                                        refine Kd.R_lit_step (Kd.int .i64) _ 3 ?hg (N := 49) ?hd (xs := ([] : List Int)) (inner := []) (ok := fun _ => True) (okp := fun _ => True) ?hr ?hp (fun _ hk => hk) trivial (Below.refl _ _) (Nat.le_refl _) (by simp) ?_; (case hd => rfl); (case hg => rfl); (case hr => first | (go_simp; done) | (go_simp; rfl)); (case hp => exact (Reps.none _ _))
                                        intro v280 w26 ho27 hb hg_ hnew_
                                        clear hg_ hnew_
                                        (first | rw [← Ny279.out] at ho27 | (simp only [Int.reduceToNat] at ho27; rw [← Ny279.out] at ho27))
                                        have n0_ := Aside0.mk (Kd.R_elder' (by (with_reducible repeat (first | apply Kd.R_alloc | apply Kd.R_drewN | apply Kd.R_drew)); exact HO_273000.out) (Kd.R_base ho27) hb)
                                        have n1_ := Aside0.mk (Kd.R_elder' (by (with_reducible repeat (first | apply Kd.R_alloc | apply Kd.R_drewN | apply Kd.R_drew)); exact HO_273001.out) (Kd.R_base ho27) hb)
                                        have n2_ := Aside0.mk (Kd.R_lower (Kd.R_new' (Kd.R_new' ho27 (Kd.R_lt (by (with_reducible repeat (first | apply Kd.R_alloc | apply Kd.R_drewN | apply Kd.R_drew)); exact HO_273000.out))) (Kd.R_lt (by (with_reducible repeat (first | apply Kd.R_alloc | apply Kd.R_drewN | apply Kd.R_drew)); exact HO_273001.out))) (below_size (by repeat (first | (with_reducible first | exact HB.out | apply below_alloc | apply pw_below_drewN | apply below_drew1 | refine below_set ?_ GE272.out | refine below_set ?_ GE285.out) | exact HB.out))))
                                        have n3_ := Aside0.mk (blk_below (g := gb272) (o := .cells #[.slice Ao11 t265.length co11, .slice Ao13 t268.length co13] 33 (0, 0)) (by (with_reducible repeat (first | refine blk_drewN ?_ _ | refine blk_drew ?_ | refine blk_alloc ?_ _)); exact BK272.out) hb)
                                        have n4_ := Aside0.mk (blk_below (g := gb285) (o := .cells #[.slice none 0 0, .slice none 0 0] 33 (0, 0)) (by (with_reducible repeat (first | refine blk_drewN ?_ _ | refine blk_drew ?_ | refine blk_alloc ?_ _)); exact BK285.out) hb)
                                        have n5_ := Aside0.mk (below_step (by repeat (first | (with_reducible first | exact HB.out | apply below_alloc | apply pw_below_drewN | apply below_drew1 | refine below_set ?_ GE272.out | refine below_set ?_ GE285.out) | exact HB.out)) hb)
                                        clear HO_273000
                                        clear HO_273001
                                        clear BK272
                                        clear BK285
                                        clear HB
                                        have HO_273000 := n0_
                                        have HO_273001 := n1_
                                        have HO281 := n2_
                                        have BK272 := n3_
                                        have BK285 := n4_
                                        have HB := n5_
                                        clear n0_ n1_ n2_ n3_ n4_ n5_
                                        clear hb ho27
                                        refine hK.out _ _ ⟨(blk_cell BK272.out 0).trans rfl, (blk_cell BK272.out 1).trans rfl⟩ (fun hHeld => ?_)
                                        clear hK K
                                        refine norm_ (a' := ?_) ?_ ?_
                                        rotate_left
                                        · show Act.put _ (some 49) _ = _
                                          simp only [Act.put, List.setIfInBounds_toArray, List.set_cons_zero, List.set_cons_succ, i64_w, i32_w]
                                          rfl
                                        exact norm_ (by first | (simp only [putAll, Act.put, List.setIfInBounds_toArray, List.set_cons_zero, List.set_cons_succ]; done) | (simp only [putAll, Act.put, List.setIfInBounds_toArray, List.set_cons_zero, List.set_cons_succ]; rfl)) (hJ4_9 (v280, gb285) _ ⟨hHeld, (by (with_reducible repeat (first | apply Kd.R_alloc | apply Kd.R_drewN | apply Kd.R_drew)); exact Kd.R_mono HO281.out (fun _ hk => ⟨hk.1.2, hk.2⟩)), (by (with_reducible repeat (first | apply Kd.R_alloc | apply Kd.R_drewN | apply Kd.R_drew)); exact Kd.R_mono HO_273000.out (fun _ hk => ⟨hk.2, hk.1⟩)), (by (with_reducible repeat (first | apply Kd.R_alloc | apply Kd.R_drewN | apply Kd.R_drew)); exact Kd.R_mono HO_273001.out (fun _ hk => ⟨hk.2, hk.1⟩)), (by (with_reducible repeat (first | refine blk_drewN ?_ _ | refine blk_drew ?_ | refine blk_alloc ?_ _)); exact BK272.out), (by (with_reducible repeat (first | refine blk_drewN ?_ _ | refine blk_drew ?_ | refine blk_alloc ?_ _)); exact BK285.out), GW285.out, GE285.out, NB272_285.out, NB285_272.out, (by repeat (first | (with_reducible first | exact HB.out | apply below_alloc | apply pw_below_drewN | apply below_drew1 | refine below_set ?_ GE272.out | refine below_set ?_ GE285.out) | exact HB.out))⟩)
                                  · skip
                                    rintro v280 w26 ⟨hS_, h0_, h1_, h2_, h3_, h4_⟩
                                    have n0_ : Aside0 (Kd.R (Kd.int .i64) 3 w26 w.heap.size (fun k_ => some k_ ≠ (.slice Ao11 t265.length co11 : Value).ownBlock ∧ some k_ ≠ (.slice Ao13 t268.length co13 : Value).ownBlock) v280 y279) := ⟨h0_⟩
                                    have n1_ : Aside0 (Kd.R (Kd.int .i64) 3 w26 w.heap.size (fun k_ => some k_ ≠ (v280 : Value).ownBlock ∧ some k_ ≠ (.slice Ao13 t268.length co13 : Value).ownBlock) (.slice Ao11 t265.length co11) t265) := ⟨h1_⟩
                                    have n2_ : Aside0 (Kd.R (Kd.int .i64) 3 w26 w.heap.size (fun k_ => some k_ ≠ (v280 : Value).ownBlock ∧ some k_ ≠ (.slice Ao11 t265.length co11 : Value).ownBlock) (.slice Ao13 t268.length co13) t268) := ⟨h2_⟩
                                    have n3_ : Aside0 (w26.heap[gb272]? = some (.cells #[.slice Ao11 t265.length co11, .slice Ao13 t268.length co13] 33 (0, 0))) := ⟨h3_⟩
                                    have n4_ : Aside0 (Below w.heap.size w w26) := ⟨h4_⟩
                                    clear HO_273000
                                    clear HO_273001
                                    clear BK272
                                    clear HB
                                    clear h0_ h1_ h2_ h3_ h4_
                                    have HO281 := n0_
                                    have HO_273000 := n1_
                                    have HO_273001 := n2_
                                    have BK272 := n3_
                                    have HB := n4_
                                    clear n0_ n1_ n2_ n3_ n4_
                                    have hHeld : w26.cell? ⟨gb272, 0, none⟩ = some (.slice Ao11 t265.length co11) ∧ w26.cell? ⟨gb272, 1, none⟩ = some (.slice Ao13 t268.length co13) := hS_
                                    refine norm_ (a' := ?_) ?_ ?_
                                    rotate_left
                                    · simp only [putAll, Act.put, List.setIfInBounds_toArray, List.set_cons_zero, List.set_cons_succ]
                                      rfl
                                    refine two_ (i := 0) (j := 9) (Ni := some 45) (Nj := some 12) #[true, true, true, false, true, true, true, false, false, false, false] #[false, true, true, false, true, true, true, false, false, true, false] rfl rfl rfl rfl (two_of HT_.out (by kernel_rfl)) (by decide) (by decide) (fun K hK => ?_) (fun K hK => ?_)
                                    · skip
                                      refine Kd.R_lit_step (Kd.int .i64) _ 3 ?hg (N := 45) ?hd (xs := ([] : List Int)) (inner := []) (ok := fun _ => True) (okp := fun _ => True) ?hr ?hp (fun _ hk => hk) trivial (Below.refl _ _) (Nat.le_refl _) (by simp) ?_; (case hd => rfl); (case hg => rfl); (case hr => first | (go_simp; done) | (go_simp; rfl)); (case hp => exact (Reps.none _ _))
                                      intro v274 w27 ho28 hb hg_ hnew_
                                      clear hg_ hnew_
                                      (first | rw [← Ny273.out] at ho28 | (simp only [Int.reduceToNat] at ho28; rw [← Ny273.out] at ho28))
                                      have n0_ := Aside0.mk (Kd.R_elder' (by (with_reducible repeat (first | apply Kd.R_alloc | apply Kd.R_drewN | apply Kd.R_drew)); exact HO_273000.out) (Kd.R_base ho28) hb)
                                      have n1_ := Aside0.mk (Kd.R_elder' (by (with_reducible repeat (first | apply Kd.R_alloc | apply Kd.R_drewN | apply Kd.R_drew)); exact HO_273001.out) (Kd.R_base ho28) hb)
                                      have n2_ := Aside0.mk (Kd.R_elder' (by (with_reducible repeat (first | apply Kd.R_alloc | apply Kd.R_drewN | apply Kd.R_drew)); exact HO281.out) (Kd.R_base ho28) hb)
                                      have n3_ := Aside0.mk (Kd.R_lower (Kd.R_new' (Kd.R_new' (Kd.R_new' ho28 (Kd.R_lt (by (with_reducible repeat (first | apply Kd.R_alloc | apply Kd.R_drewN | apply Kd.R_drew)); exact HO_273000.out))) (Kd.R_lt (by (with_reducible repeat (first | apply Kd.R_alloc | apply Kd.R_drewN | apply Kd.R_drew)); exact HO_273001.out))) (Kd.R_lt (by (with_reducible repeat (first | apply Kd.R_alloc | apply Kd.R_drewN | apply Kd.R_drew)); exact HO281.out))) (below_size (by repeat (first | (with_reducible first | exact HB.out | apply below_alloc | apply pw_below_drewN | apply below_drew1 | refine below_set ?_ GE272.out) | exact HB.out))))
                                      have n4_ := Aside0.mk (blk_below (g := gb272) (o := .cells #[.slice Ao11 t265.length co11, .slice Ao13 t268.length co13] 33 (0, 0)) (by (with_reducible repeat (first | refine blk_drewN ?_ _ | refine blk_drew ?_ | refine blk_alloc ?_ _)); exact BK272.out) hb)
                                      have n5_ := Aside0.mk (below_step (by repeat (first | (with_reducible first | exact HB.out | apply below_alloc | apply pw_below_drewN | apply below_drew1 | refine below_set ?_ GE272.out) | exact HB.out)) hb)
                                      clear HO_273000
                                      clear HO_273001
                                      clear HO281
                                      clear BK272
                                      clear HB
                                      have HO_273000 := n0_
                                      have HO_273001 := n1_
                                      have HO281 := n2_
                                      have HO275 := n3_
                                      have BK272 := n4_
                                      have HB := n5_
                                      clear n0_ n1_ n2_ n3_ n4_ n5_
                                      clear hb ho28
                                      refine hK.out _ _ ⟨(blk_cell BK272.out 0).trans rfl, (blk_cell BK272.out 1).trans rfl⟩ (fun hHeld => ?_)
                                      clear hK K
                                      refine norm_ (a' := ?_) ?_ ?_
                                      rotate_left
                                      · show Act.put _ (some 45) _ = _
                                        simp only [Act.put, List.setIfInBounds_toArray, List.set_cons_zero, List.set_cons_succ, i64_w, i32_w]
                                        rfl
                                      exact norm_ (by first | (simp only [putAll, Act.put, List.setIfInBounds_toArray, List.set_cons_zero, List.set_cons_succ]; done) | (simp only [putAll, Act.put, List.setIfInBounds_toArray, List.set_cons_zero, List.set_cons_succ]; rfl)) (hJ0_4 (v274, v280) _ ⟨hHeld, (by (with_reducible repeat (first | apply Kd.R_alloc | apply Kd.R_drewN | apply Kd.R_drew)); exact Kd.R_mono HO275.out (fun _ hk => ⟨hk.2, ⟨hk.1.1.2, hk.1.2⟩⟩)), (by (with_reducible repeat (first | apply Kd.R_alloc | apply Kd.R_drewN | apply Kd.R_drew)); exact Kd.R_mono HO281.out (fun _ hk => ⟨hk.2, ⟨hk.1.1, hk.1.2⟩⟩)), (by (with_reducible repeat (first | apply Kd.R_alloc | apply Kd.R_drewN | apply Kd.R_drew)); exact Kd.R_mono HO_273000.out (fun _ hk => ⟨hk.2, ⟨hk.1.1, hk.1.2⟩⟩)), (by (with_reducible repeat (first | apply Kd.R_alloc | apply Kd.R_drewN | apply Kd.R_drew)); exact Kd.R_mono HO_273001.out (fun _ hk => ⟨hk.2, ⟨hk.1.1, hk.1.2⟩⟩)), (by (with_reducible repeat (first | refine blk_drewN ?_ _ | refine blk_drew ?_ | refine blk_alloc ?_ _)); exact BK272.out), (by repeat (first | (with_reducible first | exact HB.out | apply below_alloc | apply pw_below_drewN | apply below_drew1 | refine below_set ?_ GE272.out) | exact HB.out))⟩)
                                    · skip
                                      refine box_step ?hg (N := 12) ?hd (cs := #[.slice none 0 0, .slice none 0 0]) (t := 33) ?hr ?_; (case hd => rfl); (case hg => rfl); (case hr => first | (go_simp; done) | (go_simp; rfl))
                                      intro gb285 hg w27 hbox hb
                                      have n0_ := Aside0.mk (Kd.R_below (by (with_reducible repeat (first | apply Kd.R_alloc | apply Kd.R_drewN | apply Kd.R_drew)); exact HO_273000.out) hb)
                                      have n1_ := Aside0.mk (Kd.R_below (by (with_reducible repeat (first | apply Kd.R_alloc | apply Kd.R_drewN | apply Kd.R_drew)); exact HO_273001.out) hb)
                                      have n2_ := Aside0.mk (Kd.R_below (by (with_reducible repeat (first | apply Kd.R_alloc | apply Kd.R_drewN | apply Kd.R_drew)); exact HO281.out) hb)
                                      have n3_ := Aside0.mk (blk_below (g := gb272) (o := .cells #[.slice Ao11 t265.length co11, .slice Ao13 t268.length co13] 33 (0, 0)) (by (with_reducible repeat (first | refine blk_drewN ?_ _ | refine blk_drew ?_ | refine blk_alloc ?_ _)); exact BK272.out) hb)
                                      have n4_ := Aside0.mk (below_step (by repeat (first | (with_reducible first | exact HB.out | apply below_alloc | apply pw_below_drewN | apply below_drew1 | refine below_set ?_ GE272.out) | exact HB.out)) hb)
                                      have n5_ := Aside0.mk (hbox)
                                      have n6_ := Aside0.mk ((by rw [hg]; exact (below_size (by repeat (first | (with_reducible first | exact HB.out | apply below_alloc | apply pw_below_drewN | apply below_drew1 | refine below_set ?_ GE272.out) | exact HB.out))) : w.heap.size ≤ gb285))
                                      have n7_ := Aside0.mk ((by rw [hg]; exact (below_size (by repeat (first | (with_reducible first | exact HB.out | apply below_alloc | apply pw_below_drewN | apply below_drew1 | refine below_set ?_ GE272.out) | exact HB.out))) : w.heap.size ≤ gb285))
                                      have n8_ := Aside0.mk ((by rw [hg]; exact Nat.ne_of_lt (blk_lt (g := gb272) (o := .cells #[.slice Ao11 t265.length co11, .slice Ao13 t268.length co13] 33 (0, 0)) (by (with_reducible repeat (first | refine blk_drewN ?_ _ | refine blk_drew ?_ | refine blk_alloc ?_ _)); exact BK272.out)) : gb272 ≠ gb285))
                                      have n9_ := Aside0.mk ((by rw [hg]; exact Nat.ne_of_gt (blk_lt (g := gb272) (o := .cells #[.slice Ao11 t265.length co11, .slice Ao13 t268.length co13] 33 (0, 0)) (by (with_reducible repeat (first | refine blk_drewN ?_ _ | refine blk_drew ?_ | refine blk_alloc ?_ _)); exact BK272.out)) : gb285 ≠ gb272))
                                      clear HO_273000
                                      clear HO_273001
                                      clear HO281
                                      clear BK272
                                      clear HB
                                      have HO_273000 := n0_
                                      have HO_273001 := n1_
                                      have HO281 := n2_
                                      have BK272 := n3_
                                      have HB := n4_
                                      have BK285 := n5_
                                      have GW285 := n6_
                                      have GE285 := n7_
                                      have NB272_285 := n8_
                                      have NB285_272 := n9_
                                      clear n0_ n1_ n2_ n3_ n4_ n5_ n6_ n7_ n8_ n9_
                                      clear hb hbox hg
                                      refine hK.out _ _ ⟨(blk_cell BK272.out 0).trans rfl, (blk_cell BK272.out 1).trans rfl⟩ (fun hHeld => ?_)
                                      clear hK K
                                      refine norm_ (a' := ?_) ?_ ?_
                                      rotate_left
                                      · show Act.put _ (some 12) _ = _
                                        simp only [Act.put, List.setIfInBounds_toArray, List.set_cons_zero, List.set_cons_succ, i64_w, i32_w]
                                        rfl
                                      exact norm_ (by first | (simp only [putAll, Act.put, List.setIfInBounds_toArray, List.set_cons_zero, List.set_cons_succ]; done) | (simp only [putAll, Act.put, List.setIfInBounds_toArray, List.set_cons_zero, List.set_cons_succ]; rfl)) (hJ4_9 (v280, gb285) _ ⟨hHeld, (by (with_reducible repeat (first | apply Kd.R_alloc | apply Kd.R_drewN | apply Kd.R_drew)); exact HO281.out), (by (with_reducible repeat (first | apply Kd.R_alloc | apply Kd.R_drewN | apply Kd.R_drew)); exact HO_273000.out), (by (with_reducible repeat (first | apply Kd.R_alloc | apply Kd.R_drewN | apply Kd.R_drew)); exact HO_273001.out), (by (with_reducible repeat (first | refine blk_drewN ?_ _ | refine blk_drew ?_ | refine blk_alloc ?_ _)); exact BK272.out), (by (with_reducible repeat (first | refine blk_drewN ?_ _ | refine blk_drew ?_ | refine blk_alloc ?_ _)); exact BK285.out), GW285.out, GE285.out, NB272_285.out, NB285_272.out, (by repeat (first | (with_reducible first | exact HB.out | apply below_alloc | apply pw_below_drewN | apply below_drew1 | refine below_set ?_ GE272.out | refine below_set ?_ GE285.out) | exact HB.out))⟩)
                                · skip
                                  rintro v274 w26 ⟨hS_, h0_, h1_, h2_, h3_, h4_⟩
                                  have n0_ : Aside0 (Kd.R (Kd.int .i64) 3 w26 w.heap.size (fun k_ => some k_ ≠ (.slice Ao11 t265.length co11 : Value).ownBlock ∧ some k_ ≠ (.slice Ao13 t268.length co13 : Value).ownBlock) v274 y273) := ⟨h0_⟩
                                  have n1_ : Aside0 (Kd.R (Kd.int .i64) 3 w26 w.heap.size (fun k_ => some k_ ≠ (v274 : Value).ownBlock ∧ some k_ ≠ (.slice Ao13 t268.length co13 : Value).ownBlock) (.slice Ao11 t265.length co11) t265) := ⟨h1_⟩
                                  have n2_ : Aside0 (Kd.R (Kd.int .i64) 3 w26 w.heap.size (fun k_ => some k_ ≠ (v274 : Value).ownBlock ∧ some k_ ≠ (.slice Ao11 t265.length co11 : Value).ownBlock) (.slice Ao13 t268.length co13) t268) := ⟨h2_⟩
                                  have n3_ : Aside0 (w26.heap[gb272]? = some (.cells #[.slice Ao11 t265.length co11, .slice Ao13 t268.length co13] 33 (0, 0))) := ⟨h3_⟩
                                  have n4_ : Aside0 (Below w.heap.size w w26) := ⟨h4_⟩
                                  clear HO_273000
                                  clear HO_273001
                                  clear BK272
                                  clear HB
                                  clear h0_ h1_ h2_ h3_ h4_
                                  have HO275 := n0_
                                  have HO_273000 := n1_
                                  have HO_273001 := n2_
                                  have BK272 := n3_
                                  have HB := n4_
                                  clear n0_ n1_ n2_ n3_ n4_
                                  have hHeld : w26.cell? ⟨gb272, 0, none⟩ = some (.slice Ao11 t265.length co11) ∧ w26.cell? ⟨gb272, 1, none⟩ = some (.slice Ao13 t268.length co13) := hS_
                                  refine norm_ (a' := ?_) ?_ ?_
                                  rotate_left
                                  · simp only [putAll, Act.put, List.setIfInBounds_toArray, List.set_cons_zero, List.set_cons_succ]
                                    rfl
                                  refine three_ (i := 3) (j := 4) (k := 9) (Ni := some 48) (Nj := some 49) (Nk := some 12) #[true, true, true, true, false, true, true, false, false, false, false] #[true, true, true, false, true, true, true, false, false, false, false] #[true, true, true, false, false, true, true, false, false, true, false] rfl rfl rfl rfl rfl rfl (three_of HT_.out (by kernel_rfl)) (by decide) (by decide) (by decide) (fun K hK => ?_) (fun K hK => ?_) (fun K hK => ?_)
                                  · skip
                                    refine Kd.R_append_rows_step (Kd.int .i64) (w0 := w) w.heap.size (by rfl) (.tmp 45) (.tmp 47) 31 3 (.int .i64 0) 8 rfl Try.underlying31 info3 rfl (by decide) (by omega) v274 y273 t265 _ _ _ (fun k_ => some k_ ≠ (.slice Ao11 t265.length co11 : Value).ownBlock ∧ some k_ ≠ (.slice Ao13 t268.length co13 : Value).ownBlock) (fun _ => False) rfl rfl ?aO ?aR (fun _ _ h => h) (fun _ h => h.elim) ?aF ?aB ?aS ?aL ?_
                                    (case aR => repeat (first | exact (Kd.R_reads' HO_273000.out).2.2 | (with_reducible refine Kd.C_alloc ?_ _) | (with_reducible refine Kd.C_drewN ?_ _) | (with_reducible refine Kd.C_drew ?_)))
                                    (case aB => exact (by repeat (first | (with_reducible first | exact HB.out | apply below_alloc | apply pw_below_drewN | apply below_drew1 | refine below_set ?_ GE272.out) | exact HB.out)))
                                    (case aF => exact (fun k_ hk => ⟨Kd.fresh' (Kd.R_lt (by (with_reducible repeat (first | apply Kd.R_alloc | apply Kd.R_drewN | apply Kd.R_drew)); exact HO_273000.out)) k_ hk, Kd.fresh' (Kd.R_lt (by (with_reducible repeat (first | apply Kd.R_alloc | apply Kd.R_drewN | apply Kd.R_drew)); exact HO_273001.out)) k_ hk⟩))
                                    (case aO => exact (by (with_reducible repeat (first | apply Kd.R_alloc | apply Kd.R_drewN | apply Kd.R_drew)); exact HO275.out))
                                    (case aS => exact (below_size (by repeat (first | (with_reducible first | exact HB.out | apply below_alloc | apply pw_below_drewN | apply below_drew1 | refine below_set ?_ GE272.out) | exact HB.out))))
                                    (case aL => have := LMc20.out; omega)
                                    intro v277 w27 ho hb hg hat
                                    rw [← Ny276.out] at ho
                                    have n0_ := Aside0.mk (Kd.R_after (ok := (fun k_ => some k_ ≠ (.slice Ao13 t268.length co13 : Value).ownBlock)) (by (with_reducible repeat (first | apply Kd.R_alloc | apply Kd.R_drewN | apply Kd.R_drew)); exact Kd.R_mono HO_273000.out (fun _ hk => ⟨hk.2, hk.1⟩)) hg hat)
                                    have n1_ := Aside0.mk (Kd.R_after (ok := (fun k_ => some k_ ≠ (.slice Ao11 t265.length co11 : Value).ownBlock)) (by (with_reducible repeat (first | apply Kd.R_alloc | apply Kd.R_drewN | apply Kd.R_drew)); exact Kd.R_mono HO_273001.out (fun _ hk => ⟨hk.2, hk.1⟩)) hg hat)
                                    have n2_ := Aside0.mk (blk_grown (g := gb272) (o := .cells #[.slice Ao11 t265.length co11, .slice Ao13 t268.length co13] 33 (0, 0)) (by (with_reducible repeat (first | refine blk_drewN ?_ _ | refine blk_drew ?_ | refine blk_alloc ?_ _)); exact BK272.out) hg (Kd.R_ne HO275.out BK272.out (by decide)))
                                    have n3_ := Aside0.mk (hb)
                                    have n4_ := Aside0.mk (ho)
                                    clear HO_273000
                                    clear HO_273001
                                    clear BK272
                                    clear HB
                                    clear HO275
                                    have HO_273000 := n0_
                                    have HO_273001 := n1_
                                    have BK272 := n2_
                                    have HB := n3_
                                    have HO278 := n4_
                                    clear n0_ n1_ n2_ n3_ n4_
                                    clear ho hb hg hat
                                    refine hK.out _ _ ⟨(blk_cell BK272.out 0).trans rfl, (blk_cell BK272.out 1).trans rfl⟩ (fun hHeld => ?_)
                                    clear hK K
                                    refine norm_ (a' := ?_) ?_ ?_
                                    rotate_left
                                    · show Act.put _ (some 48) _ = _
                                      simp only [Act.put, List.setIfInBounds_toArray, List.set_cons_zero, List.set_cons_succ, i64_w, i32_w]
                                      rfl
                                    exact norm_ (by first | (simp only [putAll, Act.put, List.setIfInBounds_toArray, List.set_cons_zero, List.set_cons_succ]; done) | (simp only [putAll, Act.put, List.setIfInBounds_toArray, List.set_cons_zero, List.set_cons_succ]; rfl)) (hJ0_3 (v274, v277) _ ⟨hHeld, (by (with_reducible repeat (first | apply Kd.R_alloc | apply Kd.R_drewN | apply Kd.R_drew)); exact HO278.out), (by (with_reducible repeat (first | apply Kd.R_alloc | apply Kd.R_drewN | apply Kd.R_drew)); exact Kd.R_mono HO_273000.out (fun _ hk => ⟨hk.2, hk.1⟩)), (by (with_reducible repeat (first | apply Kd.R_alloc | apply Kd.R_drewN | apply Kd.R_drew)); exact Kd.R_mono HO_273001.out (fun _ hk => ⟨hk.2, hk.1⟩)), (by (with_reducible repeat (first | refine blk_drewN ?_ _ | refine blk_drew ?_ | refine blk_alloc ?_ _)); exact BK272.out), (by repeat (first | (with_reducible first | exact HB.out | apply below_alloc | apply pw_below_drewN | apply below_drew1 | refine below_set ?_ GE272.out) | exact HB.out))⟩)
                                  · skip
                                    refine Kd.R_lit_step (Kd.int .i64) _ 3 ?hg (N := 49) ?hd (xs := ([] : List Int)) (inner := []) (ok := fun _ => True) (okp := fun _ => True) ?hr ?hp (fun _ hk => hk) trivial (Below.refl _ _) (Nat.le_refl _) (by simp) ?_; (case hd => rfl); (case hg => rfl); (case hr => first | (go_simp; done) | (go_simp; rfl)); (case hp => exact (Reps.none _ _))
                                    intro v280 w27 ho28 hb hg_ hnew_
                                    clear hg_ hnew_
                                    (first | rw [← Ny279.out] at ho28 | (simp only [Int.reduceToNat] at ho28; rw [← Ny279.out] at ho28))
                                    have n0_ := Aside0.mk (Kd.R_elder' (by (with_reducible repeat (first | apply Kd.R_alloc | apply Kd.R_drewN | apply Kd.R_drew)); exact HO_273000.out) (Kd.R_base ho28) hb)
                                    have n1_ := Aside0.mk (Kd.R_elder' (by (with_reducible repeat (first | apply Kd.R_alloc | apply Kd.R_drewN | apply Kd.R_drew)); exact HO_273001.out) (Kd.R_base ho28) hb)
                                    have n2_ := Aside0.mk (Kd.R_elder' (by (with_reducible repeat (first | apply Kd.R_alloc | apply Kd.R_drewN | apply Kd.R_drew)); exact HO275.out) (Kd.R_base ho28) hb)
                                    have n3_ := Aside0.mk (Kd.R_lower (Kd.R_new' (Kd.R_new' (Kd.R_new' ho28 (Kd.R_lt (by (with_reducible repeat (first | apply Kd.R_alloc | apply Kd.R_drewN | apply Kd.R_drew)); exact HO_273000.out))) (Kd.R_lt (by (with_reducible repeat (first | apply Kd.R_alloc | apply Kd.R_drewN | apply Kd.R_drew)); exact HO_273001.out))) (Kd.R_lt (by (with_reducible repeat (first | apply Kd.R_alloc | apply Kd.R_drewN | apply Kd.R_drew)); exact HO275.out))) (below_size (by repeat (first | (with_reducible first | exact HB.out | apply below_alloc | apply pw_below_drewN | apply below_drew1 | refine below_set ?_ GE272.out) | exact HB.out))))
                                    have n4_ := Aside0.mk (blk_below (g := gb272) (o := .cells #[.slice Ao11 t265.length co11, .slice Ao13 t268.length co13] 33 (0, 0)) (by (with_reducible repeat (first | refine blk_drewN ?_ _ | refine blk_drew ?_ | refine blk_alloc ?_ _)); exact BK272.out) hb)
                                    have n5_ := Aside0.mk (below_step (by repeat (first | (with_reducible first | exact HB.out | apply below_alloc | apply pw_below_drewN | apply below_drew1 | refine below_set ?_ GE272.out) | exact HB.out)) hb)
                                    clear HO_273000
                                    clear HO_273001
                                    clear HO275
                                    clear BK272
                                    clear HB
                                    have HO_273000 := n0_
                                    have HO_273001 := n1_
                                    have HO275 := n2_
                                    have HO281 := n3_
                                    have BK272 := n4_
                                    have HB := n5_
                                    clear n0_ n1_ n2_ n3_ n4_ n5_
                                    clear hb ho28
                                    refine hK.out _ _ ⟨(blk_cell BK272.out 0).trans rfl, (blk_cell BK272.out 1).trans rfl⟩ (fun hHeld => ?_)
                                    clear hK K
                                    refine norm_ (a' := ?_) ?_ ?_
                                    rotate_left
                                    · show Act.put _ (some 49) _ = _
                                      simp only [Act.put, List.setIfInBounds_toArray, List.set_cons_zero, List.set_cons_succ, i64_w, i32_w]
                                      rfl
                                    exact norm_ (by first | (simp only [putAll, Act.put, List.setIfInBounds_toArray, List.set_cons_zero, List.set_cons_succ]; done) | (simp only [putAll, Act.put, List.setIfInBounds_toArray, List.set_cons_zero, List.set_cons_succ]; rfl)) (hJ0_4 (v274, v280) _ ⟨hHeld, (by (with_reducible repeat (first | apply Kd.R_alloc | apply Kd.R_drewN | apply Kd.R_drew)); exact Kd.R_mono HO275.out (fun _ hk => ⟨hk.2, ⟨hk.1.1, hk.1.2⟩⟩)), (by (with_reducible repeat (first | apply Kd.R_alloc | apply Kd.R_drewN | apply Kd.R_drew)); exact Kd.R_mono HO281.out (fun _ hk => ⟨hk.2, ⟨hk.1.1.2, hk.1.2⟩⟩)), (by (with_reducible repeat (first | apply Kd.R_alloc | apply Kd.R_drewN | apply Kd.R_drew)); exact Kd.R_mono HO_273000.out (fun _ hk => ⟨hk.1.1, ⟨hk.2, hk.1.2⟩⟩)), (by (with_reducible repeat (first | apply Kd.R_alloc | apply Kd.R_drewN | apply Kd.R_drew)); exact Kd.R_mono HO_273001.out (fun _ hk => ⟨hk.1.1, ⟨hk.2, hk.1.2⟩⟩)), (by (with_reducible repeat (first | refine blk_drewN ?_ _ | refine blk_drew ?_ | refine blk_alloc ?_ _)); exact BK272.out), (by repeat (first | (with_reducible first | exact HB.out | apply below_alloc | apply pw_below_drewN | apply below_drew1 | refine below_set ?_ GE272.out) | exact HB.out))⟩)
                                  · skip
                                    refine box_step ?hg (N := 12) ?hd (cs := #[.slice none 0 0, .slice none 0 0]) (t := 33) ?hr ?_; (case hd => rfl); (case hg => rfl); (case hr => first | (go_simp; done) | (go_simp; rfl))
                                    intro gb285 hg w27 hbox hb
                                    have n0_ := Aside0.mk (Kd.R_below (by (with_reducible repeat (first | apply Kd.R_alloc | apply Kd.R_drewN | apply Kd.R_drew)); exact HO_273000.out) hb)
                                    have n1_ := Aside0.mk (Kd.R_below (by (with_reducible repeat (first | apply Kd.R_alloc | apply Kd.R_drewN | apply Kd.R_drew)); exact HO_273001.out) hb)
                                    have n2_ := Aside0.mk (Kd.R_below (by (with_reducible repeat (first | apply Kd.R_alloc | apply Kd.R_drewN | apply Kd.R_drew)); exact HO275.out) hb)
                                    have n3_ := Aside0.mk (blk_below (g := gb272) (o := .cells #[.slice Ao11 t265.length co11, .slice Ao13 t268.length co13] 33 (0, 0)) (by (with_reducible repeat (first | refine blk_drewN ?_ _ | refine blk_drew ?_ | refine blk_alloc ?_ _)); exact BK272.out) hb)
                                    have n4_ := Aside0.mk (below_step (by repeat (first | (with_reducible first | exact HB.out | apply below_alloc | apply pw_below_drewN | apply below_drew1 | refine below_set ?_ GE272.out) | exact HB.out)) hb)
                                    have n5_ := Aside0.mk (hbox)
                                    have n6_ := Aside0.mk ((by rw [hg]; exact (below_size (by repeat (first | (with_reducible first | exact HB.out | apply below_alloc | apply pw_below_drewN | apply below_drew1 | refine below_set ?_ GE272.out) | exact HB.out))) : w.heap.size ≤ gb285))
                                    have n7_ := Aside0.mk ((by rw [hg]; exact (below_size (by repeat (first | (with_reducible first | exact HB.out | apply below_alloc | apply pw_below_drewN | apply below_drew1 | refine below_set ?_ GE272.out) | exact HB.out))) : w.heap.size ≤ gb285))
                                    have n8_ := Aside0.mk ((by rw [hg]; exact Nat.ne_of_lt (blk_lt (g := gb272) (o := .cells #[.slice Ao11 t265.length co11, .slice Ao13 t268.length co13] 33 (0, 0)) (by (with_reducible repeat (first | refine blk_drewN ?_ _ | refine blk_drew ?_ | refine blk_alloc ?_ _)); exact BK272.out)) : gb272 ≠ gb285))
                                    have n9_ := Aside0.mk ((by rw [hg]; exact Nat.ne_of_gt (blk_lt (g := gb272) (o := .cells #[.slice Ao11 t265.length co11, .slice Ao13 t268.length co13] 33 (0, 0)) (by (with_reducible repeat (first | refine blk_drewN ?_ _ | refine blk_drew ?_ | refine blk_alloc ?_ _)); exact BK272.out)) : gb285 ≠ gb272))
                                    clear HO_273000
                                    clear HO_273001
                                    clear HO275
                                    clear BK272
                                    clear HB
                                    have HO_273000 := n0_
                                    have HO_273001 := n1_
                                    have HO275 := n2_
                                    have BK272 := n3_
                                    have HB := n4_
                                    have BK285 := n5_
                                    have GW285 := n6_
                                    have GE285 := n7_
                                    have NB272_285 := n8_
                                    have NB285_272 := n9_
                                    clear n0_ n1_ n2_ n3_ n4_ n5_ n6_ n7_ n8_ n9_
                                    clear hb hbox hg
                                    refine hK.out _ _ ⟨(blk_cell BK272.out 0).trans rfl, (blk_cell BK272.out 1).trans rfl⟩ (fun hHeld => ?_)
                                    clear hK K
                                    refine norm_ (a' := ?_) ?_ ?_
                                    rotate_left
                                    · show Act.put _ (some 12) _ = _
                                      simp only [Act.put, List.setIfInBounds_toArray, List.set_cons_zero, List.set_cons_succ, i64_w, i32_w]
                                      rfl
                                    exact norm_ (by first | (simp only [putAll, Act.put, List.setIfInBounds_toArray, List.set_cons_zero, List.set_cons_succ]; done) | (simp only [putAll, Act.put, List.setIfInBounds_toArray, List.set_cons_zero, List.set_cons_succ]; rfl)) (hJ0_9 (v274, gb285) _ ⟨hHeld, (by (with_reducible repeat (first | apply Kd.R_alloc | apply Kd.R_drewN | apply Kd.R_drew)); exact HO275.out), (by (with_reducible repeat (first | apply Kd.R_alloc | apply Kd.R_drewN | apply Kd.R_drew)); exact HO_273000.out), (by (with_reducible repeat (first | apply Kd.R_alloc | apply Kd.R_drewN | apply Kd.R_drew)); exact HO_273001.out), (by (with_reducible repeat (first | refine blk_drewN ?_ _ | refine blk_drew ?_ | refine blk_alloc ?_ _)); exact BK272.out), (by (with_reducible repeat (first | refine blk_drewN ?_ _ | refine blk_drew ?_ | refine blk_alloc ?_ _)); exact BK285.out), GW285.out, GE285.out, NB272_285.out, NB285_272.out, (by repeat (first | (with_reducible first | exact HB.out | apply below_alloc | apply pw_below_drewN | apply below_drew1 | refine below_set ?_ GE272.out | refine below_set ?_ GE285.out) | exact HB.out))⟩)
                              · skip
                                rintro ⟨v280, gb285⟩ w27 ⟨hS_, h0_, h1_, h2_, h3_, h4_, h5_, h6_, h7_, h8_, h9_⟩
                                have n0_ : Aside0 (Kd.R (Kd.int .i64) 3 w27 w.heap.size (fun k_ => some k_ ≠ (.slice Ao11 t265.length co11 : Value).ownBlock ∧ some k_ ≠ (.slice Ao13 t268.length co13 : Value).ownBlock) v280 y279) := ⟨h0_⟩
                                have n1_ : Aside0 (Kd.R (Kd.int .i64) 3 w27 w.heap.size (fun k_ => some k_ ≠ (v280 : Value).ownBlock ∧ some k_ ≠ (.slice Ao13 t268.length co13 : Value).ownBlock) (.slice Ao11 t265.length co11) t265) := ⟨h1_⟩
                                have n2_ : Aside0 (Kd.R (Kd.int .i64) 3 w27 w.heap.size (fun k_ => some k_ ≠ (v280 : Value).ownBlock ∧ some k_ ≠ (.slice Ao11 t265.length co11 : Value).ownBlock) (.slice Ao13 t268.length co13) t268) := ⟨h2_⟩
                                have n3_ : Aside0 (w27.heap[gb272]? = some (.cells #[.slice Ao11 t265.length co11, .slice Ao13 t268.length co13] 33 (0, 0))) := ⟨h3_⟩
                                have n4_ : Aside0 (w27.heap[gb285]? = some (.cells #[.slice none 0 0, .slice none 0 0] 33 (0, 0))) := ⟨h4_⟩
                                have n5_ : Aside0 (w.heap.size ≤ gb285) := ⟨h5_⟩
                                have n6_ : Aside0 (w.heap.size ≤ gb285) := ⟨h6_⟩
                                have n7_ : Aside0 (gb272 ≠ gb285) := ⟨h7_⟩
                                have n8_ : Aside0 (gb285 ≠ gb272) := ⟨h8_⟩
                                have n9_ : Aside0 (Below w.heap.size w w27) := ⟨h9_⟩
                                clear HO_273000
                                clear HO_273001
                                clear BK272
                                clear HB
                                clear h0_ h1_ h2_ h3_ h4_ h5_ h6_ h7_ h8_ h9_
                                have HO281 := n0_
                                have HO_273000 := n1_
                                have HO_273001 := n2_
                                have BK272 := n3_
                                have BK285 := n4_
                                have GW285 := n5_
                                have GE285 := n6_
                                have NB272_285 := n7_
                                have NB285_272 := n8_
                                have HB := n9_
                                clear n0_ n1_ n2_ n3_ n4_ n5_ n6_ n7_ n8_ n9_
                                have hHeld : w27.cell? ⟨gb272, 0, none⟩ = some (.slice Ao11 t265.length co11) ∧ w27.cell? ⟨gb272, 1, none⟩ = some (.slice Ao13 t268.length co13) := hS_
                                refine norm_ (a' := ?_) ?_ ?_
                                rotate_left
                                · simp only [putAll, Act.put, List.setIfInBounds_toArray, List.set_cons_zero, List.set_cons_succ]
                                  rfl
                                refine one_ (i := 0) (N := some 45) #[true, true, true, false, true, true, true, false, false, true, false] rfl rfl (one_of HT_.out (by kernel_rfl)) (by decide) (fun K hK => ?_)
                                refine Kd.R_lit_step (Kd.int .i64) _ 3 ?hg (N := 45) ?hd (xs := ([] : List Int)) (inner := []) (ok := fun _ => True) (okp := fun _ => True) ?hr ?hp (fun _ hk => hk) trivial (Below.refl _ _) (Nat.le_refl _) (by simp) ?_; (case hd => rfl); (case hg => rfl); (case hr => first | (go_simp; done) | (go_simp; rfl)); (case hp => exact (Reps.none _ _))
                                intro v274 w28 ho29 hb hg_ hnew_
                                clear hg_ hnew_
                                (first | rw [← Ny273.out] at ho29 | (simp only [Int.reduceToNat] at ho29; rw [← Ny273.out] at ho29))
                                have n0_ := Aside0.mk (Kd.R_elder' (by (with_reducible repeat (first | apply Kd.R_alloc | apply Kd.R_drewN | apply Kd.R_drew)); exact HO_273000.out) (Kd.R_base ho29) hb)
                                have n1_ := Aside0.mk (Kd.R_elder' (by (with_reducible repeat (first | apply Kd.R_alloc | apply Kd.R_drewN | apply Kd.R_drew)); exact HO_273001.out) (Kd.R_base ho29) hb)
                                have n2_ := Aside0.mk (Kd.R_elder' (by (with_reducible repeat (first | apply Kd.R_alloc | apply Kd.R_drewN | apply Kd.R_drew)); exact HO281.out) (Kd.R_base ho29) hb)
                                have n3_ := Aside0.mk (Kd.R_lower (Kd.R_new' (Kd.R_new' (Kd.R_new' ho29 (Kd.R_lt (by (with_reducible repeat (first | apply Kd.R_alloc | apply Kd.R_drewN | apply Kd.R_drew)); exact HO_273000.out))) (Kd.R_lt (by (with_reducible repeat (first | apply Kd.R_alloc | apply Kd.R_drewN | apply Kd.R_drew)); exact HO_273001.out))) (Kd.R_lt (by (with_reducible repeat (first | apply Kd.R_alloc | apply Kd.R_drewN | apply Kd.R_drew)); exact HO281.out))) (below_size (by repeat (first | (with_reducible first | exact HB.out | apply below_alloc | apply pw_below_drewN | apply below_drew1 | refine below_set ?_ GE272.out | refine below_set ?_ GE285.out) | exact HB.out))))
                                have n4_ := Aside0.mk (blk_below (g := gb272) (o := .cells #[.slice Ao11 t265.length co11, .slice Ao13 t268.length co13] 33 (0, 0)) (by (with_reducible repeat (first | refine blk_drewN ?_ _ | refine blk_drew ?_ | refine blk_alloc ?_ _)); exact BK272.out) hb)
                                have n5_ := Aside0.mk (blk_below (g := gb285) (o := .cells #[.slice none 0 0, .slice none 0 0] 33 (0, 0)) (by (with_reducible repeat (first | refine blk_drewN ?_ _ | refine blk_drew ?_ | refine blk_alloc ?_ _)); exact BK285.out) hb)
                                have n6_ := Aside0.mk (below_step (by repeat (first | (with_reducible first | exact HB.out | apply below_alloc | apply pw_below_drewN | apply below_drew1 | refine below_set ?_ GE272.out | refine below_set ?_ GE285.out) | exact HB.out)) hb)
                                clear HO_273000
                                clear HO_273001
                                clear HO281
                                clear BK272
                                clear BK285
                                clear HB
                                have HO_273000 := n0_
                                have HO_273001 := n1_
                                have HO281 := n2_
                                have HO275 := n3_
                                have BK272 := n4_
                                have BK285 := n5_
                                have HB := n6_
                                clear n0_ n1_ n2_ n3_ n4_ n5_ n6_
                                clear hb ho29
                                refine hK.out _ _ ⟨(blk_cell BK272.out 0).trans rfl, (blk_cell BK272.out 1).trans rfl⟩ (fun hHeld => ?_)
                                clear hK K
                                refine norm_ (a' := ?_) ?_ ?_
                                rotate_left
                                · show Act.put _ (some 45) _ = _
                                  simp only [Act.put, List.setIfInBounds_toArray, List.set_cons_zero, List.set_cons_succ, i64_w, i32_w]
                                  rfl
                                exact norm_ (by first | (simp only [putAll, Act.put, List.setIfInBounds_toArray, List.set_cons_zero, List.set_cons_succ]; done) | (simp only [putAll, Act.put, List.setIfInBounds_toArray, List.set_cons_zero, List.set_cons_succ]; rfl)) (hJ0_4_9 (v274, v280, gb285) _ ⟨hHeld, (by (with_reducible repeat (first | apply Kd.R_alloc | apply Kd.R_drewN | apply Kd.R_drew)); exact Kd.R_mono HO275.out (fun _ hk => ⟨hk.2, ⟨hk.1.1.2, hk.1.2⟩⟩)), (by (with_reducible repeat (first | apply Kd.R_alloc | apply Kd.R_drewN | apply Kd.R_drew)); exact Kd.R_mono HO281.out (fun _ hk => ⟨hk.2, ⟨hk.1.1, hk.1.2⟩⟩)), (by (with_reducible repeat (first | apply Kd.R_alloc | apply Kd.R_drewN | apply Kd.R_drew)); exact Kd.R_mono HO_273000.out (fun _ hk => ⟨hk.2, ⟨hk.1.1, hk.1.2⟩⟩)), (by (with_reducible repeat (first | apply Kd.R_alloc | apply Kd.R_drewN | apply Kd.R_drew)); exact Kd.R_mono HO_273001.out (fun _ hk => ⟨hk.2, ⟨hk.1.1, hk.1.2⟩⟩)), (by (with_reducible repeat (first | refine blk_drewN ?_ _ | refine blk_drew ?_ | refine blk_alloc ?_ _)); exact BK272.out), (by (with_reducible repeat (first | refine blk_drewN ?_ _ | refine blk_drew ?_ | refine blk_alloc ?_ _)); exact BK285.out), GW285.out, GE285.out, NB272_285.out, NB285_272.out, (by repeat (first | (with_reducible first | exact HB.out | apply below_alloc | apply pw_below_drewN | apply below_drew1 | refine below_set ?_ GE272.out | refine below_set ?_ GE285.out) | exact HB.out))⟩)
                            · skip
                              rintro ⟨v274, gb285⟩ w27 ⟨hS_, h0_, h1_, h2_, h3_, h4_, h5_, h6_, h7_, h8_, h9_⟩
                              have n0_ : Aside0 (Kd.R (Kd.int .i64) 3 w27 w.heap.size (fun k_ => some k_ ≠ (.slice Ao11 t265.length co11 : Value).ownBlock ∧ some k_ ≠ (.slice Ao13 t268.length co13 : Value).ownBlock) v274 y273) := ⟨h0_⟩
                              have n1_ : Aside0 (Kd.R (Kd.int .i64) 3 w27 w.heap.size (fun k_ => some k_ ≠ (v274 : Value).ownBlock ∧ some k_ ≠ (.slice Ao13 t268.length co13 : Value).ownBlock) (.slice Ao11 t265.length co11) t265) := ⟨h1_⟩
                              have n2_ : Aside0 (Kd.R (Kd.int .i64) 3 w27 w.heap.size (fun k_ => some k_ ≠ (v274 : Value).ownBlock ∧ some k_ ≠ (.slice Ao11 t265.length co11 : Value).ownBlock) (.slice Ao13 t268.length co13) t268) := ⟨h2_⟩
                              have n3_ : Aside0 (w27.heap[gb272]? = some (.cells #[.slice Ao11 t265.length co11, .slice Ao13 t268.length co13] 33 (0, 0))) := ⟨h3_⟩
                              have n4_ : Aside0 (w27.heap[gb285]? = some (.cells #[.slice none 0 0, .slice none 0 0] 33 (0, 0))) := ⟨h4_⟩
                              have n5_ : Aside0 (w.heap.size ≤ gb285) := ⟨h5_⟩
                              have n6_ : Aside0 (w.heap.size ≤ gb285) := ⟨h6_⟩
                              have n7_ : Aside0 (gb272 ≠ gb285) := ⟨h7_⟩
                              have n8_ : Aside0 (gb285 ≠ gb272) := ⟨h8_⟩
                              have n9_ : Aside0 (Below w.heap.size w w27) := ⟨h9_⟩
                              clear HO_273000
                              clear HO_273001
                              clear BK272
                              clear HB
                              clear h0_ h1_ h2_ h3_ h4_ h5_ h6_ h7_ h8_ h9_
                              have HO275 := n0_
                              have HO_273000 := n1_
                              have HO_273001 := n2_
                              have BK272 := n3_
                              have BK285 := n4_
                              have GW285 := n5_
                              have GE285 := n6_
                              have NB272_285 := n7_
                              have NB285_272 := n8_
                              have HB := n9_
                              clear n0_ n1_ n2_ n3_ n4_ n5_ n6_ n7_ n8_ n9_
                              have hHeld : w27.cell? ⟨gb272, 0, none⟩ = some (.slice Ao11 t265.length co11) ∧ w27.cell? ⟨gb272, 1, none⟩ = some (.slice Ao13 t268.length co13) := hS_
                              refine norm_ (a' := ?_) ?_ ?_
                              rotate_left
                              · simp only [putAll, Act.put, List.setIfInBounds_toArray, List.set_cons_zero, List.set_cons_succ]
                                rfl
                              refine two_ (i := 3) (j := 4) (Ni := some 48) (Nj := some 49) #[true, true, true, true, false, true, true, false, false, true, false] #[true, true, true, false, true, true, true, false, false, true, false] rfl rfl rfl rfl (two_of HT_.out (by kernel_rfl)) (by decide) (by decide) (fun K hK => ?_) (fun K hK => ?_)
                              · skip
                                refine Kd.R_append_rows_step (Kd.int .i64) (w0 := w) w.heap.size (by rfl) (.tmp 45) (.tmp 47) 31 3 (.int .i64 0) 8 rfl Try.underlying31 info3 rfl (by decide) (by omega) v274 y273 t265 _ _ _ (fun k_ => some k_ ≠ (.slice Ao11 t265.length co11 : Value).ownBlock ∧ some k_ ≠ (.slice Ao13 t268.length co13 : Value).ownBlock) (fun _ => False) rfl rfl ?aO ?aR (fun _ _ h => h) (fun _ h => h.elim) ?aF ?aB ?aS ?aL ?_
                                (case aR => repeat (first | exact (Kd.R_reads' HO_273000.out).2.2 | (with_reducible refine Kd.C_alloc ?_ _) | (with_reducible refine Kd.C_drewN ?_ _) | (with_reducible refine Kd.C_drew ?_)))
                                (case aB => exact (by repeat (first | (with_reducible first | exact HB.out | apply below_alloc | apply pw_below_drewN | apply below_drew1 | refine below_set ?_ GE272.out | refine below_set ?_ GE285.out) | exact HB.out)))
                                (case aF => exact (fun k_ hk => ⟨Kd.fresh' (Kd.R_lt (by (with_reducible repeat (first | apply Kd.R_alloc | apply Kd.R_drewN | apply Kd.R_drew)); exact HO_273000.out)) k_ hk, Kd.fresh' (Kd.R_lt (by (with_reducible repeat (first | apply Kd.R_alloc | apply Kd.R_drewN | apply Kd.R_drew)); exact HO_273001.out)) k_ hk⟩))
                                (case aO => exact (by (with_reducible repeat (first | apply Kd.R_alloc | apply Kd.R_drewN | apply Kd.R_drew)); exact HO275.out))
                                (case aS => exact (below_size (by repeat (first | (with_reducible first | exact HB.out | apply below_alloc | apply pw_below_drewN | apply below_drew1 | refine below_set ?_ GE272.out | refine below_set ?_ GE285.out) | exact HB.out))))
                                (case aL => have := LMc20.out; omega)
                                intro v277 w28 ho hb hg hat
                                rw [← Ny276.out] at ho
                                have n0_ := Aside0.mk (Kd.R_after (ok := (fun k_ => some k_ ≠ (.slice Ao13 t268.length co13 : Value).ownBlock)) (by (with_reducible repeat (first | apply Kd.R_alloc | apply Kd.R_drewN | apply Kd.R_drew)); exact Kd.R_mono HO_273000.out (fun _ hk => ⟨hk.2, hk.1⟩)) hg hat)
                                have n1_ := Aside0.mk (Kd.R_after (ok := (fun k_ => some k_ ≠ (.slice Ao11 t265.length co11 : Value).ownBlock)) (by (with_reducible repeat (first | apply Kd.R_alloc | apply Kd.R_drewN | apply Kd.R_drew)); exact Kd.R_mono HO_273001.out (fun _ hk => ⟨hk.2, hk.1⟩)) hg hat)
                                have n2_ := Aside0.mk (blk_grown (g := gb272) (o := .cells #[.slice Ao11 t265.length co11, .slice Ao13 t268.length co13] 33 (0, 0)) (by (with_reducible repeat (first | refine blk_drewN ?_ _ | refine blk_drew ?_ | refine blk_alloc ?_ _)); exact BK272.out) hg (Kd.R_ne HO275.out BK272.out (by decide)))
                                have n3_ := Aside0.mk (blk_grown (g := gb285) (o := .cells #[.slice none 0 0, .slice none 0 0] 33 (0, 0)) (by (with_reducible repeat (first | refine blk_drewN ?_ _ | refine blk_drew ?_ | refine blk_alloc ?_ _)); exact BK285.out) hg (Kd.R_ne HO275.out BK285.out (by decide)))
                                have n4_ := Aside0.mk (hb)
                                have n5_ := Aside0.mk (ho)
                                clear HO_273000
                                clear HO_273001
                                clear BK272
                                clear BK285
                                clear HB
                                clear HO275
                                have HO_273000 := n0_
                                have HO_273001 := n1_
                                have BK272 := n2_
                                have BK285 := n3_
                                have HB := n4_
                                have HO278 := n5_
                                clear n0_ n1_ n2_ n3_ n4_ n5_
                                clear ho hb hg hat
                                refine hK.out _ _ ⟨(blk_cell BK272.out 0).trans rfl, (blk_cell BK272.out 1).trans rfl⟩ (fun hHeld => ?_)
                                clear hK K
                                refine norm_ (a' := ?_) ?_ ?_
                                rotate_left
                                · show Act.put _ (some 48) _ = _
                                  simp only [Act.put, List.setIfInBounds_toArray, List.set_cons_zero, List.set_cons_succ, i64_w, i32_w]
                                  rfl
                                exact norm_ (by first | (simp only [putAll, Act.put, List.setIfInBounds_toArray, List.set_cons_zero, List.set_cons_succ]; done) | (simp only [putAll, Act.put, List.setIfInBounds_toArray, List.set_cons_zero, List.set_cons_succ]; rfl)) (hJ0_3_9 (v274, v277, gb285) _ ⟨hHeld, (by (with_reducible repeat (first | apply Kd.R_alloc | apply Kd.R_drewN | apply Kd.R_drew)); exact HO278.out), (by (with_reducible repeat (first | apply Kd.R_alloc | apply Kd.R_drewN | apply Kd.R_drew)); exact Kd.R_mono HO_273000.out (fun _ hk => ⟨hk.2, hk.1⟩)), (by (with_reducible repeat (first | apply Kd.R_alloc | apply Kd.R_drewN | apply Kd.R_drew)); exact Kd.R_mono HO_273001.out (fun _ hk => ⟨hk.2, hk.1⟩)), (by (with_reducible repeat (first | refine blk_drewN ?_ _ | refine blk_drew ?_ | refine blk_alloc ?_ _)); exact BK272.out), (by (with_reducible repeat (first | refine blk_drewN ?_ _ | refine blk_drew ?_ | refine blk_alloc ?_ _)); exact BK285.out), GW285.out, GE285.out, NB272_285.out, NB285_272.out, (by repeat (first | (with_reducible first | exact HB.out | apply below_alloc | apply pw_below_drewN | apply below_drew1 | refine below_set ?_ GE272.out | refine below_set ?_ GE285.out) | exact HB.out))⟩)
                              · skip
                                refine Kd.R_lit_step (Kd.int .i64) _ 3 ?hg (N := 49) ?hd (xs := ([] : List Int)) (inner := []) (ok := fun _ => True) (okp := fun _ => True) ?hr ?hp (fun _ hk => hk) trivial (Below.refl _ _) (Nat.le_refl _) (by simp) ?_; (case hd => rfl); (case hg => rfl); (case hr => first | (go_simp; done) | (go_simp; rfl)); (case hp => exact (Reps.none _ _))
                                intro v280 w28 ho29 hb hg_ hnew_
                                clear hg_ hnew_
                                (first | rw [← Ny279.out] at ho29 | (simp only [Int.reduceToNat] at ho29; rw [← Ny279.out] at ho29))
                                have n0_ := Aside0.mk (Kd.R_elder' (by (with_reducible repeat (first | apply Kd.R_alloc | apply Kd.R_drewN | apply Kd.R_drew)); exact HO_273000.out) (Kd.R_base ho29) hb)
                                have n1_ := Aside0.mk (Kd.R_elder' (by (with_reducible repeat (first | apply Kd.R_alloc | apply Kd.R_drewN | apply Kd.R_drew)); exact HO_273001.out) (Kd.R_base ho29) hb)
                                have n2_ := Aside0.mk (Kd.R_elder' (by (with_reducible repeat (first | apply Kd.R_alloc | apply Kd.R_drewN | apply Kd.R_drew)); exact HO275.out) (Kd.R_base ho29) hb)
                                have n3_ := Aside0.mk (Kd.R_lower (Kd.R_new' (Kd.R_new' (Kd.R_new' ho29 (Kd.R_lt (by (with_reducible repeat (first | apply Kd.R_alloc | apply Kd.R_drewN | apply Kd.R_drew)); exact HO_273000.out))) (Kd.R_lt (by (with_reducible repeat (first | apply Kd.R_alloc | apply Kd.R_drewN | apply Kd.R_drew)); exact HO_273001.out))) (Kd.R_lt (by (with_reducible repeat (first | apply Kd.R_alloc | apply Kd.R_drewN | apply Kd.R_drew)); exact HO275.out))) (below_size (by repeat (first | (with_reducible first | exact HB.out | apply below_alloc | apply pw_below_drewN | apply below_drew1 | refine below_set ?_ GE272.out | refine below_set ?_ GE285.out) | exact HB.out))))
                                have n4_ := Aside0.mk (blk_below (g := gb272) (o := .cells #[.slice Ao11 t265.length co11, .slice Ao13 t268.length co13] 33 (0, 0)) (by (with_reducible repeat (first | refine blk_drewN ?_ _ | refine blk_drew ?_ | refine blk_alloc ?_ _)); exact BK272.out) hb)
                                have n5_ := Aside0.mk (blk_below (g := gb285) (o := .cells #[.slice none 0 0, .slice none 0 0] 33 (0, 0)) (by (with_reducible repeat (first | refine blk_drewN ?_ _ | refine blk_drew ?_ | refine blk_alloc ?_ _)); exact BK285.out) hb)
                                have n6_ := Aside0.mk (below_step (by repeat (first | (with_reducible first | exact HB.out | apply below_alloc | apply pw_below_drewN | apply below_drew1 | refine below_set ?_ GE272.out | refine below_set ?_ GE285.out) | exact HB.out)) hb)
                                clear HO_273000
                                clear HO_273001
                                clear HO275
                                clear BK272
                                clear BK285
                                clear HB
                                have HO_273000 := n0_
                                have HO_273001 := n1_
                                have HO275 := n2_
                                have HO281 := n3_
                                have BK272 := n4_
                                have BK285 := n5_
                                have HB := n6_
                                clear n0_ n1_ n2_ n3_ n4_ n5_ n6_
                                clear hb ho29
                                refine hK.out _ _ ⟨(blk_cell BK272.out 0).trans rfl, (blk_cell BK272.out 1).trans rfl⟩ (fun hHeld => ?_)
                                clear hK K
                                refine norm_ (a' := ?_) ?_ ?_
                                rotate_left
                                · show Act.put _ (some 49) _ = _
                                  simp only [Act.put, List.setIfInBounds_toArray, List.set_cons_zero, List.set_cons_succ, i64_w, i32_w]
                                  rfl
                                exact norm_ (by first | (simp only [putAll, Act.put, List.setIfInBounds_toArray, List.set_cons_zero, List.set_cons_succ]; done) | (simp only [putAll, Act.put, List.setIfInBounds_toArray, List.set_cons_zero, List.set_cons_succ]; rfl)) (hJ0_4_9 (v274, v280, gb285) _ ⟨hHeld, (by (with_reducible repeat (first | apply Kd.R_alloc | apply Kd.R_drewN | apply Kd.R_drew)); exact Kd.R_mono HO275.out (fun _ hk => ⟨hk.2, ⟨hk.1.1, hk.1.2⟩⟩)), (by (with_reducible repeat (first | apply Kd.R_alloc | apply Kd.R_drewN | apply Kd.R_drew)); exact Kd.R_mono HO281.out (fun _ hk => ⟨hk.2, ⟨hk.1.1.2, hk.1.2⟩⟩)), (by (with_reducible repeat (first | apply Kd.R_alloc | apply Kd.R_drewN | apply Kd.R_drew)); exact Kd.R_mono HO_273000.out (fun _ hk => ⟨hk.1.1, ⟨hk.2, hk.1.2⟩⟩)), (by (with_reducible repeat (first | apply Kd.R_alloc | apply Kd.R_drewN | apply Kd.R_drew)); exact Kd.R_mono HO_273001.out (fun _ hk => ⟨hk.1.1, ⟨hk.2, hk.1.2⟩⟩)), (by (with_reducible repeat (first | refine blk_drewN ?_ _ | refine blk_drew ?_ | refine blk_alloc ?_ _)); exact BK272.out), (by (with_reducible repeat (first | refine blk_drewN ?_ _ | refine blk_drew ?_ | refine blk_alloc ?_ _)); exact BK285.out), GW285.out, GE285.out, NB272_285.out, NB285_272.out, (by repeat (first | (with_reducible first | exact HB.out | apply below_alloc | apply pw_below_drewN | apply below_drew1 | refine below_set ?_ GE272.out | refine below_set ?_ GE285.out) | exact HB.out))⟩)
                          · skip
                            rintro ⟨v274, v280⟩ w28 ⟨hS_, h0_, h1_, h2_, h3_, h4_, h5_⟩
                            have n0_ : Aside0 (Kd.R (Kd.int .i64) 3 w28 w.heap.size (fun k_ => some k_ ≠ (v280 : Value).ownBlock ∧ some k_ ≠ (.slice Ao11 t265.length co11 : Value).ownBlock ∧ some k_ ≠ (.slice Ao13 t268.length co13 : Value).ownBlock) v274 y273) := ⟨h0_⟩
                            have n1_ : Aside0 (Kd.R (Kd.int .i64) 3 w28 w.heap.size (fun k_ => some k_ ≠ (v274 : Value).ownBlock ∧ some k_ ≠ (.slice Ao11 t265.length co11 : Value).ownBlock ∧ some k_ ≠ (.slice Ao13 t268.length co13 : Value).ownBlock) v280 y279) := ⟨h1_⟩
                            have n2_ : Aside0 (Kd.R (Kd.int .i64) 3 w28 w.heap.size (fun k_ => some k_ ≠ (v274 : Value).ownBlock ∧ some k_ ≠ (v280 : Value).ownBlock ∧ some k_ ≠ (.slice Ao13 t268.length co13 : Value).ownBlock) (.slice Ao11 t265.length co11) t265) := ⟨h2_⟩
                            have n3_ : Aside0 (Kd.R (Kd.int .i64) 3 w28 w.heap.size (fun k_ => some k_ ≠ (v274 : Value).ownBlock ∧ some k_ ≠ (v280 : Value).ownBlock ∧ some k_ ≠ (.slice Ao11 t265.length co11 : Value).ownBlock) (.slice Ao13 t268.length co13) t268) := ⟨h3_⟩
                            have n4_ : Aside0 (w28.heap[gb272]? = some (.cells #[.slice Ao11 t265.length co11, .slice Ao13 t268.length co13] 33 (0, 0))) := ⟨h4_⟩
                            have n5_ : Aside0 (Below w.heap.size w w28) := ⟨h5_⟩
                            clear HO_273000
                            clear HO_273001
                            clear BK272
                            clear HB
                            clear h0_ h1_ h2_ h3_ h4_ h5_
                            have HO275 := n0_
                            have HO281 := n1_
                            have HO_273000 := n2_
                            have HO_273001 := n3_
                            have BK272 := n4_
                            have HB := n5_
                            clear n0_ n1_ n2_ n3_ n4_ n5_
                            have hHeld : w28.cell? ⟨gb272, 0, none⟩ = some (.slice Ao11 t265.length co11) ∧ w28.cell? ⟨gb272, 1, none⟩ = some (.slice Ao13 t268.length co13) := hS_
                            refine norm_ (a' := ?_) ?_ ?_
                            rotate_left
                            · simp only [putAll, Act.put, List.setIfInBounds_toArray, List.set_cons_zero, List.set_cons_succ]
                              rfl
                            refine two_ (i := 3) (j := 9) (Ni := some 48) (Nj := some 12) #[true, true, true, true, true, true, true, false, false, false, false] #[true, true, true, false, true, true, true, false, false, true, false] rfl rfl rfl rfl (two_of HT_.out (by kernel_rfl)) (by decide) (by decide) (fun K hK => ?_) (fun K hK => ?_)
                            · skip
                              refine Kd.R_append_rows_step (Kd.int .i64) (w0 := w) w.heap.size (by rfl) (.tmp 45) (.tmp 47) 31 3 (.int .i64 0) 8 rfl Try.underlying31 info3 rfl (by decide) (by omega) v274 y273 t265 _ _ _ (fun k_ => some k_ ≠ (.slice Ao11 t265.length co11 : Value).ownBlock ∧ some k_ ≠ (.slice Ao13 t268.length co13 : Value).ownBlock ∧ some k_ ≠ (v280 : Value).ownBlock) (fun _ => False) rfl rfl ?aO ?aR (fun _ _ h => h) (fun _ h => h.elim) ?aF ?aB ?aS ?aL ?_
                              (case aR => repeat (first | exact (Kd.R_reads' HO_273000.out).2.2 | (with_reducible refine Kd.C_alloc ?_ _) | (with_reducible refine Kd.C_drewN ?_ _) | (with_reducible refine Kd.C_drew ?_)))
                              (case aB => exact (by repeat (first | (with_reducible first | exact HB.out | apply below_alloc | apply pw_below_drewN | apply below_drew1 | refine below_set ?_ GE272.out) | exact HB.out)))
                              (case aF => exact (fun k_ hk => ⟨Kd.fresh' (Kd.R_lt (by (with_reducible repeat (first | apply Kd.R_alloc | apply Kd.R_drewN | apply Kd.R_drew)); exact HO_273000.out)) k_ hk, Kd.fresh' (Kd.R_lt (by (with_reducible repeat (first | apply Kd.R_alloc | apply Kd.R_drewN | apply Kd.R_drew)); exact HO_273001.out)) k_ hk, Kd.fresh' (Kd.R_lt (by (with_reducible repeat (first | apply Kd.R_alloc | apply Kd.R_drewN | apply Kd.R_drew)); exact HO281.out)) k_ hk⟩))
                              (case aO => exact (by (with_reducible repeat (first | apply Kd.R_alloc | apply Kd.R_drewN | apply Kd.R_drew)); exact Kd.R_mono HO275.out (fun _ hk => ⟨hk.2.1, ⟨hk.2.2, hk.1⟩⟩)))
                              (case aS => exact (below_size (by repeat (first | (with_reducible first | exact HB.out | apply below_alloc | apply pw_below_drewN | apply below_drew1 | refine below_set ?_ GE272.out) | exact HB.out))))
                              (case aL => have := LMc20.out; omega)
                              intro v277 w29 ho hb hg hat
                              rw [← Ny276.out] at ho
                              have n0_ := Aside0.mk (Kd.R_after (ok := (fun k_ => some k_ ≠ (.slice Ao13 t268.length co13 : Value).ownBlock ∧ some k_ ≠ (v280 : Value).ownBlock)) (by (with_reducible repeat (first | apply Kd.R_alloc | apply Kd.R_drewN | apply Kd.R_drew)); exact Kd.R_mono HO_273000.out (fun _ hk => ⟨⟨hk.2.2, hk.2.1⟩, hk.1⟩)) hg hat)
                              have n1_ := Aside0.mk (Kd.R_after (ok := (fun k_ => some k_ ≠ (.slice Ao11 t265.length co11 : Value).ownBlock ∧ some k_ ≠ (v280 : Value).ownBlock)) (by (with_reducible repeat (first | apply Kd.R_alloc | apply Kd.R_drewN | apply Kd.R_drew)); exact Kd.R_mono HO_273001.out (fun _ hk => ⟨⟨hk.2.2, hk.2.1⟩, hk.1⟩)) hg hat)
                              have n2_ := Aside0.mk (blk_grown (g := gb272) (o := .cells #[.slice Ao11 t265.length co11, .slice Ao13 t268.length co13] 33 (0, 0)) (by (with_reducible repeat (first | refine blk_drewN ?_ _ | refine blk_drew ?_ | refine blk_alloc ?_ _)); exact BK272.out) hg (Kd.R_ne HO275.out BK272.out (by decide)))
                              have n3_ := Aside0.mk (Kd.R_after (ok := (fun k_ => some k_ ≠ (.slice Ao11 t265.length co11 : Value).ownBlock ∧ some k_ ≠ (.slice Ao13 t268.length co13 : Value).ownBlock)) (by (with_reducible repeat (first | apply Kd.R_alloc | apply Kd.R_drewN | apply Kd.R_drew)); exact Kd.R_mono HO281.out (fun _ hk => ⟨⟨hk.2.1, hk.2.2⟩, hk.1⟩)) hg hat)
                              have n4_ := Aside0.mk (hb)
                              have n5_ := Aside0.mk (ho)
                              clear HO_273000
                              clear HO_273001
                              clear BK272
                              clear HO281
                              clear HB
                              clear HO275
                              have HO_273000 := n0_
                              have HO_273001 := n1_
                              have BK272 := n2_
                              have HO281 := n3_
                              have HB := n4_
                              have HO278 := n5_
                              clear n0_ n1_ n2_ n3_ n4_ n5_
                              clear ho hb hg hat
                              refine hK.out _ _ ⟨(blk_cell BK272.out 0).trans rfl, (blk_cell BK272.out 1).trans rfl⟩ (fun hHeld => ?_)
                              clear hK K
                              refine norm_ (a' := ?_) ?_ ?_
                              rotate_left
                              · show Act.put _ (some 48) _ = _
                                simp only [Act.put, List.setIfInBounds_toArray, List.set_cons_zero, List.set_cons_succ, i64_w, i32_w]
                                rfl
                              exact norm_ (by first | (simp only [putAll, Act.put, List.setIfInBounds_toArray, List.set_cons_zero, List.set_cons_succ]; done) | (simp only [putAll, Act.put, List.setIfInBounds_toArray, List.set_cons_zero, List.set_cons_succ]; rfl)) (hJ0_3_4 (v274, v277, v280) _ ⟨hHeld, (by (with_reducible repeat (first | apply Kd.R_alloc | apply Kd.R_drewN | apply Kd.R_drew)); exact Kd.R_mono HO278.out (fun _ hk => ⟨hk.2.2, ⟨hk.1, hk.2.1⟩⟩)), (by (with_reducible repeat (first | apply Kd.R_alloc | apply Kd.R_drewN | apply Kd.R_drew)); exact Kd.R_mono HO281.out (fun _ hk => ⟨hk.2, ⟨hk.1.1, hk.1.2⟩⟩)), (by (with_reducible repeat (first | apply Kd.R_alloc | apply Kd.R_drewN | apply Kd.R_drew)); exact Kd.R_mono HO_273000.out (fun _ hk => ⟨hk.2, ⟨hk.1.2, hk.1.1⟩⟩)), (by (with_reducible repeat (first | apply Kd.R_alloc | apply Kd.R_drewN | apply Kd.R_drew)); exact Kd.R_mono HO_273001.out (fun _ hk => ⟨hk.2, ⟨hk.1.2, hk.1.1⟩⟩)), (by (with_reducible repeat (first | refine blk_drewN ?_ _ | refine blk_drew ?_ | refine blk_alloc ?_ _)); exact BK272.out), (by repeat (first | (with_reducible first | exact HB.out | apply below_alloc | apply pw_below_drewN | apply below_drew1 | refine below_set ?_ GE272.out) | exact HB.out))⟩)
                            · skip
                              refine box_step ?hg (N := 12) ?hd (cs := #[.slice none 0 0, .slice none 0 0]) (t := 33) ?hr ?_; (case hd => rfl); (case hg => rfl); (case hr => first | (go_simp; done) | (go_simp; rfl))
                              intro gb285 hg w29 hbox hb
                              have n0_ := Aside0.mk (Kd.R_below (by (with_reducible repeat (first | apply Kd.R_alloc | apply Kd.R_drewN | apply Kd.R_drew)); exact HO_273000.out) hb)
                              have n1_ := Aside0.mk (Kd.R_below (by (with_reducible repeat (first | apply Kd.R_alloc | apply Kd.R_drewN | apply Kd.R_drew)); exact HO_273001.out) hb)
                              have n2_ := Aside0.mk (Kd.R_below (by (with_reducible repeat (first | apply Kd.R_alloc | apply Kd.R_drewN | apply Kd.R_drew)); exact HO275.out) hb)
                              have n3_ := Aside0.mk (Kd.R_below (by (with_reducible repeat (first | apply Kd.R_alloc | apply Kd.R_drewN | apply Kd.R_drew)); exact HO281.out) hb)
                              have n4_ := Aside0.mk (blk_below (g := gb272) (o := .cells #[.slice Ao11 t265.length co11, .slice Ao13 t268.length co13] 33 (0, 0)) (by (with_reducible repeat (first | refine blk_drewN ?_ _ | refine blk_drew ?_ | refine blk_alloc ?_ _)); exact BK272.out) hb)
                              have n5_ := Aside0.mk (below_step (by repeat (first | (with_reducible first | exact HB.out | apply below_alloc | apply pw_below_drewN | apply below_drew1 | refine below_set ?_ GE272.out) | exact HB.out)) hb)
                              have n6_ := Aside0.mk (hbox)
                              have n7_ := Aside0.mk ((by rw [hg]; exact (below_size (by repeat (first | (with_reducible first | exact HB.out | apply below_alloc | apply pw_below_drewN | apply below_drew1 | refine below_set ?_ GE272.out) | exact HB.out))) : w.heap.size ≤ gb285))
                              have n8_ := Aside0.mk ((by rw [hg]; exact (below_size (by repeat (first | (with_reducible first | exact HB.out | apply below_alloc | apply pw_below_drewN | apply below_drew1 | refine below_set ?_ GE272.out) | exact HB.out))) : w.heap.size ≤ gb285))
                              have n9_ := Aside0.mk ((by rw [hg]; exact Nat.ne_of_lt (blk_lt (g := gb272) (o := .cells #[.slice Ao11 t265.length co11, .slice Ao13 t268.length co13] 33 (0, 0)) (by (with_reducible repeat (first | refine blk_drewN ?_ _ | refine blk_drew ?_ | refine blk_alloc ?_ _)); exact BK272.out)) : gb272 ≠ gb285))
                              have n10_ := Aside0.mk ((by rw [hg]; exact Nat.ne_of_gt (blk_lt (g := gb272) (o := .cells #[.slice Ao11 t265.length co11, .slice Ao13 t268.length co13] 33 (0, 0)) (by (with_reducible repeat (first | refine blk_drewN ?_ _ | refine blk_drew ?_ | refine blk_alloc ?_ _)); exact BK272.out)) : gb285 ≠ gb272))
                              clear HO_273000
                              clear HO_273001
                              clear HO275
                              clear HO281
                              clear BK272
                              clear HB
                              have HO_273000 := n0_
                              have HO_273001 := n1_
                              have HO275 := n2_
                              have HO281 := n3_
                              have BK272 := n4_
                              have HB := n5_
                              have BK285 := n6_
                              have GW285 := n7_
                              have GE285 := n8_
                              have NB272_285 := n9_
                              have NB285_272 := n10_
                              clear n0_ n1_ n2_ n3_ n4_ n5_ n6_ n7_ n8_ n9_ n10_
                              clear hb hbox hg
                              refine hK.out _ _ ⟨(blk_cell BK272.out 0).trans rfl, (blk_cell BK272.out 1).trans rfl⟩ (fun hHeld => ?_)
                              clear hK K
                              refine norm_ (a' := ?_) ?_ ?_
                              rotate_left
                              · show Act.put _ (some 12) _ = _
                                simp only [Act.put, List.setIfInBounds_toArray, List.set_cons_zero, List.set_cons_succ, i64_w, i32_w]
                                rfl
                              exact norm_ (by first | (simp only [putAll, Act.put, List.setIfInBounds_toArray, List.set_cons_zero, List.set_cons_succ]; done) | (simp only [putAll, Act.put, List.setIfInBounds_toArray, List.set_cons_zero, List.set_cons_succ]; rfl)) (hJ0_4_9 (v274, v280, gb285) _ ⟨hHeld, (by (with_reducible repeat (first | apply Kd.R_alloc | apply Kd.R_drewN | apply Kd.R_drew)); exact HO275.out), (by (with_reducible repeat (first | apply Kd.R_alloc | apply Kd.R_drewN | apply Kd.R_drew)); exact HO281.out), (by (with_reducible repeat (first | apply Kd.R_alloc | apply Kd.R_drewN | apply Kd.R_drew)); exact HO_273000.out), (by (with_reducible repeat (first | apply Kd.R_alloc | apply Kd.R_drewN | apply Kd.R_drew)); exact HO_273001.out), (by (with_reducible repeat (first | refine blk_drewN ?_ _ | refine blk_drew ?_ | refine blk_alloc ?_ _)); exact BK272.out), (by (with_reducible repeat (first | refine blk_drewN ?_ _ | refine blk_drew ?_ | refine blk_alloc ?_ _)); exact BK285.out), GW285.out, GE285.out, NB272_285.out, NB285_272.out, (by repeat (first | (with_reducible first | exact HB.out | apply below_alloc | apply pw_below_drewN | apply below_drew1 | refine below_set ?_ GE272.out | refine below_set ?_ GE285.out) | exact HB.out))⟩)
                        · skip
                          rintro ⟨v274, v277⟩ w27 ⟨hS_, h0_, h1_, h2_, h3_, h4_⟩
                          have n0_ : Aside0 (Kd.R (Kd.int .i64) 3 w27 w.heap.size (fun k_ => some k_ ≠ (.slice Ao11 t265.length co11 : Value).ownBlock ∧ some k_ ≠ (.slice Ao13 t268.length co13 : Value).ownBlock) v277 y276) := ⟨h0_⟩
                          have n1_ : Aside0 (Kd.R (Kd.int .i64) 3 w27 w.heap.size (fun k_ => some k_ ≠ (v277 : Value).ownBlock ∧ some k_ ≠ (.slice Ao13 t268.length co13 : Value).ownBlock) (.slice Ao11 t265.length co11) t265) := ⟨h1_⟩
                          have n2_ : Aside0 (Kd.R (Kd.int .i64) 3 w27 w.heap.size (fun k_ => some k_ ≠ (v277 : Value).ownBlock ∧ some k_ ≠ (.slice Ao11 t265.length co11 : Value).ownBlock) (.slice Ao13 t268.length co13) t268) := ⟨h2_⟩
                          have n3_ : Aside0 (w27.heap[gb272]? = some (.cells #[.slice Ao11 t265.length co11, .slice Ao13 t268.length co13] 33 (0, 0))) := ⟨h3_⟩
                          have n4_ : Aside0 (Below w.heap.size w w27) := ⟨h4_⟩
                          clear HO_273000
                          clear HO_273001
                          clear BK272
                          clear HB
                          clear h0_ h1_ h2_ h3_ h4_
                          have HO278 := n0_
                          have HO_273000 := n1_
                          have HO_273001 := n2_
                          have BK272 := n3_
                          have HB := n4_
                          clear n0_ n1_ n2_ n3_ n4_
                          have hHeld : w27.cell? ⟨gb272, 0, none⟩ = some (.slice Ao11 t265.length co11) ∧ w27.cell? ⟨gb272, 1, none⟩ = some (.slice Ao13 t268.length co13) := hS_
                          refine norm_ (a' := ?_) ?_ ?_
                          rotate_left
                          · simp only [putAll, Act.put, List.setIfInBounds_toArray, List.set_cons_zero, List.set_cons_succ]
                            rfl
                          refine two_ (i := 4) (j := 9) (Ni := some 49) (Nj := some 12) #[true, true, true, true, true, true, true, false, false, false, false] #[true, true, true, true, false, true, true, false, false, true, false] rfl rfl rfl rfl (two_of HT_.out (by kernel_rfl)) (by decide) (by decide) (fun K hK => ?_) (fun K hK => ?_)
                          · skip
                            refine Kd.R_lit_step (Kd.int .i64) _ 3 ?hg (N := 49) ?hd (xs := ([] : List Int)) (inner := []) (ok := fun _ => True) (okp := fun _ => True) ?hr ?hp (fun _ hk => hk) trivial (Below.refl _ _) (Nat.le_refl _) (by simp) ?_; (case hd => rfl); (case hg => rfl); (case hr => first | (go_simp; done) | (go_simp; rfl)); (case hp => exact (Reps.none _ _))
                            intro v280 w28 ho29 hb hg_ hnew_
                            clear hg_ hnew_
                            (first | rw [← Ny279.out] at ho29 | (simp only [Int.reduceToNat] at ho29; rw [← Ny279.out] at ho29))
                            have n0_ := Aside0.mk (Kd.R_elder' (by (with_reducible repeat (first | apply Kd.R_alloc | apply Kd.R_drewN | apply Kd.R_drew)); exact HO_273000.out) (Kd.R_base ho29) hb)
                            have n1_ := Aside0.mk (Kd.R_elder' (by (with_reducible repeat (first | apply Kd.R_alloc | apply Kd.R_drewN | apply Kd.R_drew)); exact HO_273001.out) (Kd.R_base ho29) hb)
                            have n2_ := Aside0.mk (Kd.R_elder' (by (with_reducible repeat (first | apply Kd.R_alloc | apply Kd.R_drewN | apply Kd.R_drew)); exact HO278.out) (Kd.R_base ho29) hb)
                            have n3_ := Aside0.mk (Kd.R_lower (Kd.R_new' (Kd.R_new' (Kd.R_new' ho29 (Kd.R_lt (by (with_reducible repeat (first | apply Kd.R_alloc | apply Kd.R_drewN | apply Kd.R_drew)); exact HO_273000.out))) (Kd.R_lt (by (with_reducible repeat (first | apply Kd.R_alloc | apply Kd.R_drewN | apply Kd.R_drew)); exact HO_273001.out))) (Kd.R_lt (by (with_reducible repeat (first | apply Kd.R_alloc | apply Kd.R_drewN | apply Kd.R_drew)); exact HO278.out))) (below_size (by repeat (first | (with_reducible first | exact HB.out | apply below_alloc | apply pw_below_drewN | apply below_drew1 | refine below_set ?_ GE272.out) | exact HB.out))))
                            have n4_ := Aside0.mk (blk_below (g := gb272) (o := .cells #[.slice Ao11 t265.length co11, .slice Ao13 t268.length co13] 33 (0, 0)) (by (with_reducible repeat (first | refine blk_drewN ?_ _ | refine blk_drew ?_ | refine blk_alloc ?_ _)); exact BK272.out) hb)
                            have n5_ := Aside0.mk (below_step (by repeat (first | (with_reducible first | exact HB.out | apply below_alloc | apply pw_below_drewN | apply below_drew1 | refine below_set ?_ GE272.out) | exact HB.out)) hb)
                            clear HO_273000
                            clear HO_273001
                            clear HO278
                            clear BK272
                            clear HB
                            have HO_273000 := n0_
                            have HO_273001 := n1_
                            have HO278 := n2_
                            have HO281 := n3_
                            have BK272 := n4_
                            have HB := n5_
                            clear n0_ n1_ n2_ n3_ n4_ n5_
                            clear hb ho29
                            refine hK.out _ _ ⟨(blk_cell BK272.out 0).trans rfl, (blk_cell BK272.out 1).trans rfl⟩ (fun hHeld => ?_)
                            clear hK K
                            refine norm_ (a' := ?_) ?_ ?_
                            rotate_left
                            · show Act.put _ (some 49) _ = _
                              simp only [Act.put, List.setIfInBounds_toArray, List.set_cons_zero, List.set_cons_succ, i64_w, i32_w]
                              rfl
                            exact norm_ (by first | (simp only [putAll, Act.put, List.setIfInBounds_toArray, List.set_cons_zero, List.set_cons_succ]; done) | (simp only [putAll, Act.put, List.setIfInBounds_toArray, List.set_cons_zero, List.set_cons_succ]; rfl)) (hJ0_3_4 (v274, v277, v280) _ ⟨hHeld, (by (with_reducible repeat (first | apply Kd.R_alloc | apply Kd.R_drewN | apply Kd.R_drew)); exact Kd.R_mono HO278.out (fun _ hk => ⟨hk.2, ⟨hk.1.1, hk.1.2⟩⟩)), (by (with_reducible repeat (first | apply Kd.R_alloc | apply Kd.R_drewN | apply Kd.R_drew)); exact Kd.R_mono HO281.out (fun _ hk => ⟨hk.2, ⟨hk.1.1.2, hk.1.2⟩⟩)), (by (with_reducible repeat (first | apply Kd.R_alloc | apply Kd.R_drewN | apply Kd.R_drew)); exact Kd.R_mono HO_273000.out (fun _ hk => ⟨hk.1.1, ⟨hk.2, hk.1.2⟩⟩)), (by (with_reducible repeat (first | apply Kd.R_alloc | apply Kd.R_drewN | apply Kd.R_drew)); exact Kd.R_mono HO_273001.out (fun _ hk => ⟨hk.1.1, ⟨hk.2, hk.1.2⟩⟩)), (by (with_reducible repeat (first | refine blk_drewN ?_ _ | refine blk_drew ?_ | refine blk_alloc ?_ _)); exact BK272.out), (by repeat (first | (with_reducible first | exact HB.out | apply below_alloc | apply pw_below_drewN | apply below_drew1 | refine below_set ?_ GE272.out) | exact HB.out))⟩)
                          · skip
                            refine box_step ?hg (N := 12) ?hd (cs := #[.slice none 0 0, .slice none 0 0]) (t := 33) ?hr ?_; (case hd => rfl); (case hg => rfl); (case hr => first | (go_simp; done) | (go_simp; rfl))
                            intro gb285 hg w28 hbox hb
                            have n0_ := Aside0.mk (Kd.R_below (by (with_reducible repeat (first | apply Kd.R_alloc | apply Kd.R_drewN | apply Kd.R_drew)); exact HO_273000.out) hb)
                            have n1_ := Aside0.mk (Kd.R_below (by (with_reducible repeat (first | apply Kd.R_alloc | apply Kd.R_drewN | apply Kd.R_drew)); exact HO_273001.out) hb)
                            have n2_ := Aside0.mk (Kd.R_below (by (with_reducible repeat (first | apply Kd.R_alloc | apply Kd.R_drewN | apply Kd.R_drew)); exact HO278.out) hb)
                            have n3_ := Aside0.mk (blk_below (g := gb272) (o := .cells #[.slice Ao11 t265.length co11, .slice Ao13 t268.length co13] 33 (0, 0)) (by (with_reducible repeat (first | refine blk_drewN ?_ _ | refine blk_drew ?_ | refine blk_alloc ?_ _)); exact BK272.out) hb)
                            have n4_ := Aside0.mk (below_step (by repeat (first | (with_reducible first | exact HB.out | apply below_alloc | apply pw_below_drewN | apply below_drew1 | refine below_set ?_ GE272.out) | exact HB.out)) hb)
                            have n5_ := Aside0.mk (hbox)
                            have n6_ := Aside0.mk ((by rw [hg]; exact (below_size (by repeat (first | (with_reducible first | exact HB.out | apply below_alloc | apply pw_below_drewN | apply below_drew1 | refine below_set ?_ GE272.out) | exact HB.out))) : w.heap.size ≤ gb285))
                            have n7_ := Aside0.mk ((by rw [hg]; exact (below_size (by repeat (first | (with_reducible first | exact HB.out | apply below_alloc | apply pw_below_drewN | apply below_drew1 | refine below_set ?_ GE272.out) | exact HB.out))) : w.heap.size ≤ gb285))
                            have n8_ := Aside0.mk ((by rw [hg]; exact Nat.ne_of_lt (blk_lt (g := gb272) (o := .cells #[.slice Ao11 t265.length co11, .slice Ao13 t268.length co13] 33 (0, 0)) (by (with_reducible repeat (first | refine blk_drewN ?_ _ | refine blk_drew ?_ | refine blk_alloc ?_ _)); exact BK272.out)) : gb272 ≠ gb285))
                            have n9_ := Aside0.mk ((by rw [hg]; exact Nat.ne_of_gt (blk_lt (g := gb272) (o := .cells #[.slice Ao11 t265.length co11, .slice Ao13 t268.length co13] 33 (0, 0)) (by (with_reducible repeat (first | refine blk_drewN ?_ _ | refine blk_drew ?_ | refine blk_alloc ?_ _)); exact BK272.out)) : gb285 ≠ gb272))
                            clear HO_273000
                            clear HO_273001
                            clear HO278
                            clear BK272
                            clear HB
                            have HO_273000 := n0_
                            have HO_273001 := n1_
                            have HO278 := n2_
                            have BK272 := n3_
                            have HB := n4_
                            have BK285 := n5_
                            have GW285 := n6_
                            have GE285 := n7_
                            have NB272_285 := n8_
                            have NB285_272 := n9_
                            clear n0_ n1_ n2_ n3_ n4_ n5_ n6_ n7_ n8_ n9_
                            clear hb hbox hg
                            refine hK.out _ _ ⟨(blk_cell BK272.out 0).trans rfl, (blk_cell BK272.out 1).trans rfl⟩ (fun hHeld => ?_)
                            clear hK K
                            refine norm_ (a' := ?_) ?_ ?_
                            rotate_left
                            · show Act.put _ (some 12) _ = _
                              simp only [Act.put, List.setIfInBounds_toArray, List.set_cons_zero, List.set_cons_succ, i64_w, i32_w]
                              rfl
                            exact norm_ (by first | (simp only [putAll, Act.put, List.setIfInBounds_toArray, List.set_cons_zero, List.set_cons_succ]; done) | (simp only [putAll, Act.put, List.setIfInBounds_toArray, List.set_cons_zero, List.set_cons_succ]; rfl)) (hJ0_3_9 (v274, v277, gb285) _ ⟨hHeld, (by (with_reducible repeat (first | apply Kd.R_alloc | apply Kd.R_drewN | apply Kd.R_drew)); exact HO278.out), (by (with_reducible repeat (first | apply Kd.R_alloc | apply Kd.R_drewN | apply Kd.R_drew)); exact HO_273000.out), (by (with_reducible repeat (first | apply Kd.R_alloc | apply Kd.R_drewN | apply Kd.R_drew)); exact HO_273001.out), (by (with_reducible repeat (first | refine blk_drewN ?_ _ | refine blk_drew ?_ | refine blk_alloc ?_ _)); exact BK272.out), (by (with_reducible repeat (first | refine blk_drewN ?_ _ | refine blk_drew ?_ | refine blk_alloc ?_ _)); exact BK285.out), GW285.out, GE285.out, NB272_285.out, NB285_272.out, (by repeat (first | (with_reducible first | exact HB.out | apply below_alloc | apply pw_below_drewN | apply below_drew1 | refine below_set ?_ GE272.out | refine below_set ?_ GE285.out) | exact HB.out))⟩)
                      · skip
                        rintro ⟨v274, v280, gb285⟩ w29 ⟨hS_, h0_, h1_, h2_, h3_, h4_, h5_, h6_, h7_, h8_, h9_, h10_⟩
                        have n0_ : Aside0 (Kd.R (Kd.int .i64) 3 w29 w.heap.size (fun k_ => some k_ ≠ (v280 : Value).ownBlock ∧ some k_ ≠ (.slice Ao11 t265.length co11 : Value).ownBlock ∧ some k_ ≠ (.slice Ao13 t268.length co13 : Value).ownBlock) v274 y273) := ⟨h0_⟩
                        have n1_ : Aside0 (Kd.R (Kd.int .i64) 3 w29 w.heap.size (fun k_ => some k_ ≠ (v274 : Value).ownBlock ∧ some k_ ≠ (.slice Ao11 t265.length co11 : Value).ownBlock ∧ some k_ ≠ (.slice Ao13 t268.length co13 : Value).ownBlock) v280 y279) := ⟨h1_⟩
                        have n2_ : Aside0 (Kd.R (Kd.int .i64) 3 w29 w.heap.size (fun k_ => some k_ ≠ (v274 : Value).ownBlock ∧ some k_ ≠ (v280 : Value).ownBlock ∧ some k_ ≠ (.slice Ao13 t268.length co13 : Value).ownBlock) (.slice Ao11 t265.length co11) t265) := ⟨h2_⟩
                        have n3_ : Aside0 (Kd.R (Kd.int .i64) 3 w29 w.heap.size (fun k_ => some k_ ≠ (v274 : Value).ownBlock ∧ some k_ ≠ (v280 : Value).ownBlock ∧ some k_ ≠ (.slice Ao11 t265.length co11 : Value).ownBlock) (.slice Ao13 t268.length co13) t268) := ⟨h3_⟩
                        have n4_ : Aside0 (w29.heap[gb272]? = some (.cells #[.slice Ao11 t265.length co11, .slice Ao13 t268.length co13] 33 (0, 0))) := ⟨h4_⟩
                        have n5_ : Aside0 (w29.heap[gb285]? = some (.cells #[.slice none 0 0, .slice none 0 0] 33 (0, 0))) := ⟨h5_⟩
                        have n6_ : Aside0 (w.heap.size ≤ gb285) := ⟨h6_⟩
                        have n7_ : Aside0 (w.heap.size ≤ gb285) := ⟨h7_⟩
                        have n8_ : Aside0 (gb272 ≠ gb285) := ⟨h8_⟩
                        have n9_ : Aside0 (gb285 ≠ gb272) := ⟨h9_⟩
                        have n10_ : Aside0 (Below w.heap.size w w29) := ⟨h10_⟩
                        clear HO_273000
                        clear HO_273001
                        clear BK272
                        clear HB
                        clear h0_ h1_ h2_ h3_ h4_ h5_ h6_ h7_ h8_ h9_ h10_
                        have HO275 := n0_
                        have HO281 := n1_
                        have HO_273000 := n2_
                        have HO_273001 := n3_
                        have BK272 := n4_
                        have BK285 := n5_
                        have GW285 := n6_
                        have GE285 := n7_
                        have NB272_285 := n8_
                        have NB285_272 := n9_
                        have HB := n10_
                        clear n0_ n1_ n2_ n3_ n4_ n5_ n6_ n7_ n8_ n9_ n10_
                        have hHeld : w29.cell? ⟨gb272, 0, none⟩ = some (.slice Ao11 t265.length co11) ∧ w29.cell? ⟨gb272, 1, none⟩ = some (.slice Ao13 t268.length co13) := hS_
                        refine norm_ (a' := ?_) ?_ ?_
                        rotate_left
                        · simp only [putAll, Act.put, List.setIfInBounds_toArray, List.set_cons_zero, List.set_cons_succ]
                          rfl
                        refine one_ (i := 3) (N := some 48) #[true, true, true, true, true, true, true, false, false, true, false] rfl rfl (one_of HT_.out (by kernel_rfl)) (by decide) (fun K hK => ?_)
                        refine Kd.R_append_rows_step (Kd.int .i64) (w0 := w) w.heap.size (by rfl) (.tmp 45) (.tmp 47) 31 3 (.int .i64 0) 8 rfl Try.underlying31 info3 rfl (by decide) (by omega) v274 y273 t265 _ _ _ (fun k_ => some k_ ≠ (.slice Ao11 t265.length co11 : Value).ownBlock ∧ some k_ ≠ (.slice Ao13 t268.length co13 : Value).ownBlock ∧ some k_ ≠ (v280 : Value).ownBlock) (fun _ => False) rfl rfl ?aO ?aR (fun _ _ h => h) (fun _ h => h.elim) ?aF ?aB ?aS ?aL ?_
                        (case aR => repeat (first | exact (Kd.R_reads' HO_273000.out).2.2 | (with_reducible refine Kd.C_alloc ?_ _) | (with_reducible refine Kd.C_drewN ?_ _) | (with_reducible refine Kd.C_drew ?_)))
                        (case aB => exact (by repeat (first | (with_reducible first | exact HB.out | apply below_alloc | apply pw_below_drewN | apply below_drew1 | refine below_set ?_ GE272.out | refine below_set ?_ GE285.out) | exact HB.out)))
                        (case aF => exact (fun k_ hk => ⟨Kd.fresh' (Kd.R_lt (by (with_reducible repeat (first | apply Kd.R_alloc | apply Kd.R_drewN | apply Kd.R_drew)); exact HO_273000.out)) k_ hk, Kd.fresh' (Kd.R_lt (by (with_reducible repeat (first | apply Kd.R_alloc | apply Kd.R_drewN | apply Kd.R_drew)); exact HO_273001.out)) k_ hk, Kd.fresh' (Kd.R_lt (by (with_reducible repeat (first | apply Kd.R_alloc | apply Kd.R_drewN | apply Kd.R_drew)); exact HO281.out)) k_ hk⟩))
                        (case aO => exact (by (with_reducible repeat (first | apply Kd.R_alloc | apply Kd.R_drewN | apply Kd.R_drew)); exact Kd.R_mono HO275.out (fun _ hk => ⟨hk.2.1, ⟨hk.2.2, hk.1⟩⟩)))
                        (case aS => exact (below_size (by repeat (first | (with_reducible first | exact HB.out | apply below_alloc | apply pw_below_drewN | apply below_drew1 | refine below_set ?_ GE272.out | refine below_set ?_ GE285.out) | exact HB.out))))
                        (case aL => have := LMc20.out; omega)
                        intro v277 w30 ho hb hg hat
                        rw [← Ny276.out] at ho
                        have n0_ := Aside0.mk (Kd.R_after (ok := (fun k_ => some k_ ≠ (.slice Ao13 t268.length co13 : Value).ownBlock ∧ some k_ ≠ (v280 : Value).ownBlock)) (by (with_reducible repeat (first | apply Kd.R_alloc | apply Kd.R_drewN | apply Kd.R_drew)); exact Kd.R_mono HO_273000.out (fun _ hk => ⟨⟨hk.2.2, hk.2.1⟩, hk.1⟩)) hg hat)
                        have n1_ := Aside0.mk (Kd.R_after (ok := (fun k_ => some k_ ≠ (.slice Ao11 t265.length co11 : Value).ownBlock ∧ some k_ ≠ (v280 : Value).ownBlock)) (by (with_reducible repeat (first | apply Kd.R_alloc | apply Kd.R_drewN | apply Kd.R_drew)); exact Kd.R_mono HO_273001.out (fun _ hk => ⟨⟨hk.2.2, hk.2.1⟩, hk.1⟩)) hg hat)
                        have n2_ := Aside0.mk (blk_grown (g := gb272) (o := .cells #[.slice Ao11 t265.length co11, .slice Ao13 t268.length co13] 33 (0, 0)) (by (with_reducible repeat (first | refine blk_drewN ?_ _ | refine blk_drew ?_ | refine blk_alloc ?_ _)); exact BK272.out) hg (Kd.R_ne HO275.out BK272.out (by decide)))
                        have n3_ := Aside0.mk (Kd.R_after (ok := (fun k_ => some k_ ≠ (.slice Ao11 t265.length co11 : Value).ownBlock ∧ some k_ ≠ (.slice Ao13 t268.length co13 : Value).ownBlock)) (by (with_reducible repeat (first | apply Kd.R_alloc | apply Kd.R_drewN | apply Kd.R_drew)); exact Kd.R_mono HO281.out (fun _ hk => ⟨⟨hk.2.1, hk.2.2⟩, hk.1⟩)) hg hat)
                        have n4_ := Aside0.mk (blk_grown (g := gb285) (o := .cells #[.slice none 0 0, .slice none 0 0] 33 (0, 0)) (by (with_reducible repeat (first | refine blk_drewN ?_ _ | refine blk_drew ?_ | refine blk_alloc ?_ _)); exact BK285.out) hg (Kd.R_ne HO275.out BK285.out (by decide)))
                        have n5_ := Aside0.mk (hb)
                        have n6_ := Aside0.mk (ho)
                        clear HO_273000
                        clear HO_273001
                        clear BK272
                        clear HO281
                        clear BK285
                        clear HB
                        clear HO275
                        have HO_273000 := n0_
                        have HO_273001 := n1_
                        have BK272 := n2_
                        have HO281 := n3_
                        have BK285 := n4_
                        have HB := n5_
                        have HO278 := n6_
                        clear n0_ n1_ n2_ n3_ n4_ n5_ n6_
                        clear ho hb hg hat
                        refine hK.out _ _ ⟨(blk_cell BK272.out 0).trans rfl, (blk_cell BK272.out 1).trans rfl⟩ (fun hHeld => ?_)
                        clear hK K
                        refine norm_ (a' := ?_) ?_ ?_
                        rotate_left
                        · show Act.put _ (some 48) _ = _
                          simp only [Act.put, List.setIfInBounds_toArray, List.set_cons_zero, List.set_cons_succ, i64_w, i32_w]
                          rfl
                        exact norm_ (by first | (simp only [putAll, Act.put, List.setIfInBounds_toArray, List.set_cons_zero, List.set_cons_succ]; done) | (simp only [putAll, Act.put, List.setIfInBounds_toArray, List.set_cons_zero, List.set_cons_succ]; rfl)) (hJ0_3_4_9 (v274, v277, v280, gb285) _ ⟨hHeld, (by (with_reducible repeat (first | apply Kd.R_alloc | apply Kd.R_drewN | apply Kd.R_drew)); exact Kd.R_mono HO278.out (fun _ hk => ⟨hk.2.2, ⟨hk.1, hk.2.1⟩⟩)), (by (with_reducible repeat (first | apply Kd.R_alloc | apply Kd.R_drewN | apply Kd.R_drew)); exact Kd.R_mono HO281.out (fun _ hk => ⟨hk.2, ⟨hk.1.1, hk.1.2⟩⟩)), (by (with_reducible repeat (first | apply Kd.R_alloc | apply Kd.R_drewN | apply Kd.R_drew)); exact Kd.R_mono HO_273000.out (fun _ hk => ⟨hk.2, ⟨hk.1.2, hk.1.1⟩⟩)), (by (with_reducible repeat (first | apply Kd.R_alloc | apply Kd.R_drewN | apply Kd.R_drew)); exact Kd.R_mono HO_273001.out (fun _ hk => ⟨hk.2, ⟨hk.1.2, hk.1.1⟩⟩)), (by (with_reducible repeat (first | refine blk_drewN ?_ _ | refine blk_drew ?_ | refine blk_alloc ?_ _)); exact BK272.out), (by (with_reducible repeat (first | refine blk_drewN ?_ _ | refine blk_drew ?_ | refine blk_alloc ?_ _)); exact BK285.out), GW285.out, GE285.out, NB272_285.out, NB285_272.out, (by repeat (first | (with_reducible first | exact HB.out | apply below_alloc | apply pw_below_drewN | apply below_drew1 | refine below_set ?_ GE272.out | refine below_set ?_ GE285.out) | exact HB.out))⟩)
                    · skip
                      rintro ⟨v274, v277, gb285⟩ w28 ⟨hS_, h0_, h1_, h2_, h3_, h4_, h5_, h6_, h7_, h8_, h9_⟩
                      have n0_ : Aside0 (Kd.R (Kd.int .i64) 3 w28 w.heap.size (fun k_ => some k_ ≠ (.slice Ao11 t265.length co11 : Value).ownBlock ∧ some k_ ≠ (.slice Ao13 t268.length co13 : Value).ownBlock) v277 y276) := ⟨h0_⟩
                      have n1_ : Aside0 (Kd.R (Kd.int .i64) 3 w28 w.heap.size (fun k_ => some k_ ≠ (v277 : Value).ownBlock ∧ some k_ ≠ (.slice Ao13 t268.length co13 : Value).ownBlock) (.slice Ao11 t265.length co11) t265) := ⟨h1_⟩
                      have n2_ : Aside0 (Kd.R (Kd.int .i64) 3 w28 w.heap.size (fun k_ => some k_ ≠ (v277 : Value).ownBlock ∧ some k_ ≠ (.slice Ao11 t265.length co11 : Value).ownBlock) (.slice Ao13 t268.length co13) t268) := ⟨h2_⟩
                      have n3_ : Aside0 (w28.heap[gb272]? = some (.cells #[.slice Ao11 t265.length co11, .slice Ao13 t268.length co13] 33 (0, 0))) := ⟨h3_⟩
                      have n4_ : Aside0 (w28.heap[gb285]? = some (.cells #[.slice none 0 0, .slice none 0 0] 33 (0, 0))) := ⟨h4_⟩
                      have n5_ : Aside0 (w.heap.size ≤ gb285) := ⟨h5_⟩
                      have n6_ : Aside0 (w.heap.size ≤ gb285) := ⟨h6_⟩
                      have n7_ : Aside0 (gb272 ≠ gb285) := ⟨h7_⟩
                      have n8_ : Aside0 (gb285 ≠ gb272) := ⟨h8_⟩
                      have n9_ : Aside0 (Below w.heap.size w w28) := ⟨h9_⟩
                      clear HO_273000
                      clear HO_273001
                      clear BK272
                      clear HB
                      clear h0_ h1_ h2_ h3_ h4_ h5_ h6_ h7_ h8_ h9_
                      have HO278 := n0_
                      have HO_273000 := n1_
                      have HO_273001 := n2_
                      have BK272 := n3_
                      have BK285 := n4_
                      have GW285 := n5_
                      have GE285 := n6_
                      have NB272_285 := n7_
                      have NB285_272 := n8_
                      have HB := n9_
                      clear n0_ n1_ n2_ n3_ n4_ n5_ n6_ n7_ n8_ n9_
                      have hHeld : w28.cell? ⟨gb272, 0, none⟩ = some (.slice Ao11 t265.length co11) ∧ w28.cell? ⟨gb272, 1, none⟩ = some (.slice Ao13 t268.length co13) := hS_
                      refine norm_ (a' := ?_) ?_ ?_
                      rotate_left
                      · simp only [putAll, Act.put, List.setIfInBounds_toArray, List.set_cons_zero, List.set_cons_succ]
                        rfl
                      refine one_ (i := 4) (N := some 49) #[true, true, true, true, true, true, true, false, false, true, false] rfl rfl (one_of HT_.out (by kernel_rfl)) (by decide) (fun K hK => ?_)
                      refine Kd.R_lit_step (Kd.int .i64) _ 3 ?hg (N := 49) ?hd (xs := ([] : List Int)) (inner := []) (ok := fun _ => True) (okp := fun _ => True) ?hr ?hp (fun _ hk => hk) trivial (Below.refl _ _) (Nat.le_refl _) (by simp) ?_; (case hd => rfl); (case hg => rfl); (case hr => first | (go_simp; done) | (go_simp; rfl)); (case hp => exact (Reps.none _ _))
                      intro v280 w29 ho30 hb hg_ hnew_
                      clear hg_ hnew_
                      (first | rw [← Ny279.out] at ho30 | (simp only [Int.reduceToNat] at ho30; rw [← Ny279.out] at ho30))
                      have n0_ := Aside0.mk (Kd.R_elder' (by (with_reducible repeat (first | apply Kd.R_alloc | apply Kd.R_drewN | apply Kd.R_drew)); exact HO_273000.out) (Kd.R_base ho30) hb)
                      have n1_ := Aside0.mk (Kd.R_elder' (by (with_reducible repeat (first | apply Kd.R_alloc | apply Kd.R_drewN | apply Kd.R_drew)); exact HO_273001.out) (Kd.R_base ho30) hb)
                      have n2_ := Aside0.mk (Kd.R_elder' (by (with_reducible repeat (first | apply Kd.R_alloc | apply Kd.R_drewN | apply Kd.R_drew)); exact HO278.out) (Kd.R_base ho30) hb)
                      have n3_ := Aside0.mk (Kd.R_lower (Kd.R_new' (Kd.R_new' (Kd.R_new' ho30 (Kd.R_lt (by (with_reducible repeat (first | apply Kd.R_alloc | apply Kd.R_drewN | apply Kd.R_drew)); exact HO_273000.out))) (Kd.R_lt (by (with_reducible repeat (first | apply Kd.R_alloc | apply Kd.R_drewN | apply Kd.R_drew)); exact HO_273001.out))) (Kd.R_lt (by (with_reducible repeat (first | apply Kd.R_alloc | apply Kd.R_drewN | apply Kd.R_drew)); exact HO278.out))) (below_size (by repeat (first | (with_reducible first | exact HB.out | apply below_alloc | apply pw_below_drewN | apply below_drew1 | refine below_set ?_ GE272.out | refine below_set ?_ GE285.out) | exact HB.out))))
                      have n4_ := Aside0.mk (blk_below (g := gb272) (o := .cells #[.slice Ao11 t265.length co11, .slice Ao13 t268.length co13] 33 (0, 0)) (by (with_reducible repeat (first | refine blk_drewN ?_ _ | refine blk_drew ?_ | refine blk_alloc ?_ _)); exact BK272.out) hb)
                      have n5_ := Aside0.mk (blk_below (g := gb285) (o := .cells #[.slice none 0 0, .slice none 0 0] 33 (0, 0)) (by (with_reducible repeat (first | refine blk_drewN ?_ _ | refine blk_drew ?_ | refine blk_alloc ?_ _)); exact BK285.out) hb)
                      have n6_ := Aside0.mk (below_step (by repeat (first | (with_reducible first | exact HB.out | apply below_alloc | apply pw_below_drewN | apply below_drew1 | refine below_set ?_ GE272.out | refine below_set ?_ GE285.out) | exact HB.out)) hb)
                      clear HO_273000
                      clear HO_273001
                      clear HO278
                      clear BK272
                      clear BK285
                      clear HB
                      have HO_273000 := n0_
                      have HO_273001 := n1_
                      have HO278 := n2_
                      have HO281 := n3_
                      have BK272 := n4_
                      have BK285 := n5_
                      have HB := n6_
                      clear n0_ n1_ n2_ n3_ n4_ n5_ n6_
                      clear hb ho30
                      refine hK.out _ _ ⟨(blk_cell BK272.out 0).trans rfl, (blk_cell BK272.out 1).trans rfl⟩ (fun hHeld => ?_)
                      clear hK K
                      refine norm_ (a' := ?_) ?_ ?_
                      rotate_left
                      · show Act.put _ (some 49) _ = _
                        simp only [Act.put, List.setIfInBounds_toArray, List.set_cons_zero, List.set_cons_succ, i64_w, i32_w]
                        rfl
                      exact norm_ (by first | (simp only [putAll, Act.put, List.setIfInBounds_toArray, List.set_cons_zero, List.set_cons_succ]; done) | (simp only [putAll, Act.put, List.setIfInBounds_toArray, List.set_cons_zero, List.set_cons_succ]; rfl)) (hJ0_3_4_9 (v274, v277, v280, gb285) _ ⟨hHeld, (by (with_reducible repeat (first | apply Kd.R_alloc | apply Kd.R_drewN | apply Kd.R_drew)); exact Kd.R_mono HO278.out (fun _ hk => ⟨hk.2, ⟨hk.1.1, hk.1.2⟩⟩)), (by (with_reducible repeat (first | apply Kd.R_alloc | apply Kd.R_drewN | apply Kd.R_drew)); exact Kd.R_mono HO281.out (fun _ hk => ⟨hk.2, ⟨hk.1.1.2, hk.1.2⟩⟩)), (by (with_reducible repeat (first | apply Kd.R_alloc | apply Kd.R_drewN | apply Kd.R_drew)); exact Kd.R_mono HO_273000.out (fun _ hk => ⟨hk.1.1, ⟨hk.2, hk.1.2⟩⟩)), (by (with_reducible repeat (first | apply Kd.R_alloc | apply Kd.R_drewN | apply Kd.R_drew)); exact Kd.R_mono HO_273001.out (fun _ hk => ⟨hk.1.1, ⟨hk.2, hk.1.2⟩⟩)), (by (with_reducible repeat (first | refine blk_drewN ?_ _ | refine blk_drew ?_ | refine blk_alloc ?_ _)); exact BK272.out), (by (with_reducible repeat (first | refine blk_drewN ?_ _ | refine blk_drew ?_ | refine blk_alloc ?_ _)); exact BK285.out), GW285.out, GE285.out, NB272_285.out, NB285_272.out, (by repeat (first | (with_reducible first | exact HB.out | apply below_alloc | apply pw_below_drewN | apply below_drew1 | refine below_set ?_ GE272.out | refine below_set ?_ GE285.out) | exact HB.out))⟩)
                  · skip
                    rintro ⟨v274, v277, v280⟩ w29 ⟨hS_, h0_, h1_, h2_, h3_, h4_, h5_⟩
                    have n0_ : Aside0 (Kd.R (Kd.int .i64) 3 w29 w.heap.size (fun k_ => some k_ ≠ (v280 : Value).ownBlock ∧ some k_ ≠ (.slice Ao11 t265.length co11 : Value).ownBlock ∧ some k_ ≠ (.slice Ao13 t268.length co13 : Value).ownBlock) v277 y276) := ⟨h0_⟩
                    have n1_ : Aside0 (Kd.R (Kd.int .i64) 3 w29 w.heap.size (fun k_ => some k_ ≠ (v277 : Value).ownBlock ∧ some k_ ≠ (.slice Ao11 t265.length co11 : Value).ownBlock ∧ some k_ ≠ (.slice Ao13 t268.length co13 : Value).ownBlock) v280 y279) := ⟨h1_⟩
                    have n2_ : Aside0 (Kd.R (Kd.int .i64) 3 w29 w.heap.size (fun k_ => some k_ ≠ (v277 : Value).ownBlock ∧ some k_ ≠ (v280 : Value).ownBlock ∧ some k_ ≠ (.slice Ao13 t268.length co13 : Value).ownBlock) (.slice Ao11 t265.length co11) t265) := ⟨h2_⟩
                    have n3_ : Aside0 (Kd.R (Kd.int .i64) 3 w29 w.heap.size (fun k_ => some k_ ≠ (v277 : Value).ownBlock ∧ some k_ ≠ (v280 : Value).ownBlock ∧ some k_ ≠ (.slice Ao11 t265.length co11 : Value).ownBlock) (.slice Ao13 t268.length co13) t268) := ⟨h3_⟩
                    have n4_ : Aside0 (w29.heap[gb272]? = some (.cells #[.slice Ao11 t265.length co11, .slice Ao13 t268.length co13] 33 (0, 0))) := ⟨h4_⟩
                    have n5_ : Aside0 (Below w.heap.size w w29) := ⟨h5_⟩
                    clear HO_273000
                    clear HO_273001
                    clear BK272
                    clear HB
                    clear h0_ h1_ h2_ h3_ h4_ h5_
                    have HO278 := n0_
                    have HO281 := n1_
                    have HO_273000 := n2_
                    have HO_273001 := n3_
                    have BK272 := n4_
                    have HB := n5_
                    clear n0_ n1_ n2_ n3_ n4_ n5_
                    have hHeld : w29.cell? ⟨gb272, 0, none⟩ = some (.slice Ao11 t265.length co11) ∧ w29.cell? ⟨gb272, 1, none⟩ = some (.slice Ao13 t268.length co13) := hS_
                    refine norm_ (a' := ?_) ?_ ?_
                    rotate_left
                    · simp only [putAll, Act.put, List.setIfInBounds_toArray, List.set_cons_zero, List.set_cons_succ]
                      rfl
                    refine two_ (i := 7) (j := 9) (Ni := some 52) (Nj := some 12) #[true, true, true, true, true, true, true, true, false, false, false] #[true, true, true, true, true, true, true, false, false, true, false] rfl rfl rfl rfl (two_of HT_.out (by kernel_rfl)) (by decide) (by decide) (fun K hK => ?_) (fun K hK => ?_)
                    · skip
                      refine Kd.R_append_rows_step (Kd.int .i64) (w0 := w) w.heap.size (by rfl) (.tmp 49) (.tmp 51) 31 3 (.int .i64 0) 8 rfl Try.underlying31 info3 rfl (by decide) (by omega) v280 y279 t268 _ _ _ (fun k_ => some k_ ≠ (.slice Ao11 t265.length co11 : Value).ownBlock ∧ some k_ ≠ (.slice Ao13 t268.length co13 : Value).ownBlock ∧ some k_ ≠ (v277 : Value).ownBlock) (fun _ => False) rfl rfl ?aO ?aR (fun _ _ h => h) (fun _ h => h.elim) ?aF ?aB ?aS ?aL ?_
                      (case aR => repeat (first | exact (Kd.R_reads' HO_273001.out).2.2 | (with_reducible refine Kd.C_alloc ?_ _) | (with_reducible refine Kd.C_drewN ?_ _) | (with_reducible refine Kd.C_drew ?_)))
                      (case aB => exact (by repeat (first | (with_reducible first | exact HB.out | apply below_alloc | apply pw_below_drewN | apply below_drew1 | refine below_set ?_ GE272.out) | exact HB.out)))
                      (case aF => exact (fun k_ hk => ⟨Kd.fresh' (Kd.R_lt (by (with_reducible repeat (first | apply Kd.R_alloc | apply Kd.R_drewN | apply Kd.R_drew)); exact HO_273000.out)) k_ hk, Kd.fresh' (Kd.R_lt (by (with_reducible repeat (first | apply Kd.R_alloc | apply Kd.R_drewN | apply Kd.R_drew)); exact HO_273001.out)) k_ hk, Kd.fresh' (Kd.R_lt (by (with_reducible repeat (first | apply Kd.R_alloc | apply Kd.R_drewN | apply Kd.R_drew)); exact HO278.out)) k_ hk⟩))
                      (case aO => exact (by (with_reducible repeat (first | apply Kd.R_alloc | apply Kd.R_drewN | apply Kd.R_drew)); exact Kd.R_mono HO281.out (fun _ hk => ⟨hk.2.1, ⟨hk.2.2, hk.1⟩⟩)))
                      (case aS => exact (below_size (by repeat (first | (with_reducible first | exact HB.out | apply below_alloc | apply pw_below_drewN | apply below_drew1 | refine below_set ?_ GE272.out) | exact HB.out))))
                      (case aL => have := LMc21.out; omega)
                      intro v283 w30 ho hb hg hat
                      rw [← Ny282.out] at ho
                      have n0_ := Aside0.mk (Kd.R_after (ok := (fun k_ => some k_ ≠ (.slice Ao13 t268.length co13 : Value).ownBlock ∧ some k_ ≠ (v277 : Value).ownBlock)) (by (with_reducible repeat (first | apply Kd.R_alloc | apply Kd.R_drewN | apply Kd.R_drew)); exact Kd.R_mono HO_273000.out (fun _ hk => ⟨⟨hk.2.2, hk.1⟩, hk.2.1⟩)) hg hat)
                      have n1_ := Aside0.mk (Kd.R_after (ok := (fun k_ => some k_ ≠ (.slice Ao11 t265.length co11 : Value).ownBlock ∧ some k_ ≠ (v277 : Value).ownBlock)) (by (with_reducible repeat (first | apply Kd.R_alloc | apply Kd.R_drewN | apply Kd.R_drew)); exact Kd.R_mono HO_273001.out (fun _ hk => ⟨⟨hk.2.2, hk.1⟩, hk.2.1⟩)) hg hat)
                      have n2_ := Aside0.mk (blk_grown (g := gb272) (o := .cells #[.slice Ao11 t265.length co11, .slice Ao13 t268.length co13] 33 (0, 0)) (by (with_reducible repeat (first | refine blk_drewN ?_ _ | refine blk_drew ?_ | refine blk_alloc ?_ _)); exact BK272.out) hg (Kd.R_ne HO281.out BK272.out (by decide)))
                      have n3_ := Aside0.mk (Kd.R_after (ok := (fun k_ => some k_ ≠ (.slice Ao11 t265.length co11 : Value).ownBlock ∧ some k_ ≠ (.slice Ao13 t268.length co13 : Value).ownBlock)) (by (with_reducible repeat (first | apply Kd.R_alloc | apply Kd.R_drewN | apply Kd.R_drew)); exact Kd.R_mono HO278.out (fun _ hk => ⟨⟨hk.2.1, hk.2.2⟩, hk.1⟩)) hg hat)
                      have n4_ := Aside0.mk (hb)
                      have n5_ := Aside0.mk (ho)
                      clear HO_273000
                      clear HO_273001
                      clear BK272
                      clear HO278
                      clear HB
                      clear HO281
                      have HO_273000 := n0_
                      have HO_273001 := n1_
                      have BK272 := n2_
                      have HO278 := n3_
                      have HB := n4_
                      have HO284 := n5_
                      clear n0_ n1_ n2_ n3_ n4_ n5_
                      clear ho hb hg hat
                      obtain ⟨Ao31, co31, eo31⟩ := Kd.R_slice HO284.out
                      (first | subst eo31 | (injection eo31 with f1_ f2_ f3_; have f4_ := f1_.symm; have f5_ := f3_.symm; clear f1_ f2_ f3_; subst f4_; subst f5_))
                      obtain ⟨Ao32, co32, eo32⟩ := Kd.R_slice HO278.out
                      (first | subst eo32 | (injection eo32 with f1_ f2_ f3_; have f4_ := f1_.symm; have f5_ := f3_.symm; clear f1_ f2_ f3_; subst f4_; subst f5_))
                      refine hK.out _ _ ⟨(blk_cell BK272.out 0).trans rfl, (blk_cell BK272.out 1).trans rfl⟩ (fun hHeld => ?_)
                      clear hK K
                      refine norm_ (a' := ?_) ?_ ?_
                      rotate_left
                      · show Act.put _ (some 52) _ = _
                        simp only [Act.put, List.setIfInBounds_toArray, List.set_cons_zero, List.set_cons_succ, i64_w, i32_w]
                        rfl
                      refine pure_ (i := 8) (N := some 53) (v := ?_) (a' := ?_) #[true, true, true, true, true, true, true, true, true, false, false] rfl rfl (any_of HT_.out (by kernel_rfl)) (fun _ _ _ h => h) (Or.inl ⟨by rfl, ?_⟩) ?_ ?_
                      rotate_left
                      · intro w'
                        go_simp
                        with_reducible rfl
                      rotate_left
                      · simp only [Act.put, List.setIfInBounds_toArray, List.set_cons_zero, List.set_cons_succ, i64_w, i32_w]
                        rfl
                      exact norm_ (by first | (simp only [putAll, Act.put, List.setIfInBounds_toArray, List.set_cons_zero, List.set_cons_succ]; done) | (simp only [putAll, Act.put, List.setIfInBounds_toArray, List.set_cons_zero, List.set_cons_succ]; rfl)) (hJ0_3_4_7 (v274, .slice Ao32 y276.length co32, v280, .slice Ao31 y282.length co31) _ ⟨hHeld, (by (with_reducible repeat (first | apply Kd.R_alloc | apply Kd.R_drewN | apply Kd.R_drew)); exact Kd.R_mono HO278.out (fun _ hk => ⟨hk.2, ⟨hk.1.1, hk.1.2⟩⟩)), (by (with_reducible repeat (first | apply Kd.R_alloc | apply Kd.R_drewN | apply Kd.R_drew)); exact Kd.R_mono HO284.out (fun _ hk => ⟨hk.2.2, ⟨hk.1, hk.2.1⟩⟩)), (by (with_reducible repeat (first | apply Kd.R_alloc | apply Kd.R_drewN | apply Kd.R_drew)); exact Kd.R_mono HO_273000.out (fun _ hk => ⟨hk.1.2, ⟨hk.2, hk.1.1⟩⟩)), (by (with_reducible repeat (first | apply Kd.R_alloc | apply Kd.R_drewN | apply Kd.R_drew)); exact Kd.R_mono HO_273001.out (fun _ hk => ⟨hk.1.2, ⟨hk.2, hk.1.1⟩⟩)), (by (with_reducible repeat (first | refine blk_drewN ?_ _ | refine blk_drew ?_ | refine blk_alloc ?_ _)); exact BK272.out), (by repeat (first | (with_reducible first | exact HB.out | apply below_alloc | apply pw_below_drewN | apply below_drew1 | refine below_set ?_ GE272.out) | exact HB.out))⟩)
                    · skip
                      refine box_step ?hg (N := 12) ?hd (cs := #[.slice none 0 0, .slice none 0 0]) (t := 33) ?hr ?_; (case hd => rfl); (case hg => rfl); (case hr => first | (go_simp; done) | (go_simp; rfl))
                      intro gb285 hg w30 hbox hb
                      have n0_ := Aside0.mk (Kd.R_below (by (with_reducible repeat (first | apply Kd.R_alloc | apply Kd.R_drewN | apply Kd.R_drew)); exact HO_273000.out) hb)
                      have n1_ := Aside0.mk (Kd.R_below (by (with_reducible repeat (first | apply Kd.R_alloc | apply Kd.R_drewN | apply Kd.R_drew)); exact HO_273001.out) hb)
                      have n2_ := Aside0.mk (Kd.R_below (by (with_reducible repeat (first | apply Kd.R_alloc | apply Kd.R_drewN | apply Kd.R_drew)); exact HO278.out) hb)
                      have n3_ := Aside0.mk (Kd.R_below (by (with_reducible repeat (first | apply Kd.R_alloc | apply Kd.R_drewN | apply Kd.R_drew)); exact HO281.out) hb)
                      have n4_ := Aside0.mk (blk_below (g := gb272) (o := .cells #[.slice Ao11 t265.length co11, .slice Ao13 t268.length co13] 33 (0, 0)) (by (with_reducible repeat (first | refine blk_drewN ?_ _ | refine blk_drew ?_ | refine blk_alloc ?_ _)); exact BK272.out) hb)
                      have n5_ := Aside0.mk (below_step (by repeat (first | (with_reducible first | exact HB.out | apply below_alloc | apply pw_below_drewN | apply below_drew1 | refine below_set ?_ GE272.out) | exact HB.out)) hb)
                      have n6_ := Aside0.mk (hbox)
                      have n7_ := Aside0.mk ((by rw [hg]; exact (below_size (by repeat (first | (with_reducible first | exact HB.out | apply below_alloc | apply pw_below_drewN | apply below_drew1 | refine below_set ?_ GE272.out) | exact HB.out))) : w.heap.size ≤ gb285))
                      have n8_ := Aside0.mk ((by rw [hg]; exact (below_size (by repeat (first | (with_reducible first | exact HB.out | apply below_alloc | apply pw_below_drewN | apply below_drew1 | refine below_set ?_ GE272.out) | exact HB.out))) : w.heap.size ≤ gb285))
                      have n9_ := Aside0.mk ((by rw [hg]; exact Nat.ne_of_lt (blk_lt (g := gb272) (o := .cells #[.slice Ao11 t265.length co11, .slice Ao13 t268.length co13] 33 (0, 0)) (by (with_reducible repeat (first | refine blk_drewN ?_ _ | refine blk_drew ?_ | refine blk_alloc ?_ _)); exact BK272.out)) : gb272 ≠ gb285))
                      have n10_ := Aside0.mk ((by rw [hg]; exact Nat.ne_of_gt (blk_lt (g := gb272) (o := .cells #[.slice Ao11 t265.length co11, .slice Ao13 t268.length co13] 33 (0, 0)) (by (with_reducible repeat (first | refine blk_drewN ?_ _ | refine blk_drew ?_ | refine blk_alloc ?_ _)); exact BK272.out)) : gb285 ≠ gb272))
                      clear HO_273000
                      clear HO_273001
                      clear HO278
                      clear HO281
                      clear BK272
                      clear HB
                      have HO_273000 := n0_
                      have HO_273001 := n1_
                      have HO278 := n2_
                      have HO281 := n3_
                      have BK272 := n4_
                      have HB := n5_
                      have BK285 := n6_
                      have GW285 := n7_
                      have GE285 := n8_
                      have NB272_285 := n9_
                      have NB285_272 := n10_
                      clear n0_ n1_ n2_ n3_ n4_ n5_ n6_ n7_ n8_ n9_ n10_
                      clear hb hbox hg
                      refine hK.out _ _ ⟨(blk_cell BK272.out 0).trans rfl, (blk_cell BK272.out 1).trans rfl⟩ (fun hHeld => ?_)
                      clear hK K
                      refine norm_ (a' := ?_) ?_ ?_
                      rotate_left
                      · show Act.put _ (some 12) _ = _
                        simp only [Act.put, List.setIfInBounds_toArray, List.set_cons_zero, List.set_cons_succ, i64_w, i32_w]
                        rfl
                      exact norm_ (by first | (simp only [putAll, Act.put, List.setIfInBounds_toArray, List.set_cons_zero, List.set_cons_succ]; done) | (simp only [putAll, Act.put, List.setIfInBounds_toArray, List.set_cons_zero, List.set_cons_succ]; rfl)) (hJ0_3_4_9 (v274, v277, v280, gb285) _ ⟨hHeld, (by (with_reducible repeat (first | apply Kd.R_alloc | apply Kd.R_drewN | apply Kd.R_drew)); exact HO278.out), (by (with_reducible repeat (first | apply Kd.R_alloc | apply Kd.R_drewN | apply Kd.R_drew)); exact HO281.out), (by (with_reducible repeat (first | apply Kd.R_alloc | apply Kd.R_drewN | apply Kd.R_drew)); exact HO_273000.out), (by (with_reducible repeat (first | apply Kd.R_alloc | apply Kd.R_drewN | apply Kd.R_drew)); exact HO_273001.out), (by (with_reducible repeat (first | refine blk_drewN ?_ _ | refine blk_drew ?_ | refine blk_alloc ?_ _)); exact BK272.out), (by (with_reducible repeat (first | refine blk_drewN ?_ _ | refine blk_drew ?_ | refine blk_alloc ?_ _)); exact BK285.out), GW285.out, GE285.out, NB272_285.out, NB285_272.out, (by repeat (first | (with_reducible first | exact HB.out | apply below_alloc | apply pw_below_drewN | apply below_drew1 | refine below_set ?_ GE272.out | refine below_set ?_ GE285.out) | exact HB.out))⟩)
                · skip
                  rintro ⟨v274, v277, v280, gb285⟩ w30 ⟨hS_, h0_, h1_, h2_, h3_, h4_, h5_, h6_, h7_, h8_, h9_, h10_⟩
                  have n0_ : Aside0 (Kd.R (Kd.int .i64) 3 w30 w.heap.size (fun k_ => some k_ ≠ (v280 : Value).ownBlock ∧ some k_ ≠ (.slice Ao11 t265.length co11 : Value).ownBlock ∧ some k_ ≠ (.slice Ao13 t268.length co13 : Value).ownBlock) v277 y276) := ⟨h0_⟩
                  have n1_ : Aside0 (Kd.R (Kd.int .i64) 3 w30 w.heap.size (fun k_ => some k_ ≠ (v277 : Value).ownBlock ∧ some k_ ≠ (.slice Ao11 t265.length co11 : Value).ownBlock ∧ some k_ ≠ (.slice Ao13 t268.length co13 : Value).ownBlock) v280 y279) := ⟨h1_⟩
                  have n2_ : Aside0 (Kd.R (Kd.int .i64) 3 w30 w.heap.size (fun k_ => some k_ ≠ (v277 : Value).ownBlock ∧ some k_ ≠ (v280 : Value).ownBlock ∧ some k_ ≠ (.slice Ao13 t268.length co13 : Value).ownBlock) (.slice Ao11 t265.length co11) t265) := ⟨h2_⟩
                  have n3_ : Aside0 (Kd.R (Kd.int .i64) 3 w30 w.heap.size (fun k_ => some k_ ≠ (v277 : Value).ownBlock ∧ some k_ ≠ (v280 : Value).ownBlock ∧ some k_ ≠ (.slice Ao11 t265.length co11 : Value).ownBlock) (.slice Ao13 t268.length co13) t268) := ⟨h3_⟩
                  have n4_ : Aside0 (w30.heap[gb272]? = some (.cells #[.slice Ao11 t265.length co11, .slice Ao13 t268.length co13] 33 (0, 0))) := ⟨h4_⟩
                  have n5_ : Aside0 (w30.heap[gb285]? = some (.cells #[.slice none 0 0, .slice none 0 0] 33 (0, 0))) := ⟨h5_⟩
                  have n6_ : Aside0 (w.heap.size ≤ gb285) := ⟨h6_⟩
                  have n7_ : Aside0 (w.heap.size ≤ gb285) := ⟨h7_⟩
                  have n8_ : Aside0 (gb272 ≠ gb285) := ⟨h8_⟩
                  have n9_ : Aside0 (gb285 ≠ gb272) := ⟨h9_⟩
                  have n10_ : Aside0 (Below w.heap.size w w30) := ⟨h10_⟩
                  clear HO_273000
                  clear HO_273001
                  clear BK272
                  clear HB
                  clear h0_ h1_ h2_ h3_ h4_ h5_ h6_ h7_ h8_ h9_ h10_
                  have HO278 := n0_
                  have HO281 := n1_
                  have HO_273000 := n2_
                  have HO_273001 := n3_
                  have BK272 := n4_
                  have BK285 := n5_
                  have GW285 := n6_
                  have GE285 := n7_
                  have NB272_285 := n8_
                  have NB285_272 := n9_
                  have HB := n10_
                  clear n0_ n1_ n2_ n3_ n4_ n5_ n6_ n7_ n8_ n9_ n10_
                  have hHeld : w30.cell? ⟨gb272, 0, none⟩ = some (.slice Ao11 t265.length co11) ∧ w30.cell? ⟨gb272, 1, none⟩ = some (.slice Ao13 t268.length co13) := hS_
                  refine norm_ (a' := ?_) ?_ ?_
                  rotate_left
                  · simp only [putAll, Act.put, List.setIfInBounds_toArray, List.set_cons_zero, List.set_cons_succ]
                    rfl
                  refine one_ (i := 7) (N := some 52) #[true, true, true, true, true, true, true, true, false, true, false] rfl rfl (one_of HT_.out (by kernel_rfl)) (by decide) (fun K hK => ?_)
                  refine Kd.R_append_rows_step (Kd.int .i64) (w0 := w) w.heap.size (by rfl) (.tmp 49) (.tmp 51) 31 3 (.int .i64 0) 8 rfl Try.underlying31 info3 rfl (by decide) (by omega) v280 y279 t268 _ _ _ (fun k_ => some k_ ≠ (.slice Ao11 t265.length co11 : Value).ownBlock ∧ some k_ ≠ (.slice Ao13 t268.length co13 : Value).ownBlock ∧ some k_ ≠ (v277 : Value).ownBlock) (fun _ => False) rfl rfl ?aO ?aR (fun _ _ h => h) (fun _ h => h.elim) ?aF ?aB ?aS ?aL ?_
                  (case aR => repeat (first | exact (Kd.R_reads' HO_273001.out).2.2 | (with_reducible refine Kd.C_alloc ?_ _) | (with_reducible refine Kd.C_drewN ?_ _) | (with_reducible refine Kd.C_drew ?_)))
                  (case aB => exact (by repeat (first | (with_reducible first | exact HB.out | apply below_alloc | apply pw_below_drewN | apply below_drew1 | refine below_set ?_ GE272.out | refine below_set ?_ GE285.out) | exact HB.out)))
                  (case aF => exact (fun k_ hk => ⟨Kd.fresh' (Kd.R_lt (by (with_reducible repeat (first | apply Kd.R_alloc | apply Kd.R_drewN | apply Kd.R_drew)); exact HO_273000.out)) k_ hk, Kd.fresh' (Kd.R_lt (by (with_reducible repeat (first | apply Kd.R_alloc | apply Kd.R_drewN | apply Kd.R_drew)); exact HO_273001.out)) k_ hk, Kd.fresh' (Kd.R_lt (by (with_reducible repeat (first | apply Kd.R_alloc | apply Kd.R_drewN | apply Kd.R_drew)); exact HO278.out)) k_ hk⟩))
                  (case aO => exact (by (with_reducible repeat (first | apply Kd.R_alloc | apply Kd.R_drewN | apply Kd.R_drew)); exact Kd.R_mono HO281.out (fun _ hk => ⟨hk.2.1, ⟨hk.2.2, hk.1⟩⟩)))
                  (case aS => exact (below_size (by repeat (first | (with_reducible first | exact HB.out | apply below_alloc | apply pw_below_drewN | apply below_drew1 | refine below_set ?_ GE272.out | refine below_set ?_ GE285.out) | exact HB.out))))
                  (case aL => have := LMc21.out; omega)
                  intro v283 w31 ho hb hg hat
                  rw [← Ny282.out] at ho
                  have n0_ := Aside0.mk (Kd.R_after (ok := (fun k_ => some k_ ≠ (.slice Ao13 t268.length co13 : Value).ownBlock ∧ some k_ ≠ (v277 : Value).ownBlock)) (by (with_reducible repeat (first | apply Kd.R_alloc | apply Kd.R_drewN | apply Kd.R_drew)); exact Kd.R_mono HO_273000.out (fun _ hk => ⟨⟨hk.2.2, hk.1⟩, hk.2.1⟩)) hg hat)
                  have n1_ := Aside0.mk (Kd.R_after (ok := (fun k_ => some k_ ≠ (.slice Ao11 t265.length co11 : Value).ownBlock ∧ some k_ ≠ (v277 : Value).ownBlock)) (by (with_reducible repeat (first | apply Kd.R_alloc | apply Kd.R_drewN | apply Kd.R_drew)); exact Kd.R_mono HO_273001.out (fun _ hk => ⟨⟨hk.2.2, hk.1⟩, hk.2.1⟩)) hg hat)
                  have n2_ := Aside0.mk (blk_grown (g := gb272) (o := .cells #[.slice Ao11 t265.length co11, .slice Ao13 t268.length co13] 33 (0, 0)) (by (with_reducible repeat (first | refine blk_drewN ?_ _ | refine blk_drew ?_ | refine blk_alloc ?_ _)); exact BK272.out) hg (Kd.R_ne HO281.out BK272.out (by decide)))
                  have n3_ := Aside0.mk (Kd.R_after (ok := (fun k_ => some k_ ≠ (.slice Ao11 t265.length co11 : Value).ownBlock ∧ some k_ ≠ (.slice Ao13 t268.length co13 : Value).ownBlock)) (by (with_reducible repeat (first | apply Kd.R_alloc | apply Kd.R_drewN | apply Kd.R_drew)); exact Kd.R_mono HO278.out (fun _ hk => ⟨⟨hk.2.1, hk.2.2⟩, hk.1⟩)) hg hat)
                  have n4_ := Aside0.mk (blk_grown (g := gb285) (o := .cells #[.slice none 0 0, .slice none 0 0] 33 (0, 0)) (by (with_reducible repeat (first | refine blk_drewN ?_ _ | refine blk_drew ?_ | refine blk_alloc ?_ _)); exact BK285.out) hg (Kd.R_ne HO281.out BK285.out (by decide)))
                  have n5_ := Aside0.mk (hb)
                  have n6_ := Aside0.mk (ho)
                  clear HO_273000
                  clear HO_273001
                  clear BK272
                  clear HO278
                  clear BK285
                  clear HB
                  clear HO281
                  have HO_273000 := n0_
                  have HO_273001 := n1_
                  have BK272 := n2_
                  have HO278 := n3_
                  have BK285 := n4_
                  have HB := n5_
                  have HO284 := n6_
                  clear n0_ n1_ n2_ n3_ n4_ n5_ n6_
                  clear ho hb hg hat
                  obtain ⟨Ao32, co32, eo32⟩ := Kd.R_slice HO284.out
                  (first | subst eo32 | (injection eo32 with f1_ f2_ f3_; have f4_ := f1_.symm; have f5_ := f3_.symm; clear f1_ f2_ f3_; subst f4_; subst f5_))
                  obtain ⟨Ao33, co33, eo33⟩ := Kd.R_slice HO278.out
                  (first | subst eo33 | (injection eo33 with f1_ f2_ f3_; have f4_ := f1_.symm; have f5_ := f3_.symm; clear f1_ f2_ f3_; subst f4_; subst f5_))
                  refine hK.out _ _ ⟨(blk_cell BK272.out 0).trans rfl, (blk_cell BK272.out 1).trans rfl⟩ (fun hHeld => ?_)
                  clear hK K
                  refine norm_ (a' := ?_) ?_ ?_
                  rotate_left
                  · show Act.put _ (some 52) _ = _
                    simp only [Act.put, List.setIfInBounds_toArray, List.set_cons_zero, List.set_cons_succ, i64_w, i32_w]
                    rfl
                  refine pure_ (i := 8) (N := some 53) (v := ?_) (a' := ?_) #[true, true, true, true, true, true, true, true, true, true, false] rfl rfl (any_of HT_.out (by kernel_rfl)) (fun _ _ _ h => h) (Or.inl ⟨by rfl, ?_⟩) ?_ ?_
                  rotate_left
                  · intro w'
                    go_simp
                    with_reducible rfl
                  rotate_left
                  · simp only [Act.put, List.setIfInBounds_toArray, List.set_cons_zero, List.set_cons_succ, i64_w, i32_w]
                    rfl
                  exact norm_ (by first | (simp only [putAll, Act.put, List.setIfInBounds_toArray, List.set_cons_zero, List.set_cons_succ]; done) | (simp only [putAll, Act.put, List.setIfInBounds_toArray, List.set_cons_zero, List.set_cons_succ]; rfl)) (hJ0_3_4_7_9 (v274, .slice Ao33 y276.length co33, v280, .slice Ao32 y282.length co32, gb285) _ ⟨hHeld, (by (with_reducible repeat (first | apply Kd.R_alloc | apply Kd.R_drewN | apply Kd.R_drew)); exact Kd.R_mono HO278.out (fun _ hk => ⟨hk.2, ⟨hk.1.1, hk.1.2⟩⟩)), (by (with_reducible repeat (first | apply Kd.R_alloc | apply Kd.R_drewN | apply Kd.R_drew)); exact Kd.R_mono HO284.out (fun _ hk => ⟨hk.2.2, ⟨hk.1, hk.2.1⟩⟩)), (by (with_reducible repeat (first | apply Kd.R_alloc | apply Kd.R_drewN | apply Kd.R_drew)); exact Kd.R_mono HO_273000.out (fun _ hk => ⟨hk.1.2, ⟨hk.2, hk.1.1⟩⟩)), (by (with_reducible repeat (first | apply Kd.R_alloc | apply Kd.R_drewN | apply Kd.R_drew)); exact Kd.R_mono HO_273001.out (fun _ hk => ⟨hk.1.2, ⟨hk.2, hk.1.1⟩⟩)), (by (with_reducible repeat (first | refine blk_drewN ?_ _ | refine blk_drew ?_ | refine blk_alloc ?_ _)); exact BK272.out), (by (with_reducible repeat (first | refine blk_drewN ?_ _ | refine blk_drew ?_ | refine blk_alloc ?_ _)); exact BK285.out), GW285.out, GE285.out, NB272_285.out, NB285_272.out, (by repeat (first | (with_reducible first | exact HB.out | apply below_alloc | apply pw_below_drewN | apply below_drew1 | refine below_set ?_ GE272.out | refine below_set ?_ GE285.out) | exact HB.out))⟩)
              · skip
                rintro ⟨v274, v277, v280, v283⟩ w32 ⟨hS_, h0_, h1_, h2_, h3_, h4_, h5_⟩
                have n0_ : Aside0 (Kd.R (Kd.int .i64) 3 w32 w.heap.size (fun k_ => some k_ ≠ (v283 : Value).ownBlock ∧ some k_ ≠ (.slice Ao11 t265.length co11 : Value).ownBlock ∧ some k_ ≠ (.slice Ao13 t268.length co13 : Value).ownBlock) v277 y276) := ⟨h0_⟩
                have n1_ : Aside0 (Kd.R (Kd.int .i64) 3 w32 w.heap.size (fun k_ => some k_ ≠ (v277 : Value).ownBlock ∧ some k_ ≠ (.slice Ao11 t265.length co11 : Value).ownBlock ∧ some k_ ≠ (.slice Ao13 t268.length co13 : Value).ownBlock) v283 y282) := ⟨h1_⟩
                have n2_ : Aside0 (Kd.R (Kd.int .i64) 3 w32 w.heap.size (fun k_ => some k_ ≠ (v277 : Value).ownBlock ∧ some k_ ≠ (v283 : Value).ownBlock ∧ some k_ ≠ (.slice Ao13 t268.length co13 : Value).ownBlock) (.slice Ao11 t265.length co11) t265) := ⟨h2_⟩
                have n3_ : Aside0 (Kd.R (Kd.int .i64) 3 w32 w.heap.size (fun k_ => some k_ ≠ (v277 : Value).ownBlock ∧ some k_ ≠ (v283 : Value).ownBlock ∧ some k_ ≠ (.slice Ao11 t265.length co11 : Value).ownBlock) (.slice Ao13 t268.length co13) t268) := ⟨h3_⟩
                have n4_ : Aside0 (w32.heap[gb272]? = some (.cells #[.slice Ao11 t265.length co11, .slice Ao13 t268.length co13] 33 (0, 0))) := ⟨h4_⟩
                have n5_ : Aside0 (Below w.heap.size w w32) := ⟨h5_⟩
                clear HO_273000
                clear HO_273001
                clear BK272
                clear HB
                clear h0_ h1_ h2_ h3_ h4_ h5_
                have HO278 := n0_
                have HO284 := n1_
                have HO_273000 := n2_
                have HO_273001 := n3_
                have BK272 := n4_
                have HB := n5_
                clear n0_ n1_ n2_ n3_ n4_ n5_
                have hHeld : w32.cell? ⟨gb272, 0, none⟩ = some (.slice Ao11 t265.length co11) ∧ w32.cell? ⟨gb272, 1, none⟩ = some (.slice Ao13 t268.length co13) := hS_
                obtain ⟨Ao33, co33, eo33⟩ := Kd.R_slice HO284.out
                (first | subst eo33 | (injection eo33 with f1_ f2_ f3_; have f4_ := f1_.symm; have f5_ := f3_.symm; clear f1_ f2_ f3_; subst f4_; subst f5_))
                obtain ⟨Ao34, co34, eo34⟩ := Kd.R_slice HO278.out
                (first | subst eo34 | (injection eo34 with f1_ f2_ f3_; have f4_ := f1_.symm; have f5_ := f3_.symm; clear f1_ f2_ f3_; subst f4_; subst f5_))
                refine norm_ (a' := ?_) ?_ ?_
                rotate_left
                · simp only [putAll, Act.put, List.setIfInBounds_toArray, List.set_cons_zero, List.set_cons_succ]
                  rfl
                refine one_ (i := 9) (N := some 12) #[true, true, true, true, true, true, true, true, true, true, false] rfl rfl (one_of HT_.out (by kernel_rfl)) (by decide) (fun K hK => ?_)
                refine box_step ?hg (N := 12) ?hd (cs := #[.slice none 0 0, .slice none 0 0]) (t := 33) ?hr ?_; (case hd => rfl); (case hg => rfl); (case hr => first | (go_simp; done) | (go_simp; rfl))
                intro gb285 hg w35 hbox hb
                have n0_ := Aside0.mk (Kd.R_below (by (with_reducible repeat (first | apply Kd.R_alloc | apply Kd.R_drewN | apply Kd.R_drew)); exact HO_273000.out) hb)
                have n1_ := Aside0.mk (Kd.R_below (by (with_reducible repeat (first | apply Kd.R_alloc | apply Kd.R_drewN | apply Kd.R_drew)); exact HO_273001.out) hb)
                have n2_ := Aside0.mk (Kd.R_below (by (with_reducible repeat (first | apply Kd.R_alloc | apply Kd.R_drewN | apply Kd.R_drew)); exact HO278.out) hb)
                have n3_ := Aside0.mk (Kd.R_below (by (with_reducible repeat (first | apply Kd.R_alloc | apply Kd.R_drewN | apply Kd.R_drew)); exact HO284.out) hb)
                have n4_ := Aside0.mk (blk_below (g := gb272) (o := .cells #[.slice Ao11 t265.length co11, .slice Ao13 t268.length co13] 33 (0, 0)) (by (with_reducible repeat (first | refine blk_drewN ?_ _ | refine blk_drew ?_ | refine blk_alloc ?_ _)); exact BK272.out) hb)
                have n5_ := Aside0.mk (below_step (by repeat (first | (with_reducible first | exact HB.out | apply below_alloc | apply pw_below_drewN | apply below_drew1 | refine below_set ?_ GE272.out) | exact HB.out)) hb)
                have n6_ := Aside0.mk (hbox)
                have n7_ := Aside0.mk ((by rw [hg]; exact (below_size (by repeat (first | (with_reducible first | exact HB.out | apply below_alloc | apply pw_below_drewN | apply below_drew1 | refine below_set ?_ GE272.out) | exact HB.out))) : w.heap.size ≤ gb285))
                have n8_ := Aside0.mk ((by rw [hg]; exact (below_size (by repeat (first | (with_reducible first | exact HB.out | apply below_alloc | apply pw_below_drewN | apply below_drew1 | refine below_set ?_ GE272.out) | exact HB.out))) : w.heap.size ≤ gb285))
                have n9_ := Aside0.mk ((by rw [hg]; exact Nat.ne_of_lt (blk_lt (g := gb272) (o := .cells #[.slice Ao11 t265.length co11, .slice Ao13 t268.length co13] 33 (0, 0)) (by (with_reducible repeat (first | refine blk_drewN ?_ _ | refine blk_drew ?_ | refine blk_alloc ?_ _)); exact BK272.out)) : gb272 ≠ gb285))
                have n10_ := Aside0.mk ((by rw [hg]; exact Nat.ne_of_gt (blk_lt (g := gb272) (o := .cells #[.slice Ao11 t265.length co11, .slice Ao13 t268.length co13] 33 (0, 0)) (by (with_reducible repeat (first | refine blk_drewN ?_ _ | refine blk_drew ?_ | refine blk_alloc ?_ _)); exact BK272.out)) : gb285 ≠ gb272))
                clear HO_273000
                clear HO_273001
                clear HO278
                clear HO284
                clear BK272
                clear HB
                have HO_273000 := n0_
                have HO_273001 := n1_
                have HO278 := n2_
                have HO284 := n3_
                have BK272 := n4_
                have HB := n5_
                have BK285 := n6_
                have GW285 := n7_
                have GE285 := n8_
                have NB272_285 := n9_
                have NB285_272 := n10_
                clear n0_ n1_ n2_ n3_ n4_ n5_ n6_ n7_ n8_ n9_ n10_
                clear hb hbox hg
                refine hK.out _ _ ⟨(blk_cell BK272.out 0).trans rfl, (blk_cell BK272.out 1).trans rfl⟩ (fun hHeld => ?_)
                clear hK K
                refine norm_ (a' := ?_) ?_ ?_
                rotate_left
                · show Act.put _ (some 12) _ = _
                  simp only [Act.put, List.setIfInBounds_toArray, List.set_cons_zero, List.set_cons_succ, i64_w, i32_w]
                  rfl
                exact norm_ (by first | (simp only [putAll, Act.put, List.setIfInBounds_toArray, List.set_cons_zero, List.set_cons_succ]; done) | (simp only [putAll, Act.put, List.setIfInBounds_toArray, List.set_cons_zero, List.set_cons_succ]; rfl)) (hJ0_3_4_7_9 (v274, .slice Ao34 y276.length co34, v280, .slice Ao33 y282.length co33, gb285) _ ⟨hHeld, (by (with_reducible repeat (first | apply Kd.R_alloc | apply Kd.R_drewN | apply Kd.R_drew)); exact HO278.out), (by (with_reducible repeat (first | apply Kd.R_alloc | apply Kd.R_drewN | apply Kd.R_drew)); exact HO284.out), (by (with_reducible repeat (first | apply Kd.R_alloc | apply Kd.R_drewN | apply Kd.R_drew)); exact HO_273000.out), (by (with_reducible repeat (first | apply Kd.R_alloc | apply Kd.R_drewN | apply Kd.R_drew)); exact HO_273001.out), (by (with_reducible repeat (first | refine blk_drewN ?_ _ | refine blk_drew ?_ | refine blk_alloc ?_ _)); exact BK272.out), (by (with_reducible repeat (first | refine blk_drewN ?_ _ | refine blk_drew ?_ | refine blk_alloc ?_ _)); exact BK285.out), GW285.out, GE285.out, NB272_285.out, NB285_272.out, (by repeat (first | (with_reducible first | exact HB.out | apply below_alloc | apply pw_below_drewN | apply below_drew1 | refine below_set ?_ GE272.out | refine below_set ?_ GE285.out) | exact HB.out))⟩)
            rintro ⟨v274, v277, v280, v283, gb285⟩ w33 ⟨hS_, h0_, h1_, h2_, h3_, h4_, h5_, h6_, h7_, h8_, h9_, h10_⟩
            have n0_ : Aside0 (Kd.R (Kd.int .i64) 3 w33 w.heap.size (fun k_ => some k_ ≠ (v283 : Value).ownBlock ∧ some k_ ≠ (.slice Ao11 t265.length co11 : Value).ownBlock ∧ some k_ ≠ (.slice Ao13 t268.length co13 : Value).ownBlock) v277 y276) := ⟨h0_⟩
            have n1_ : Aside0 (Kd.R (Kd.int .i64) 3 w33 w.heap.size (fun k_ => some k_ ≠ (v277 : Value).ownBlock ∧ some k_ ≠ (.slice Ao11 t265.length co11 : Value).ownBlock ∧ some k_ ≠ (.slice Ao13 t268.length co13 : Value).ownBlock) v283 y282) := ⟨h1_⟩
            have n2_ : Aside0 (Kd.R (Kd.int .i64) 3 w33 w.heap.size (fun k_ => some k_ ≠ (v277 : Value).ownBlock ∧ some k_ ≠ (v283 : Value).ownBlock ∧ some k_ ≠ (.slice Ao13 t268.length co13 : Value).ownBlock) (.slice Ao11 t265.length co11) t265) := ⟨h2_⟩
            have n3_ : Aside0 (Kd.R (Kd.int .i64) 3 w33 w.heap.size (fun k_ => some k_ ≠ (v277 : Value).ownBlock ∧ some k_ ≠ (v283 : Value).ownBlock ∧ some k_ ≠ (.slice Ao11 t265.length co11 : Value).ownBlock) (.slice Ao13 t268.length co13) t268) := ⟨h3_⟩
            have n4_ : Aside0 (w33.heap[gb272]? = some (.cells #[.slice Ao11 t265.length co11, .slice Ao13 t268.length co13] 33 (0, 0))) := ⟨h4_⟩
            have n5_ : Aside0 (w33.heap[gb285]? = some (.cells #[.slice none 0 0, .slice none 0 0] 33 (0, 0))) := ⟨h5_⟩
            have n6_ : Aside0 (w.heap.size ≤ gb285) := ⟨h6_⟩
            have n7_ : Aside0 (w.heap.size ≤ gb285) := ⟨h7_⟩
            have n8_ : Aside0 (gb272 ≠ gb285) := ⟨h8_⟩
            have n9_ : Aside0 (gb285 ≠ gb272) := ⟨h9_⟩
            have n10_ : Aside0 (Below w.heap.size w w33) := ⟨h10_⟩
            clear HO_273000
            clear HO_273001
            clear BK272
            clear HB
            clear h0_ h1_ h2_ h3_ h4_ h5_ h6_ h7_ h8_ h9_ h10_
            have HO278 := n0_
            have HO284 := n1_
            have HO_273000 := n2_
            have HO_273001 := n3_
            have BK272 := n4_
            have BK285 := n5_
            have GW285 := n6_
            have GE285 := n7_
            have NB272_285 := n8_
            have NB285_272 := n9_
            have HB := n10_
            clear n0_ n1_ n2_ n3_ n4_ n5_ n6_ n7_ n8_ n9_ n10_
            have hHeld : w33.cell? ⟨gb272, 0, none⟩ = some (.slice Ao11 t265.length co11) ∧ w33.cell? ⟨gb272, 1, none⟩ = some (.slice Ao13 t268.length co13) := hS_
            obtain ⟨Ao34, co34, eo34⟩ := Kd.R_slice HO284.out
            (first | subst eo34 | (injection eo34 with f1_ f2_ f3_; have f4_ := f1_.symm; have f5_ := f3_.symm; clear f1_ f2_ f3_; subst f4_; subst f5_))
            obtain ⟨Ao35, co35, eo35⟩ := Kd.R_slice HO278.out
            (first | subst eo35 | (injection eo35 with f1_ f2_ f3_; have f4_ := f1_.symm; have f5_ := f3_.symm; clear f1_ f2_ f3_; subst f4_; subst f5_))
            refine norm_ (a' := ?_) ?_ ?_
            rotate_left
            · simp only [putAll, Act.put, List.setIfInBounds_toArray, List.set_cons_zero, List.set_cons_succ]
              rfl
            refine one_ (i := 10) (N := none) #[true, true, true, true, true, true, true, true, true, true, true] rfl rfl (one_of HT_.out (by kernel_rfl)) (by decide) (fun K hK => ?_)
            have hs36 : w33.cell? ⟨gb285, 0, none⟩ = some (.slice none 0 0) := (blk_cell BK285.out 0).trans rfl
            have hfs36 := blk_frozen BK285.out 0
            have hns36_0 := NB272_285.out
            have hms36_0 := NB285_272.out
            have hs37 : w33.cell? ⟨gb285, 1, none⟩ = some (.slice none 0 0) := (blk_cell BK285.out 1).trans rfl
            have hfs37 := blk_frozen BK285.out 1
            have hns37_0 := NB272_285.out
            have hms37_0 := NB285_272.out
            refine skip_ (w1 := ?_) (by rfl) rfl ?_ ?_
            rotate_left
            · go_simp
              rfl
            refine hK.out _ _ ⟨((cell_far (p := ⟨gb285, _, none⟩) NB272_285.out _).trans (((cell_far (p := ⟨gb285, _, none⟩) NB272_285.out _).trans (hHeld.1)))), ((cell_far (p := ⟨gb285, _, none⟩) NB272_285.out _).trans (((cell_far (p := ⟨gb285, _, none⟩) NB272_285.out _).trans (hHeld.2))))⟩ (fun hHeld => ?_)
            clear hK K
            refine done_ (done_of HT_.out (by kernel_rfl)) ?_
            go_upto_region 6 with (fail)
            go_cut [63] (fun v63 wc => ∃ (kq : Nat) (x63_21 : Bool), v63 = .bool x63_21 ∧ Aside0 (curtilagelaw12_HashValid.j1 kq l0 a1 a2 a3 t264 x63_21 t265 t268 y276 y282 = some r) ∧ Aside0 (kq ≤ kj6) ∧ Aside0 (Kd.R (Kd.int .i64) 3 wc w.heap.size (fun k_ => some k_ ≠ ((.slice Ao13 t268.length co13) : Value).ownBlock ∧ some k_ ≠ ((.slice Ao35 y276.length co35) : Value).ownBlock ∧ some k_ ≠ ((.slice Ao34 y282.length co34) : Value).ownBlock) (.slice Ao11 t265.length co11) t265) ∧ Aside0 (Kd.R (Kd.int .i64) 3 wc w.heap.size (fun k_ => some k_ ≠ ((.slice Ao11 t265.length co11) : Value).ownBlock ∧ some k_ ≠ ((.slice Ao35 y276.length co35) : Value).ownBlock ∧ some k_ ≠ ((.slice Ao34 y282.length co34) : Value).ownBlock) (.slice Ao13 t268.length co13) t268) ∧ Aside0 (Kd.R (Kd.int .i64) 3 wc w.heap.size (fun k_ => some k_ ≠ ((.slice Ao11 t265.length co11) : Value).ownBlock ∧ some k_ ≠ ((.slice Ao13 t268.length co13) : Value).ownBlock ∧ some k_ ≠ ((.slice Ao34 y282.length co34) : Value).ownBlock) (.slice Ao35 y276.length co35) y276) ∧ Aside0 (Kd.R (Kd.int .i64) 3 wc w.heap.size (fun k_ => some k_ ≠ ((.slice Ao11 t265.length co11) : Value).ownBlock ∧ some k_ ≠ ((.slice Ao13 t268.length co13) : Value).ownBlock ∧ some k_ ≠ ((.slice Ao35 y276.length co35) : Value).ownBlock) (.slice Ao34 y282.length co34) y282) ∧ Aside0 (wc.heap[gb272]? = some (.cells #[(.slice Ao11 t265.length co11), (.slice Ao13 t268.length co13)] 33 (0, 0))) ∧ Aside0 (wc.heap[gb285]? = some (.cells #[(.slice Ao35 y276.length co35), (.slice Ao34 y282.length co34)] 33 (0, 0))) ∧ Aside0 (Below w.heap.size w wc))
            case first =>
              have H := HC22.out
              clear HC22
              by_cases c38 : a2 < 0
              · rw [if_pos c38] at H
                have c38b0 : decide (a2 < 0) = true := decide_eq_true c38
                clear c38
                (first | rw [c38b0] | (simp only [i64_w, i32_w]; rw [c38b0]) | skip)
                have H' := Aside0.mk H
                clear H
                go_wp2
                go_meet
                case rel => exact ⟨_, (true), (by first | rfl | (simp; done) | (simp [*]; done)), H', ⟨by have := HJ6.out; first | omega | exact Nat.le_refl _⟩, ⟨by (with_reducible repeat (first | apply Kd.R_alloc | apply Kd.R_drewN | apply Kd.R_drew)); exact Kd.R_mono (Kd.R_far (p := ⟨gb285, 1, none⟩) (Kd.R_far (p := ⟨gb285, 0, none⟩) (Kd.R_types HO_273000.out BK285.out (by decide)) (fun _ hk => hk.2) (.slice Ao35 y276.length co35)) (fun _ hk => hk.2) (.slice Ao34 y282.length co34)) (fun _ hk => ⟨hk.1.2.2, ⟨hk.1.1, hk.1.2.1⟩⟩)⟩, ⟨by (with_reducible repeat (first | apply Kd.R_alloc | apply Kd.R_drewN | apply Kd.R_drew)); exact Kd.R_mono (Kd.R_far (p := ⟨gb285, 1, none⟩) (Kd.R_far (p := ⟨gb285, 0, none⟩) (Kd.R_types HO_273001.out BK285.out (by decide)) (fun _ hk => hk.2) (.slice Ao35 y276.length co35)) (fun _ hk => hk.2) (.slice Ao34 y282.length co34)) (fun _ hk => ⟨hk.1.2.2, ⟨hk.1.1, hk.1.2.1⟩⟩)⟩, ⟨by (with_reducible repeat (first | apply Kd.R_alloc | apply Kd.R_drewN | apply Kd.R_drew)); exact Kd.R_mono (Kd.R_far (p := ⟨gb285, 1, none⟩) (Kd.R_far (p := ⟨gb285, 0, none⟩) (Kd.R_types HO278.out BK285.out (by decide)) (fun _ hk => hk.2) (.slice Ao35 y276.length co35)) (fun _ hk => hk.2) (.slice Ao34 y282.length co34)) (fun _ hk => ⟨hk.1.2.1, ⟨hk.1.2.2, hk.1.1⟩⟩)⟩, ⟨by (with_reducible repeat (first | apply Kd.R_alloc | apply Kd.R_drewN | apply Kd.R_drew)); exact Kd.R_mono (Kd.R_far (p := ⟨gb285, 1, none⟩) (Kd.R_far (p := ⟨gb285, 0, none⟩) (Kd.R_types HO284.out BK285.out (by decide)) (fun _ hk => hk.2) (.slice Ao35 y276.length co35)) (fun _ hk => hk.2) (.slice Ao34 y282.length co34)) (fun _ hk => ⟨hk.1.2.1, ⟨hk.1.2.2, hk.1.1⟩⟩)⟩, ⟨by (with_reducible repeat (first | refine blk_drewN ?_ _ | refine blk_drew ?_ | refine blk_alloc ?_ _)); refine blk_far ?_ NB272_285.out _; (with_reducible repeat (first | refine blk_drewN ?_ _ | refine blk_drew ?_ | refine blk_alloc ?_ _)); refine blk_far ?_ NB272_285.out _; (with_reducible repeat (first | refine blk_drewN ?_ _ | refine blk_drew ?_ | refine blk_alloc ?_ _)); exact BK272.out⟩, ⟨by (with_reducible repeat (first | refine blk_drewN ?_ _ | refine blk_drew ?_ | refine blk_alloc ?_ _)); refine blk_put (cs := #[.slice Ao35 y276.length co35, .slice none 0 0]) ?_ 1 _ rfl; (with_reducible repeat (first | refine blk_drewN ?_ _ | refine blk_drew ?_ | refine blk_alloc ?_ _)); refine blk_put (cs := #[.slice none 0 0, .slice none 0 0]) ?_ 0 _ rfl; (with_reducible repeat (first | refine blk_drewN ?_ _ | refine blk_drew ?_ | refine blk_alloc ?_ _)); exact BK285.out⟩, ⟨by repeat (first | (with_reducible first | exact HB.out | apply below_alloc | apply pw_below_drewN | apply below_drew1 | refine below_set ?_ GE272.out | refine below_set ?_ GE285.out) | exact HB.out)⟩⟩
              · rw [if_neg c38] at H
                have c38b0 : decide (a2 < 0) = false := decide_eq_false c38
                clear c38
                (first | rw [c38b0] | (simp only [i64_w, i32_w]; rw [c38b0]) | skip)
                have H' := Aside0.mk H
                clear H
                go_wp2
                go_meet
                case rel => exact ⟨_, (decide (a2 ≥ (wrap64 (a1 + (l0.length : Int))))), (by first | rfl | (simp; done) | (simp [*]; done)), H', ⟨by have := HJ6.out; first | omega | exact Nat.le_refl _⟩, ⟨by (with_reducible repeat (first | apply Kd.R_alloc | apply Kd.R_drewN | apply Kd.R_drew)); exact Kd.R_mono (Kd.R_far (p := ⟨gb285, 1, none⟩) (Kd.R_far (p := ⟨gb285, 0, none⟩) (Kd.R_types HO_273000.out BK285.out (by decide)) (fun _ hk => hk.2) (.slice Ao35 y276.length co35)) (fun _ hk => hk.2) (.slice Ao34 y282.length co34)) (fun _ hk => ⟨hk.1.2.2, ⟨hk.1.1, hk.1.2.1⟩⟩)⟩, ⟨by (with_reducible repeat (first | apply Kd.R_alloc | apply Kd.R_drewN | apply Kd.R_drew)); exact Kd.R_mono (Kd.R_far (p := ⟨gb285, 1, none⟩) (Kd.R_far (p := ⟨gb285, 0, none⟩) (Kd.R_types HO_273001.out BK285.out (by decide)) (fun _ hk => hk.2) (.slice Ao35 y276.length co35)) (fun _ hk => hk.2) (.slice Ao34 y282.length co34)) (fun _ hk => ⟨hk.1.2.2, ⟨hk.1.1, hk.1.2.1⟩⟩)⟩, ⟨by (with_reducible repeat (first | apply Kd.R_alloc | apply Kd.R_drewN | apply Kd.R_drew)); exact Kd.R_mono (Kd.R_far (p := ⟨gb285, 1, none⟩) (Kd.R_far (p := ⟨gb285, 0, none⟩) (Kd.R_types HO278.out BK285.out (by decide)) (fun _ hk => hk.2) (.slice Ao35 y276.length co35)) (fun _ hk => hk.2) (.slice Ao34 y282.length co34)) (fun _ hk => ⟨hk.1.2.1, ⟨hk.1.2.2, hk.1.1⟩⟩)⟩, ⟨by (with_reducible repeat (first | apply Kd.R_alloc | apply Kd.R_drewN | apply Kd.R_drew)); exact Kd.R_mono (Kd.R_far (p := ⟨gb285, 1, none⟩) (Kd.R_far (p := ⟨gb285, 0, none⟩) (Kd.R_types HO284.out BK285.out (by decide)) (fun _ hk => hk.2) (.slice Ao35 y276.length co35)) (fun _ hk => hk.2) (.slice Ao34 y282.length co34)) (fun _ hk => ⟨hk.1.2.1, ⟨hk.1.2.2, hk.1.1⟩⟩)⟩, ⟨by (with_reducible repeat (first | refine blk_drewN ?_ _ | refine blk_drew ?_ | refine blk_alloc ?_ _)); refine blk_far ?_ NB272_285.out _; (with_reducible repeat (first | refine blk_drewN ?_ _ | refine blk_drew ?_ | refine blk_alloc ?_ _)); refine blk_far ?_ NB272_285.out _; (with_reducible repeat (first | refine blk_drewN ?_ _ | refine blk_drew ?_ | refine blk_alloc ?_ _)); exact BK272.out⟩, ⟨by (with_reducible repeat (first | refine blk_drewN ?_ _ | refine blk_drew ?_ | refine blk_alloc ?_ _)); refine blk_put (cs := #[.slice Ao35 y276.length co35, .slice none 0 0]) ?_ 1 _ rfl; (with_reducible repeat (first | refine blk_drewN ?_ _ | refine blk_drew ?_ | refine blk_alloc ?_ _)); refine blk_put (cs := #[.slice none 0 0, .slice none 0 0]) ?_ 0 _ rfl; (with_reducible repeat (first | refine blk_drewN ?_ _ | refine blk_drew ?_ | refine blk_alloc ?_ _)); exact BK285.out⟩, ⟨by repeat (first | (with_reducible first | exact HB.out | apply below_alloc | apply pw_below_drewN | apply below_drew1 | refine below_set ?_ GE272.out | refine below_set ?_ GE285.out) | exact HB.out)⟩⟩
            case rest =>
              clear HC22
              try clear c2
              try clear p2
              try clear c3
              try clear p6
              try clear c20
              try clear c21
              try clear c38
              try clear c38b0
              obtain ⟨kq, x63_21, rfl, HA, HJ21, HO_273000, HO_273001, HO_286000, HO_286001, BK272, BK285, HB⟩ := hcut
              cases kq with
              | zero => exact absurd HA.out (by simp [curtilagelaw12_HashValid.j1])
              | succ kj21 =>
                have H := HA.out
                clear HA
                simp only [curtilagelaw12_HashValid.j1] at H
                by_cases c39 : x63_21 = true
                · subst c39
                  have H1 : (some t264) = some r := by rw [if_pos rfl] at H; exact H
                  clear H
                  have H := H1
                  clear H1
                  obtain rfl := Option.some.inj H
                  go_wp2
                  go_ret
                  exact ⟨by first | rfl | (simp [errW_none, errW_some] <;> rfl) | (simp [*, errW_none, errW_some] <;> rfl), by repeat (first | (with_reducible first | exact HB.out | apply below_alloc | apply pw_below_drewN | apply below_drew1 | refine below_set ?_ GE272.out | refine below_set ?_ GE285.out) | exact HB.out)⟩
                · replace c39 := Bool.eq_false_iff.mpr c39
                  subst c39
                  have H1 : (if a2 < a1 then (if 0 ≤ a2 then (if a2 < (y276.length : Int) then ((hash_Valid.f kj21 (y276.set (a2 : Int).toNat a3) y282 l0).bind fun t288 => ((hash_Valid.f kj21 t265 ([] : List Int) l0).bind fun t289 => (if t264 = true then (if (t288 == ((rd y276 a2) == a3)) = true then (some (t289 == ((l0.length : Int) == 0))) else (some false)) else (some false)))) else (none)) else (none)) else (if 0 ≤ (wrap64 (a2 - a1)) then (if (wrap64 (a2 - a1)) < (y282.length : Int) then ((hash_Valid.f kj21 y276 (y282.set ((wrap64 (a2 - a1)) : Int).toNat a3) l0).bind fun t292 => ((hash_Valid.f kj21 t265 ([] : List Int) l0).bind fun t293 => (if t264 = true then (if (t292 == ((rd y282 (wrap64 (a2 - a1))) == a3)) = true then (some (t293 == ((l0.length : Int) == 0))) else (some false)) else (some false)))) else (none)) else (none))) = some r := by rw [if_neg (show ¬ (false = true) by decide)] at H; exact H
                  clear H
                  have H := H1
                  clear H1
                  by_cases c40 : a2 < a1
                  · rw [if_pos c40] at H
                    have c40b0 : decide (a2 < a1) = true := decide_eq_true c40
                    clear c40
                    by_cases c41 : 0 ≤ a2
                    · rw [if_pos c41] at H
                      have c41b0 : decide (0 ≤ a2) = true := decide_eq_true c41
                      clear c41
                      by_cases c42 : a2 < (y276.length : Int)
                      · rw [if_pos c42] at H
                        have c42b0 : decide (a2 < (y276.length : Int)) = true := decide_eq_true c42
                        clear c42
                        obtain ⟨y287, hy287⟩ : ∃ y_ : List Int, y_ = (y276.set (a2 : Int).toNat a3) := ⟨_, rfl⟩
                        replace H : ((hash_Valid.f kj21 y287 y282 l0).bind fun t288 => ((hash_Valid.f kj21 t265 ([] : List Int) l0).bind fun t289 => (if t264 = true then (if (t288 == ((rd y276 a2) == a3)) = true then (some (t289 == ((l0.length : Int) == 0))) else (some false)) else (some false)))) = some r := by first | (rw [hy287]; with_reducible exact H) | (have H2_ := (Option.bind_some _ _).symm.trans H; rw [hy287]; with_reducible exact H2_) | (have H2_ := (Option.bind_some _ _).symm.trans H; with_reducible exact H2_) | with_reducible exact H | (rw [hy287]; exact H) | exact H
                        have Ny287 := Aside0.mk hy287
                        clear hy287
                        replace H := Option.bind_eq_some_iff.mp H
                        obtain ⟨t288, A440, H⟩ := H
                        replace H : ((hash_Valid.f kj21 t265 ([] : List Int) l0).bind fun t289 => (if t264 = true then (if (t288 == ((rd y276 a2) == a3)) = true then (some (t289 == ((l0.length : Int) == 0))) else (some false)) else (some false))) = some r := H
                        have A44 := Aside0.mk A440
                        clear A440
                        replace H := Option.bind_eq_some_iff.mp H
                        obtain ⟨t289, A450, H⟩ := H
                        replace H : (if t264 = true then (if (t288 == ((rd y276 a2) == a3)) = true then (some (t289 == ((l0.length : Int) == 0))) else (some false)) else (some false)) = some r := H
                        have A45 := Aside0.mk A450
                        clear A450
                        by_cases c46 : t264 = true
                        · subst c46
                          have H1 : (if (t288 == ((rd y276 a2) == a3)) = true then (some (t289 == ((l0.length : Int) == 0))) else (some false)) = some r := by rw [if_pos rfl] at H; exact H
                          clear H
                          have H := H1
                          clear H1
                          by_cases c47 : (t288 == ((rd y276 a2) == a3)) = true
                          · rw [if_pos c47] at H
                            have c47b0 : (t288 == ((rd y276 a2) == a3)) = true := c47
                            (try (have c47b1 : decide (t288 = ((rd y276 a2) == a3)) = true := by simpa using c47))
                            (try (have c47b2 : (t288 == ((rd y276 a2) == a3)) = true := by simpa using c47))
                            clear c47
                            obtain rfl := Option.some.inj H
                            have hnb48 := NB285_272.out
                            have hnc48 := NB272_285.out
                            have hcz49_0 : wc.cell? ⟨gb285, 0, none⟩ = some (.slice Ao35 y276.length co35) := (blk_cell BK285.out 0).trans rfl
                            have hcz49_1 : wc.cell? ⟨gb285, 1, none⟩ = some (.slice Ao34 y282.length co34) := (blk_cell BK285.out 1).trans rfl
                            have hfz49_0 := blk_frozen BK285.out 0
                            have hfz49_1 := blk_frozen BK285.out 1
                            have p286 : 0 ≤ (a2 : Int) := of_decide_eq_true (by first | (with_reducible assumption) | assumption)
                            have q286 : a2 < (y276.length : Int) := of_decide_eq_true (by first | (with_reducible assumption) | assumption)
                            obtain ⟨ad286, e286, hx286_0⟩ := Kd.at_int (Kd.R_reads' HO_286000.out).2.2 a2 p286 q286
                            cases e286
                            replace p286 := eq_true p286
                            replace q286 := eq_true q286
                            have p43 : 0 ≤ (a2 : Int) := of_decide_eq_true (by first | (with_reducible assumption) | assumption)
                            have q43 : (a2 : Int) < ((y276.length : Int) : Int) := of_decide_eq_true (by first | (with_reducible assumption) | assumption)
                            obtain ⟨go43, co43, eo43, gb43, gl43, cl43, HG43⟩ := Kd.R_form HO_286000.out (by omega)
                            (first | cases eo43 | (injection eo43 with ea_ en_ ec_; (first | subst ea_ | (injection ea_ with ea_; subst ea_)); subst ec_; clear en_))
                            have GB43 := Aside0.mk gb43
                            have GG43 := Aside0.mk HG43
                            clear gb43 gl43 HG43
                            (first | simp only [add_plain] at hx286_0 | skip)
                            obtain ⟨hx43_0, hf43_0⟩ := Kd.R_celln 0 HO_286000.out (a2 : Int) p43 q43
                            replace p43 := eq_true p43
                            replace q43 := eq_true q43
                            have HP50 := Kd.R_putg HO_286000.out (a2 : Int) a3
                            go_wp2_with (first | ((with_reducible refine gate_store (t := 3) (p := 79) rfl ?_); refine store_event (t := 3) (p := 79) (v := ?vo_w51) (w1 := (wc.setCell ⟨go43, (a2 : Int).toNat, none⟩ (.int .i64 a3))) ?hg ?ho ?hn ?hr ?_; (case ho => rfl); (case hg => rfl); (case hn => rfl); (case hr => first | (go_simp; done) | (go_simp; rfl)); intro w51 hw; have hg : wc.grownBy w51 (some go43) := (by rw [hw]; exact HP50.2); have hp_ : Kd.R (Kd.int .i64) 3 w51 w.heap.size (fun k_ => some k_ ≠ (.slice Ao11 t265.length co11 : Value).ownBlock ∧ some k_ ≠ (.slice Ao13 t268.length co13 : Value).ownBlock ∧ some k_ ≠ (.slice Ao34 y282.length co34 : Value).ownBlock) (.slice (some ⟨go43, 0, none⟩) y276.length co35) y287 := (by rw [hw, Ny287.out]; exact HP50.1); clear HP50; have n0_ := Aside0.mk (Kd.R_after (v := (.slice (some ⟨go43, 0, none⟩) y276.length co35)) (v1 := (.slice (some ⟨go43, 0, none⟩) y276.length co35)) (ok := (fun k_ => some k_ ≠ (.slice Ao13 t268.length co13 : Value).ownBlock ∧ some k_ ≠ (.slice Ao34 y282.length co34 : Value).ownBlock)) (by (with_reducible repeat (first | apply Kd.R_alloc | apply Kd.R_drewN | apply Kd.R_drew)); exact Kd.R_mono HO_273000.out (fun _ hk => ⟨⟨hk.1, hk.2.2⟩, hk.2.1⟩)) hg (.inl rfl)); have n1_ := Aside0.mk (Kd.R_after (v := (.slice (some ⟨go43, 0, none⟩) y276.length co35)) (v1 := (.slice (some ⟨go43, 0, none⟩) y276.length co35)) (ok := (fun k_ => some k_ ≠ (.slice Ao11 t265.length co11 : Value).ownBlock ∧ some k_ ≠ (.slice Ao34 y282.length co34 : Value).ownBlock)) (by (with_reducible repeat (first | apply Kd.R_alloc | apply Kd.R_drewN | apply Kd.R_drew)); exact Kd.R_mono HO_273001.out (fun _ hk => ⟨⟨hk.1, hk.2.2⟩, hk.2.1⟩)) hg (.inl rfl)); have n2_ := Aside0.mk (hp_); have n3_ := Aside0.mk (Kd.R_after (v := (.slice (some ⟨go43, 0, none⟩) y276.length co35)) (v1 := (.slice (some ⟨go43, 0, none⟩) y276.length co35)) (ok := (fun k_ => some k_ ≠ (.slice Ao11 t265.length co11 : Value).ownBlock ∧ some k_ ≠ (.slice Ao13 t268.length co13 : Value).ownBlock)) (by (with_reducible repeat (first | apply Kd.R_alloc | apply Kd.R_drewN | apply Kd.R_drew)); exact Kd.R_mono HO_286001.out (fun _ hk => ⟨⟨hk.1, hk.2.1⟩, hk.2.2⟩)) hg (.inl rfl)); have n4_ := Aside0.mk (blk_grown (g := gb272) (o := .cells #[.slice Ao11 t265.length co11, .slice Ao13 t268.length co13] 33 (0, 0)) (by (with_reducible repeat (first | refine blk_drewN ?_ _ | refine blk_drew ?_ | refine blk_alloc ?_ _)); exact BK272.out) hg (Kd.R_ne HO_286000.out BK272.out (by decide))); have n5_ := Aside0.mk (blk_grown (g := gb285) (o := .cells #[.slice (some ⟨go43, 0, none⟩) y276.length co35, .slice Ao34 y282.length co34] 33 (0, 0)) (by (with_reducible repeat (first | refine blk_drewN ?_ _ | refine blk_drew ?_ | refine blk_alloc ?_ _)); exact BK285.out) hg (Kd.R_ne HO_286000.out BK285.out (by decide))); have n6_ := Aside0.mk ((by rw [hw]; exact below_set (HB.out) GB43.out : Below w.heap.size w w51)); clear HO_273000; clear HO_273001; clear HO_286000; clear HO_286001; clear BK272; clear BK285; clear HB; have HO_273000 := n0_; have HO_273001 := n1_; have HO_286000 := n2_; have HO_286001 := n3_; have BK272 := n4_; have BK285 := n5_; have HB := n6_; clear n0_ n1_ n2_ n3_ n4_ n5_ n6_; clear hg hw hp_; have hcz52_0 : w51.cell? ⟨gb285, 0, none⟩ = some (.slice (some ⟨go43, 0, none⟩) y276.length co35) := (blk_cell BK285.out 0).trans rfl; have hcz52_1 : w51.cell? ⟨gb285, 1, none⟩ = some (.slice Ao34 y282.length co34) := (blk_cell BK285.out 1).trans rfl; have hfz52_0 := blk_frozen BK285.out 0; have hfz52_1 := blk_frozen BK285.out 1) | ((with_reducible refine gate_callee (f := 17) rfl ?_); refine goesL_ (some 98) rfl rfl Try.func17 (by kernel_rfl) rfl #[.agg #[.slice (some ⟨go43, 0, none⟩) y287.length co35, .slice Ao34 y282.length co34], .slice A0 l0.length c0] rfl (by (try simp only [List.map_toArray, List.map_cons, List.map_nil]); first | done | (rw [show y287.length = y276.length from (Kd.R_reads' HO_286000.out).1.symm] <;> rfl) | rfl | (simp only [List.length_drop, List.length_take]; rfl)) ?_; (with_reducible refine (hash_Valid.calls kj21 _ _ y287 _ _ y282 _ _ l0 t288 _ ?side1 ?side2 ?side3 ?side4 ?side5 ?side6 A44.out).mono ?_); (case side1 => repeat (first | exact (Kd.R_reads' HO_286000.out).2.2 | (with_reducible refine Kd.C_alloc ?_ _) | (with_reducible refine Kd.C_drewN ?_ _) | (with_reducible refine Kd.C_drew ?_))); (case side2 => rw [show y287.length = y276.length from (Kd.R_reads' HO_286000.out).1.symm]; exact (Kd.R_reads' HO_286000.out).2.1); (case side3 => repeat (first | exact (Kd.R_reads' HO_286001.out).2.2 | (with_reducible refine Kd.C_alloc ?_ _) | (with_reducible refine Kd.C_drewN ?_ _) | (with_reducible refine Kd.C_drew ?_))); (case side4 => exact (Kd.R_reads' HO_286001.out).2.1); (case side5 => repeat (first | exact (Kd.C_below HR0.out HB.out) | (with_reducible refine Kd.C_alloc ?_ _) | (with_reducible refine Kd.C_drewN ?_ _) | (with_reducible refine Kd.C_drew ?_))); (case side6 => exact HC0.out); rintro e w53 ⟨rfl, hb⟩; refine ⟨_, rfl, ?_⟩; have n0_ := Aside0.mk (Kd.R_below (by (with_reducible repeat (first | apply Kd.R_alloc | apply Kd.R_drewN | apply Kd.R_drew)); exact HO_273000.out) hb); have n1_ := Aside0.mk (Kd.R_below (by (with_reducible repeat (first | apply Kd.R_alloc | apply Kd.R_drewN | apply Kd.R_drew)); exact HO_273001.out) hb); have n2_ := Aside0.mk (Kd.R_below (by (with_reducible repeat (first | apply Kd.R_alloc | apply Kd.R_drewN | apply Kd.R_drew)); exact HO_286000.out) hb); have n3_ := Aside0.mk (Kd.R_below (by (with_reducible repeat (first | apply Kd.R_alloc | apply Kd.R_drewN | apply Kd.R_drew)); exact HO_286001.out) hb); have n4_ := Aside0.mk (blk_below (g := gb272) (o := .cells #[.slice Ao11 t265.length co11, .slice Ao13 t268.length co13] 33 (0, 0)) (by (with_reducible repeat (first | refine blk_drewN ?_ _ | refine blk_drew ?_ | refine blk_alloc ?_ _)); exact BK272.out) hb); have n5_ := Aside0.mk (blk_below (g := gb285) (o := .cells #[.slice (some ⟨go43, 0, none⟩) y276.length co35, .slice Ao34 y282.length co34] 33 (0, 0)) (by (with_reducible repeat (first | refine blk_drewN ?_ _ | refine blk_drew ?_ | refine blk_alloc ?_ _)); exact BK285.out) hb); have n6_ := Aside0.mk (below_step (by repeat (first | (with_reducible first | exact HB.out | apply below_alloc | apply pw_below_drewN | apply below_drew1 | refine below_set ?_ GE272.out | refine below_set ?_ GE285.out) | exact HB.out)) hb); clear HO_273000; clear HO_273001; clear HO_286000; clear HO_286001; clear BK272; clear BK285; clear HB; have HO_273000 := n0_; have HO_273001 := n1_; have HO_286000 := n2_; have HO_286001 := n3_; have BK272 := n4_; have BK285 := n5_; have HB := n6_; clear n0_ n1_ n2_ n3_ n4_ n5_ n6_; (try clear hb); (try clear hb2); (try clear hk); (try clear hi); have hcz54_0 : w53.cell? ⟨gb272, 0, none⟩ = some (.slice Ao11 t265.length co11) := (blk_cell BK272.out 0).trans rfl; have hcz54_1 : w53.cell? ⟨gb272, 1, none⟩ = some (.slice Ao13 t268.length co13) := (blk_cell BK272.out 1).trans rfl; have hfz54_0 := blk_frozen BK272.out 0; have hfz54_1 := blk_frozen BK272.out 1) | ((with_reducible refine gate_callee (f := 17) rfl ?_); refine goesL_ (some 103) rfl rfl Try.func17 (by kernel_rfl) rfl #[.agg #[.slice Ao11 t265.length co11, .slice none 0 0], .slice A0 l0.length c0] rfl (by (try simp only [List.map_toArray, List.map_cons, List.map_nil]); first | done | rfl | (simp only [List.length_drop, List.length_take]; rfl)) ?_; (refine (hash_Valid.calls kj21 _ _ t265 _ _ ([] : List Int) _ _ l0 t289 _ ?side1 ?side2 ?side3 ?side4 ?side5 ?side6 A45.out).mono ?_); (case side1 => repeat (first | exact (Kd.R_reads' HO_273000.out).2.2 | (with_reducible refine Kd.C_alloc ?_ _) | (with_reducible refine Kd.C_drewN ?_ _) | (with_reducible refine Kd.C_drew ?_))); (case side2 => exact (Kd.R_reads' HO_273000.out).2.1); (case side3 => exact Kd.C_nil _ _); (case side4 => exact Nat.le_refl _); (case side5 => repeat (first | exact (Kd.C_below HR0.out HB.out) | (with_reducible refine Kd.C_alloc ?_ _) | (with_reducible refine Kd.C_drewN ?_ _) | (with_reducible refine Kd.C_drew ?_))); (case side6 => exact HC0.out); rintro e w55 ⟨rfl, hb⟩; refine ⟨_, rfl, ?_⟩; have n0_ := Aside0.mk (Kd.R_below (by (with_reducible repeat (first | apply Kd.R_alloc | apply Kd.R_drewN | apply Kd.R_drew)); exact HO_273000.out) hb); have n1_ := Aside0.mk (Kd.R_below (by (with_reducible repeat (first | apply Kd.R_alloc | apply Kd.R_drewN | apply Kd.R_drew)); exact HO_273001.out) hb); have n2_ := Aside0.mk (Kd.R_below (by (with_reducible repeat (first | apply Kd.R_alloc | apply Kd.R_drewN | apply Kd.R_drew)); exact HO_286000.out) hb); have n3_ := Aside0.mk (Kd.R_below (by (with_reducible repeat (first | apply Kd.R_alloc | apply Kd.R_drewN | apply Kd.R_drew)); exact HO_286001.out) hb); have n4_ := Aside0.mk (blk_below (g := gb272) (o := .cells #[.slice Ao11 t265.length co11, .slice Ao13 t268.length co13] 33 (0, 0)) (by (with_reducible repeat (first | refine blk_drewN ?_ _ | refine blk_drew ?_ | refine blk_alloc ?_ _)); exact BK272.out) hb); have n5_ := Aside0.mk (blk_below (g := gb285) (o := .cells #[.slice (some ⟨go43, 0, none⟩) y276.length co35, .slice Ao34 y282.length co34] 33 (0, 0)) (by (with_reducible repeat (first | refine blk_drewN ?_ _ | refine blk_drew ?_ | refine blk_alloc ?_ _)); exact BK285.out) hb); have n6_ := Aside0.mk (below_step (by repeat (first | (with_reducible first | exact HB.out | apply below_alloc | apply pw_below_drewN | apply below_drew1 | refine below_set ?_ GE272.out | refine below_set ?_ GE285.out) | exact HB.out)) hb); clear HO_273000; clear HO_273001; clear HO_286000; clear HO_286001; clear BK272; clear BK285; clear HB; have HO_273000 := n0_; have HO_273001 := n1_; have HO_286000 := n2_; have HO_286001 := n3_; have BK272 := n4_; have BK285 := n5_; have HB := n6_; clear n0_ n1_ n2_ n3_ n4_ n5_ n6_; (try clear hb); (try clear hb2); (try clear hk); (try clear hi)))
                            go_ret
                            exact ⟨by first | rfl | (simp [errW_none, errW_some] <;> rfl) | (simp [*, errW_none, errW_some] <;> rfl), by repeat (first | (with_reducible first | exact HB.out | apply below_alloc | apply pw_below_drewN | apply below_drew1 | refine below_set ?_ GE272.out | refine below_set ?_ GE285.out) | exact HB.out)⟩
                          · rw [if_neg c47] at H
                            have c47b0 : (t288 == ((rd y276 a2) == a3)) = false := by simpa using c47
                            (try (have c47b1 : decide (t288 = ((rd y276 a2) == a3)) = false := by simpa using c47))
                            (try (have c47b2 : (t288 == ((rd y276 a2) == a3)) = false := by simpa using c47))
                            (try (have c47b3 : ¬ (t288 = ((rd y276 a2) == a3)) := by simpa using c47))
                            clear c47
                            exact absurd ((Option.some.inj H).trans HT.out) (by decide)
                        · replace c46 := Bool.eq_false_iff.mpr c46
                          subst c46
                          have H1 : (some false) = some r := by rw [if_neg (show ¬ (false = true) by decide)] at H; exact H
                          clear H
                          have H := H1
                          clear H1
                          exact absurd ((Option.some.inj H).trans HT.out) (by decide)
                      · rw [if_neg c42] at H
                        exact absurd H (by simp)
                    · rw [if_neg c41] at H
                      exact absurd H (by simp)
                  · rw [if_neg c40] at H
                    have c40b0 : decide (a2 < a1) = false := decide_eq_false c40
                    clear c40
                    obtain ⟨ji72, hji72⟩ : ∃ j_ : Int, (wrap64 (a2 - a1)) = j_ := ⟨_, rfl⟩
                    replace H : (if 0 ≤ (ji72) then (if (ji72) < (y282.length : Int) then ((hash_Valid.f kj21 y276 (y282.set ((ji72) : Int).toNat a3) l0).bind fun t292 => ((hash_Valid.f kj21 t265 ([] : List Int) l0).bind fun t293 => (if t264 = true then (if (t292 == ((rd y282 (ji72)) == a3)) = true then (some (t293 == ((l0.length : Int) == 0))) else (some false)) else (some false)))) else (none)) else (none)) = some r := by first | (rw [hji72] at H; exact H) | (simp only [hji72] at H ⊢; exact H)
                    have hji72w : (IntKind.i64.wrap (a2 - a1)) = ji72 := (i64_w _).trans hji72
                    by_cases c73 : 0 ≤ (ji72)
                    · rw [if_pos c73] at H
                      have c73b0 : decide (0 ≤ (ji72)) = true := decide_eq_true c73
                      clear c73
                      by_cases c74 : (ji72) < (y282.length : Int)
                      · rw [if_pos c74] at H
                        have c74b0 : decide ((ji72) < (y282.length : Int)) = true := decide_eq_true c74
                        clear c74
                        obtain ⟨y291, hy291⟩ : ∃ y_ : List Int, y_ = (y282.set ((ji72) : Int).toNat a3) := ⟨_, rfl⟩
                        replace H : ((hash_Valid.f kj21 y276 y291 l0).bind fun t292 => ((hash_Valid.f kj21 t265 ([] : List Int) l0).bind fun t293 => (if t264 = true then (if (t292 == ((rd y282 (ji72)) == a3)) = true then (some (t293 == ((l0.length : Int) == 0))) else (some false)) else (some false)))) = some r := by first | (rw [hy291]; with_reducible exact H) | (have H2_ := (Option.bind_some _ _).symm.trans H; rw [hy291]; with_reducible exact H2_) | (have H2_ := (Option.bind_some _ _).symm.trans H; with_reducible exact H2_) | with_reducible exact H | (rw [hy291]; exact H) | exact H
                        have Ny291 := Aside0.mk hy291
                        clear hy291
                        replace H := Option.bind_eq_some_iff.mp H
                        obtain ⟨t292, A760, H⟩ := H
                        replace H : ((hash_Valid.f kj21 t265 ([] : List Int) l0).bind fun t293 => (if t264 = true then (if (t292 == ((rd y282 (ji72)) == a3)) = true then (some (t293 == ((l0.length : Int) == 0))) else (some false)) else (some false))) = some r := H
                        have A76 := Aside0.mk A760
                        clear A760
                        replace H := Option.bind_eq_some_iff.mp H
                        obtain ⟨t293, A770, H⟩ := H
                        replace H : (if t264 = true then (if (t292 == ((rd y282 (ji72)) == a3)) = true then (some (t293 == ((l0.length : Int) == 0))) else (some false)) else (some false)) = some r := H
                        have A77 := Aside0.mk A770
                        clear A770
                        by_cases c78 : t264 = true
                        · subst c78
                          have H1 : (if (t292 == ((rd y282 (ji72)) == a3)) = true then (some (t293 == ((l0.length : Int) == 0))) else (some false)) = some r := by rw [if_pos rfl] at H; exact H
                          clear H
                          have H := H1
                          clear H1
                          by_cases c79 : (t292 == ((rd y282 (ji72)) == a3)) = true
                          · rw [if_pos c79] at H
                            have c79b0 : (t292 == ((rd y282 (ji72)) == a3)) = true := c79
                            (try (have c79b1 : decide (t292 = ((rd y282 (ji72)) == a3)) = true := by simpa using c79))
                            (try (have c79b2 : (t292 == ((rd y282 (ji72)) == a3)) = true := by simpa using c79))
                            clear c79
                            obtain rfl := Option.some.inj H
                            have hnb80 := NB285_272.out
                            have hnc80 := NB272_285.out
                            have hcz81_0 : wc.cell? ⟨gb285, 0, none⟩ = some (.slice Ao35 y276.length co35) := (blk_cell BK285.out 0).trans rfl
                            have hcz81_1 : wc.cell? ⟨gb285, 1, none⟩ = some (.slice Ao34 y282.length co34) := (blk_cell BK285.out 1).trans rfl
                            have hfz81_0 := blk_frozen BK285.out 0
                            have hfz81_1 := blk_frozen BK285.out 1
                            have p290 : 0 ≤ ((ji72) : Int) := of_decide_eq_true (by first | (with_reducible assumption) | assumption)
                            have q290 : (ji72) < (y282.length : Int) := of_decide_eq_true (by first | (with_reducible assumption) | assumption)
                            obtain ⟨ad290, e290, hx290_0⟩ := Kd.at_int (Kd.R_reads' HO_286001.out).2.2 (ji72) p290 q290
                            cases e290
                            replace p290 := eq_true p290
                            replace q290 := eq_true q290
                            have p75 : 0 ≤ ((ji72) : Int) := of_decide_eq_true (by first | (with_reducible assumption) | assumption)
                            have q75 : ((ji72) : Int) < ((y282.length : Int) : Int) := of_decide_eq_true (by first | (with_reducible assumption) | assumption)
                            obtain ⟨go75, co75, eo75, gb75, gl75, cl75, HG75⟩ := Kd.R_form HO_286001.out (by omega)
                            (first | cases eo75 | (injection eo75 with ea_ en_ ec_; (first | subst ea_ | (injection ea_ with ea_; subst ea_)); subst ec_; clear en_))
                            have GB75 := Aside0.mk gb75
                            have GG75 := Aside0.mk HG75
                            clear gb75 gl75 HG75
                            (first | simp only [add_plain] at hx290_0 | skip)
                            obtain ⟨hx75_0, hf75_0⟩ := Kd.R_celln 0 HO_286001.out ((ji72) : Int) p75 q75
                            replace p75 := eq_true p75
                            replace q75 := eq_true q75
                            have HP82 := Kd.R_putg HO_286001.out ((ji72) : Int) a3
                            go_wp2_with (first | ((with_reducible refine gate_store (t := 3) (p := 95) rfl ?_); refine store_event (t := 3) (p := 95) (v := ?vo_w83) (w1 := (wc.setCell ⟨go75, ((ji72) : Int).toNat, none⟩ (.int .i64 a3))) ?hg ?ho ?hn ?hr ?_; (case ho => rfl); (case hg => rfl); (case hn => rfl); (case hr => first | (go_simp; done) | (go_simp; rfl)); intro w83 hw; have hg : wc.grownBy w83 (some go75) := (by rw [hw]; exact HP82.2); have hp_ : Kd.R (Kd.int .i64) 3 w83 w.heap.size (fun k_ => some k_ ≠ (.slice Ao11 t265.length co11 : Value).ownBlock ∧ some k_ ≠ (.slice Ao13 t268.length co13 : Value).ownBlock ∧ some k_ ≠ (.slice Ao35 y276.length co35 : Value).ownBlock) (.slice (some ⟨go75, 0, none⟩) y282.length co34) y291 := (by rw [hw, Ny291.out]; exact HP82.1); clear HP82; have n0_ := Aside0.mk (Kd.R_after (v := (.slice (some ⟨go75, 0, none⟩) y282.length co34)) (v1 := (.slice (some ⟨go75, 0, none⟩) y282.length co34)) (ok := (fun k_ => some k_ ≠ (.slice Ao13 t268.length co13 : Value).ownBlock ∧ some k_ ≠ (.slice Ao35 y276.length co35 : Value).ownBlock)) (by (with_reducible repeat (first | apply Kd.R_alloc | apply Kd.R_drewN | apply Kd.R_drew)); exact Kd.R_mono HO_273000.out (fun _ hk => ⟨⟨hk.1, hk.2.1⟩, hk.2.2⟩)) hg (.inl rfl)); have n1_ := Aside0.mk (Kd.R_after (v := (.slice (some ⟨go75, 0, none⟩) y282.length co34)) (v1 := (.slice (some ⟨go75, 0, none⟩) y282.length co34)) (ok := (fun k_ => some k_ ≠ (.slice Ao11 t265.length co11 : Value).ownBlock ∧ some k_ ≠ (.slice Ao35 y276.length co35 : Value).ownBlock)) (by (with_reducible repeat (first | apply Kd.R_alloc | apply Kd.R_drewN | apply Kd.R_drew)); exact Kd.R_mono HO_273001.out (fun _ hk => ⟨⟨hk.1, hk.2.1⟩, hk.2.2⟩)) hg (.inl rfl)); have n2_ := Aside0.mk (Kd.R_after (v := (.slice (some ⟨go75, 0, none⟩) y282.length co34)) (v1 := (.slice (some ⟨go75, 0, none⟩) y282.length co34)) (ok := (fun k_ => some k_ ≠ (.slice Ao11 t265.length co11 : Value).ownBlock ∧ some k_ ≠ (.slice Ao13 t268.length co13 : Value).ownBlock)) (by (with_reducible repeat (first | apply Kd.R_alloc | apply Kd.R_drewN | apply Kd.R_drew)); exact Kd.R_mono HO_286000.out (fun _ hk => ⟨⟨hk.1, hk.2.1⟩, hk.2.2⟩)) hg (.inl rfl)); have n3_ := Aside0.mk (hp_); have n4_ := Aside0.mk (blk_grown (g := gb272) (o := .cells #[.slice Ao11 t265.length co11, .slice Ao13 t268.length co13] 33 (0, 0)) (by (with_reducible repeat (first | refine blk_drewN ?_ _ | refine blk_drew ?_ | refine blk_alloc ?_ _)); exact BK272.out) hg (Kd.R_ne HO_286001.out BK272.out (by decide))); have n5_ := Aside0.mk (blk_grown (g := gb285) (o := .cells #[.slice Ao35 y276.length co35, .slice (some ⟨go75, 0, none⟩) y282.length co34] 33 (0, 0)) (by (with_reducible repeat (first | refine blk_drewN ?_ _ | refine blk_drew ?_ | refine blk_alloc ?_ _)); exact BK285.out) hg (Kd.R_ne HO_286001.out BK285.out (by decide))); have n6_ := Aside0.mk ((by rw [hw]; exact below_set (HB.out) GB75.out : Below w.heap.size w w83)); clear HO_273000; clear HO_273001; clear HO_286000; clear HO_286001; clear BK272; clear BK285; clear HB; have HO_273000 := n0_; have HO_273001 := n1_; have HO_286000 := n2_; have HO_286001 := n3_; have BK272 := n4_; have BK285 := n5_; have HB := n6_; clear n0_ n1_ n2_ n3_ n4_ n5_ n6_; clear hg hw hp_; have hcz84_0 : w83.cell? ⟨gb285, 0, none⟩ = some (.slice Ao35 y276.length co35) := (blk_cell BK285.out 0).trans rfl; have hcz84_1 : w83.cell? ⟨gb285, 1, none⟩ = some (.slice (some ⟨go75, 0, none⟩) y282.length co34) := (blk_cell BK285.out 1).trans rfl; have hfz84_0 := blk_frozen BK285.out 0; have hfz84_1 := blk_frozen BK285.out 1) | ((with_reducible refine gate_callee (f := 17) rfl ?_); refine goesL_ (some 98) rfl rfl Try.func17 (by kernel_rfl) rfl #[.agg #[.slice Ao35 y276.length co35, .slice (some ⟨go75, 0, none⟩) y291.length co34], .slice A0 l0.length c0] rfl (by (try simp only [List.map_toArray, List.map_cons, List.map_nil]); first | done | (rw [show y291.length = y282.length from (Kd.R_reads' HO_286001.out).1.symm] <;> rfl) | rfl | (simp only [List.length_drop, List.length_take]; rfl)) ?_; (with_reducible refine (hash_Valid.calls kj21 _ _ y276 _ _ y291 _ _ l0 t292 _ ?side1 ?side2 ?side3 ?side4 ?side5 ?side6 A76.out).mono ?_); (case side1 => repeat (first | exact (Kd.R_reads' HO_286000.out).2.2 | (with_reducible refine Kd.C_alloc ?_ _) | (with_reducible refine Kd.C_drewN ?_ _) | (with_reducible refine Kd.C_drew ?_))); (case side2 => exact (Kd.R_reads' HO_286000.out).2.1); (case side3 => repeat (first | exact (Kd.R_reads' HO_286001.out).2.2 | (with_reducible refine Kd.C_alloc ?_ _) | (with_reducible refine Kd.C_drewN ?_ _) | (with_reducible refine Kd.C_drew ?_))); (case side4 => rw [show y291.length = y282.length from (Kd.R_reads' HO_286001.out).1.symm]; exact (Kd.R_reads' HO_286001.out).2.1); (case side5 => repeat (first | exact (Kd.C_below HR0.out HB.out) | (with_reducible refine Kd.C_alloc ?_ _) | (with_reducible refine Kd.C_drewN ?_ _) | (with_reducible refine Kd.C_drew ?_))); (case side6 => exact HC0.out); rintro e w85 ⟨rfl, hb⟩; refine ⟨_, rfl, ?_⟩; have n0_ := Aside0.mk (Kd.R_below (by (with_reducible repeat (first | apply Kd.R_alloc | apply Kd.R_drewN | apply Kd.R_drew)); exact HO_273000.out) hb); have n1_ := Aside0.mk (Kd.R_below (by (with_reducible repeat (first | apply Kd.R_alloc | apply Kd.R_drewN | apply Kd.R_drew)); exact HO_273001.out) hb); have n2_ := Aside0.mk (Kd.R_below (by (with_reducible repeat (first | apply Kd.R_alloc | apply Kd.R_drewN | apply Kd.R_drew)); exact HO_286000.out) hb); have n3_ := Aside0.mk (Kd.R_below (by (with_reducible repeat (first | apply Kd.R_alloc | apply Kd.R_drewN | apply Kd.R_drew)); exact HO_286001.out) hb); have n4_ := Aside0.mk (blk_below (g := gb272) (o := .cells #[.slice Ao11 t265.length co11, .slice Ao13 t268.length co13] 33 (0, 0)) (by (with_reducible repeat (first | refine blk_drewN ?_ _ | refine blk_drew ?_ | refine blk_alloc ?_ _)); exact BK272.out) hb); have n5_ := Aside0.mk (blk_below (g := gb285) (o := .cells #[.slice Ao35 y276.length co35, .slice (some ⟨go75, 0, none⟩) y282.length co34] 33 (0, 0)) (by (with_reducible repeat (first | refine blk_drewN ?_ _ | refine blk_drew ?_ | refine blk_alloc ?_ _)); exact BK285.out) hb); have n6_ := Aside0.mk (below_step (by repeat (first | (with_reducible first | exact HB.out | apply below_alloc | apply pw_below_drewN | apply below_drew1 | refine below_set ?_ GE272.out | refine below_set ?_ GE285.out) | exact HB.out)) hb); clear HO_273000; clear HO_273001; clear HO_286000; clear HO_286001; clear BK272; clear BK285; clear HB; have HO_273000 := n0_; have HO_273001 := n1_; have HO_286000 := n2_; have HO_286001 := n3_; have BK272 := n4_; have BK285 := n5_; have HB := n6_; clear n0_ n1_ n2_ n3_ n4_ n5_ n6_; (try clear hb); (try clear hb2); (try clear hk); (try clear hi); have hcz86_0 : w85.cell? ⟨gb272, 0, none⟩ = some (.slice Ao11 t265.length co11) := (blk_cell BK272.out 0).trans rfl; have hcz86_1 : w85.cell? ⟨gb272, 1, none⟩ = some (.slice Ao13 t268.length co13) := (blk_cell BK272.out 1).trans rfl; have hfz86_0 := blk_frozen BK272.out 0; have hfz86_1 := blk_frozen BK272.out 1) | ((with_reducible refine gate_callee (f := 17) rfl ?_); refine goesL_ (some 103) rfl rfl Try.func17 (by kernel_rfl) rfl #[.agg #[.slice Ao11 t265.length co11, .slice none 0 0], .slice A0 l0.length c0] rfl (by (try simp only [List.map_toArray, List.map_cons, List.map_nil]); first | done | rfl | (simp only [List.length_drop, List.length_take]; rfl)) ?_; (refine (hash_Valid.calls kj21 _ _ t265 _ _ ([] : List Int) _ _ l0 t293 _ ?side1 ?side2 ?side3 ?side4 ?side5 ?side6 A77.out).mono ?_); (case side1 => repeat (first | exact (Kd.R_reads' HO_273000.out).2.2 | (with_reducible refine Kd.C_alloc ?_ _) | (with_reducible refine Kd.C_drewN ?_ _) | (with_reducible refine Kd.C_drew ?_))); (case side2 => exact (Kd.R_reads' HO_273000.out).2.1); (case side3 => exact Kd.C_nil _ _); (case side4 => exact Nat.le_refl _); (case side5 => repeat (first | exact (Kd.C_below HR0.out HB.out) | (with_reducible refine Kd.C_alloc ?_ _) | (with_reducible refine Kd.C_drewN ?_ _) | (with_reducible refine Kd.C_drew ?_))); (case side6 => exact HC0.out); rintro e w87 ⟨rfl, hb⟩; refine ⟨_, rfl, ?_⟩; have n0_ := Aside0.mk (Kd.R_below (by (with_reducible repeat (first | apply Kd.R_alloc | apply Kd.R_drewN | apply Kd.R_drew)); exact HO_273000.out) hb); have n1_ := Aside0.mk (Kd.R_below (by (with_reducible repeat (first | apply Kd.R_alloc | apply Kd.R_drewN | apply Kd.R_drew)); exact HO_273001.out) hb); have n2_ := Aside0.mk (Kd.R_below (by (with_reducible repeat (first | apply Kd.R_alloc | apply Kd.R_drewN | apply Kd.R_drew)); exact HO_286000.out) hb); have n3_ := Aside0.mk (Kd.R_below (by (with_reducible repeat (first | apply Kd.R_alloc | apply Kd.R_drewN | apply Kd.R_drew)); exact HO_286001.out) hb); have n4_ := Aside0.mk (blk_below (g := gb272) (o := .cells #[.slice Ao11 t265.length co11, .slice Ao13 t268.length co13] 33 (0, 0)) (by (with_reducible repeat (first | refine blk_drewN ?_ _ | refine blk_drew ?_ | refine blk_alloc ?_ _)); exact BK272.out) hb); have n5_ := Aside0.mk (blk_below (g := gb285) (o := .cells #[.slice Ao35 y276.length co35, .slice (some ⟨go75, 0, none⟩) y282.length co34] 33 (0, 0)) (by (with_reducible repeat (first | refine blk_drewN ?_ _ | refine blk_drew ?_ | refine blk_alloc ?_ _)); exact BK285.out) hb); have n6_ := Aside0.mk (below_step (by repeat (first | (with_reducible first | exact HB.out | apply below_alloc | apply pw_below_drewN | apply below_drew1 | refine below_set ?_ GE272.out | refine below_set ?_ GE285.out) | exact HB.out)) hb); clear HO_273000; clear HO_273001; clear HO_286000; clear HO_286001; clear BK272; clear BK285; clear HB; have HO_273000 := n0_; have HO_273001 := n1_; have HO_286000 := n2_; have HO_286001 := n3_; have BK272 := n4_; have BK285 := n5_; have HB := n6_; clear n0_ n1_ n2_ n3_ n4_ n5_ n6_; (try clear hb); (try clear hb2); (try clear hk); (try clear hi)))
                            go_ret
                            exact ⟨by first | rfl | (simp [errW_none, errW_some] <;> rfl) | (simp only [← hji72]; first | rfl | (simp [errW_none, errW_some] <;> rfl)) | (simp [*, errW_none, errW_some] <;> rfl), by repeat (first | (with_reducible first | exact HB.out | apply below_alloc | apply pw_below_drewN | apply below_drew1 | refine below_set ?_ GE272.out | refine below_set ?_ GE285.out) | exact HB.out)⟩
                          · rw [if_neg c79] at H
                            have c79b0 : (t292 == ((rd y282 (ji72)) == a3)) = false := by simpa using c79
                            (try (have c79b1 : decide (t292 = ((rd y282 (ji72)) == a3)) = false := by simpa using c79))
                            (try (have c79b2 : (t292 == ((rd y282 (ji72)) == a3)) = false := by simpa using c79))
                            (try (have c79b3 : ¬ (t292 = ((rd y282 (ji72)) == a3)) := by simpa using c79))
                            clear c79
                            exact absurd ((Option.some.inj H).trans HT.out) (by decide)
                        · replace c78 := Bool.eq_false_iff.mpr c78
                          subst c78
                          have H1 : (some false) = some r := by rw [if_neg (show ¬ (false = true) by decide)] at H; exact H
                          clear H
                          have H := H1
                          clear H1
                          exact absurd ((Option.some.inj H).trans HT.out) (by decide)
                      · rw [if_neg c74] at H
                        exact absurd H (by simp)
                    · rw [if_neg c73] at H
                      exact absurd H (by simp)
          · rw [if_neg c21] at H
            exact absurd H (by simp)
        · rw [if_neg c20] at H
          exact absurd H (by simp)

end Go.Proofs.Ytcoknhomlbbimaa.P
