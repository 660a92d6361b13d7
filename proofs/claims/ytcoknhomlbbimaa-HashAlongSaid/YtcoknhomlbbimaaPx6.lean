/- What functions of the program, and of its laws, give, each proved of its code by a walk; no condition. -/
import Derived.Test.YtcoknhomlbbimaaPx0
import Derived.Test.YtcoknhomlbbimaaPx1
import Derived.Test.YtcoknhomlbbimaaPx2
import Derived.Test.YtcoknhomlbbimaaPx4
namespace Go.Proofs.Ytcoknhomlbbimaa.P
open Go.RowKit Go.Proofs.YtcoknhomlbbimaaW.PrintWords Go.Proofs.YtcoknhomlbbimaaW.PrintLast Go.Proofs.YtcoknhomlbbimaaW.PrintMore
attribute [local go_sem] max2_int min2_int max_two min_two max_three min_three max_four min_four   -- for this text's walks alone
set_option linter.unusedVariables false
set_option linter.unusedSimpArgs false

/-! ### curtilagelaw12_HashAlong: function 5 -/
mutual
def curtilagelaw12_HashAlong.j0 : Nat → List (S24) → Int → Bool → Bool → List Int → List Int → Option (Bool)
  | 0, _, _, _, _, _, _ => none
  | k + 1, x0, x1, x5, x51, x173000, x173001 => if x51 = true then (some false) else (curtilagelaw12_HashAlong.l0 k x0 x1 x5 0 0 x173000 x173001)
def curtilagelaw12_HashAlong.l0 : Nat → List (S24) → Int → Bool → Int → Int → List Int → List Int → Option (Bool)
  | 0, _, _, _, _, _, _, _ => none
  | k + 1, x0, x1, x5, x8, x9, x173000, x173001 => if x9 < (x0.length : Int) then (if 0 ≤ x9 then ((hash_Shown.f ((rd_T24 x0 x9).f0) ((rd_T24 x0 x9).f1) ((rd_T24 x0 x9).f2) ((rd_T24 x0 x9).f3) ((rd_T24 x0 x9).f4) ((rd_T24 x0 x9).f5) ((rd_T24 x0 x9).f6) ((rd_T24 x0 x9).f7)).bind fun t174 => (if t174 = true then (curtilagelaw12_HashAlong.l0 k x0 x1 x5 (wrap64 (x8 + 1)) (wrap64 (x9 + 1)) x173000 x173001) else (curtilagelaw12_HashAlong.l0 k x0 x1 x5 x8 (wrap64 (x9 + 1)) x173000 x173001))) else (none)) else (curtilagelaw12_HashAlong.l1 k x0 x1 x5 x8 0 0 x173000 x173001)
def curtilagelaw12_HashAlong.l1 : Nat → List (S24) → Int → Bool → Int → Int → Int → List Int → List Int → Option (Bool)
  | 0, _, _, _, _, _, _, _, _ => none
  | k + 1, x0, x1, x5, x8, x11, x12, x173000, x173001 => if x12 < x1 then (if 0 ≤ x12 then (if x12 < (x173000.length : Int) then (curtilagelaw12_HashAlong.l2 k x0 x1 x5 x8 x11 x12 (rd x173000 x12) x173000 x173001) else (none)) else (none)) else (if x5 = true then (some (x11 == x8)) else (some false))
def curtilagelaw12_HashAlong.l2 : Nat → List (S24) → Int → Bool → Int → Int → Int → Int → List Int → List Int → Option (Bool)
  | 0, _, _, _, _, _, _, _, _, _ => none
  | k + 1, x0, x1, x5, x8, x11, x12, x13, x173000, x173001 => if x13 = 0 then (curtilagelaw12_HashAlong.l1 k x0 x1 x5 x8 x11 (wrap64 (x12 + 1)) x173000 x173001) else (if x13 < 0 then (curtilagelaw12_HashAlong.j4 k x0 x1 x5 x8 x11 x12 x13 true x173000 x173001) else (if x13 > (x0.length : Int) then (curtilagelaw12_HashAlong.j4 k x0 x1 x5 x8 x11 x12 x13 true x173000 x173001) else (curtilagelaw12_HashAlong.j4 k x0 x1 x5 x8 x11 x12 x13 (decide (x11 > 40)) x173000 x173001)))
def curtilagelaw12_HashAlong.j4 : Nat → List (S24) → Int → Bool → Int → Int → Int → Int → Bool → List Int → List Int → Option (Bool)
  | 0, _, _, _, _, _, _, _, _, _, _ => none
  | k + 1, x0, x1, x5, x8, x11, x12, x13, x89, x173000, x173001 => if x89 = true then (some false) else (if 0 ≤ (wrap64 (x13 - 1)) then (if (wrap64 (x13 - 1)) < (x0.length : Int) then ((hash_Of.f ((rd_T24 x0 (wrap64 (x13 - 1))).f0)).bind fun t177 => ((hash_Shown.f ((rd_T24 x0 (wrap64 (x13 - 1))).f0) ((rd_T24 x0 (wrap64 (x13 - 1))).f1) ((rd_T24 x0 (wrap64 (x13 - 1))).f2) ((rd_T24 x0 (wrap64 (x13 - 1))).f3) ((rd_T24 x0 (wrap64 (x13 - 1))).f4) ((rd_T24 x0 (wrap64 (x13 - 1))).f5) ((rd_T24 x0 (wrap64 (x13 - 1))).f6) ((rd_T24 x0 (wrap64 (x13 - 1))).f7)).bind fun t179 => (if t179 = true then (if ((x1) % 4294967296) = 0 then (none) else (if (wrap64 (Int.tmod t177 ((x1) % 4294967296))) = x12 then (if (wrap64 (x13 - 1)) < (x173001.length : Int) then (if (rd x173001 (wrap64 (x13 - 1))) = 0 then (curtilagelaw12_HashAlong.l2 k x0 x1 x5 x8 (wrap64 (x11 + 1)) x12 (rd x173001 (wrap64 (x13 - 1))) x173000 x173001) else (if (rd x173001 (wrap64 (x13 - 1))) ≤ x13 then (some false) else (curtilagelaw12_HashAlong.l2 k x0 x1 x5 x8 (wrap64 (x11 + 1)) x12 (rd x173001 (wrap64 (x13 - 1))) x173000 x173001))) else (none)) else (some false))) else (some false)))) else (none)) else (none))
end
def curtilagelaw12_HashAlong.f (k : Nat) (l0 : List (S24)) (a1 : Int) : Option (Bool) := (curtilagelaw12_awake.f k).bind fun t164 => ((hash_Make.f l0 a1).bind fun bt165 => (if bt165.2.2 = 0 then (if (bt165.1.length : Int) = a1 then (curtilagelaw12_HashAlong.j0 k l0 a1 t164 ((bt165.2.1.length : Int) != (l0.length : Int)) bt165.1 bt165.2.1) else (curtilagelaw12_HashAlong.j0 k l0 a1 t164 true bt165.1 bt165.2.1)) else (if t164 = true then (if a1 < 1 then (some true) else (if a1 > 64 then (some true) else (some (decide ((l0.length : Int) > 40))))) else (some false))))
theorem curtilagelaw12_HashAlong.mono_l : ∀ k, (∀ y0 y1 y2 y3 y4 y5, LeO (curtilagelaw12_HashAlong.j0 k y0 y1 y2 y3 y4 y5) (curtilagelaw12_HashAlong.j0 (k + 1) y0 y1 y2 y3 y4 y5)) ∧ (∀ y0 y1 y2 y3 y4 y5 y6, LeO (curtilagelaw12_HashAlong.l0 k y0 y1 y2 y3 y4 y5 y6) (curtilagelaw12_HashAlong.l0 (k + 1) y0 y1 y2 y3 y4 y5 y6)) ∧ (∀ y0 y1 y2 y3 y4 y5 y6 y7, LeO (curtilagelaw12_HashAlong.l1 k y0 y1 y2 y3 y4 y5 y6 y7) (curtilagelaw12_HashAlong.l1 (k + 1) y0 y1 y2 y3 y4 y5 y6 y7)) ∧ (∀ y0 y1 y2 y3 y4 y5 y6 y7 y8, LeO (curtilagelaw12_HashAlong.l2 k y0 y1 y2 y3 y4 y5 y6 y7 y8) (curtilagelaw12_HashAlong.l2 (k + 1) y0 y1 y2 y3 y4 y5 y6 y7 y8)) ∧ (∀ y0 y1 y2 y3 y4 y5 y6 y7 y8 y9, LeO (curtilagelaw12_HashAlong.j4 k y0 y1 y2 y3 y4 y5 y6 y7 y8 y9) (curtilagelaw12_HashAlong.j4 (k + 1) y0 y1 y2 y3 y4 y5 y6 y7 y8 y9))
  | 0 => ⟨fun _ _ _ _ _ _ r h => by simp [curtilagelaw12_HashAlong.j0] at h, fun _ _ _ _ _ _ _ r h => by simp [curtilagelaw12_HashAlong.l0] at h, fun _ _ _ _ _ _ _ _ r h => by simp [curtilagelaw12_HashAlong.l1] at h, fun _ _ _ _ _ _ _ _ _ r h => by simp [curtilagelaw12_HashAlong.l2] at h, fun _ _ _ _ _ _ _ _ _ _ r h => by simp [curtilagelaw12_HashAlong.j4] at h⟩
  | k + 1 => by
    obtain ⟨ih0, ih1, ih2, ih3, ih4⟩ := curtilagelaw12_HashAlong.mono_l k
    refine ⟨?_, ?_, ?_, ?_, ?_⟩
    · intro y0 y1 y2 y3 y4 y5
      unfold curtilagelaw12_HashAlong.j0
      repeat' first
      | (with_reducible exact ih0 _ _ _ _ _ _)
      | (with_reducible exact ih1 _ _ _ _ _ _ _)
      | (with_reducible exact ih2 _ _ _ _ _ _ _ _)
      | (with_reducible exact ih3 _ _ _ _ _ _ _ _ _)
      | (with_reducible exact ih4 _ _ _ _ _ _ _ _ _ _)
      | (with_reducible exact curtilagelaw12_awake.mono _)
      | (with_reducible exact LeO.refl _)
      | (with_reducible exact LeO.none _)
      | (with_reducible refine LeO.ite ?_ ?_)
      | (with_reducible refine LeO.bind ?_ (fun _ => ?_))
      | exact ih0 _ _ _ _ _ _
      | exact ih1 _ _ _ _ _ _ _
      | exact ih2 _ _ _ _ _ _ _ _
      | exact ih3 _ _ _ _ _ _ _ _ _
      | exact ih4 _ _ _ _ _ _ _ _ _ _
      | exact curtilagelaw12_awake.mono _
      | exact LeO.none _
      | refine LeO.ite ?_ ?_
      | refine LeO.bind ?_ (fun _ => ?_)
    · intro y0 y1 y2 y3 y4 y5 y6
      unfold curtilagelaw12_HashAlong.l0
      repeat' first
      | (with_reducible exact ih0 _ _ _ _ _ _)
      | (with_reducible exact ih1 _ _ _ _ _ _ _)
      | (with_reducible exact ih2 _ _ _ _ _ _ _ _)
      | (with_reducible exact ih3 _ _ _ _ _ _ _ _ _)
      | (with_reducible exact ih4 _ _ _ _ _ _ _ _ _ _)
      | (with_reducible exact curtilagelaw12_awake.mono _)
      | (with_reducible exact LeO.refl _)
      | (with_reducible exact LeO.none _)
      | (with_reducible refine LeO.ite ?_ ?_)
      | (with_reducible refine LeO.bind ?_ (fun _ => ?_))
      | exact ih0 _ _ _ _ _ _
      | exact ih1 _ _ _ _ _ _ _
      | exact ih2 _ _ _ _ _ _ _ _
      | exact ih3 _ _ _ _ _ _ _ _ _
      | exact ih4 _ _ _ _ _ _ _ _ _ _
      | exact curtilagelaw12_awake.mono _
      | exact LeO.none _
      | refine LeO.ite ?_ ?_
      | refine LeO.bind ?_ (fun _ => ?_)
    · intro y0 y1 y2 y3 y4 y5 y6 y7
      unfold curtilagelaw12_HashAlong.l1
      repeat' first
      | (with_reducible exact ih0 _ _ _ _ _ _)
      | (with_reducible exact ih1 _ _ _ _ _ _ _)
      | (with_reducible exact ih2 _ _ _ _ _ _ _ _)
      | (with_reducible exact ih3 _ _ _ _ _ _ _ _ _)
      | (with_reducible exact ih4 _ _ _ _ _ _ _ _ _ _)
      | (with_reducible exact curtilagelaw12_awake.mono _)
      | (with_reducible exact LeO.refl _)
      | (with_reducible exact LeO.none _)
      | (with_reducible refine LeO.ite ?_ ?_)
      | (with_reducible refine LeO.bind ?_ (fun _ => ?_))
      | exact ih0 _ _ _ _ _ _
      | exact ih1 _ _ _ _ _ _ _
      | exact ih2 _ _ _ _ _ _ _ _
      | exact ih3 _ _ _ _ _ _ _ _ _
      | exact ih4 _ _ _ _ _ _ _ _ _ _
      | exact curtilagelaw12_awake.mono _
      | exact LeO.none _
      | refine LeO.ite ?_ ?_
      | refine LeO.bind ?_ (fun _ => ?_)
    · intro y0 y1 y2 y3 y4 y5 y6 y7 y8
      unfold curtilagelaw12_HashAlong.l2
      repeat' first
      | (with_reducible exact ih0 _ _ _ _ _ _)
      | (with_reducible exact ih1 _ _ _ _ _ _ _)
      | (with_reducible exact ih2 _ _ _ _ _ _ _ _)
      | (with_reducible exact ih3 _ _ _ _ _ _ _ _ _)
      | (with_reducible exact ih4 _ _ _ _ _ _ _ _ _ _)
      | (with_reducible exact curtilagelaw12_awake.mono _)
      | (with_reducible exact LeO.refl _)
      | (with_reducible exact LeO.none _)
      | (with_reducible refine LeO.ite ?_ ?_)
      | (with_reducible refine LeO.bind ?_ (fun _ => ?_))
      | exact ih0 _ _ _ _ _ _
      | exact ih1 _ _ _ _ _ _ _
      | exact ih2 _ _ _ _ _ _ _ _
      | exact ih3 _ _ _ _ _ _ _ _ _
      | exact ih4 _ _ _ _ _ _ _ _ _ _
      | exact curtilagelaw12_awake.mono _
      | exact LeO.none _
      | refine LeO.ite ?_ ?_
      | refine LeO.bind ?_ (fun _ => ?_)
    · intro y0 y1 y2 y3 y4 y5 y6 y7 y8 y9
      unfold curtilagelaw12_HashAlong.j4
      repeat' first
      | (with_reducible exact ih0 _ _ _ _ _ _)
      | (with_reducible exact ih1 _ _ _ _ _ _ _)
      | (with_reducible exact ih2 _ _ _ _ _ _ _ _)
      | (with_reducible exact ih3 _ _ _ _ _ _ _ _ _)
      | (with_reducible exact ih4 _ _ _ _ _ _ _ _ _ _)
      | (with_reducible exact curtilagelaw12_awake.mono _)
      | (with_reducible exact LeO.refl _)
      | (with_reducible exact LeO.none _)
      | (with_reducible refine LeO.ite ?_ ?_)
      | (with_reducible refine LeO.bind ?_ (fun _ => ?_))
      | exact ih0 _ _ _ _ _ _
      | exact ih1 _ _ _ _ _ _ _
      | exact ih2 _ _ _ _ _ _ _ _
      | exact ih3 _ _ _ _ _ _ _ _ _
      | exact ih4 _ _ _ _ _ _ _ _ _ _
      | exact curtilagelaw12_awake.mono _
      | exact LeO.none _
      | refine LeO.ite ?_ ?_
      | refine LeO.bind ?_ (fun _ => ?_)
theorem curtilagelaw12_HashAlong.mono : ∀ a0 a1 k, LeO (curtilagelaw12_HashAlong.f k a0 a1) (curtilagelaw12_HashAlong.f (k + 1) a0 a1) := by
  intro a0 a1 k
  obtain ⟨ih0, ih1, ih2, ih3, ih4⟩ := curtilagelaw12_HashAlong.mono_l k
  unfold curtilagelaw12_HashAlong.f
  repeat' first
      | (with_reducible exact ih0 _ _ _ _ _ _)
      | (with_reducible exact ih1 _ _ _ _ _ _ _)
      | (with_reducible exact ih2 _ _ _ _ _ _ _ _)
      | (with_reducible exact ih3 _ _ _ _ _ _ _ _ _)
      | (with_reducible exact ih4 _ _ _ _ _ _ _ _ _ _)
      | (with_reducible exact curtilagelaw12_awake.mono _)
      | (with_reducible exact LeO.refl _)
      | (with_reducible exact LeO.none _)
      | (with_reducible refine LeO.ite ?_ ?_)
      | (with_reducible refine LeO.bind ?_ (fun _ => ?_))
      | exact ih0 _ _ _ _ _ _
      | exact ih1 _ _ _ _ _ _ _
      | exact ih2 _ _ _ _ _ _ _ _
      | exact ih3 _ _ _ _ _ _ _ _ _
      | exact ih4 _ _ _ _ _ _ _ _ _ _
      | exact curtilagelaw12_awake.mono _
      | exact LeO.none _
      | refine LeO.ite ?_ ?_
      | refine LeO.bind ?_ (fun _ => ?_)
set_option maxHeartbeats 8000000 in
set_option maxRecDepth 100000 in
theorem curtilagelaw12_HashAlong.calls (k : Nat) (A0 : Option Addr) (c0 : Nat) (l0 : List (S24)) (a1 : Int) (r : Bool) (w : World) (hr0 : Kd.C k24 w A0 l0.length l0) (hc0 : l0.length ≤ c0) (h : curtilagelaw12_HashAlong.f k l0 a1 = some r) :
    Calls Try.prog 5 #[.slice A0 l0.length c0, .int .i64 a1] w fun e w' => e = .returned (.bool r) ∧ Below w.heap.size w w' := by
  have hu33 := Try.underlying33
  have hu24 := Try.underlying24
  have HR0 := Aside0.mk hr0
  have HC0 := Aside0.mk hc0
  clear hr0 hc0
  have HB := Aside0.mk (Below.refl w.heap.size w)
  have H : ((curtilagelaw12_awake.f k).bind fun t164 => ((hash_Make.f l0 a1).bind fun bt165 => (if bt165.2.2 = 0 then (if (bt165.1.length : Int) = a1 then (curtilagelaw12_HashAlong.j0 k l0 a1 t164 ((bt165.2.1.length : Int) != (l0.length : Int)) bt165.1 bt165.2.1) else (curtilagelaw12_HashAlong.j0 k l0 a1 t164 true bt165.1 bt165.2.1)) else (if t164 = true then (if a1 < 1 then (some true) else (if a1 > 64 then (some true) else (some (decide ((l0.length : Int) > 40))))) else (some false))))) = some r := h
  clear h
  replace H := Option.bind_eq_some_iff.mp H
  obtain ⟨t164, A30, H⟩ := H
  replace H : ((hash_Make.f l0 a1).bind fun bt165 => (if bt165.2.2 = 0 then (if (bt165.1.length : Int) = a1 then (curtilagelaw12_HashAlong.j0 k l0 a1 t164 ((bt165.2.1.length : Int) != (l0.length : Int)) bt165.1 bt165.2.1) else (curtilagelaw12_HashAlong.j0 k l0 a1 t164 true bt165.1 bt165.2.1)) else (if t164 = true then (if a1 < 1 then (some true) else (if a1 > 64 then (some true) else (some (decide ((l0.length : Int) > 40))))) else (some false)))) = some r := H
  have A3 := Aside0.mk A30
  clear A30
  replace H := Option.bind_eq_some_iff.mp H
  obtain ⟨⟨t165, t168, t171⟩, A40, H⟩ := H
  replace H : (if t171 = 0 then (if (t165.length : Int) = a1 then (curtilagelaw12_HashAlong.j0 k l0 a1 t164 ((t168.length : Int) != (l0.length : Int)) t165 t168) else (curtilagelaw12_HashAlong.j0 k l0 a1 t164 true t165 t168)) else (if t164 = true then (if a1 < 1 then (some true) else (if a1 > 64 then (some true) else (some (decide ((l0.length : Int) > 40))))) else (some false))) = some r := H
  have A4 := Aside0.mk A40
  clear A40
  by_cases c5 : t171 = 0
  · rw [if_pos c5] at H
    have c5b0 : (t171 == 0) = true := beq_iff_eq.mpr c5
    have c5b1 : (t171 != 0) = false := bne_eq_false_iff_eq.mpr c5
    clear c5
    have HC6 := Aside0.mk H
    clear H
    go_enter Try.func5, Try.ntmps5
    go_upto_region 5 with (first | ((with_reducible refine gate_callee (f := 9) rfl ?_); refine goesL_ (some 16) rfl rfl Try.func9 (by kernel_rfl) rfl #[] rfl (by (try simp only [List.map_toArray, List.map_cons, List.map_nil]); first | done | rfl | (simp only [List.length_drop, List.length_take]; rfl)) ?_; (with_reducible refine (curtilagelaw12_awake.calls k  t164 _ A3.out).mono ?_); rintro e w7 ⟨rfl, hb⟩; refine ⟨_, rfl, ?_⟩; have n0_ := Aside0.mk (below_step (by repeat (first | (with_reducible first | exact HB.out | apply below_alloc | apply pw_below_drewN | apply below_drew1) | exact HB.out)) hb); clear HB; have HB := n0_; clear n0_; (try clear hb); (try clear hb2); (try clear hk); (try clear hi)) | ((with_reducible refine gate_callee (f := 14) rfl ?_); refine goesL_ (some 20) rfl rfl Try.func14 (by kernel_rfl) rfl #[.slice A0 l0.length c0, .int .i64 a1] rfl (by (try simp only [List.map_toArray, List.map_cons, List.map_nil]); first | done | rfl | (simp only [List.length_drop, List.length_take]; rfl)) ?_; (with_reducible refine (hash_Make.calls _ _ l0 a1 t165 t168 t171 _ ?side1 ?side2 A4.out).mono ?_); (case side1 => repeat (first | exact (Kd.C_below HR0.out HB.out) | (with_reducible refine Kd.C_alloc ?_ _) | (with_reducible refine Kd.C_drewN ?_ _) | (with_reducible refine Kd.C_drew ?_))); (case side2 => exact HC0.out); rintro e w8 ⟨v166, v169, rfl, ho0, ho1, hb⟩; refine ⟨_, rfl, ?_⟩; have n0_ := Aside0.mk (Kd.R_lower ho0 (below_size (by repeat (first | (with_reducible first | exact HB.out | apply below_alloc | apply pw_below_drewN | apply below_drew1) | exact HB.out)))); have n1_ := Aside0.mk (Kd.R_lower ho1 (below_size (by repeat (first | (with_reducible first | exact HB.out | apply below_alloc | apply pw_below_drewN | apply below_drew1) | exact HB.out)))); have n2_ := Aside0.mk (below_step (by repeat (first | (with_reducible first | exact HB.out | apply below_alloc | apply pw_below_drewN | apply below_drew1) | exact HB.out)) hb); clear HB; have HO167 := n0_; have HO170 := n1_; have HB := n2_; clear n0_ n1_ n2_; (try clear hb); (try clear hb2); (try clear hk); (try clear hi); (try clear ho0); (try clear ho1)) | ((with_reducible refine gate_dst (N := 6) rfl ?_); (try (refine gate_guard (by rfl) ?_; dsimp only)); refine box_event ?hg (N := 6) ?hd (cs := #[.slice none 0 0, .slice none 0 0]) (t := 33) ?hr ?_; (case hd => rfl); (case hg => rfl); (case hr => first | (go_simp; done) | (go_simp; rfl)); intro gb172 hg w9 hbox hb; have n0_ := Aside0.mk (Kd.R_below (by (with_reducible repeat (first | apply Kd.R_alloc | apply Kd.R_drewN | apply Kd.R_drew)); exact HO167.out) hb); have n1_ := Aside0.mk (Kd.R_below (by (with_reducible repeat (first | apply Kd.R_alloc | apply Kd.R_drewN | apply Kd.R_drew)); exact HO170.out) hb); have n2_ := Aside0.mk (below_step (by repeat (first | (with_reducible first | exact HB.out | apply below_alloc | apply pw_below_drewN | apply below_drew1) | exact HB.out)) hb); have n3_ := Aside0.mk (hbox); have n4_ := Aside0.mk ((by rw [hg]; exact (below_size (by repeat (first | (with_reducible first | exact HB.out | apply below_alloc | apply pw_below_drewN | apply below_drew1) | exact HB.out))) : w.heap.size ≤ gb172)); have n5_ := Aside0.mk ((by rw [hg]; exact (below_size (by repeat (first | (with_reducible first | exact HB.out | apply below_alloc | apply pw_below_drewN | apply below_drew1) | exact HB.out))) : w.heap.size ≤ gb172)); clear HO167; clear HO170; clear HB; have HO167 := n0_; have HO170 := n1_; have HB := n2_; have BK172 := n3_; have GW172 := n4_; have GE172 := n5_; clear n0_ n1_ n2_ n3_ n4_ n5_; clear hb hbox hg; obtain ⟨Ao10, co10, eo10⟩ := Kd.R_slice HO167.out; subst eo10; have hcz11_0 : w9.cell? ⟨gb172, 0, none⟩ = some (.slice none 0 0) := (blk_cell BK172.out 0).trans rfl; have hcz11_1 : w9.cell? ⟨gb172, 1, none⟩ = some (.slice none 0 0) := (blk_cell BK172.out 1).trans rfl; have hfz11_0 := blk_frozen BK172.out 0; have hfz11_1 := blk_frozen BK172.out 1; obtain ⟨Ao12, co12, eo12⟩ := Kd.R_slice HO170.out; subst eo12))
    (try simp only [Act.put, List.setIfInBounds_toArray, List.set_cons_zero, List.set_cons_succ])
    go_cut [51] (fun v51 wc => ∃ (kq : Nat) (x51_5 : Bool), v51 = .bool x51_5 ∧ Aside0 (curtilagelaw12_HashAlong.j0 kq l0 a1 t164 x51_5 t165 t168 = some r) ∧ Aside0 (kq ≤ k) ∧ Aside0 (Kd.R (Kd.int .i64) 3 wc w.heap.size (fun k_ => some k_ ≠ ((.slice Ao12 t168.length co12) : Value).ownBlock) (.slice Ao10 t165.length co10) t165) ∧ Aside0 (Kd.R (Kd.int .i64) 3 wc w.heap.size (fun k_ => some k_ ≠ ((.slice Ao10 t165.length co10) : Value).ownBlock) (.slice Ao12 t168.length co12) t168) ∧ Aside0 (wc.heap[gb172]? = some (.cells #[(.slice Ao10 t165.length co10), (.slice Ao12 t168.length co12)] 33 (0, 0))) ∧ Aside0 (Below w.heap.size w wc))
    case first =>
      have H := HC6.out
      clear HC6
      by_cases c13 : (t165.length : Int) = a1
      · rw [if_pos c13] at H
        have c13b0 : ((t165.length : Int) == a1) = true := beq_iff_eq.mpr c13
        have c13b1 : ((t165.length : Int) != a1) = false := bne_eq_false_iff_eq.mpr c13
        clear c13
        (first | rw [c13b0] | (simp only [i64_w, i32_w]; rw [c13b0]) | skip)
        have H' := Aside0.mk H
        clear H
        have hcz14_0 : w9.cell? ⟨gb172, 0, none⟩ = some (.slice none 0 0) := (blk_cell BK172.out 0).trans rfl
        have hcz14_1 : w9.cell? ⟨gb172, 1, none⟩ = some (.slice none 0 0) := (blk_cell BK172.out 1).trans rfl
        have hfz14_0 := blk_frozen BK172.out 0
        have hfz14_1 := blk_frozen BK172.out 1
        go_wp2
        go_meet
        case rel => exact ⟨_, (((t168.length : Int) != (l0.length : Int))), (by first | rfl | (simp; done) | (simp [*]; done)), H', ⟨by first | omega | exact Nat.le_refl _⟩, ⟨by (with_reducible repeat (first | apply Kd.R_alloc | apply Kd.R_drewN | apply Kd.R_drew)); exact Kd.R_mono (Kd.R_far (p := ⟨gb172, 1, none⟩) (Kd.R_far (p := ⟨gb172, 0, none⟩) (Kd.R_types HO167.out BK172.out (by decide)) (fun _ hk => hk.2) (.slice Ao10 t165.length co10)) (fun _ hk => hk.2) (.slice Ao12 t168.length co12)) (fun _ hk => hk.1)⟩, ⟨by (with_reducible repeat (first | apply Kd.R_alloc | apply Kd.R_drewN | apply Kd.R_drew)); exact Kd.R_mono (Kd.R_far (p := ⟨gb172, 1, none⟩) (Kd.R_far (p := ⟨gb172, 0, none⟩) (Kd.R_types HO170.out BK172.out (by decide)) (fun _ hk => hk.2) (.slice Ao10 t165.length co10)) (fun _ hk => hk.2) (.slice Ao12 t168.length co12)) (fun _ hk => hk.1)⟩, ⟨by (with_reducible repeat (first | refine blk_drewN ?_ _ | refine blk_drew ?_ | refine blk_alloc ?_ _)); refine blk_put (cs := #[.slice Ao10 t165.length co10, .slice none 0 0]) ?_ 1 _ rfl; (with_reducible repeat (first | refine blk_drewN ?_ _ | refine blk_drew ?_ | refine blk_alloc ?_ _)); refine blk_put (cs := #[.slice none 0 0, .slice none 0 0]) ?_ 0 _ rfl; (with_reducible repeat (first | refine blk_drewN ?_ _ | refine blk_drew ?_ | refine blk_alloc ?_ _)); exact BK172.out⟩, ⟨by repeat (first | (with_reducible first | exact HB.out | apply below_alloc | apply pw_below_drewN | apply below_drew1 | refine below_set ?_ GE172.out) | exact HB.out)⟩⟩
      · rw [if_neg c13] at H
        have c13b0 : ((t165.length : Int) == a1) = false := beq_eq_false_iff_ne.mpr c13
        have c13b1 : ((t165.length : Int) != a1) = true := bne_iff_ne.mpr c13
        (first | rw [c13b0] | (simp only [i64_w, i32_w]; rw [c13b0]) | skip)
        have H' := Aside0.mk H
        clear H
        have hcz15_0 : w9.cell? ⟨gb172, 0, none⟩ = some (.slice none 0 0) := (blk_cell BK172.out 0).trans rfl
        have hcz15_1 : w9.cell? ⟨gb172, 1, none⟩ = some (.slice none 0 0) := (blk_cell BK172.out 1).trans rfl
        have hfz15_0 := blk_frozen BK172.out 0
        have hfz15_1 := blk_frozen BK172.out 1
        go_wp2
        go_meet
        case rel => exact ⟨_, (true), (by first | rfl | (simp; done) | (simp [*]; done)), H', ⟨by first | omega | exact Nat.le_refl _⟩, ⟨by (with_reducible repeat (first | apply Kd.R_alloc | apply Kd.R_drewN | apply Kd.R_drew)); exact Kd.R_mono (Kd.R_far (p := ⟨gb172, 1, none⟩) (Kd.R_far (p := ⟨gb172, 0, none⟩) (Kd.R_types HO167.out BK172.out (by decide)) (fun _ hk => hk.2) (.slice Ao10 t165.length co10)) (fun _ hk => hk.2) (.slice Ao12 t168.length co12)) (fun _ hk => hk.1)⟩, ⟨by (with_reducible repeat (first | apply Kd.R_alloc | apply Kd.R_drewN | apply Kd.R_drew)); exact Kd.R_mono (Kd.R_far (p := ⟨gb172, 1, none⟩) (Kd.R_far (p := ⟨gb172, 0, none⟩) (Kd.R_types HO170.out BK172.out (by decide)) (fun _ hk => hk.2) (.slice Ao10 t165.length co10)) (fun _ hk => hk.2) (.slice Ao12 t168.length co12)) (fun _ hk => hk.1)⟩, ⟨by (with_reducible repeat (first | refine blk_drewN ?_ _ | refine blk_drew ?_ | refine blk_alloc ?_ _)); refine blk_put (cs := #[.slice Ao10 t165.length co10, .slice none 0 0]) ?_ 1 _ rfl; (with_reducible repeat (first | refine blk_drewN ?_ _ | refine blk_drew ?_ | refine blk_alloc ?_ _)); refine blk_put (cs := #[.slice none 0 0, .slice none 0 0]) ?_ 0 _ rfl; (with_reducible repeat (first | refine blk_drewN ?_ _ | refine blk_drew ?_ | refine blk_alloc ?_ _)); exact BK172.out⟩, ⟨by repeat (first | (with_reducible first | exact HB.out | apply below_alloc | apply pw_below_drewN | apply below_drew1 | refine below_set ?_ GE172.out) | exact HB.out)⟩⟩
    case rest =>
      clear HC6
      try clear c1
      try clear p2
      try clear c5
      try clear c5b0
      try clear c5b1
      try clear c9
      try clear c13
      try clear c13b0
      try clear c13b1
      try clear c14
      try clear hcz11_0
      try clear hcz11_1
      try clear hcz14_0
      try clear hcz14_1
      try clear hcz15_0
      try clear hcz15_1
      try clear hfz11_0
      try clear hfz11_1
      try clear hfz14_0
      try clear hfz14_1
      try clear hfz15_0
      try clear hfz15_1
      obtain ⟨kq, x51_5, rfl, HA, HJ5, HO_173000, HO_173001, BK172, HB⟩ := hcut
      cases kq with
      | zero => exact absurd HA.out (by simp [curtilagelaw12_HashAlong.j0])
      | succ kj5 =>
        have H := HA.out
        clear HA
        simp only [curtilagelaw12_HashAlong.j0] at H
        by_cases c16 : x51_5 = true
        · subst c16
          have H1 : (some false) = some r := by rw [if_pos rfl] at H; exact H
          clear H
          have H := H1
          clear H1
          obtain rfl := Option.some.inj H
          go_wp2
          go_ret
          exact ⟨by first | rfl | (simp [errW_none, errW_some] <;> rfl) | (simp [*, errW_none, errW_some] <;> rfl), by repeat (first | (with_reducible first | exact HB.out | apply below_alloc | apply pw_below_drewN | apply below_drew1 | refine below_set ?_ GE172.out) | exact HB.out)⟩
        · replace c16 := Bool.eq_false_iff.mpr c16
          subst c16
          have H1 : (curtilagelaw12_HashAlong.l0 kj5 l0 a1 t164 0 0 t165 t168) = some r := by rw [if_neg (show ¬ (false = true) by decide)] at H; exact H
          clear H
          have H := H1
          clear H1
          have H' := Aside0.mk H
          clear H
          go_wp2
          go_loopg [8, 9] kj5 (fun kq v8 v9 w' => ∃ (x8_2 : Int) (x9_2 : Int), v8 = .int .i64 x8_2 ∧ v9 = .int .i64 x9_2 ∧ Aside0 (curtilagelaw12_HashAlong.l0 kq l0 a1 t164 x8_2 x9_2 t165 t168 = some r) ∧ Aside0 (kq ≤ kj5) ∧ Aside0 (Kd.R (Kd.int .i64) 3 w' w.heap.size (fun k_ => some k_ ≠ ((.slice Ao12 t168.length co12) : Value).ownBlock) (.slice Ao10 t165.length co10) t165) ∧ Aside0 (Kd.R (Kd.int .i64) 3 w' w.heap.size (fun k_ => some k_ ≠ ((.slice Ao10 t165.length co10) : Value).ownBlock) (.slice Ao12 t168.length co12) t168) ∧ Aside0 (w'.heap[gb172]? = some (.cells #[(.slice Ao10 t165.length co10), (.slice Ao12 t168.length co12)] 33 (0, 0))) ∧ Aside0 (Below w.heap.size w w'))
          case atStart => exact ⟨(0), (0), (by first | rfl | (simp; done) | (simp [*]; done)), (by first | rfl | (simp; done) | (simp [*]; done)), H', ⟨Nat.le_refl _⟩, ⟨by (with_reducible repeat (first | apply Kd.R_alloc | apply Kd.R_drewN | apply Kd.R_drew)); exact HO_173000.out⟩, ⟨by (with_reducible repeat (first | apply Kd.R_alloc | apply Kd.R_drewN | apply Kd.R_drew)); exact HO_173001.out⟩, ⟨by (with_reducible repeat (first | refine blk_drewN ?_ _ | refine blk_drew ?_ | refine blk_alloc ?_ _)); exact BK172.out⟩, ⟨by repeat (first | (with_reducible first | exact HB.out | apply below_alloc | apply pw_below_drewN | apply below_drew1 | refine below_set ?_ GE172.out) | exact HB.out)⟩⟩
          case round =>
            clear H'
            try clear c1
            try clear p2
            try clear c5
            try clear c5b0
            try clear c5b1
            try clear c9
            try clear c13
            try clear c13b0
            try clear c13b1
            try clear c14
            try clear c16
            try clear hcz11_0
            try clear hcz11_1
            try clear hcz14_0
            try clear hcz14_1
            try clear hcz15_0
            try clear hcz15_1
            try clear hfz11_0
            try clear hfz11_1
            try clear hfz14_0
            try clear hfz14_1
            try clear hfz15_0
            try clear hfz15_1
            try clear p2
            obtain ⟨x8_2, x9_2, rfl, rfl, HA, HK2, HO_173000, HO_173001, BK172, HB⟩ := hrel
            cases gk with
            | zero => exact absurd HA.out (by simp [curtilagelaw12_HashAlong.l0])
            | succ k2 =>
              have H := HA.out
              clear HA
              simp only [curtilagelaw12_HashAlong.l0] at H
              by_cases c17 : x9_2 < (l0.length : Int)
              · rw [if_pos c17] at H
                have c17b0 : decide (x9_2 < (l0.length : Int)) = true := decide_eq_true c17
                clear c17
                by_cases c18 : 0 ≤ x9_2
                · rw [if_pos c18] at H
                  have c18b0 : decide (0 ≤ x9_2) = true := decide_eq_true c18
                  clear c18
                  replace H := Option.bind_eq_some_iff.mp H
                  obtain ⟨t174, A190, H⟩ := H
                  replace H : (if t174 = true then (curtilagelaw12_HashAlong.l0 k2 l0 a1 t164 (wrap64 (x8_2 + 1)) (wrap64 (x9_2 + 1)) t165 t168) else (curtilagelaw12_HashAlong.l0 k2 l0 a1 t164 x8_2 (wrap64 (x9_2 + 1)) t165 t168)) = some r := H
                  have A19 := Aside0.mk A190
                  clear A190
                  by_cases c20 : t174 = true
                  · subst c20
                    have H1 : (curtilagelaw12_HashAlong.l0 k2 l0 a1 t164 (wrap64 (x8_2 + 1)) (wrap64 (x9_2 + 1)) t165 t168) = some r := by rw [if_pos rfl] at H; exact H
                    clear H
                    have H := H1
                    clear H1
                    have H' := Aside0.mk H
                    clear H
                    have p173 : 0 ≤ (x9_2 : Int) := of_decide_eq_true (by first | (with_reducible assumption) | assumption)
                    have q173 : x9_2 < (l0.length : Int) := of_decide_eq_true (by first | (with_reducible assumption) | assumption)
                    obtain ⟨ad173, e173, hx173_0, hx173_1, hx173_2, hx173_3, hx173_4, hx173_5, hx173_6, hx173_7⟩ := at_T24 HR0.out x9_2 p173 q173
                    cases e173
                    replace hx173_0 := (HB.out.cell (World.block_lt_of_cell? w _ hx173_0)).trans hx173_0
                    replace hx173_1 := (HB.out.cell (World.block_lt_of_cell? w _ hx173_1)).trans hx173_1
                    replace hx173_2 := (HB.out.cell (World.block_lt_of_cell? w _ hx173_2)).trans hx173_2
                    replace hx173_3 := (HB.out.cell (World.block_lt_of_cell? w _ hx173_3)).trans hx173_3
                    replace hx173_4 := (HB.out.cell (World.block_lt_of_cell? w _ hx173_4)).trans hx173_4
                    replace hx173_5 := (HB.out.cell (World.block_lt_of_cell? w _ hx173_5)).trans hx173_5
                    replace hx173_6 := (HB.out.cell (World.block_lt_of_cell? w _ hx173_6)).trans hx173_6
                    replace hx173_7 := (HB.out.cell (World.block_lt_of_cell? w _ hx173_7)).trans hx173_7
                    replace p173 := eq_true p173
                    replace q173 := eq_true q173
                    go_wp2_with (first | ((with_reducible refine gate_callee (f := 11) rfl ?_); refine goesL_ (some 62) rfl rfl Try.func11 (by kernel_rfl) rfl #[.agg #[.string ((rd_T24 l0 x9_2).f0), .string ((rd_T24 l0 x9_2).f1), .int .u64 ((rd_T24 l0 x9_2).f2), .int .u64 ((rd_T24 l0 x9_2).f3), .int .i64 ((rd_T24 l0 x9_2).f4), .int .i64 ((rd_T24 l0 x9_2).f5), .int .i64 ((rd_T24 l0 x9_2).f6), .bool ((rd_T24 l0 x9_2).f7)]] rfl (by (try simp only [List.map_toArray, List.map_cons, List.map_nil]); first | done | rfl | (simp only [List.length_drop, List.length_take]; rfl)) ?_; (with_reducible refine (hash_Shown.calls ((rd_T24 l0 x9_2).f0) ((rd_T24 l0 x9_2).f1) ((rd_T24 l0 x9_2).f2) ((rd_T24 l0 x9_2).f3) ((rd_T24 l0 x9_2).f4) ((rd_T24 l0 x9_2).f5) ((rd_T24 l0 x9_2).f6) ((rd_T24 l0 x9_2).f7) true _ A19.out).mono ?_); rintro e w21 ⟨rfl, hb⟩; refine ⟨_, rfl, ?_⟩; have n0_ := Aside0.mk (Kd.R_below (by (with_reducible repeat (first | apply Kd.R_alloc | apply Kd.R_drewN | apply Kd.R_drew)); exact HO_173000.out) hb); have n1_ := Aside0.mk (Kd.R_below (by (with_reducible repeat (first | apply Kd.R_alloc | apply Kd.R_drewN | apply Kd.R_drew)); exact HO_173001.out) hb); have n2_ := Aside0.mk (blk_below (g := gb172) (o := .cells #[.slice Ao10 t165.length co10, .slice Ao12 t168.length co12] 33 (0, 0)) (by (with_reducible repeat (first | refine blk_drewN ?_ _ | refine blk_drew ?_ | refine blk_alloc ?_ _)); exact BK172.out) hb); have n3_ := Aside0.mk (below_step (by repeat (first | (with_reducible first | exact HB.out | apply below_alloc | apply pw_below_drewN | apply below_drew1 | refine below_set ?_ GE172.out) | exact HB.out)) hb); clear HO_173000; clear HO_173001; clear BK172; clear HB; have HO_173000 := n0_; have HO_173001 := n1_; have BK172 := n2_; have HB := n3_; clear n0_ n1_ n2_ n3_; (try clear hb); (try clear hb2); (try clear hk); (try clear hi)))
                    go_roundg k2
                    case measure => have := HJ5.out; have := HK2.out; omega
                    case rel => exact ⟨(wrap64 (x8_2 + 1)), (wrap64 (x9_2 + 1)), (by first | rfl | (simp; done) | (simp [*]; done)), (by first | rfl | (simp; done) | (simp [*]; done)), H', ⟨by have := HJ5.out; have := HK2.out; omega⟩, ⟨by (with_reducible repeat (first | apply Kd.R_alloc | apply Kd.R_drewN | apply Kd.R_drew)); exact HO_173000.out⟩, ⟨by (with_reducible repeat (first | apply Kd.R_alloc | apply Kd.R_drewN | apply Kd.R_drew)); exact HO_173001.out⟩, ⟨by (with_reducible repeat (first | refine blk_drewN ?_ _ | refine blk_drew ?_ | refine blk_alloc ?_ _)); exact BK172.out⟩, ⟨by repeat (first | (with_reducible first | exact HB.out | apply below_alloc | apply pw_below_drewN | apply below_drew1 | refine below_set ?_ GE172.out) | exact HB.out)⟩⟩
                  · replace c20 := Bool.eq_false_iff.mpr c20
                    subst c20
                    have H1 : (curtilagelaw12_HashAlong.l0 k2 l0 a1 t164 x8_2 (wrap64 (x9_2 + 1)) t165 t168) = some r := by rw [if_neg (show ¬ (false = true) by decide)] at H; exact H
                    clear H
                    have H := H1
                    clear H1
                    have H' := Aside0.mk H
                    clear H
                    have p173 : 0 ≤ (x9_2 : Int) := of_decide_eq_true (by first | (with_reducible assumption) | assumption)
                    have q173 : x9_2 < (l0.length : Int) := of_decide_eq_true (by first | (with_reducible assumption) | assumption)
                    obtain ⟨ad173, e173, hx173_0, hx173_1, hx173_2, hx173_3, hx173_4, hx173_5, hx173_6, hx173_7⟩ := at_T24 HR0.out x9_2 p173 q173
                    cases e173
                    replace hx173_0 := (HB.out.cell (World.block_lt_of_cell? w _ hx173_0)).trans hx173_0
                    replace hx173_1 := (HB.out.cell (World.block_lt_of_cell? w _ hx173_1)).trans hx173_1
                    replace hx173_2 := (HB.out.cell (World.block_lt_of_cell? w _ hx173_2)).trans hx173_2
                    replace hx173_3 := (HB.out.cell (World.block_lt_of_cell? w _ hx173_3)).trans hx173_3
                    replace hx173_4 := (HB.out.cell (World.block_lt_of_cell? w _ hx173_4)).trans hx173_4
                    replace hx173_5 := (HB.out.cell (World.block_lt_of_cell? w _ hx173_5)).trans hx173_5
                    replace hx173_6 := (HB.out.cell (World.block_lt_of_cell? w _ hx173_6)).trans hx173_6
                    replace hx173_7 := (HB.out.cell (World.block_lt_of_cell? w _ hx173_7)).trans hx173_7
                    replace p173 := eq_true p173
                    replace q173 := eq_true q173
                    go_wp2_with (first | ((with_reducible refine gate_callee (f := 11) rfl ?_); refine goesL_ (some 62) rfl rfl Try.func11 (by kernel_rfl) rfl #[.agg #[.string ((rd_T24 l0 x9_2).f0), .string ((rd_T24 l0 x9_2).f1), .int .u64 ((rd_T24 l0 x9_2).f2), .int .u64 ((rd_T24 l0 x9_2).f3), .int .i64 ((rd_T24 l0 x9_2).f4), .int .i64 ((rd_T24 l0 x9_2).f5), .int .i64 ((rd_T24 l0 x9_2).f6), .bool ((rd_T24 l0 x9_2).f7)]] rfl (by (try simp only [List.map_toArray, List.map_cons, List.map_nil]); first | done | rfl | (simp only [List.length_drop, List.length_take]; rfl)) ?_; (with_reducible refine (hash_Shown.calls ((rd_T24 l0 x9_2).f0) ((rd_T24 l0 x9_2).f1) ((rd_T24 l0 x9_2).f2) ((rd_T24 l0 x9_2).f3) ((rd_T24 l0 x9_2).f4) ((rd_T24 l0 x9_2).f5) ((rd_T24 l0 x9_2).f6) ((rd_T24 l0 x9_2).f7) false _ A19.out).mono ?_); rintro e w22 ⟨rfl, hb⟩; refine ⟨_, rfl, ?_⟩; have n0_ := Aside0.mk (Kd.R_below (by (with_reducible repeat (first | apply Kd.R_alloc | apply Kd.R_drewN | apply Kd.R_drew)); exact HO_173000.out) hb); have n1_ := Aside0.mk (Kd.R_below (by (with_reducible repeat (first | apply Kd.R_alloc | apply Kd.R_drewN | apply Kd.R_drew)); exact HO_173001.out) hb); have n2_ := Aside0.mk (blk_below (g := gb172) (o := .cells #[.slice Ao10 t165.length co10, .slice Ao12 t168.length co12] 33 (0, 0)) (by (with_reducible repeat (first | refine blk_drewN ?_ _ | refine blk_drew ?_ | refine blk_alloc ?_ _)); exact BK172.out) hb); have n3_ := Aside0.mk (below_step (by repeat (first | (with_reducible first | exact HB.out | apply below_alloc | apply pw_below_drewN | apply below_drew1 | refine below_set ?_ GE172.out) | exact HB.out)) hb); clear HO_173000; clear HO_173001; clear BK172; clear HB; have HO_173000 := n0_; have HO_173001 := n1_; have BK172 := n2_; have HB := n3_; clear n0_ n1_ n2_ n3_; (try clear hb); (try clear hb2); (try clear hk); (try clear hi)))
                    go_roundg k2
                    case measure => have := HJ5.out; have := HK2.out; omega
                    case rel => exact ⟨(x8_2), (wrap64 (x9_2 + 1)), (by first | rfl | (simp; done) | (simp [*]; done)), (by first | rfl | (simp; done) | (simp [*]; done)), H', ⟨by have := HJ5.out; have := HK2.out; omega⟩, ⟨by (with_reducible repeat (first | apply Kd.R_alloc | apply Kd.R_drewN | apply Kd.R_drew)); exact HO_173000.out⟩, ⟨by (with_reducible repeat (first | apply Kd.R_alloc | apply Kd.R_drewN | apply Kd.R_drew)); exact HO_173001.out⟩, ⟨by (with_reducible repeat (first | refine blk_drewN ?_ _ | refine blk_drew ?_ | refine blk_alloc ?_ _)); exact BK172.out⟩, ⟨by repeat (first | (with_reducible first | exact HB.out | apply below_alloc | apply pw_below_drewN | apply below_drew1 | refine below_set ?_ GE172.out) | exact HB.out)⟩⟩
                · rw [if_neg c18] at H
                  exact absurd H (by simp)
              · rw [if_neg c17] at H
                have c17b0 : decide (x9_2 < (l0.length : Int)) = false := decide_eq_false c17
                clear c17
                have H' := Aside0.mk H
                clear H
                go_wp2
                go_loopg [11, 12] k2 (fun kq v11 v12 w' => ∃ (x11_3 : Int) (x12_3 : Int), v11 = .int .i64 x11_3 ∧ v12 = .int .i64 x12_3 ∧ Aside0 (curtilagelaw12_HashAlong.l1 kq l0 a1 t164 x8_2 x11_3 x12_3 t165 t168 = some r) ∧ Aside0 (kq ≤ k2) ∧ Aside0 (Kd.R (Kd.int .i64) 3 w' w.heap.size (fun k_ => some k_ ≠ ((.slice Ao12 t168.length co12) : Value).ownBlock) (.slice Ao10 t165.length co10) t165) ∧ Aside0 (Kd.R (Kd.int .i64) 3 w' w.heap.size (fun k_ => some k_ ≠ ((.slice Ao10 t165.length co10) : Value).ownBlock) (.slice Ao12 t168.length co12) t168) ∧ Aside0 (w'.heap[gb172]? = some (.cells #[(.slice Ao10 t165.length co10), (.slice Ao12 t168.length co12)] 33 (0, 0))) ∧ Aside0 (Below w.heap.size w w'))
                case atStart => exact ⟨(0), (0), (by first | rfl | (simp; done) | (simp [*]; done)), (by first | rfl | (simp; done) | (simp [*]; done)), H', ⟨Nat.le_refl _⟩, ⟨by (with_reducible repeat (first | apply Kd.R_alloc | apply Kd.R_drewN | apply Kd.R_drew)); exact HO_173000.out⟩, ⟨by (with_reducible repeat (first | apply Kd.R_alloc | apply Kd.R_drewN | apply Kd.R_drew)); exact HO_173001.out⟩, ⟨by (with_reducible repeat (first | refine blk_drewN ?_ _ | refine blk_drew ?_ | refine blk_alloc ?_ _)); exact BK172.out⟩, ⟨by repeat (first | (with_reducible first | exact HB.out | apply below_alloc | apply pw_below_drewN | apply below_drew1 | refine below_set ?_ GE172.out) | exact HB.out)⟩⟩
                case round =>
                  clear H'
                  try clear c1
                  try clear p1
                  try clear q1
                  try clear hx1
                  try clear c2
                  try clear p2
                  try clear c5
                  try clear c5b0
                  try clear c5b1
                  try clear p6
                  try clear c9
                  try clear c11
                  try clear c13
                  try clear c13b0
                  try clear c13b1
                  try clear c14
                  try clear c16
                  try clear c17
                  try clear c17b0
                  try clear p17
                  try clear q17
                  try clear hx17
                  try clear c18
                  try clear c18b0
                  try clear c20
                  try clear hcz11_0
                  try clear hcz11_1
                  try clear hcz14_0
                  try clear hcz14_1
                  try clear hcz15_0
                  try clear hcz15_1
                  try clear hfz11_0
                  try clear hfz11_1
                  try clear hfz14_0
                  try clear hfz14_1
                  try clear hfz15_0
                  try clear hfz15_1
                  try clear hx173_0
                  try clear hx173_1
                  try clear hx173_2
                  try clear hx173_3
                  try clear hx173_4
                  try clear hx173_5
                  try clear hx173_6
                  try clear hx173_7
                  try clear p173
                  try clear p2
                  try clear q173
                  obtain ⟨x11_3, x12_3, rfl, rfl, HA, HK3, HO_173000, HO_173001, BK172, HB⟩ := hrel
                  cases gk with
                  | zero => exact absurd HA.out (by simp [curtilagelaw12_HashAlong.l1])
                  | succ k3 =>
                    have H := HA.out
                    clear HA
                    simp only [curtilagelaw12_HashAlong.l1] at H
                    by_cases c23 : x12_3 < a1
                    · rw [if_pos c23] at H
                      have c23b0 : decide (x12_3 < a1) = true := decide_eq_true c23
                      clear c23
                      by_cases c24 : 0 ≤ x12_3
                      · rw [if_pos c24] at H
                        have c24b0 : decide (0 ≤ x12_3) = true := decide_eq_true c24
                        clear c24
                        by_cases c25 : x12_3 < (t165.length : Int)
                        · rw [if_pos c25] at H
                          have c25b0 : decide (x12_3 < (t165.length : Int)) = true := decide_eq_true c25
                          clear c25
                          have H' := Aside0.mk H
                          clear H
                          have hcz26_0 : wr.cell? ⟨gb172, 0, none⟩ = some (.slice Ao10 t165.length co10) := (blk_cell BK172.out 0).trans rfl
                          have hcz26_1 : wr.cell? ⟨gb172, 1, none⟩ = some (.slice Ao12 t168.length co12) := (blk_cell BK172.out 1).trans rfl
                          have hfz26_0 := blk_frozen BK172.out 0
                          have hfz26_1 := blk_frozen BK172.out 1
                          have p175 : 0 ≤ (x12_3 : Int) := of_decide_eq_true (by first | (with_reducible assumption) | assumption)
                          have q175 : x12_3 < (t165.length : Int) := of_decide_eq_true (by first | (with_reducible assumption) | assumption)
                          obtain ⟨ad175, e175, hx175_0⟩ := Kd.at_int (Kd.R_reads' HO_173000.out).2.2 x12_3 p175 q175
                          cases e175
                          replace p175 := eq_true p175
                          replace q175 := eq_true q175
                          go_wp2
                          go_loopg [11, 13] k3 (fun kq v11 v13 w' => ∃ (x11_4 : Int) (x13_4 : Int), v11 = .int .i64 x11_4 ∧ v13 = .int .i64 x13_4 ∧ Aside0 (curtilagelaw12_HashAlong.l2 kq l0 a1 t164 x8_2 x11_4 x12_3 x13_4 t165 t168 = some r) ∧ Aside0 (kq ≤ k3) ∧ Aside0 (Kd.R (Kd.int .i64) 3 w' w.heap.size (fun k_ => some k_ ≠ ((.slice Ao12 t168.length co12) : Value).ownBlock) (.slice (some ad175) t165.length co10) t165) ∧ Aside0 (Kd.R (Kd.int .i64) 3 w' w.heap.size (fun k_ => some k_ ≠ ((.slice (some ad175) t165.length co10) : Value).ownBlock) (.slice Ao12 t168.length co12) t168) ∧ Aside0 (w'.heap[gb172]? = some (.cells #[(.slice (some ad175) t165.length co10), (.slice Ao12 t168.length co12)] 33 (0, 0))) ∧ Aside0 (Below w.heap.size w w'))
                          case atStart => exact ⟨(x11_3), (rd t165 x12_3), (by first | rfl | (simp; done) | (simp [*]; done)), (by first | rfl | (simp; done) | (simp [*]; done)), H', ⟨Nat.le_refl _⟩, ⟨by (with_reducible repeat (first | apply Kd.R_alloc | apply Kd.R_drewN | apply Kd.R_drew)); exact HO_173000.out⟩, ⟨by (with_reducible repeat (first | apply Kd.R_alloc | apply Kd.R_drewN | apply Kd.R_drew)); exact HO_173001.out⟩, ⟨by (with_reducible repeat (first | refine blk_drewN ?_ _ | refine blk_drew ?_ | refine blk_alloc ?_ _)); exact BK172.out⟩, ⟨by repeat (first | (with_reducible first | exact HB.out | apply below_alloc | apply pw_below_drewN | apply below_drew1 | refine below_set ?_ GE172.out) | exact HB.out)⟩⟩
                          case round =>
                            clear H'
                            try clear c1
                            try clear p1
                            try clear q1
                            try clear hx1
                            try clear c2
                            try clear p2
                            try clear c5
                            try clear c5b0
                            try clear c5b1
                            try clear p6
                            try clear c9
                            try clear c11
                            try clear c13
                            try clear c13b0
                            try clear c13b1
                            try clear c14
                            try clear c16
                            try clear c17
                            try clear c17b0
                            try clear p17
                            try clear q17
                            try clear hx17
                            try clear c18
                            try clear c18b0
                            try clear c20
                            try clear c23
                            try clear c23b0
                            try clear c24
                            try clear c24b0
                            try clear c25
                            try clear c25b0
                            try clear hcz11_0
                            try clear hcz11_1
                            try clear hcz14_0
                            try clear hcz14_1
                            try clear hcz15_0
                            try clear hcz15_1
                            try clear hcz26_0
                            try clear hcz26_1
                            try clear hfz11_0
                            try clear hfz11_1
                            try clear hfz14_0
                            try clear hfz14_1
                            try clear hfz15_0
                            try clear hfz15_1
                            try clear hfz26_0
                            try clear hfz26_1
                            try clear hx173_0
                            try clear hx173_1
                            try clear hx173_2
                            try clear hx173_3
                            try clear hx173_4
                            try clear hx173_5
                            try clear hx173_6
                            try clear hx173_7
                            try clear hx175_0
                            try clear p1
                            try clear p17
                            try clear p173
                            try clear p175
                            try clear p2
                            try clear p6
                            try clear q1
                            try clear q17
                            try clear q173
                            try clear q175
                            obtain ⟨x11_4, x13_4, rfl, rfl, HA, HK4, HO_173000, HO_173001, BK172, HB⟩ := hrel
                            cases gk with
                            | zero => exact absurd HA.out (by simp [curtilagelaw12_HashAlong.l2])
                            | succ k4 =>
                              have H := HA.out
                              clear HA
                              simp only [curtilagelaw12_HashAlong.l2] at H
                              by_cases c27 : x13_4 = 0
                              · rw [if_pos c27] at H
                                have c27b0 : (x13_4 == 0) = true := beq_iff_eq.mpr c27
                                have c27b1 : (x13_4 != 0) = false := bne_eq_false_iff_eq.mpr c27
                                clear c27
                                have H' := Aside0.mk H
                                clear H
                                go_wp2
                                go_roundg k4
                                case measure => have := HJ5.out; have := HK2.out; have := HK3.out; have := HK4.out; omega
                                case rel => exact ⟨(x11_4), (wrap64 (x12_3 + 1)), (by first | rfl | (simp; done) | (simp [*]; done)), (by first | rfl | (simp; done) | (simp [*]; done)), H', ⟨by have := HJ5.out; have := HK2.out; have := HK3.out; have := HK4.out; omega⟩, ⟨by (with_reducible repeat (first | apply Kd.R_alloc | apply Kd.R_drewN | apply Kd.R_drew)); exact HO_173000.out⟩, ⟨by (with_reducible repeat (first | apply Kd.R_alloc | apply Kd.R_drewN | apply Kd.R_drew)); exact HO_173001.out⟩, ⟨by (with_reducible repeat (first | refine blk_drewN ?_ _ | refine blk_drew ?_ | refine blk_alloc ?_ _)); exact BK172.out⟩, ⟨by repeat (first | (with_reducible first | exact HB.out | apply below_alloc | apply pw_below_drewN | apply below_drew1 | refine below_set ?_ GE172.out) | exact HB.out)⟩⟩
                              · rw [if_neg c27] at H
                                have c27b0 : (x13_4 == 0) = false := beq_eq_false_iff_ne.mpr c27
                                have c27b1 : (x13_4 != 0) = true := bne_iff_ne.mpr c27
                                have HC28 := Aside0.mk H
                                clear H
                                go_upto_region 20 with (fail)
                                go_cut [89] (fun v89 wc => ∃ (kq : Nat) (x89_27 : Bool), v89 = .bool x89_27 ∧ Aside0 (curtilagelaw12_HashAlong.j4 kq l0 a1 t164 x8_2 x11_4 x12_3 x13_4 x89_27 t165 t168 = some r) ∧ Aside0 (kq ≤ k4) ∧ Aside0 (Kd.R (Kd.int .i64) 3 wc w.heap.size (fun k_ => some k_ ≠ ((.slice Ao12 t168.length co12) : Value).ownBlock) (.slice (some ad175) t165.length co10) t165) ∧ Aside0 (Kd.R (Kd.int .i64) 3 wc w.heap.size (fun k_ => some k_ ≠ ((.slice (some ad175) t165.length co10) : Value).ownBlock) (.slice Ao12 t168.length co12) t168) ∧ Aside0 (wc.heap[gb172]? = some (.cells #[(.slice (some ad175) t165.length co10), (.slice Ao12 t168.length co12)] 33 (0, 0))) ∧ Aside0 (Below w.heap.size w wc))
                                case first =>
                                  have H := HC28.out
                                  clear HC28
                                  by_cases c29 : x13_4 < 0
                                  · rw [if_pos c29] at H
                                    have c29b0 : decide (x13_4 < 0) = true := decide_eq_true c29
                                    clear c29
                                    (first | rw [c29b0] | (simp only [i64_w, i32_w]; rw [c29b0]) | skip)
                                    have H' := Aside0.mk H
                                    clear H
                                    go_wp2
                                    go_meet
                                    case rel => exact ⟨_, (true), (by first | rfl | (simp; done) | (simp [*]; done)), H', ⟨by have := HJ5.out; have := HK2.out; have := HK3.out; have := HK4.out; first | omega | exact Nat.le_refl _⟩, ⟨by (with_reducible repeat (first | apply Kd.R_alloc | apply Kd.R_drewN | apply Kd.R_drew)); exact HO_173000.out⟩, ⟨by (with_reducible repeat (first | apply Kd.R_alloc | apply Kd.R_drewN | apply Kd.R_drew)); exact HO_173001.out⟩, ⟨by (with_reducible repeat (first | refine blk_drewN ?_ _ | refine blk_drew ?_ | refine blk_alloc ?_ _)); exact BK172.out⟩, ⟨by repeat (first | (with_reducible first | exact HB.out | apply below_alloc | apply pw_below_drewN | apply below_drew1 | refine below_set ?_ GE172.out) | exact HB.out)⟩⟩
                                  · rw [if_neg c29] at H
                                    have c29b0 : decide (x13_4 < 0) = false := decide_eq_false c29
                                    clear c29
                                    (first | rw [c29b0] | (simp only [i64_w, i32_w]; rw [c29b0]) | skip)
                                    by_cases c30 : x13_4 > (l0.length : Int)
                                    · rw [if_pos c30] at H
                                      have c30b0 : decide ((l0.length : Int) < x13_4) = true := decide_eq_true c30
                                      clear c30
                                      have H' := Aside0.mk H
                                      clear H
                                      go_wp2
                                      go_meet
                                      case rel => exact ⟨_, (true), (by first | rfl | (simp; done) | (simp [*]; done)), H', ⟨by have := HJ5.out; have := HK2.out; have := HK3.out; have := HK4.out; first | omega | exact Nat.le_refl _⟩, ⟨by (with_reducible repeat (first | apply Kd.R_alloc | apply Kd.R_drewN | apply Kd.R_drew)); exact HO_173000.out⟩, ⟨by (with_reducible repeat (first | apply Kd.R_alloc | apply Kd.R_drewN | apply Kd.R_drew)); exact HO_173001.out⟩, ⟨by (with_reducible repeat (first | refine blk_drewN ?_ _ | refine blk_drew ?_ | refine blk_alloc ?_ _)); exact BK172.out⟩, ⟨by repeat (first | (with_reducible first | exact HB.out | apply below_alloc | apply pw_below_drewN | apply below_drew1 | refine below_set ?_ GE172.out) | exact HB.out)⟩⟩
                                    · rw [if_neg c30] at H
                                      have c30b0 : decide ((l0.length : Int) < x13_4) = false := decide_eq_false c30
                                      clear c30
                                      have H' := Aside0.mk H
                                      clear H
                                      go_wp2
                                      go_meet
                                      case rel => exact ⟨_, (decide (x11_4 > 40)), (by first | rfl | (simp; done) | (simp [*]; done)), H', ⟨by have := HJ5.out; have := HK2.out; have := HK3.out; have := HK4.out; first | omega | exact Nat.le_refl _⟩, ⟨by (with_reducible repeat (first | apply Kd.R_alloc | apply Kd.R_drewN | apply Kd.R_drew)); exact HO_173000.out⟩, ⟨by (with_reducible repeat (first | apply Kd.R_alloc | apply Kd.R_drewN | apply Kd.R_drew)); exact HO_173001.out⟩, ⟨by (with_reducible repeat (first | refine blk_drewN ?_ _ | refine blk_drew ?_ | refine blk_alloc ?_ _)); exact BK172.out⟩, ⟨by repeat (first | (with_reducible first | exact HB.out | apply below_alloc | apply pw_below_drewN | apply below_drew1 | refine below_set ?_ GE172.out) | exact HB.out)⟩⟩
                                case rest =>
                                  clear HC28
                                  try clear c1
                                  try clear p1
                                  try clear q1
                                  try clear hx1
                                  try clear c2
                                  try clear p2
                                  try clear c3
                                  try clear c5
                                  try clear c5b0
                                  try clear c5b1
                                  try clear p6
                                  try clear c9
                                  try clear c11
                                  try clear c13
                                  try clear c13b0
                                  try clear c13b1
                                  try clear c14
                                  try clear c16
                                  try clear c17
                                  try clear c17b0
                                  try clear p17
                                  try clear q17
                                  try clear hx17
                                  try clear c18
                                  try clear c18b0
                                  try clear c20
                                  try clear c23
                                  try clear c23b0
                                  try clear c24
                                  try clear c24b0
                                  try clear c25
                                  try clear c25b0
                                  try clear c27
                                  try clear c27b0
                                  try clear c27b1
                                  try clear c29
                                  try clear c29b0
                                  try clear c30
                                  try clear c30b0
                                  try clear hcz11_0
                                  try clear hcz11_1
                                  try clear hcz14_0
                                  try clear hcz14_1
                                  try clear hcz15_0
                                  try clear hcz15_1
                                  try clear hcz26_0
                                  try clear hcz26_1
                                  try clear hfz11_0
                                  try clear hfz11_1
                                  try clear hfz14_0
                                  try clear hfz14_1
                                  try clear hfz15_0
                                  try clear hfz15_1
                                  try clear hfz26_0
                                  try clear hfz26_1
                                  try clear hx173_0
                                  try clear hx173_1
                                  try clear hx173_2
                                  try clear hx173_3
                                  try clear hx173_4
                                  try clear hx173_5
                                  try clear hx173_6
                                  try clear hx173_7
                                  try clear hx175_0
                                  try clear p1
                                  try clear p17
                                  try clear p173
                                  try clear p175
                                  try clear p2
                                  try clear p6
                                  try clear q1
                                  try clear q17
                                  try clear q173
                                  try clear q175
                                  obtain ⟨kq, x89_27, rfl, HA, HJ27, HO_173000, HO_173001, BK172, HB⟩ := hcut
                                  cases kq with
                                  | zero => exact absurd HA.out (by simp [curtilagelaw12_HashAlong.j4])
                                  | succ kj27 =>
                                    have H := HA.out
                                    clear HA
                                    simp only [curtilagelaw12_HashAlong.j4] at H
                                    by_cases c31 : x89_27 = true
                                    · subst c31
                                      have H1 : (some false) = some r := by rw [if_pos rfl] at H; exact H
                                      clear H
                                      have H := H1
                                      clear H1
                                      obtain rfl := Option.some.inj H
                                      go_wp2
                                      go_ret
                                      exact ⟨by first | rfl | (simp [errW_none, errW_some] <;> rfl) | (simp [*, errW_none, errW_some] <;> rfl), by repeat (first | (with_reducible first | exact HB.out | apply below_alloc | apply pw_below_drewN | apply below_drew1 | refine below_set ?_ GE172.out) | exact HB.out)⟩
                                    · replace c31 := Bool.eq_false_iff.mpr c31
                                      subst c31
                                      have H1 : (if 0 ≤ (wrap64 (x13_4 - 1)) then (if (wrap64 (x13_4 - 1)) < (l0.length : Int) then ((hash_Of.f ((rd_T24 l0 (wrap64 (x13_4 - 1))).f0)).bind fun t177 => ((hash_Shown.f ((rd_T24 l0 (wrap64 (x13_4 - 1))).f0) ((rd_T24 l0 (wrap64 (x13_4 - 1))).f1) ((rd_T24 l0 (wrap64 (x13_4 - 1))).f2) ((rd_T24 l0 (wrap64 (x13_4 - 1))).f3) ((rd_T24 l0 (wrap64 (x13_4 - 1))).f4) ((rd_T24 l0 (wrap64 (x13_4 - 1))).f5) ((rd_T24 l0 (wrap64 (x13_4 - 1))).f6) ((rd_T24 l0 (wrap64 (x13_4 - 1))).f7)).bind fun t179 => (if t179 = true then (if ((a1) % 4294967296) = 0 then (none) else (if (wrap64 (Int.tmod t177 ((a1) % 4294967296))) = x12_3 then (if (wrap64 (x13_4 - 1)) < (t168.length : Int) then (if (rd t168 (wrap64 (x13_4 - 1))) = 0 then (curtilagelaw12_HashAlong.l2 kj27 l0 a1 t164 x8_2 (wrap64 (x11_4 + 1)) x12_3 (rd t168 (wrap64 (x13_4 - 1))) t165 t168) else (if (rd t168 (wrap64 (x13_4 - 1))) ≤ x13_4 then (some false) else (curtilagelaw12_HashAlong.l2 kj27 l0 a1 t164 x8_2 (wrap64 (x11_4 + 1)) x12_3 (rd t168 (wrap64 (x13_4 - 1))) t165 t168))) else (none)) else (some false))) else (some false)))) else (none)) else (none)) = some r := by rw [if_neg (show ¬ (false = true) by decide)] at H; exact H
                                      clear H
                                      have H := H1
                                      clear H1
                                      obtain ⟨ji32, hji32⟩ : ∃ j_ : Int, (wrap64 (x13_4 - 1)) = j_ := ⟨_, rfl⟩
                                      replace H : (if 0 ≤ (ji32) then (if (ji32) < (l0.length : Int) then ((hash_Of.f ((rd_T24 l0 (ji32)).f0)).bind fun t177 => ((hash_Shown.f ((rd_T24 l0 (ji32)).f0) ((rd_T24 l0 (ji32)).f1) ((rd_T24 l0 (ji32)).f2) ((rd_T24 l0 (ji32)).f3) ((rd_T24 l0 (ji32)).f4) ((rd_T24 l0 (ji32)).f5) ((rd_T24 l0 (ji32)).f6) ((rd_T24 l0 (ji32)).f7)).bind fun t179 => (if t179 = true then (if ((a1) % 4294967296) = 0 then (none) else (if (wrap64 (Int.tmod t177 ((a1) % 4294967296))) = x12_3 then (if (ji32) < (t168.length : Int) then (if (rd t168 (ji32)) = 0 then (curtilagelaw12_HashAlong.l2 kj27 l0 a1 t164 x8_2 (wrap64 (x11_4 + 1)) x12_3 (rd t168 (ji32)) t165 t168) else (if (rd t168 (ji32)) ≤ x13_4 then (some false) else (curtilagelaw12_HashAlong.l2 kj27 l0 a1 t164 x8_2 (wrap64 (x11_4 + 1)) x12_3 (rd t168 (ji32)) t165 t168))) else (none)) else (some false))) else (some false)))) else (none)) else (none)) = some r := by first | (rw [hji32] at H; exact H) | (simp only [hji32] at H ⊢; exact H)
                                      have hji32w : (IntKind.i64.wrap (x13_4 - 1)) = ji32 := (i64_w _).trans hji32
                                      by_cases c33 : 0 ≤ (ji32)
                                      · rw [if_pos c33] at H
                                        have c33b0 : decide (0 ≤ (ji32)) = true := decide_eq_true c33
                                        clear c33
                                        by_cases c34 : (ji32) < (l0.length : Int)
                                        · rw [if_pos c34] at H
                                          have c34b0 : decide ((ji32) < (l0.length : Int)) = true := decide_eq_true c34
                                          clear c34
                                          replace H := Option.bind_eq_some_iff.mp H
                                          obtain ⟨t177, A350, H⟩ := H
                                          replace H : ((hash_Shown.f ((rd_T24 l0 (ji32)).f0) ((rd_T24 l0 (ji32)).f1) ((rd_T24 l0 (ji32)).f2) ((rd_T24 l0 (ji32)).f3) ((rd_T24 l0 (ji32)).f4) ((rd_T24 l0 (ji32)).f5) ((rd_T24 l0 (ji32)).f6) ((rd_T24 l0 (ji32)).f7)).bind fun t179 => (if t179 = true then (if ((a1) % 4294967296) = 0 then (none) else (if (wrap64 (Int.tmod t177 ((a1) % 4294967296))) = x12_3 then (if (ji32) < (t168.length : Int) then (if (rd t168 (ji32)) = 0 then (curtilagelaw12_HashAlong.l2 kj27 l0 a1 t164 x8_2 (wrap64 (x11_4 + 1)) x12_3 (rd t168 (ji32)) t165 t168) else (if (rd t168 (ji32)) ≤ x13_4 then (some false) else (curtilagelaw12_HashAlong.l2 kj27 l0 a1 t164 x8_2 (wrap64 (x11_4 + 1)) x12_3 (rd t168 (ji32)) t165 t168))) else (none)) else (some false))) else (some false))) = some r := H
                                          have A35 := Aside0.mk A350
                                          clear A350
                                          replace H := Option.bind_eq_some_iff.mp H
                                          obtain ⟨t179, A360, H⟩ := H
                                          replace H : (if t179 = true then (if ((a1) % 4294967296) = 0 then (none) else (if (wrap64 (Int.tmod t177 ((a1) % 4294967296))) = x12_3 then (if (ji32) < (t168.length : Int) then (if (rd t168 (ji32)) = 0 then (curtilagelaw12_HashAlong.l2 kj27 l0 a1 t164 x8_2 (wrap64 (x11_4 + 1)) x12_3 (rd t168 (ji32)) t165 t168) else (if (rd t168 (ji32)) ≤ x13_4 then (some false) else (curtilagelaw12_HashAlong.l2 kj27 l0 a1 t164 x8_2 (wrap64 (x11_4 + 1)) x12_3 (rd t168 (ji32)) t165 t168))) else (none)) else (some false))) else (some false)) = some r := H
                                          have A36 := Aside0.mk A360
                                          clear A360
                                          by_cases c37 : t179 = true
                                          · subst c37
                                            have H1 : (if ((a1) % 4294967296) = 0 then (none) else (if (wrap64 (Int.tmod t177 ((a1) % 4294967296))) = x12_3 then (if (ji32) < (t168.length : Int) then (if (rd t168 (ji32)) = 0 then (curtilagelaw12_HashAlong.l2 kj27 l0 a1 t164 x8_2 (wrap64 (x11_4 + 1)) x12_3 (rd t168 (ji32)) t165 t168) else (if (rd t168 (ji32)) ≤ x13_4 then (some false) else (curtilagelaw12_HashAlong.l2 kj27 l0 a1 t164 x8_2 (wrap64 (x11_4 + 1)) x12_3 (rd t168 (ji32)) t165 t168))) else (none)) else (some false))) = some r := by rw [if_pos rfl] at H; exact H
                                            clear H
                                            have H := H1
                                            clear H1
                                            by_cases c38 : ((a1) % 4294967296) = 0
                                            · rw [if_pos c38] at H
                                              exact absurd H (by simp)
                                            · rw [if_neg c38] at H
                                              have c38b0 : (((a1) % 4294967296) == 0) = false := beq_eq_false_iff_ne.mpr c38
                                              have c38b1 : (((a1) % 4294967296) != 0) = true := bne_iff_ne.mpr c38
                                              by_cases c39 : (wrap64 (Int.tmod t177 ((a1) % 4294967296))) = x12_3
                                              · rw [if_pos c39] at H
                                                have c39b0 : ((wrap64 (Int.tmod t177 ((a1) % 4294967296))) == x12_3) = true := beq_iff_eq.mpr c39
                                                have c39b1 : ((wrap64 (Int.tmod t177 ((a1) % 4294967296))) != x12_3) = false := bne_eq_false_iff_eq.mpr c39
                                                clear c39
                                                by_cases c40 : (ji32) < (t168.length : Int)
                                                · rw [if_pos c40] at H
                                                  have c40b0 : decide ((ji32) < (t168.length : Int)) = true := decide_eq_true c40
                                                  clear c40
                                                  by_cases c41 : (rd t168 (ji32)) = 0
                                                  · rw [if_pos c41] at H
                                                    have c41b0 : ((rd t168 (ji32)) == 0) = true := beq_iff_eq.mpr c41
                                                    have c41b1 : ((rd t168 (ji32)) != 0) = false := bne_eq_false_iff_eq.mpr c41
                                                    clear c41
                                                    have H' := Aside0.mk H
                                                    clear H
                                                    have p176 : 0 ≤ ((ji32) : Int) := of_decide_eq_true (by first | (with_reducible assumption) | assumption)
                                                    have q176 : (ji32) < (l0.length : Int) := of_decide_eq_true (by first | (with_reducible assumption) | assumption)
                                                    obtain ⟨ad176, e176, hx176_0, hx176_1, hx176_2, hx176_3, hx176_4, hx176_5, hx176_6, hx176_7⟩ := at_T24 HR0.out (ji32) p176 q176
                                                    cases e176
                                                    replace hx176_0 := (HB.out.cell (World.block_lt_of_cell? w _ hx176_0)).trans hx176_0
                                                    replace hx176_1 := (HB.out.cell (World.block_lt_of_cell? w _ hx176_1)).trans hx176_1
                                                    replace hx176_2 := (HB.out.cell (World.block_lt_of_cell? w _ hx176_2)).trans hx176_2
                                                    replace hx176_3 := (HB.out.cell (World.block_lt_of_cell? w _ hx176_3)).trans hx176_3
                                                    replace hx176_4 := (HB.out.cell (World.block_lt_of_cell? w _ hx176_4)).trans hx176_4
                                                    replace hx176_5 := (HB.out.cell (World.block_lt_of_cell? w _ hx176_5)).trans hx176_5
                                                    replace hx176_6 := (HB.out.cell (World.block_lt_of_cell? w _ hx176_6)).trans hx176_6
                                                    replace hx176_7 := (HB.out.cell (World.block_lt_of_cell? w _ hx176_7)).trans hx176_7
                                                    replace p176 := eq_true p176
                                                    replace q176 := eq_true q176
                                                    go_wp2_with (first | ((with_reducible refine gate_callee (f := 10) rfl ?_); refine goesL_ (some 96) rfl rfl Try.func10 (by kernel_rfl) rfl #[.string ((rd_T24 l0 (ji32)).f0)] rfl (by (try simp only [List.map_toArray, List.map_cons, List.map_nil]); first | done | (simp only [hji32]; rfl) | rfl | (simp only [List.length_drop, List.length_take]; rfl)) ?_; (with_reducible refine (hash_Of.calls ((rd_T24 l0 (ji32)).f0) t177 _ A35.out).mono ?_); rintro e w42 ⟨rfl, hb⟩; refine ⟨_, rfl, ?_⟩; have n0_ := Aside0.mk (Kd.R_below (by (with_reducible repeat (first | apply Kd.R_alloc | apply Kd.R_drewN | apply Kd.R_drew)); exact HO_173000.out) hb); have n1_ := Aside0.mk (Kd.R_below (by (with_reducible repeat (first | apply Kd.R_alloc | apply Kd.R_drewN | apply Kd.R_drew)); exact HO_173001.out) hb); have n2_ := Aside0.mk (blk_below (g := gb172) (o := .cells #[.slice (some ad175) t165.length co10, .slice Ao12 t168.length co12] 33 (0, 0)) (by (with_reducible repeat (first | refine blk_drewN ?_ _ | refine blk_drew ?_ | refine blk_alloc ?_ _)); exact BK172.out) hb); have n3_ := Aside0.mk (below_step (by repeat (first | (with_reducible first | exact HB.out | apply below_alloc | apply pw_below_drewN | apply below_drew1 | refine below_set ?_ GE172.out) | exact HB.out)) hb); clear HO_173000; clear HO_173001; clear BK172; clear HB; have HO_173000 := n0_; have HO_173001 := n1_; have BK172 := n2_; have HB := n3_; clear n0_ n1_ n2_ n3_; (try clear hb); (try clear hb2); (try clear hk); (try clear hi); have p178 : 0 ≤ ((ji32) : Int) := of_decide_eq_true (by first | (with_reducible assumption) | assumption); have q178 : (ji32) < (l0.length : Int) := of_decide_eq_true (by first | (with_reducible assumption) | assumption); obtain ⟨ad178, e178, hx178_0, hx178_1, hx178_2, hx178_3, hx178_4, hx178_5, hx178_6, hx178_7⟩ := at_T24 HR0.out (ji32) p178 q178; obtain rfl : ad176 = ad178 := (by injection e178); replace hx178_0 := (HB.out.cell (World.block_lt_of_cell? w _ hx178_0)).trans hx178_0; replace hx178_1 := (HB.out.cell (World.block_lt_of_cell? w _ hx178_1)).trans hx178_1; replace hx178_2 := (HB.out.cell (World.block_lt_of_cell? w _ hx178_2)).trans hx178_2; replace hx178_3 := (HB.out.cell (World.block_lt_of_cell? w _ hx178_3)).trans hx178_3; replace hx178_4 := (HB.out.cell (World.block_lt_of_cell? w _ hx178_4)).trans hx178_4; replace hx178_5 := (HB.out.cell (World.block_lt_of_cell? w _ hx178_5)).trans hx178_5; replace hx178_6 := (HB.out.cell (World.block_lt_of_cell? w _ hx178_6)).trans hx178_6; replace hx178_7 := (HB.out.cell (World.block_lt_of_cell? w _ hx178_7)).trans hx178_7; replace p178 := eq_true p178; replace q178 := eq_true q178) | ((with_reducible refine gate_callee (f := 11) rfl ?_); refine goesL_ (some 102) rfl rfl Try.func11 (by kernel_rfl) rfl #[.agg #[.string ((rd_T24 l0 (ji32)).f0), .string ((rd_T24 l0 (ji32)).f1), .int .u64 ((rd_T24 l0 (ji32)).f2), .int .u64 ((rd_T24 l0 (ji32)).f3), .int .i64 ((rd_T24 l0 (ji32)).f4), .int .i64 ((rd_T24 l0 (ji32)).f5), .int .i64 ((rd_T24 l0 (ji32)).f6), .bool ((rd_T24 l0 (ji32)).f7)]] rfl (by (try simp only [List.map_toArray, List.map_cons, List.map_nil]); first | done | (simp only [hji32]; rfl) | rfl | (simp only [List.length_drop, List.length_take]; rfl)) ?_; (with_reducible refine (hash_Shown.calls ((rd_T24 l0 (ji32)).f0) ((rd_T24 l0 (ji32)).f1) ((rd_T24 l0 (ji32)).f2) ((rd_T24 l0 (ji32)).f3) ((rd_T24 l0 (ji32)).f4) ((rd_T24 l0 (ji32)).f5) ((rd_T24 l0 (ji32)).f6) ((rd_T24 l0 (ji32)).f7) true _ A36.out).mono ?_); rintro e w43 ⟨rfl, hb⟩; refine ⟨_, rfl, ?_⟩; have n0_ := Aside0.mk (Kd.R_below (by (with_reducible repeat (first | apply Kd.R_alloc | apply Kd.R_drewN | apply Kd.R_drew)); exact HO_173000.out) hb); have n1_ := Aside0.mk (Kd.R_below (by (with_reducible repeat (first | apply Kd.R_alloc | apply Kd.R_drewN | apply Kd.R_drew)); exact HO_173001.out) hb); have n2_ := Aside0.mk (blk_below (g := gb172) (o := .cells #[.slice (some ad175) t165.length co10, .slice Ao12 t168.length co12] 33 (0, 0)) (by (with_reducible repeat (first | refine blk_drewN ?_ _ | refine blk_drew ?_ | refine blk_alloc ?_ _)); exact BK172.out) hb); have n3_ := Aside0.mk (below_step (by repeat (first | (with_reducible first | exact HB.out | apply below_alloc | apply pw_below_drewN | apply below_drew1 | refine below_set ?_ GE172.out) | exact HB.out)) hb); clear HO_173000; clear HO_173001; clear BK172; clear HB; have HO_173000 := n0_; have HO_173001 := n1_; have BK172 := n2_; have HB := n3_; clear n0_ n1_ n2_ n3_; (try clear hb); (try clear hb2); (try clear hk); (try clear hi); have hcz44_0 : w43.cell? ⟨gb172, 0, none⟩ = some (.slice (some ad175) t165.length co10) := (blk_cell BK172.out 0).trans rfl; have hcz44_1 : w43.cell? ⟨gb172, 1, none⟩ = some (.slice Ao12 t168.length co12) := (blk_cell BK172.out 1).trans rfl; have hfz44_0 := blk_frozen BK172.out 0; have hfz44_1 := blk_frozen BK172.out 1; have p180 : 0 ≤ ((ji32) : Int) := of_decide_eq_true (by first | (with_reducible assumption) | assumption); have q180 : (ji32) < (t168.length : Int) := of_decide_eq_true (by first | (with_reducible assumption) | assumption); obtain ⟨ad180, e180, hx180_0⟩ := Kd.at_int (Kd.R_reads' HO_173001.out).2.2 (ji32) p180 q180; cases e180; replace p180 := eq_true p180; replace q180 := eq_true q180; have p181 : 0 ≤ ((ji32) : Int) := of_decide_eq_true (by first | (with_reducible assumption) | assumption); have q181 : (ji32) < (t168.length : Int) := of_decide_eq_true (by first | (with_reducible assumption) | assumption); obtain ⟨ad181, e181, hx181_0⟩ := Kd.at_int (Kd.R_reads' HO_173001.out).2.2 (ji32) p181 q181; obtain rfl : ad180 = ad181 := (by injection e181); replace p181 := eq_true p181; replace q181 := eq_true q181))
                                                    go_roundg kj27
                                                    case measure => have := HJ5.out; have := HK2.out; have := HK3.out; have := HK4.out; have := HJ27.out; omega
                                                    case rel => exact ⟨(wrap64 (x11_4 + 1)), (rd t168 (ji32)), (by first | rfl | (simp; done) | (simp [*]; done)), (by first | rfl | (simp; done) | (simp only [← hji32] <;> (first | rfl | simp)) | (simp [*]; done)), H', ⟨by have := HJ5.out; have := HK2.out; have := HK3.out; have := HK4.out; have := HJ27.out; omega⟩, ⟨by (with_reducible repeat (first | apply Kd.R_alloc | apply Kd.R_drewN | apply Kd.R_drew)); exact HO_173000.out⟩, ⟨by (with_reducible repeat (first | apply Kd.R_alloc | apply Kd.R_drewN | apply Kd.R_drew)); exact HO_173001.out⟩, ⟨by (with_reducible repeat (first | refine blk_drewN ?_ _ | refine blk_drew ?_ | refine blk_alloc ?_ _)); exact BK172.out⟩, ⟨by repeat (first | (with_reducible first | exact HB.out | apply below_alloc | apply pw_below_drewN | apply below_drew1 | refine below_set ?_ GE172.out) | exact HB.out)⟩⟩
                                                  · rw [if_neg c41] at H
                                                    have c41b0 : ((rd t168 (ji32)) == 0) = false := beq_eq_false_iff_ne.mpr c41
                                                    have c41b1 : ((rd t168 (ji32)) != 0) = true := bne_iff_ne.mpr c41
                                                    by_cases c45 : (rd t168 (ji32)) ≤ x13_4
                                                    · rw [if_pos c45] at H
                                                      have c45b0 : decide ((rd t168 (ji32)) ≤ x13_4) = true := decide_eq_true c45
                                                      clear c45
                                                      obtain rfl := Option.some.inj H
                                                      have p176 : 0 ≤ ((ji32) : Int) := of_decide_eq_true (by first | (with_reducible assumption) | assumption)
                                                      have q176 : (ji32) < (l0.length : Int) := of_decide_eq_true (by first | (with_reducible assumption) | assumption)
                                                      obtain ⟨ad176, e176, hx176_0, hx176_1, hx176_2, hx176_3, hx176_4, hx176_5, hx176_6, hx176_7⟩ := at_T24 HR0.out (ji32) p176 q176
                                                      cases e176
                                                      replace hx176_0 := (HB.out.cell (World.block_lt_of_cell? w _ hx176_0)).trans hx176_0
                                                      replace hx176_1 := (HB.out.cell (World.block_lt_of_cell? w _ hx176_1)).trans hx176_1
                                                      replace hx176_2 := (HB.out.cell (World.block_lt_of_cell? w _ hx176_2)).trans hx176_2
                                                      replace hx176_3 := (HB.out.cell (World.block_lt_of_cell? w _ hx176_3)).trans hx176_3
                                                      replace hx176_4 := (HB.out.cell (World.block_lt_of_cell? w _ hx176_4)).trans hx176_4
                                                      replace hx176_5 := (HB.out.cell (World.block_lt_of_cell? w _ hx176_5)).trans hx176_5
                                                      replace hx176_6 := (HB.out.cell (World.block_lt_of_cell? w _ hx176_6)).trans hx176_6
                                                      replace hx176_7 := (HB.out.cell (World.block_lt_of_cell? w _ hx176_7)).trans hx176_7
                                                      replace p176 := eq_true p176
                                                      replace q176 := eq_true q176
                                                      go_wp2_with (first | ((with_reducible refine gate_callee (f := 10) rfl ?_); refine goesL_ (some 96) rfl rfl Try.func10 (by kernel_rfl) rfl #[.string ((rd_T24 l0 (ji32)).f0)] rfl (by (try simp only [List.map_toArray, List.map_cons, List.map_nil]); first | done | (simp only [hji32]; rfl) | rfl | (simp only [List.length_drop, List.length_take]; rfl)) ?_; (with_reducible refine (hash_Of.calls ((rd_T24 l0 (ji32)).f0) t177 _ A35.out).mono ?_); rintro e w46 ⟨rfl, hb⟩; refine ⟨_, rfl, ?_⟩; have n0_ := Aside0.mk (Kd.R_below (by (with_reducible repeat (first | apply Kd.R_alloc | apply Kd.R_drewN | apply Kd.R_drew)); exact HO_173000.out) hb); have n1_ := Aside0.mk (Kd.R_below (by (with_reducible repeat (first | apply Kd.R_alloc | apply Kd.R_drewN | apply Kd.R_drew)); exact HO_173001.out) hb); have n2_ := Aside0.mk (blk_below (g := gb172) (o := .cells #[.slice (some ad175) t165.length co10, .slice Ao12 t168.length co12] 33 (0, 0)) (by (with_reducible repeat (first | refine blk_drewN ?_ _ | refine blk_drew ?_ | refine blk_alloc ?_ _)); exact BK172.out) hb); have n3_ := Aside0.mk (below_step (by repeat (first | (with_reducible first | exact HB.out | apply below_alloc | apply pw_below_drewN | apply below_drew1 | refine below_set ?_ GE172.out) | exact HB.out)) hb); clear HO_173000; clear HO_173001; clear BK172; clear HB; have HO_173000 := n0_; have HO_173001 := n1_; have BK172 := n2_; have HB := n3_; clear n0_ n1_ n2_ n3_; (try clear hb); (try clear hb2); (try clear hk); (try clear hi); have p178 : 0 ≤ ((ji32) : Int) := of_decide_eq_true (by first | (with_reducible assumption) | assumption); have q178 : (ji32) < (l0.length : Int) := of_decide_eq_true (by first | (with_reducible assumption) | assumption); obtain ⟨ad178, e178, hx178_0, hx178_1, hx178_2, hx178_3, hx178_4, hx178_5, hx178_6, hx178_7⟩ := at_T24 HR0.out (ji32) p178 q178; obtain rfl : ad176 = ad178 := (by injection e178); replace hx178_0 := (HB.out.cell (World.block_lt_of_cell? w _ hx178_0)).trans hx178_0; replace hx178_1 := (HB.out.cell (World.block_lt_of_cell? w _ hx178_1)).trans hx178_1; replace hx178_2 := (HB.out.cell (World.block_lt_of_cell? w _ hx178_2)).trans hx178_2; replace hx178_3 := (HB.out.cell (World.block_lt_of_cell? w _ hx178_3)).trans hx178_3; replace hx178_4 := (HB.out.cell (World.block_lt_of_cell? w _ hx178_4)).trans hx178_4; replace hx178_5 := (HB.out.cell (World.block_lt_of_cell? w _ hx178_5)).trans hx178_5; replace hx178_6 := (HB.out.cell (World.block_lt_of_cell? w _ hx178_6)).trans hx178_6; replace hx178_7 := (HB.out.cell (World.block_lt_of_cell? w _ hx178_7)).trans hx178_7; replace p178 := eq_true p178; replace q178 := eq_true q178) | ((with_reducible refine gate_callee (f := 11) rfl ?_); refine goesL_ (some 102) rfl rfl Try.func11 (by kernel_rfl) rfl #[.agg #[.string ((rd_T24 l0 (ji32)).f0), .string ((rd_T24 l0 (ji32)).f1), .int .u64 ((rd_T24 l0 (ji32)).f2), .int .u64 ((rd_T24 l0 (ji32)).f3), .int .i64 ((rd_T24 l0 (ji32)).f4), .int .i64 ((rd_T24 l0 (ji32)).f5), .int .i64 ((rd_T24 l0 (ji32)).f6), .bool ((rd_T24 l0 (ji32)).f7)]] rfl (by (try simp only [List.map_toArray, List.map_cons, List.map_nil]); first | done | (simp only [hji32]; rfl) | rfl | (simp only [List.length_drop, List.length_take]; rfl)) ?_; (with_reducible refine (hash_Shown.calls ((rd_T24 l0 (ji32)).f0) ((rd_T24 l0 (ji32)).f1) ((rd_T24 l0 (ji32)).f2) ((rd_T24 l0 (ji32)).f3) ((rd_T24 l0 (ji32)).f4) ((rd_T24 l0 (ji32)).f5) ((rd_T24 l0 (ji32)).f6) ((rd_T24 l0 (ji32)).f7) true _ A36.out).mono ?_); rintro e w47 ⟨rfl, hb⟩; refine ⟨_, rfl, ?_⟩; have n0_ := Aside0.mk (Kd.R_below (by (with_reducible repeat (first | apply Kd.R_alloc | apply Kd.R_drewN | apply Kd.R_drew)); exact HO_173000.out) hb); have n1_ := Aside0.mk (Kd.R_below (by (with_reducible repeat (first | apply Kd.R_alloc | apply Kd.R_drewN | apply Kd.R_drew)); exact HO_173001.out) hb); have n2_ := Aside0.mk (blk_below (g := gb172) (o := .cells #[.slice (some ad175) t165.length co10, .slice Ao12 t168.length co12] 33 (0, 0)) (by (with_reducible repeat (first | refine blk_drewN ?_ _ | refine blk_drew ?_ | refine blk_alloc ?_ _)); exact BK172.out) hb); have n3_ := Aside0.mk (below_step (by repeat (first | (with_reducible first | exact HB.out | apply below_alloc | apply pw_below_drewN | apply below_drew1 | refine below_set ?_ GE172.out) | exact HB.out)) hb); clear HO_173000; clear HO_173001; clear BK172; clear HB; have HO_173000 := n0_; have HO_173001 := n1_; have BK172 := n2_; have HB := n3_; clear n0_ n1_ n2_ n3_; (try clear hb); (try clear hb2); (try clear hk); (try clear hi); have hcz48_0 : w47.cell? ⟨gb172, 0, none⟩ = some (.slice (some ad175) t165.length co10) := (blk_cell BK172.out 0).trans rfl; have hcz48_1 : w47.cell? ⟨gb172, 1, none⟩ = some (.slice Ao12 t168.length co12) := (blk_cell BK172.out 1).trans rfl; have hfz48_0 := blk_frozen BK172.out 0; have hfz48_1 := blk_frozen BK172.out 1; have p180 : 0 ≤ ((ji32) : Int) := of_decide_eq_true (by first | (with_reducible assumption) | assumption); have q180 : (ji32) < (t168.length : Int) := of_decide_eq_true (by first | (with_reducible assumption) | assumption); obtain ⟨ad180, e180, hx180_0⟩ := Kd.at_int (Kd.R_reads' HO_173001.out).2.2 (ji32) p180 q180; cases e180; replace p180 := eq_true p180; replace q180 := eq_true q180; have p182 : 0 ≤ ((ji32) : Int) := of_decide_eq_true (by first | (with_reducible assumption) | assumption); have q182 : (ji32) < (t168.length : Int) := of_decide_eq_true (by first | (with_reducible assumption) | assumption); obtain ⟨ad182, e182, hx182_0⟩ := Kd.at_int (Kd.R_reads' HO_173001.out).2.2 (ji32) p182 q182; obtain rfl : ad180 = ad182 := (by injection e182); replace p182 := eq_true p182; replace q182 := eq_true q182))
                                                      go_ret
                                                      exact ⟨by first | rfl | (simp [errW_none, errW_some] <;> rfl) | (simp only [← hji32]; first | rfl | (simp [errW_none, errW_some] <;> rfl)) | (simp [*, errW_none, errW_some] <;> rfl), by repeat (first | (with_reducible first | exact HB.out | apply below_alloc | apply pw_below_drewN | apply below_drew1 | refine below_set ?_ GE172.out) | exact HB.out)⟩
                                                    · rw [if_neg c45] at H
                                                      have c45b0 : decide ((rd t168 (ji32)) ≤ x13_4) = false := decide_eq_false c45
                                                      clear c45
                                                      have H' := Aside0.mk H
                                                      clear H
                                                      have p176 : 0 ≤ ((ji32) : Int) := of_decide_eq_true (by first | (with_reducible assumption) | assumption)
                                                      have q176 : (ji32) < (l0.length : Int) := of_decide_eq_true (by first | (with_reducible assumption) | assumption)
                                                      obtain ⟨ad176, e176, hx176_0, hx176_1, hx176_2, hx176_3, hx176_4, hx176_5, hx176_6, hx176_7⟩ := at_T24 HR0.out (ji32) p176 q176
                                                      cases e176
                                                      replace hx176_0 := (HB.out.cell (World.block_lt_of_cell? w _ hx176_0)).trans hx176_0
                                                      replace hx176_1 := (HB.out.cell (World.block_lt_of_cell? w _ hx176_1)).trans hx176_1
                                                      replace hx176_2 := (HB.out.cell (World.block_lt_of_cell? w _ hx176_2)).trans hx176_2
                                                      replace hx176_3 := (HB.out.cell (World.block_lt_of_cell? w _ hx176_3)).trans hx176_3
                                                      replace hx176_4 := (HB.out.cell (World.block_lt_of_cell? w _ hx176_4)).trans hx176_4
                                                      replace hx176_5 := (HB.out.cell (World.block_lt_of_cell? w _ hx176_5)).trans hx176_5
                                                      replace hx176_6 := (HB.out.cell (World.block_lt_of_cell? w _ hx176_6)).trans hx176_6
                                                      replace hx176_7 := (HB.out.cell (World.block_lt_of_cell? w _ hx176_7)).trans hx176_7
                                                      replace p176 := eq_true p176
                                                      replace q176 := eq_true q176
                                                      go_wp2_with (first | ((with_reducible refine gate_callee (f := 10) rfl ?_); refine goesL_ (some 96) rfl rfl Try.func10 (by kernel_rfl) rfl #[.string ((rd_T24 l0 (ji32)).f0)] rfl (by (try simp only [List.map_toArray, List.map_cons, List.map_nil]); first | done | (simp only [hji32]; rfl) | rfl | (simp only [List.length_drop, List.length_take]; rfl)) ?_; (with_reducible refine (hash_Of.calls ((rd_T24 l0 (ji32)).f0) t177 _ A35.out).mono ?_); rintro e w49 ⟨rfl, hb⟩; refine ⟨_, rfl, ?_⟩; have n0_ := Aside0.mk (Kd.R_below (by (with_reducible repeat (first | apply Kd.R_alloc | apply Kd.R_drewN | apply Kd.R_drew)); exact HO_173000.out) hb); have n1_ := Aside0.mk (Kd.R_below (by (with_reducible repeat (first | apply Kd.R_alloc | apply Kd.R_drewN | apply Kd.R_drew)); exact HO_173001.out) hb); have n2_ := Aside0.mk (blk_below (g := gb172) (o := .cells #[.slice (some ad175) t165.length co10, .slice Ao12 t168.length co12] 33 (0, 0)) (by (with_reducible repeat (first | refine blk_drewN ?_ _ | refine blk_drew ?_ | refine blk_alloc ?_ _)); exact BK172.out) hb); have n3_ := Aside0.mk (below_step (by repeat (first | (with_reducible first | exact HB.out | apply below_alloc | apply pw_below_drewN | apply below_drew1 | refine below_set ?_ GE172.out) | exact HB.out)) hb); clear HO_173000; clear HO_173001; clear BK172; clear HB; have HO_173000 := n0_; have HO_173001 := n1_; have BK172 := n2_; have HB := n3_; clear n0_ n1_ n2_ n3_; (try clear hb); (try clear hb2); (try clear hk); (try clear hi); have p178 : 0 ≤ ((ji32) : Int) := of_decide_eq_true (by first | (with_reducible assumption) | assumption); have q178 : (ji32) < (l0.length : Int) := of_decide_eq_true (by first | (with_reducible assumption) | assumption); obtain ⟨ad178, e178, hx178_0, hx178_1, hx178_2, hx178_3, hx178_4, hx178_5, hx178_6, hx178_7⟩ := at_T24 HR0.out (ji32) p178 q178; obtain rfl : ad176 = ad178 := (by injection e178); replace hx178_0 := (HB.out.cell (World.block_lt_of_cell? w _ hx178_0)).trans hx178_0; replace hx178_1 := (HB.out.cell (World.block_lt_of_cell? w _ hx178_1)).trans hx178_1; replace hx178_2 := (HB.out.cell (World.block_lt_of_cell? w _ hx178_2)).trans hx178_2; replace hx178_3 := (HB.out.cell (World.block_lt_of_cell? w _ hx178_3)).trans hx178_3; replace hx178_4 := (HB.out.cell (World.block_lt_of_cell? w _ hx178_4)).trans hx178_4; replace hx178_5 := (HB.out.cell (World.block_lt_of_cell? w _ hx178_5)).trans hx178_5; replace hx178_6 := (HB.out.cell (World.block_lt_of_cell? w _ hx178_6)).trans hx178_6; replace hx178_7 := (HB.out.cell (World.block_lt_of_cell? w _ hx178_7)).trans hx178_7; replace p178 := eq_true p178; replace q178 := eq_true q178) | ((with_reducible refine gate_callee (f := 11) rfl ?_); refine goesL_ (some 102) rfl rfl Try.func11 (by kernel_rfl) rfl #[.agg #[.string ((rd_T24 l0 (ji32)).f0), .string ((rd_T24 l0 (ji32)).f1), .int .u64 ((rd_T24 l0 (ji32)).f2), .int .u64 ((rd_T24 l0 (ji32)).f3), .int .i64 ((rd_T24 l0 (ji32)).f4), .int .i64 ((rd_T24 l0 (ji32)).f5), .int .i64 ((rd_T24 l0 (ji32)).f6), .bool ((rd_T24 l0 (ji32)).f7)]] rfl (by (try simp only [List.map_toArray, List.map_cons, List.map_nil]); first | done | (simp only [hji32]; rfl) | rfl | (simp only [List.length_drop, List.length_take]; rfl)) ?_; (with_reducible refine (hash_Shown.calls ((rd_T24 l0 (ji32)).f0) ((rd_T24 l0 (ji32)).f1) ((rd_T24 l0 (ji32)).f2) ((rd_T24 l0 (ji32)).f3) ((rd_T24 l0 (ji32)).f4) ((rd_T24 l0 (ji32)).f5) ((rd_T24 l0 (ji32)).f6) ((rd_T24 l0 (ji32)).f7) true _ A36.out).mono ?_); rintro e w50 ⟨rfl, hb⟩; refine ⟨_, rfl, ?_⟩; have n0_ := Aside0.mk (Kd.R_below (by (with_reducible repeat (first | apply Kd.R_alloc | apply Kd.R_drewN | apply Kd.R_drew)); exact HO_173000.out) hb); have n1_ := Aside0.mk (Kd.R_below (by (with_reducible repeat (first | apply Kd.R_alloc | apply Kd.R_drewN | apply Kd.R_drew)); exact HO_173001.out) hb); have n2_ := Aside0.mk (blk_below (g := gb172) (o := .cells #[.slice (some ad175) t165.length co10, .slice Ao12 t168.length co12] 33 (0, 0)) (by (with_reducible repeat (first | refine blk_drewN ?_ _ | refine blk_drew ?_ | refine blk_alloc ?_ _)); exact BK172.out) hb); have n3_ := Aside0.mk (below_step (by repeat (first | (with_reducible first | exact HB.out | apply below_alloc | apply pw_below_drewN | apply below_drew1 | refine below_set ?_ GE172.out) | exact HB.out)) hb); clear HO_173000; clear HO_173001; clear BK172; clear HB; have HO_173000 := n0_; have HO_173001 := n1_; have BK172 := n2_; have HB := n3_; clear n0_ n1_ n2_ n3_; (try clear hb); (try clear hb2); (try clear hk); (try clear hi); have hcz51_0 : w50.cell? ⟨gb172, 0, none⟩ = some (.slice (some ad175) t165.length co10) := (blk_cell BK172.out 0).trans rfl; have hcz51_1 : w50.cell? ⟨gb172, 1, none⟩ = some (.slice Ao12 t168.length co12) := (blk_cell BK172.out 1).trans rfl; have hfz51_0 := blk_frozen BK172.out 0; have hfz51_1 := blk_frozen BK172.out 1; have p180 : 0 ≤ ((ji32) : Int) := of_decide_eq_true (by first | (with_reducible assumption) | assumption); have q180 : (ji32) < (t168.length : Int) := of_decide_eq_true (by first | (with_reducible assumption) | assumption); obtain ⟨ad180, e180, hx180_0⟩ := Kd.at_int (Kd.R_reads' HO_173001.out).2.2 (ji32) p180 q180; cases e180; replace p180 := eq_true p180; replace q180 := eq_true q180; have p182 : 0 ≤ ((ji32) : Int) := of_decide_eq_true (by first | (with_reducible assumption) | assumption); have q182 : (ji32) < (t168.length : Int) := of_decide_eq_true (by first | (with_reducible assumption) | assumption); obtain ⟨ad182, e182, hx182_0⟩ := Kd.at_int (Kd.R_reads' HO_173001.out).2.2 (ji32) p182 q182; obtain rfl : ad180 = ad182 := (by injection e182); replace p182 := eq_true p182; replace q182 := eq_true q182; have p183 : 0 ≤ ((ji32) : Int) := of_decide_eq_true (by first | (with_reducible assumption) | assumption); have q183 : (ji32) < (t168.length : Int) := of_decide_eq_true (by first | (with_reducible assumption) | assumption); obtain ⟨ad183, e183, hx183_0⟩ := Kd.at_int (Kd.R_reads' HO_173001.out).2.2 (ji32) p183 q183; obtain rfl : ad180 = ad183 := (by injection e183); replace p183 := eq_true p183; replace q183 := eq_true q183))
                                                      go_roundg kj27
                                                      case measure => have := HJ5.out; have := HK2.out; have := HK3.out; have := HK4.out; have := HJ27.out; omega
                                                      case rel => exact ⟨(wrap64 (x11_4 + 1)), (rd t168 (ji32)), (by first | rfl | (simp; done) | (simp [*]; done)), (by first | rfl | (simp; done) | (simp only [← hji32] <;> (first | rfl | simp)) | (simp [*]; done)), H', ⟨by have := HJ5.out; have := HK2.out; have := HK3.out; have := HK4.out; have := HJ27.out; omega⟩, ⟨by (with_reducible repeat (first | apply Kd.R_alloc | apply Kd.R_drewN | apply Kd.R_drew)); exact HO_173000.out⟩, ⟨by (with_reducible repeat (first | apply Kd.R_alloc | apply Kd.R_drewN | apply Kd.R_drew)); exact HO_173001.out⟩, ⟨by (with_reducible repeat (first | refine blk_drewN ?_ _ | refine blk_drew ?_ | refine blk_alloc ?_ _)); exact BK172.out⟩, ⟨by repeat (first | (with_reducible first | exact HB.out | apply below_alloc | apply pw_below_drewN | apply below_drew1 | refine below_set ?_ GE172.out) | exact HB.out)⟩⟩
                                                · rw [if_neg c40] at H
                                                  exact absurd H (by simp)
                                              · rw [if_neg c39] at H
                                                have c39b0 : ((wrap64 (Int.tmod t177 ((a1) % 4294967296))) == x12_3) = false := beq_eq_false_iff_ne.mpr c39
                                                have c39b1 : ((wrap64 (Int.tmod t177 ((a1) % 4294967296))) != x12_3) = true := bne_iff_ne.mpr c39
                                                obtain rfl := Option.some.inj H
                                                have p176 : 0 ≤ ((ji32) : Int) := of_decide_eq_true (by first | (with_reducible assumption) | assumption)
                                                have q176 : (ji32) < (l0.length : Int) := of_decide_eq_true (by first | (with_reducible assumption) | assumption)
                                                obtain ⟨ad176, e176, hx176_0, hx176_1, hx176_2, hx176_3, hx176_4, hx176_5, hx176_6, hx176_7⟩ := at_T24 HR0.out (ji32) p176 q176
                                                cases e176
                                                replace hx176_0 := (HB.out.cell (World.block_lt_of_cell? w _ hx176_0)).trans hx176_0
                                                replace hx176_1 := (HB.out.cell (World.block_lt_of_cell? w _ hx176_1)).trans hx176_1
                                                replace hx176_2 := (HB.out.cell (World.block_lt_of_cell? w _ hx176_2)).trans hx176_2
                                                replace hx176_3 := (HB.out.cell (World.block_lt_of_cell? w _ hx176_3)).trans hx176_3
                                                replace hx176_4 := (HB.out.cell (World.block_lt_of_cell? w _ hx176_4)).trans hx176_4
                                                replace hx176_5 := (HB.out.cell (World.block_lt_of_cell? w _ hx176_5)).trans hx176_5
                                                replace hx176_6 := (HB.out.cell (World.block_lt_of_cell? w _ hx176_6)).trans hx176_6
                                                replace hx176_7 := (HB.out.cell (World.block_lt_of_cell? w _ hx176_7)).trans hx176_7
                                                replace p176 := eq_true p176
                                                replace q176 := eq_true q176
                                                go_wp2_with (first | ((with_reducible refine gate_callee (f := 10) rfl ?_); refine goesL_ (some 96) rfl rfl Try.func10 (by kernel_rfl) rfl #[.string ((rd_T24 l0 (ji32)).f0)] rfl (by (try simp only [List.map_toArray, List.map_cons, List.map_nil]); first | done | (simp only [hji32]; rfl) | rfl | (simp only [List.length_drop, List.length_take]; rfl)) ?_; (with_reducible refine (hash_Of.calls ((rd_T24 l0 (ji32)).f0) t177 _ A35.out).mono ?_); rintro e w52 ⟨rfl, hb⟩; refine ⟨_, rfl, ?_⟩; have n0_ := Aside0.mk (Kd.R_below (by (with_reducible repeat (first | apply Kd.R_alloc | apply Kd.R_drewN | apply Kd.R_drew)); exact HO_173000.out) hb); have n1_ := Aside0.mk (Kd.R_below (by (with_reducible repeat (first | apply Kd.R_alloc | apply Kd.R_drewN | apply Kd.R_drew)); exact HO_173001.out) hb); have n2_ := Aside0.mk (blk_below (g := gb172) (o := .cells #[.slice (some ad175) t165.length co10, .slice Ao12 t168.length co12] 33 (0, 0)) (by (with_reducible repeat (first | refine blk_drewN ?_ _ | refine blk_drew ?_ | refine blk_alloc ?_ _)); exact BK172.out) hb); have n3_ := Aside0.mk (below_step (by repeat (first | (with_reducible first | exact HB.out | apply below_alloc | apply pw_below_drewN | apply below_drew1 | refine below_set ?_ GE172.out) | exact HB.out)) hb); clear HO_173000; clear HO_173001; clear BK172; clear HB; have HO_173000 := n0_; have HO_173001 := n1_; have BK172 := n2_; have HB := n3_; clear n0_ n1_ n2_ n3_; (try clear hb); (try clear hb2); (try clear hk); (try clear hi); have p178 : 0 ≤ ((ji32) : Int) := of_decide_eq_true (by first | (with_reducible assumption) | assumption); have q178 : (ji32) < (l0.length : Int) := of_decide_eq_true (by first | (with_reducible assumption) | assumption); obtain ⟨ad178, e178, hx178_0, hx178_1, hx178_2, hx178_3, hx178_4, hx178_5, hx178_6, hx178_7⟩ := at_T24 HR0.out (ji32) p178 q178; obtain rfl : ad176 = ad178 := (by injection e178); replace hx178_0 := (HB.out.cell (World.block_lt_of_cell? w _ hx178_0)).trans hx178_0; replace hx178_1 := (HB.out.cell (World.block_lt_of_cell? w _ hx178_1)).trans hx178_1; replace hx178_2 := (HB.out.cell (World.block_lt_of_cell? w _ hx178_2)).trans hx178_2; replace hx178_3 := (HB.out.cell (World.block_lt_of_cell? w _ hx178_3)).trans hx178_3; replace hx178_4 := (HB.out.cell (World.block_lt_of_cell? w _ hx178_4)).trans hx178_4; replace hx178_5 := (HB.out.cell (World.block_lt_of_cell? w _ hx178_5)).trans hx178_5; replace hx178_6 := (HB.out.cell (World.block_lt_of_cell? w _ hx178_6)).trans hx178_6; replace hx178_7 := (HB.out.cell (World.block_lt_of_cell? w _ hx178_7)).trans hx178_7; replace p178 := eq_true p178; replace q178 := eq_true q178) | ((with_reducible refine gate_callee (f := 11) rfl ?_); refine goesL_ (some 102) rfl rfl Try.func11 (by kernel_rfl) rfl #[.agg #[.string ((rd_T24 l0 (ji32)).f0), .string ((rd_T24 l0 (ji32)).f1), .int .u64 ((rd_T24 l0 (ji32)).f2), .int .u64 ((rd_T24 l0 (ji32)).f3), .int .i64 ((rd_T24 l0 (ji32)).f4), .int .i64 ((rd_T24 l0 (ji32)).f5), .int .i64 ((rd_T24 l0 (ji32)).f6), .bool ((rd_T24 l0 (ji32)).f7)]] rfl (by (try simp only [List.map_toArray, List.map_cons, List.map_nil]); first | done | (simp only [hji32]; rfl) | rfl | (simp only [List.length_drop, List.length_take]; rfl)) ?_; (with_reducible refine (hash_Shown.calls ((rd_T24 l0 (ji32)).f0) ((rd_T24 l0 (ji32)).f1) ((rd_T24 l0 (ji32)).f2) ((rd_T24 l0 (ji32)).f3) ((rd_T24 l0 (ji32)).f4) ((rd_T24 l0 (ji32)).f5) ((rd_T24 l0 (ji32)).f6) ((rd_T24 l0 (ji32)).f7) true _ A36.out).mono ?_); rintro e w53 ⟨rfl, hb⟩; refine ⟨_, rfl, ?_⟩; have n0_ := Aside0.mk (Kd.R_below (by (with_reducible repeat (first | apply Kd.R_alloc | apply Kd.R_drewN | apply Kd.R_drew)); exact HO_173000.out) hb); have n1_ := Aside0.mk (Kd.R_below (by (with_reducible repeat (first | apply Kd.R_alloc | apply Kd.R_drewN | apply Kd.R_drew)); exact HO_173001.out) hb); have n2_ := Aside0.mk (blk_below (g := gb172) (o := .cells #[.slice (some ad175) t165.length co10, .slice Ao12 t168.length co12] 33 (0, 0)) (by (with_reducible repeat (first | refine blk_drewN ?_ _ | refine blk_drew ?_ | refine blk_alloc ?_ _)); exact BK172.out) hb); have n3_ := Aside0.mk (below_step (by repeat (first | (with_reducible first | exact HB.out | apply below_alloc | apply pw_below_drewN | apply below_drew1 | refine below_set ?_ GE172.out) | exact HB.out)) hb); clear HO_173000; clear HO_173001; clear BK172; clear HB; have HO_173000 := n0_; have HO_173001 := n1_; have BK172 := n2_; have HB := n3_; clear n0_ n1_ n2_ n3_; (try clear hb); (try clear hb2); (try clear hk); (try clear hi)))
                                                go_ret
                                                exact ⟨by first | rfl | (simp [errW_none, errW_some] <;> rfl) | (simp only [← hji32]; first | rfl | (simp [errW_none, errW_some] <;> rfl)) | (simp [*, errW_none, errW_some] <;> rfl), by repeat (first | (with_reducible first | exact HB.out | apply below_alloc | apply pw_below_drewN | apply below_drew1 | refine below_set ?_ GE172.out) | exact HB.out)⟩
                                          · replace c37 := Bool.eq_false_iff.mpr c37
                                            subst c37
                                            have H1 : (some false) = some r := by rw [if_neg (show ¬ (false = true) by decide)] at H; exact H
                                            clear H
                                            have H := H1
                                            clear H1
                                            obtain rfl := Option.some.inj H
                                            have p176 : 0 ≤ ((ji32) : Int) := of_decide_eq_true (by first | (with_reducible assumption) | assumption)
                                            have q176 : (ji32) < (l0.length : Int) := of_decide_eq_true (by first | (with_reducible assumption) | assumption)
                                            obtain ⟨ad176, e176, hx176_0, hx176_1, hx176_2, hx176_3, hx176_4, hx176_5, hx176_6, hx176_7⟩ := at_T24 HR0.out (ji32) p176 q176
                                            cases e176
                                            replace hx176_0 := (HB.out.cell (World.block_lt_of_cell? w _ hx176_0)).trans hx176_0
                                            replace hx176_1 := (HB.out.cell (World.block_lt_of_cell? w _ hx176_1)).trans hx176_1
                                            replace hx176_2 := (HB.out.cell (World.block_lt_of_cell? w _ hx176_2)).trans hx176_2
                                            replace hx176_3 := (HB.out.cell (World.block_lt_of_cell? w _ hx176_3)).trans hx176_3
                                            replace hx176_4 := (HB.out.cell (World.block_lt_of_cell? w _ hx176_4)).trans hx176_4
                                            replace hx176_5 := (HB.out.cell (World.block_lt_of_cell? w _ hx176_5)).trans hx176_5
                                            replace hx176_6 := (HB.out.cell (World.block_lt_of_cell? w _ hx176_6)).trans hx176_6
                                            replace hx176_7 := (HB.out.cell (World.block_lt_of_cell? w _ hx176_7)).trans hx176_7
                                            replace p176 := eq_true p176
                                            replace q176 := eq_true q176
                                            go_wp2_with (first | ((with_reducible refine gate_callee (f := 10) rfl ?_); refine goesL_ (some 96) rfl rfl Try.func10 (by kernel_rfl) rfl #[.string ((rd_T24 l0 (ji32)).f0)] rfl (by (try simp only [List.map_toArray, List.map_cons, List.map_nil]); first | done | (simp only [hji32]; rfl) | rfl | (simp only [List.length_drop, List.length_take]; rfl)) ?_; (with_reducible refine (hash_Of.calls ((rd_T24 l0 (ji32)).f0) t177 _ A35.out).mono ?_); rintro e w54 ⟨rfl, hb⟩; refine ⟨_, rfl, ?_⟩; have n0_ := Aside0.mk (Kd.R_below (by (with_reducible repeat (first | apply Kd.R_alloc | apply Kd.R_drewN | apply Kd.R_drew)); exact HO_173000.out) hb); have n1_ := Aside0.mk (Kd.R_below (by (with_reducible repeat (first | apply Kd.R_alloc | apply Kd.R_drewN | apply Kd.R_drew)); exact HO_173001.out) hb); have n2_ := Aside0.mk (blk_below (g := gb172) (o := .cells #[.slice (some ad175) t165.length co10, .slice Ao12 t168.length co12] 33 (0, 0)) (by (with_reducible repeat (first | refine blk_drewN ?_ _ | refine blk_drew ?_ | refine blk_alloc ?_ _)); exact BK172.out) hb); have n3_ := Aside0.mk (below_step (by repeat (first | (with_reducible first | exact HB.out | apply below_alloc | apply pw_below_drewN | apply below_drew1 | refine below_set ?_ GE172.out) | exact HB.out)) hb); clear HO_173000; clear HO_173001; clear BK172; clear HB; have HO_173000 := n0_; have HO_173001 := n1_; have BK172 := n2_; have HB := n3_; clear n0_ n1_ n2_ n3_; (try clear hb); (try clear hb2); (try clear hk); (try clear hi); have p178 : 0 ≤ ((ji32) : Int) := of_decide_eq_true (by first | (with_reducible assumption) | assumption); have q178 : (ji32) < (l0.length : Int) := of_decide_eq_true (by first | (with_reducible assumption) | assumption); obtain ⟨ad178, e178, hx178_0, hx178_1, hx178_2, hx178_3, hx178_4, hx178_5, hx178_6, hx178_7⟩ := at_T24 HR0.out (ji32) p178 q178; obtain rfl : ad176 = ad178 := (by injection e178); replace hx178_0 := (HB.out.cell (World.block_lt_of_cell? w _ hx178_0)).trans hx178_0; replace hx178_1 := (HB.out.cell (World.block_lt_of_cell? w _ hx178_1)).trans hx178_1; replace hx178_2 := (HB.out.cell (World.block_lt_of_cell? w _ hx178_2)).trans hx178_2; replace hx178_3 := (HB.out.cell (World.block_lt_of_cell? w _ hx178_3)).trans hx178_3; replace hx178_4 := (HB.out.cell (World.block_lt_of_cell? w _ hx178_4)).trans hx178_4; replace hx178_5 := (HB.out.cell (World.block_lt_of_cell? w _ hx178_5)).trans hx178_5; replace hx178_6 := (HB.out.cell (World.block_lt_of_cell? w _ hx178_6)).trans hx178_6; replace hx178_7 := (HB.out.cell (World.block_lt_of_cell? w _ hx178_7)).trans hx178_7; replace p178 := eq_true p178; replace q178 := eq_true q178) | ((with_reducible refine gate_callee (f := 11) rfl ?_); refine goesL_ (some 102) rfl rfl Try.func11 (by kernel_rfl) rfl #[.agg #[.string ((rd_T24 l0 (ji32)).f0), .string ((rd_T24 l0 (ji32)).f1), .int .u64 ((rd_T24 l0 (ji32)).f2), .int .u64 ((rd_T24 l0 (ji32)).f3), .int .i64 ((rd_T24 l0 (ji32)).f4), .int .i64 ((rd_T24 l0 (ji32)).f5), .int .i64 ((rd_T24 l0 (ji32)).f6), .bool ((rd_T24 l0 (ji32)).f7)]] rfl (by (try simp only [List.map_toArray, List.map_cons, List.map_nil]); first | done | (simp only [hji32]; rfl) | rfl | (simp only [List.length_drop, List.length_take]; rfl)) ?_; (with_reducible refine (hash_Shown.calls ((rd_T24 l0 (ji32)).f0) ((rd_T24 l0 (ji32)).f1) ((rd_T24 l0 (ji32)).f2) ((rd_T24 l0 (ji32)).f3) ((rd_T24 l0 (ji32)).f4) ((rd_T24 l0 (ji32)).f5) ((rd_T24 l0 (ji32)).f6) ((rd_T24 l0 (ji32)).f7) false _ A36.out).mono ?_); rintro e w55 ⟨rfl, hb⟩; refine ⟨_, rfl, ?_⟩; have n0_ := Aside0.mk (Kd.R_below (by (with_reducible repeat (first | apply Kd.R_alloc | apply Kd.R_drewN | apply Kd.R_drew)); exact HO_173000.out) hb); have n1_ := Aside0.mk (Kd.R_below (by (with_reducible repeat (first | apply Kd.R_alloc | apply Kd.R_drewN | apply Kd.R_drew)); exact HO_173001.out) hb); have n2_ := Aside0.mk (blk_below (g := gb172) (o := .cells #[.slice (some ad175) t165.length co10, .slice Ao12 t168.length co12] 33 (0, 0)) (by (with_reducible repeat (first | refine blk_drewN ?_ _ | refine blk_drew ?_ | refine blk_alloc ?_ _)); exact BK172.out) hb); have n3_ := Aside0.mk (below_step (by repeat (first | (with_reducible first | exact HB.out | apply below_alloc | apply pw_below_drewN | apply below_drew1 | refine below_set ?_ GE172.out) | exact HB.out)) hb); clear HO_173000; clear HO_173001; clear BK172; clear HB; have HO_173000 := n0_; have HO_173001 := n1_; have BK172 := n2_; have HB := n3_; clear n0_ n1_ n2_ n3_; (try clear hb); (try clear hb2); (try clear hk); (try clear hi)))
                                            go_ret
                                            exact ⟨by first | rfl | (simp [errW_none, errW_some] <;> rfl) | (simp only [← hji32]; first | rfl | (simp [errW_none, errW_some] <;> rfl)) | (simp [*, errW_none, errW_some] <;> rfl), by repeat (first | (with_reducible first | exact HB.out | apply below_alloc | apply pw_below_drewN | apply below_drew1 | refine below_set ?_ GE172.out) | exact HB.out)⟩
                                        · rw [if_neg c34] at H
                                          exact absurd H (by simp)
                                      · rw [if_neg c33] at H
                                        exact absurd H (by simp)
                        · rw [if_neg c25] at H
                          exact absurd H (by simp)
                      · rw [if_neg c24] at H
                        exact absurd H (by simp)
                    · rw [if_neg c23] at H
                      have c23b0 : decide (x12_3 < a1) = false := decide_eq_false c23
                      clear c23
                      by_cases c56 : t164 = true
                      · subst c56
                        have H1 : (some (x11_3 == x8_2)) = some r := by rw [if_pos rfl] at H; exact H
                        clear H
                        have H := H1
                        clear H1
                        obtain rfl := Option.some.inj H
                        go_wp2
                        go_ret
                        exact ⟨by first | rfl | (simp [errW_none, errW_some] <;> rfl) | (simp [*, errW_none, errW_some] <;> rfl), by repeat (first | (with_reducible first | exact HB.out | apply below_alloc | apply pw_below_drewN | apply below_drew1 | refine below_set ?_ GE172.out) | exact HB.out)⟩
                      · replace c56 := Bool.eq_false_iff.mpr c56
                        subst c56
                        have H1 : (some false) = some r := by rw [if_neg (show ¬ (false = true) by decide)] at H; exact H
                        clear H
                        have H := H1
                        clear H1
                        obtain rfl := Option.some.inj H
                        go_wp2
                        go_ret
                        exact ⟨by first | rfl | (simp [errW_none, errW_some] <;> rfl) | (simp [*, errW_none, errW_some] <;> rfl), by repeat (first | (with_reducible first | exact HB.out | apply below_alloc | apply pw_below_drewN | apply below_drew1 | refine below_set ?_ GE172.out) | exact HB.out)⟩
  · rw [if_neg c5] at H
    have c5b0 : (t171 == 0) = false := beq_eq_false_iff_ne.mpr c5
    have c5b1 : (t171 != 0) = true := bne_iff_ne.mpr c5
    by_cases c57 : t164 = true
    · subst c57
      have H1 : (if a1 < 1 then (some true) else (if a1 > 64 then (some true) else (some (decide ((l0.length : Int) > 40))))) = some r := by rw [if_pos rfl] at H; exact H
      clear H
      have H := H1
      clear H1
      by_cases c58 : a1 < 1
      · rw [if_pos c58] at H
        have c58b0 : decide (a1 < 1) = true := decide_eq_true c58
        clear c58
        obtain rfl := Option.some.inj H
        go_enter Try.func5, Try.ntmps5
        go_wp2_with (first | ((with_reducible refine gate_callee (f := 9) rfl ?_); refine goesL_ (some 16) rfl rfl Try.func9 (by kernel_rfl) rfl #[] rfl (by (try simp only [List.map_toArray, List.map_cons, List.map_nil]); first | done | rfl | (simp only [List.length_drop, List.length_take]; rfl)) ?_; (with_reducible refine (curtilagelaw12_awake.calls k  true _ A3.out).mono ?_); rintro e w59 ⟨rfl, hb⟩; refine ⟨_, rfl, ?_⟩; have n0_ := Aside0.mk (below_step (by repeat (first | (with_reducible first | exact HB.out | apply below_alloc | apply pw_below_drewN | apply below_drew1) | exact HB.out)) hb); clear HB; have HB := n0_; clear n0_; (try clear hb); (try clear hb2); (try clear hk); (try clear hi)) | ((with_reducible refine gate_callee (f := 14) rfl ?_); refine goesL_ (some 20) rfl rfl Try.func14 (by kernel_rfl) rfl #[.slice A0 l0.length c0, .int .i64 a1] rfl (by (try simp only [List.map_toArray, List.map_cons, List.map_nil]); first | done | rfl | (simp only [List.length_drop, List.length_take]; rfl)) ?_; (with_reducible refine (hash_Make.calls _ _ l0 a1 t165 t168 t171 _ ?side1 ?side2 A4.out).mono ?_); (case side1 => repeat (first | exact (Kd.C_below HR0.out HB.out) | (with_reducible refine Kd.C_alloc ?_ _) | (with_reducible refine Kd.C_drewN ?_ _) | (with_reducible refine Kd.C_drew ?_))); (case side2 => exact HC0.out); rintro e w60 ⟨v166, v169, rfl, ho0, ho1, hb⟩; refine ⟨_, rfl, ?_⟩; have n0_ := Aside0.mk (Kd.R_lower ho0 (below_size (by repeat (first | (with_reducible first | exact HB.out | apply below_alloc | apply pw_below_drewN | apply below_drew1) | exact HB.out)))); have n1_ := Aside0.mk (Kd.R_lower ho1 (below_size (by repeat (first | (with_reducible first | exact HB.out | apply below_alloc | apply pw_below_drewN | apply below_drew1) | exact HB.out)))); have n2_ := Aside0.mk (below_step (by repeat (first | (with_reducible first | exact HB.out | apply below_alloc | apply pw_below_drewN | apply below_drew1) | exact HB.out)) hb); clear HB; have HO167 := n0_; have HO170 := n1_; have HB := n2_; clear n0_ n1_ n2_; (try clear hb); (try clear hb2); (try clear hk); (try clear hi); (try clear ho0); (try clear ho1)) | ((with_reducible refine gate_dst (N := 6) rfl ?_); (try (refine gate_guard (by rfl) ?_; dsimp only)); refine box_event ?hg (N := 6) ?hd (cs := #[.slice none 0 0, .slice none 0 0]) (t := 33) ?hr ?_; (case hd => rfl); (case hg => rfl); (case hr => first | (go_simp; done) | (go_simp; rfl)); intro gb172 hg w61 hbox hb; have n0_ := Aside0.mk (Kd.R_below (by (with_reducible repeat (first | apply Kd.R_alloc | apply Kd.R_drewN | apply Kd.R_drew)); exact HO167.out) hb); have n1_ := Aside0.mk (Kd.R_below (by (with_reducible repeat (first | apply Kd.R_alloc | apply Kd.R_drewN | apply Kd.R_drew)); exact HO170.out) hb); have n2_ := Aside0.mk (below_step (by repeat (first | (with_reducible first | exact HB.out | apply below_alloc | apply pw_below_drewN | apply below_drew1) | exact HB.out)) hb); have n3_ := Aside0.mk (hbox); have n4_ := Aside0.mk ((by rw [hg]; exact (below_size (by repeat (first | (with_reducible first | exact HB.out | apply below_alloc | apply pw_below_drewN | apply below_drew1) | exact HB.out))) : w.heap.size ≤ gb172)); have n5_ := Aside0.mk ((by rw [hg]; exact (below_size (by repeat (first | (with_reducible first | exact HB.out | apply below_alloc | apply pw_below_drewN | apply below_drew1) | exact HB.out))) : w.heap.size ≤ gb172)); clear HO167; clear HO170; clear HB; have HO167 := n0_; have HO170 := n1_; have HB := n2_; have BK172 := n3_; have GW172 := n4_; have GE172 := n5_; clear n0_ n1_ n2_ n3_ n4_ n5_; clear hb hbox hg; obtain ⟨Ao62, co62, eo62⟩ := Kd.R_slice HO167.out; subst eo62; have hcz63_0 : w61.cell? ⟨gb172, 0, none⟩ = some (.slice none 0 0) := (blk_cell BK172.out 0).trans rfl; have hcz63_1 : w61.cell? ⟨gb172, 1, none⟩ = some (.slice none 0 0) := (blk_cell BK172.out 1).trans rfl; have hfz63_0 := blk_frozen BK172.out 0; have hfz63_1 := blk_frozen BK172.out 1; obtain ⟨Ao64, co64, eo64⟩ := Kd.R_slice HO170.out; subst eo64))
        go_ret
        exact ⟨by first | rfl | (simp [errW_none, errW_some] <;> rfl) | (simp [*, errW_none, errW_some] <;> rfl), by repeat (first | (with_reducible first | exact HB.out | apply below_alloc | apply pw_below_drewN | apply below_drew1 | refine below_set ?_ GE172.out) | exact HB.out)⟩
      · rw [if_neg c58] at H
        have c58b0 : decide (a1 < 1) = false := decide_eq_false c58
        clear c58
        by_cases c65 : a1 > 64
        · rw [if_pos c65] at H
          have c65b0 : decide (64 < a1) = true := decide_eq_true c65
          clear c65
          obtain rfl := Option.some.inj H
          go_enter Try.func5, Try.ntmps5
          go_wp2_with (first | ((with_reducible refine gate_callee (f := 9) rfl ?_); refine goesL_ (some 16) rfl rfl Try.func9 (by kernel_rfl) rfl #[] rfl (by (try simp only [List.map_toArray, List.map_cons, List.map_nil]); first | done | rfl | (simp only [List.length_drop, List.length_take]; rfl)) ?_; (with_reducible refine (curtilagelaw12_awake.calls k  true _ A3.out).mono ?_); rintro e w66 ⟨rfl, hb⟩; refine ⟨_, rfl, ?_⟩; have n0_ := Aside0.mk (below_step (by repeat (first | (with_reducible first | exact HB.out | apply below_alloc | apply pw_below_drewN | apply below_drew1) | exact HB.out)) hb); clear HB; have HB := n0_; clear n0_; (try clear hb); (try clear hb2); (try clear hk); (try clear hi)) | ((with_reducible refine gate_callee (f := 14) rfl ?_); refine goesL_ (some 20) rfl rfl Try.func14 (by kernel_rfl) rfl #[.slice A0 l0.length c0, .int .i64 a1] rfl (by (try simp only [List.map_toArray, List.map_cons, List.map_nil]); first | done | rfl | (simp only [List.length_drop, List.length_take]; rfl)) ?_; (with_reducible refine (hash_Make.calls _ _ l0 a1 t165 t168 t171 _ ?side1 ?side2 A4.out).mono ?_); (case side1 => repeat (first | exact (Kd.C_below HR0.out HB.out) | (with_reducible refine Kd.C_alloc ?_ _) | (with_reducible refine Kd.C_drewN ?_ _) | (with_reducible refine Kd.C_drew ?_))); (case side2 => exact HC0.out); rintro e w67 ⟨v166, v169, rfl, ho0, ho1, hb⟩; refine ⟨_, rfl, ?_⟩; have n0_ := Aside0.mk (Kd.R_lower ho0 (below_size (by repeat (first | (with_reducible first | exact HB.out | apply below_alloc | apply pw_below_drewN | apply below_drew1) | exact HB.out)))); have n1_ := Aside0.mk (Kd.R_lower ho1 (below_size (by repeat (first | (with_reducible first | exact HB.out | apply below_alloc | apply pw_below_drewN | apply below_drew1) | exact HB.out)))); have n2_ := Aside0.mk (below_step (by repeat (first | (with_reducible first | exact HB.out | apply below_alloc | apply pw_below_drewN | apply below_drew1) | exact HB.out)) hb); clear HB; have HO167 := n0_; have HO170 := n1_; have HB := n2_; clear n0_ n1_ n2_; (try clear hb); (try clear hb2); (try clear hk); (try clear hi); (try clear ho0); (try clear ho1)) | ((with_reducible refine gate_dst (N := 6) rfl ?_); (try (refine gate_guard (by rfl) ?_; dsimp only)); refine box_event ?hg (N := 6) ?hd (cs := #[.slice none 0 0, .slice none 0 0]) (t := 33) ?hr ?_; (case hd => rfl); (case hg => rfl); (case hr => first | (go_simp; done) | (go_simp; rfl)); intro gb172 hg w68 hbox hb; have n0_ := Aside0.mk (Kd.R_below (by (with_reducible repeat (first | apply Kd.R_alloc | apply Kd.R_drewN | apply Kd.R_drew)); exact HO167.out) hb); have n1_ := Aside0.mk (Kd.R_below (by (with_reducible repeat (first | apply Kd.R_alloc | apply Kd.R_drewN | apply Kd.R_drew)); exact HO170.out) hb); have n2_ := Aside0.mk (below_step (by repeat (first | (with_reducible first | exact HB.out | apply below_alloc | apply pw_below_drewN | apply below_drew1) | exact HB.out)) hb); have n3_ := Aside0.mk (hbox); have n4_ := Aside0.mk ((by rw [hg]; exact (below_size (by repeat (first | (with_reducible first | exact HB.out | apply below_alloc | apply pw_below_drewN | apply below_drew1) | exact HB.out))) : w.heap.size ≤ gb172)); have n5_ := Aside0.mk ((by rw [hg]; exact (below_size (by repeat (first | (with_reducible first | exact HB.out | apply below_alloc | apply pw_below_drewN | apply below_drew1) | exact HB.out))) : w.heap.size ≤ gb172)); clear HO167; clear HO170; clear HB; have HO167 := n0_; have HO170 := n1_; have HB := n2_; have BK172 := n3_; have GW172 := n4_; have GE172 := n5_; clear n0_ n1_ n2_ n3_ n4_ n5_; clear hb hbox hg; obtain ⟨Ao69, co69, eo69⟩ := Kd.R_slice HO167.out; subst eo69; have hcz70_0 : w68.cell? ⟨gb172, 0, none⟩ = some (.slice none 0 0) := (blk_cell BK172.out 0).trans rfl; have hcz70_1 : w68.cell? ⟨gb172, 1, none⟩ = some (.slice none 0 0) := (blk_cell BK172.out 1).trans rfl; have hfz70_0 := blk_frozen BK172.out 0; have hfz70_1 := blk_frozen BK172.out 1; obtain ⟨Ao71, co71, eo71⟩ := Kd.R_slice HO170.out; subst eo71))
          go_ret
          exact ⟨by first | rfl | (simp [errW_none, errW_some] <;> rfl) | (simp [*, errW_none, errW_some] <;> rfl), by repeat (first | (with_reducible first | exact HB.out | apply below_alloc | apply pw_below_drewN | apply below_drew1 | refine below_set ?_ GE172.out) | exact HB.out)⟩
        · rw [if_neg c65] at H
          have c65b0 : decide (64 < a1) = false := decide_eq_false c65
          clear c65
          obtain rfl := Option.some.inj H
          go_enter Try.func5, Try.ntmps5
          go_wp2_with (first | ((with_reducible refine gate_callee (f := 9) rfl ?_); refine goesL_ (some 16) rfl rfl Try.func9 (by kernel_rfl) rfl #[] rfl (by (try simp only [List.map_toArray, List.map_cons, List.map_nil]); first | done | rfl | (simp only [List.length_drop, List.length_take]; rfl)) ?_; (with_reducible refine (curtilagelaw12_awake.calls k  true _ A3.out).mono ?_); rintro e w72 ⟨rfl, hb⟩; refine ⟨_, rfl, ?_⟩; have n0_ := Aside0.mk (below_step (by repeat (first | (with_reducible first | exact HB.out | apply below_alloc | apply pw_below_drewN | apply below_drew1) | exact HB.out)) hb); clear HB; have HB := n0_; clear n0_; (try clear hb); (try clear hb2); (try clear hk); (try clear hi)) | ((with_reducible refine gate_callee (f := 14) rfl ?_); refine goesL_ (some 20) rfl rfl Try.func14 (by kernel_rfl) rfl #[.slice A0 l0.length c0, .int .i64 a1] rfl (by (try simp only [List.map_toArray, List.map_cons, List.map_nil]); first | done | rfl | (simp only [List.length_drop, List.length_take]; rfl)) ?_; (with_reducible refine (hash_Make.calls _ _ l0 a1 t165 t168 t171 _ ?side1 ?side2 A4.out).mono ?_); (case side1 => repeat (first | exact (Kd.C_below HR0.out HB.out) | (with_reducible refine Kd.C_alloc ?_ _) | (with_reducible refine Kd.C_drewN ?_ _) | (with_reducible refine Kd.C_drew ?_))); (case side2 => exact HC0.out); rintro e w73 ⟨v166, v169, rfl, ho0, ho1, hb⟩; refine ⟨_, rfl, ?_⟩; have n0_ := Aside0.mk (Kd.R_lower ho0 (below_size (by repeat (first | (with_reducible first | exact HB.out | apply below_alloc | apply pw_below_drewN | apply below_drew1) | exact HB.out)))); have n1_ := Aside0.mk (Kd.R_lower ho1 (below_size (by repeat (first | (with_reducible first | exact HB.out | apply below_alloc | apply pw_below_drewN | apply below_drew1) | exact HB.out)))); have n2_ := Aside0.mk (below_step (by repeat (first | (with_reducible first | exact HB.out | apply below_alloc | apply pw_below_drewN | apply below_drew1) | exact HB.out)) hb); clear HB; have HO167 := n0_; have HO170 := n1_; have HB := n2_; clear n0_ n1_ n2_; (try clear hb); (try clear hb2); (try clear hk); (try clear hi); (try clear ho0); (try clear ho1)) | ((with_reducible refine gate_dst (N := 6) rfl ?_); (try (refine gate_guard (by rfl) ?_; dsimp only)); refine box_event ?hg (N := 6) ?hd (cs := #[.slice none 0 0, .slice none 0 0]) (t := 33) ?hr ?_; (case hd => rfl); (case hg => rfl); (case hr => first | (go_simp; done) | (go_simp; rfl)); intro gb172 hg w74 hbox hb; have n0_ := Aside0.mk (Kd.R_below (by (with_reducible repeat (first | apply Kd.R_alloc | apply Kd.R_drewN | apply Kd.R_drew)); exact HO167.out) hb); have n1_ := Aside0.mk (Kd.R_below (by (with_reducible repeat (first | apply Kd.R_alloc | apply Kd.R_drewN | apply Kd.R_drew)); exact HO170.out) hb); have n2_ := Aside0.mk (below_step (by repeat (first | (with_reducible first | exact HB.out | apply below_alloc | apply pw_below_drewN | apply below_drew1) | exact HB.out)) hb); have n3_ := Aside0.mk (hbox); have n4_ := Aside0.mk ((by rw [hg]; exact (below_size (by repeat (first | (with_reducible first | exact HB.out | apply below_alloc | apply pw_below_drewN | apply below_drew1) | exact HB.out))) : w.heap.size ≤ gb172)); have n5_ := Aside0.mk ((by rw [hg]; exact (below_size (by repeat (first | (with_reducible first | exact HB.out | apply below_alloc | apply pw_below_drewN | apply below_drew1) | exact HB.out))) : w.heap.size ≤ gb172)); clear HO167; clear HO170; clear HB; have HO167 := n0_; have HO170 := n1_; have HB := n2_; have BK172 := n3_; have GW172 := n4_; have GE172 := n5_; clear n0_ n1_ n2_ n3_ n4_ n5_; clear hb hbox hg; obtain ⟨Ao75, co75, eo75⟩ := Kd.R_slice HO167.out; subst eo75; have hcz76_0 : w74.cell? ⟨gb172, 0, none⟩ = some (.slice none 0 0) := (blk_cell BK172.out 0).trans rfl; have hcz76_1 : w74.cell? ⟨gb172, 1, none⟩ = some (.slice none 0 0) := (blk_cell BK172.out 1).trans rfl; have hfz76_0 := blk_frozen BK172.out 0; have hfz76_1 := blk_frozen BK172.out 1; obtain ⟨Ao77, co77, eo77⟩ := Kd.R_slice HO170.out; subst eo77))
          go_ret
          exact ⟨by first | rfl | (simp [errW_none, errW_some] <;> rfl) | (simp [*, errW_none, errW_some] <;> rfl), by repeat (first | (with_reducible first | exact HB.out | apply below_alloc | apply pw_below_drewN | apply below_drew1 | refine below_set ?_ GE172.out) | exact HB.out)⟩
    · replace c57 := Bool.eq_false_iff.mpr c57
      subst c57
      have H1 : (some false) = some r := by rw [if_neg (show ¬ (false = true) by decide)] at H; exact H
      clear H
      have H := H1
      clear H1
      obtain rfl := Option.some.inj H
      go_enter Try.func5, Try.ntmps5
      go_wp2_with (first | ((with_reducible refine gate_callee (f := 9) rfl ?_); refine goesL_ (some 16) rfl rfl Try.func9 (by kernel_rfl) rfl #[] rfl (by (try simp only [List.map_toArray, List.map_cons, List.map_nil]); first | done | rfl | (simp only [List.length_drop, List.length_take]; rfl)) ?_; (with_reducible refine (curtilagelaw12_awake.calls k  false _ A3.out).mono ?_); rintro e w78 ⟨rfl, hb⟩; refine ⟨_, rfl, ?_⟩; have n0_ := Aside0.mk (below_step (by repeat (first | (with_reducible first | exact HB.out | apply below_alloc | apply pw_below_drewN | apply below_drew1) | exact HB.out)) hb); clear HB; have HB := n0_; clear n0_; (try clear hb); (try clear hb2); (try clear hk); (try clear hi)) | ((with_reducible refine gate_callee (f := 14) rfl ?_); refine goesL_ (some 20) rfl rfl Try.func14 (by kernel_rfl) rfl #[.slice A0 l0.length c0, .int .i64 a1] rfl (by (try simp only [List.map_toArray, List.map_cons, List.map_nil]); first | done | rfl | (simp only [List.length_drop, List.length_take]; rfl)) ?_; (with_reducible refine (hash_Make.calls _ _ l0 a1 t165 t168 t171 _ ?side1 ?side2 A4.out).mono ?_); (case side1 => repeat (first | exact (Kd.C_below HR0.out HB.out) | (with_reducible refine Kd.C_alloc ?_ _) | (with_reducible refine Kd.C_drewN ?_ _) | (with_reducible refine Kd.C_drew ?_))); (case side2 => exact HC0.out); rintro e w79 ⟨v166, v169, rfl, ho0, ho1, hb⟩; refine ⟨_, rfl, ?_⟩; have n0_ := Aside0.mk (Kd.R_lower ho0 (below_size (by repeat (first | (with_reducible first | exact HB.out | apply below_alloc | apply pw_below_drewN | apply below_drew1) | exact HB.out)))); have n1_ := Aside0.mk (Kd.R_lower ho1 (below_size (by repeat (first | (with_reducible first | exact HB.out | apply below_alloc | apply pw_below_drewN | apply below_drew1) | exact HB.out)))); have n2_ := Aside0.mk (below_step (by repeat (first | (with_reducible first | exact HB.out | apply below_alloc | apply pw_below_drewN | apply below_drew1) | exact HB.out)) hb); clear HB; have HO167 := n0_; have HO170 := n1_; have HB := n2_; clear n0_ n1_ n2_; (try clear hb); (try clear hb2); (try clear hk); (try clear hi); (try clear ho0); (try clear ho1)) | ((with_reducible refine gate_dst (N := 6) rfl ?_); (try (refine gate_guard (by rfl) ?_; dsimp only)); refine box_event ?hg (N := 6) ?hd (cs := #[.slice none 0 0, .slice none 0 0]) (t := 33) ?hr ?_; (case hd => rfl); (case hg => rfl); (case hr => first | (go_simp; done) | (go_simp; rfl)); intro gb172 hg w80 hbox hb; have n0_ := Aside0.mk (Kd.R_below (by (with_reducible repeat (first | apply Kd.R_alloc | apply Kd.R_drewN | apply Kd.R_drew)); exact HO167.out) hb); have n1_ := Aside0.mk (Kd.R_below (by (with_reducible repeat (first | apply Kd.R_alloc | apply Kd.R_drewN | apply Kd.R_drew)); exact HO170.out) hb); have n2_ := Aside0.mk (below_step (by repeat (first | (with_reducible first | exact HB.out | apply below_alloc | apply pw_below_drewN | apply below_drew1) | exact HB.out)) hb); have n3_ := Aside0.mk (hbox); have n4_ := Aside0.mk ((by rw [hg]; exact (below_size (by repeat (first | (with_reducible first | exact HB.out | apply below_alloc | apply pw_below_drewN | apply below_drew1) | exact HB.out))) : w.heap.size ≤ gb172)); have n5_ := Aside0.mk ((by rw [hg]; exact (below_size (by repeat (first | (with_reducible first | exact HB.out | apply below_alloc | apply pw_below_drewN | apply below_drew1) | exact HB.out))) : w.heap.size ≤ gb172)); clear HO167; clear HO170; clear HB; have HO167 := n0_; have HO170 := n1_; have HB := n2_; have BK172 := n3_; have GW172 := n4_; have GE172 := n5_; clear n0_ n1_ n2_ n3_ n4_ n5_; clear hb hbox hg; obtain ⟨Ao81, co81, eo81⟩ := Kd.R_slice HO167.out; subst eo81; have hcz82_0 : w80.cell? ⟨gb172, 0, none⟩ = some (.slice none 0 0) := (blk_cell BK172.out 0).trans rfl; have hcz82_1 : w80.cell? ⟨gb172, 1, none⟩ = some (.slice none 0 0) := (blk_cell BK172.out 1).trans rfl; have hfz82_0 := blk_frozen BK172.out 0; have hfz82_1 := blk_frozen BK172.out 1; obtain ⟨Ao83, co83, eo83⟩ := Kd.R_slice HO170.out; subst eo83))
      go_ret
      exact ⟨by first | rfl | (simp [errW_none, errW_some] <;> rfl) | (simp [*, errW_none, errW_some] <;> rfl), by repeat (first | (with_reducible first | exact HB.out | apply below_alloc | apply pw_below_drewN | apply below_drew1 | refine below_set ?_ GE172.out) | exact HB.out)⟩

end Go.Proofs.Ytcoknhomlbbimaa.P
