/- What functions of the program, and of its laws, give, each proved of its code by a walk; no condition. -/
import Derived.Test.YtndmfjdoekdleaaKGraphMorePx0
import Derived.Test.YtndmfjdoekdleaaKGraphMorePx3
import Derived.Test.YtndmfjdoekdleaaKGraphMorePx4
import Derived.Test.YtndmfjdoekdleaaKGraphMorePx6
namespace Go.Proofs.Ytndmfjdoekdleaa.P
open Go.RowKit Go.Proofs.YtndmfjdoekdleaaW.PrintWords Go.Proofs.YtndmfjdoekdleaaW.PrintLast Go.Proofs.YtndmfjdoekdleaaW.PrintMore
attribute [local go_sem] max2_int min2_int max_two min_two max_three min_three max_four min_four   -- for this text's walks alone
set_option linter.unusedVariables false
set_option linter.unusedSimpArgs false

theorem inf29 : (Try.prog.info? 29).map (fun i => (i.zero, i.size, i.bytes)) = some (some (.agg #[.string (⟨#[]⟩ : ByteArray), .slice none 0 0, .slice none 0 0, .slice none 0 0, .slice none 0 0, .slice none 0 0, .slice none 0 0]), 7, 160) := by kernel_rfl
mutual
def curtilagelaw13_GraphMore.j0 : Nat → List (S29) → ByteArray → Bool → Bool → ByteArray → List ByteArray → List (S99) → List (S101) → List (S103) → List Int → List Int → Option (Bool)
  | 0, _, _, _, _, _, _, _, _, _, _, _ => none
  | k + 1, x0, x1, x7, x36, x310000, x310001, x310002, x310003, x310004, x310005, x310006 => if x36 = true then (some x7) else (curtilagelaw13_GraphMore.l0 k x0 x1 x7 0 x310000 x310001 x310002 x310003 x310004 x310005 x310006)
def curtilagelaw13_GraphMore.l0 : Nat → List (S29) → ByteArray → Bool → Int → ByteArray → List ByteArray → List (S99) → List (S101) → List (S103) → List Int → List Int → Option (Bool)
  | 0, _, _, _, _, _, _, _, _, _, _, _ => none
  | k + 1, x0, x1, x7, x9, x310000, x310001, x310002, x310003, x310004, x310005, x310006 => if x9 < (x0.length : Int) then (curtilagelaw13_GraphMore.l1 k x0 x1 x7 x9 0 x310000 x310001 x310002 x310003 x310004 x310005 x310006) else (if (x0.length : Int) < 1000000 then ((graph_Closure.f x0 x1).bind fun bt315 => ((graph_Closure.f (x0 ++ [(⟨x310000, x310001, x310002, x310003, x310004, x310005, x310006⟩ : S29)]) x1).bind fun bt320 => ((graph_Begin.f x0 bt315.1).bind fun t325 => ((graph_Begin.f (x0 ++ [(⟨x310000, x310001, x310002, x310003, x310004, x310005, x310006⟩ : S29)]) bt320.1).bind fun t328 => (if x7 = true then (if bt315.2.2 = bt320.2.2 then (if bt315.2.1.toList = bt320.2.1.toList then ((curtilageref10_Numbers.f k bt315.1 bt320.1).bind fun t331 => (if t331 = true then (if bt315.2.2 = 0 then ((curtilageref10_Numbers.f k t325 t328).bind fun t332 => (some t332)) else (some true)) else (some false))) else (some false)) else (some false)) else (some false)))))) else none)
def curtilagelaw13_GraphMore.l1 : Nat → List (S29) → ByteArray → Bool → Int → Int → ByteArray → List ByteArray → List (S99) → List (S101) → List (S103) → List Int → List Int → Option (Bool)
  | 0, _, _, _, _, _, _, _, _, _, _, _, _ => none
  | k + 1, x0, x1, x7, x9, x10, x310000, x310001, x310002, x310003, x310004, x310005, x310006 => if 0 ≤ x9 then (if x9 < (x0.length : Int) then (if x10 < (((rd_T29 x0 x9).f1).length : Int) then (if 0 ≤ x10 then (if (rdOf ByteArray.empty ((rd_T29 x0 x9).f1) x10).toList = x310000.toList then (some x7) else (curtilagelaw13_GraphMore.l1 k x0 x1 x7 x9 (wrap64 (x10 + 1)) x310000 x310001 x310002 x310003 x310004 x310005 x310006)) else (none)) else (curtilagelaw13_GraphMore.l0 k x0 x1 x7 (wrap64 (x9 + 1)) x310000 x310001 x310002 x310003 x310004 x310005 x310006)) else (none)) else (none)
end
def curtilagelaw13_GraphMore.f (k : Nat) (l0 : List (S29)) (a1 : ByteArray) (a2_0 : ByteArray) (l2_1 : List ByteArray) (l2_2 : List (S99)) (l2_3 : List (S101)) (l2_4 : List (S103)) (l2_5 : List Int) (l2_6 : List Int) : Option (Bool) := (curtilagelaw13_awake.f k).bind fun t310 => ((curtilageref13_Short.f k l0 20).bind fun t311 => (if t311 = true then (if (l2_1.length : Int) > 10 then (curtilagelaw13_GraphMore.j0 k l0 a1 t310 true a2_0 l2_1 l2_2 l2_3 l2_4 l2_5 l2_6) else (curtilagelaw13_GraphMore.j0 k l0 a1 t310 (a2_0.toList == a1.toList) a2_0 l2_1 l2_2 l2_3 l2_4 l2_5 l2_6)) else (curtilagelaw13_GraphMore.j0 k l0 a1 t310 true a2_0 l2_1 l2_2 l2_3 l2_4 l2_5 l2_6)))
theorem curtilagelaw13_GraphMore.mono_l : ∀ k, (∀ y0 y1 y2 y3 y4 y5 y6 y7 y8 y9 y10, LeO (curtilagelaw13_GraphMore.j0 k y0 y1 y2 y3 y4 y5 y6 y7 y8 y9 y10) (curtilagelaw13_GraphMore.j0 (k + 1) y0 y1 y2 y3 y4 y5 y6 y7 y8 y9 y10)) ∧ (∀ y0 y1 y2 y3 y4 y5 y6 y7 y8 y9 y10, LeO (curtilagelaw13_GraphMore.l0 k y0 y1 y2 y3 y4 y5 y6 y7 y8 y9 y10) (curtilagelaw13_GraphMore.l0 (k + 1) y0 y1 y2 y3 y4 y5 y6 y7 y8 y9 y10)) ∧ (∀ y0 y1 y2 y3 y4 y5 y6 y7 y8 y9 y10 y11, LeO (curtilagelaw13_GraphMore.l1 k y0 y1 y2 y3 y4 y5 y6 y7 y8 y9 y10 y11) (curtilagelaw13_GraphMore.l1 (k + 1) y0 y1 y2 y3 y4 y5 y6 y7 y8 y9 y10 y11))
  | 0 => ⟨fun _ _ _ _ _ _ _ _ _ _ _ r h => by simp [curtilagelaw13_GraphMore.j0] at h, fun _ _ _ _ _ _ _ _ _ _ _ r h => by simp [curtilagelaw13_GraphMore.l0] at h, fun _ _ _ _ _ _ _ _ _ _ _ _ r h => by simp [curtilagelaw13_GraphMore.l1] at h⟩
  | k + 1 => by
    obtain ⟨ih0, ih1, ih2⟩ := curtilagelaw13_GraphMore.mono_l k
    refine ⟨?_, ?_, ?_⟩
    · intro y0 y1 y2 y3 y4 y5 y6 y7 y8 y9 y10
      unfold curtilagelaw13_GraphMore.j0
      repeat' first
      | (with_reducible exact ih0 _ _ _ _ _ _ _ _ _ _ _)
      | (with_reducible exact ih1 _ _ _ _ _ _ _ _ _ _ _)
      | (with_reducible exact ih2 _ _ _ _ _ _ _ _ _ _ _ _)
      | (with_reducible exact curtilagelaw13_awake.mono _)
      | (with_reducible exact curtilageref10_Numbers.mono _ _ _)
      | (with_reducible exact curtilageref13_Short.mono _ _ _)
      | (with_reducible exact LeO.refl _)
      | (with_reducible exact LeO.none _)
      | (with_reducible refine LeO.ite ?_ ?_)
      | (with_reducible refine LeO.bind ?_ (fun _ => ?_))
      | exact ih0 _ _ _ _ _ _ _ _ _ _ _
      | exact ih1 _ _ _ _ _ _ _ _ _ _ _
      | exact ih2 _ _ _ _ _ _ _ _ _ _ _ _
      | exact curtilagelaw13_awake.mono _
      | exact curtilageref10_Numbers.mono _ _ _
      | exact curtilageref13_Short.mono _ _ _
      | exact LeO.none _
      | refine LeO.ite ?_ ?_
      | refine LeO.bind ?_ (fun _ => ?_)
    · intro y0 y1 y2 y3 y4 y5 y6 y7 y8 y9 y10
      unfold curtilagelaw13_GraphMore.l0
      repeat' first
      | (with_reducible exact ih0 _ _ _ _ _ _ _ _ _ _ _)
      | (with_reducible exact ih1 _ _ _ _ _ _ _ _ _ _ _)
      | (with_reducible exact ih2 _ _ _ _ _ _ _ _ _ _ _ _)
      | (with_reducible exact curtilagelaw13_awake.mono _)
      | (with_reducible exact curtilageref10_Numbers.mono _ _ _)
      | (with_reducible exact curtilageref13_Short.mono _ _ _)
      | (with_reducible exact LeO.refl _)
      | (with_reducible exact LeO.none _)
      | (with_reducible refine LeO.ite ?_ ?_)
      | (with_reducible refine LeO.bind ?_ (fun _ => ?_))
      | exact ih0 _ _ _ _ _ _ _ _ _ _ _
      | exact ih1 _ _ _ _ _ _ _ _ _ _ _
      | exact ih2 _ _ _ _ _ _ _ _ _ _ _ _
      | exact curtilagelaw13_awake.mono _
      | exact curtilageref10_Numbers.mono _ _ _
      | exact curtilageref13_Short.mono _ _ _
      | exact LeO.none _
      | refine LeO.ite ?_ ?_
      | refine LeO.bind ?_ (fun _ => ?_)
    · intro y0 y1 y2 y3 y4 y5 y6 y7 y8 y9 y10 y11
      unfold curtilagelaw13_GraphMore.l1
      repeat' first
      | (with_reducible exact ih0 _ _ _ _ _ _ _ _ _ _ _)
      | (with_reducible exact ih1 _ _ _ _ _ _ _ _ _ _ _)
      | (with_reducible exact ih2 _ _ _ _ _ _ _ _ _ _ _ _)
      | (with_reducible exact curtilagelaw13_awake.mono _)
      | (with_reducible exact curtilageref10_Numbers.mono _ _ _)
      | (with_reducible exact curtilageref13_Short.mono _ _ _)
      | (with_reducible exact LeO.refl _)
      | (with_reducible exact LeO.none _)
      | (with_reducible refine LeO.ite ?_ ?_)
      | (with_reducible refine LeO.bind ?_ (fun _ => ?_))
      | exact ih0 _ _ _ _ _ _ _ _ _ _ _
      | exact ih1 _ _ _ _ _ _ _ _ _ _ _
      | exact ih2 _ _ _ _ _ _ _ _ _ _ _ _
      | exact curtilagelaw13_awake.mono _
      | exact curtilageref10_Numbers.mono _ _ _
      | exact curtilageref13_Short.mono _ _ _
      | exact LeO.none _
      | refine LeO.ite ?_ ?_
      | refine LeO.bind ?_ (fun _ => ?_)
theorem curtilagelaw13_GraphMore.mono : ∀ a0 a1 a2 a3 a4 a5 a6 a7 a8 k, LeO (curtilagelaw13_GraphMore.f k a0 a1 a2 a3 a4 a5 a6 a7 a8) (curtilagelaw13_GraphMore.f (k + 1) a0 a1 a2 a3 a4 a5 a6 a7 a8) := by
  intro a0 a1 a2 a3 a4 a5 a6 a7 a8 k
  obtain ⟨ih0, ih1, ih2⟩ := curtilagelaw13_GraphMore.mono_l k
  unfold curtilagelaw13_GraphMore.f
  repeat' first
      | (with_reducible exact ih0 _ _ _ _ _ _ _ _ _ _ _)
      | (with_reducible exact ih1 _ _ _ _ _ _ _ _ _ _ _)
      | (with_reducible exact ih2 _ _ _ _ _ _ _ _ _ _ _ _)
      | (with_reducible exact curtilagelaw13_awake.mono _)
      | (with_reducible exact curtilageref10_Numbers.mono _ _ _)
      | (with_reducible exact curtilageref13_Short.mono _ _ _)
      | (with_reducible exact LeO.refl _)
      | (with_reducible exact LeO.none _)
      | (with_reducible refine LeO.ite ?_ ?_)
      | (with_reducible refine LeO.bind ?_ (fun _ => ?_))
      | exact ih0 _ _ _ _ _ _ _ _ _ _ _
      | exact ih1 _ _ _ _ _ _ _ _ _ _ _
      | exact ih2 _ _ _ _ _ _ _ _ _ _ _ _
      | exact curtilagelaw13_awake.mono _
      | exact curtilageref10_Numbers.mono _ _ _
      | exact curtilageref13_Short.mono _ _ _
      | exact LeO.none _
      | refine LeO.ite ?_ ?_
      | refine LeO.bind ?_ (fun _ => ?_)
set_option maxHeartbeats 8000000 in
set_option maxRecDepth 100000 in
theorem curtilagelaw13_GraphMore.calls (k : Nat) (A0 : Option Addr) (c0 : Nat) (l0 : List (S29)) (a1 : ByteArray) (a2_0 : ByteArray) (A2_1 : Option Addr) (c2_1 : Nat) (l2_1 : List ByteArray) (A2_2 : Option Addr) (c2_2 : Nat) (l2_2 : List (S99)) (A2_3 : Option Addr) (c2_3 : Nat) (l2_3 : List (S101)) (A2_4 : Option Addr) (c2_4 : Nat) (l2_4 : List (S103)) (A2_5 : Option Addr) (c2_5 : Nat) (l2_5 : List Int) (A2_6 : Option Addr) (c2_6 : Nat) (l2_6 : List Int) (r : Bool) (w : World) (hr0 : Kd.C k29 w A0 l0.length l0) (hc0 : l0.length ≤ c0) (hr2_1 : Kd.C Kd.string w A2_1 l2_1.length l2_1) (hc2_1 : l2_1.length ≤ c2_1) (hr2_2 : Kd.C k99 w A2_2 l2_2.length l2_2) (hc2_2 : l2_2.length ≤ c2_2) (hr2_3 : Kd.C k101 w A2_3 l2_3.length l2_3) (hc2_3 : l2_3.length ≤ c2_3) (hr2_4 : Kd.C k103 w A2_4 l2_4.length l2_4) (hc2_4 : l2_4.length ≤ c2_4) (hr2_5 : Kd.C (Kd.int .i64) w A2_5 l2_5.length l2_5) (hc2_5 : l2_5.length ≤ c2_5) (hr2_6 : Kd.C (Kd.int .i64) w A2_6 l2_6.length l2_6) (hc2_6 : l2_6.length ≤ c2_6) (h : curtilagelaw13_GraphMore.f k l0 a1 a2_0 l2_1 l2_2 l2_3 l2_4 l2_5 l2_6 = some r) (hr0 : r = true) :
    Calls Try.prog 3 #[.slice A0 l0.length c0, .string a1, .agg #[.string a2_0, .slice A2_1 l2_1.length c2_1, .slice A2_2 l2_2.length c2_2, .slice A2_3 l2_3.length c2_3, .slice A2_4 l2_4.length c2_4, .slice A2_5 l2_5.length c2_5, .slice A2_6 l2_6.length c2_6]] w fun e w' => e = .returned (.bool r) ∧ Below w.heap.size w w' := by
  have HT := Aside0.mk hr0
  clear hr0
  have hu29 := Try.underlying29
  have HR0 := Aside0.mk hr0
  have HC0 := Aside0.mk hc0
  clear hr0 hc0
  have HR2_1 := Aside0.mk hr2_1
  have HC2_1 := Aside0.mk hc2_1
  clear hr2_1 hc2_1
  have HR2_2 := Aside0.mk hr2_2
  have HC2_2 := Aside0.mk hc2_2
  clear hr2_2 hc2_2
  have HR2_3 := Aside0.mk hr2_3
  have HC2_3 := Aside0.mk hc2_3
  clear hr2_3 hc2_3
  have HR2_4 := Aside0.mk hr2_4
  have HC2_4 := Aside0.mk hc2_4
  clear hr2_4 hc2_4
  have HR2_5 := Aside0.mk hr2_5
  have HC2_5 := Aside0.mk hc2_5
  clear hr2_5 hc2_5
  have HR2_6 := Aside0.mk hr2_6
  have HC2_6 := Aside0.mk hc2_6
  clear hr2_6 hc2_6
  have HB := Aside0.mk (Below.refl w.heap.size w)
  have H : ((curtilagelaw13_awake.f k).bind fun t310 => ((curtilageref13_Short.f k l0 20).bind fun t311 => (if t311 = true then (if (l2_1.length : Int) > 10 then (curtilagelaw13_GraphMore.j0 k l0 a1 t310 true a2_0 l2_1 l2_2 l2_3 l2_4 l2_5 l2_6) else (curtilagelaw13_GraphMore.j0 k l0 a1 t310 (a2_0.toList == a1.toList) a2_0 l2_1 l2_2 l2_3 l2_4 l2_5 l2_6)) else (curtilagelaw13_GraphMore.j0 k l0 a1 t310 true a2_0 l2_1 l2_2 l2_3 l2_4 l2_5 l2_6)))) = some r := h
  clear h
  replace H := Option.bind_eq_some_iff.mp H
  obtain ⟨t310, A40, H⟩ := H
  replace H : ((curtilageref13_Short.f k l0 20).bind fun t311 => (if t311 = true then (if (l2_1.length : Int) > 10 then (curtilagelaw13_GraphMore.j0 k l0 a1 t310 true a2_0 l2_1 l2_2 l2_3 l2_4 l2_5 l2_6) else (curtilagelaw13_GraphMore.j0 k l0 a1 t310 (a2_0.toList == a1.toList) a2_0 l2_1 l2_2 l2_3 l2_4 l2_5 l2_6)) else (curtilagelaw13_GraphMore.j0 k l0 a1 t310 true a2_0 l2_1 l2_2 l2_3 l2_4 l2_5 l2_6))) = some r := H
  have A4 := Aside0.mk A40
  clear A40
  replace H := Option.bind_eq_some_iff.mp H
  obtain ⟨t311, A50, H⟩ := H
  replace H : (if t311 = true then (if (l2_1.length : Int) > 10 then (curtilagelaw13_GraphMore.j0 k l0 a1 t310 true a2_0 l2_1 l2_2 l2_3 l2_4 l2_5 l2_6) else (curtilagelaw13_GraphMore.j0 k l0 a1 t310 (a2_0.toList == a1.toList) a2_0 l2_1 l2_2 l2_3 l2_4 l2_5 l2_6)) else (curtilagelaw13_GraphMore.j0 k l0 a1 t310 true a2_0 l2_1 l2_2 l2_3 l2_4 l2_5 l2_6)) = some r := H
  have A5 := Aside0.mk A50
  clear A50
  have HC6 := Aside0.mk H
  clear H
  go_enter Try.func3, Try.ntmps3
  go_upto_region 3 with (first | ((with_reducible refine gate_dst (N := 5) rfl ?_); (try (refine gate_guard (by rfl) ?_; dsimp only)); refine box_event ?hg (N := 5) ?hd (cs := #[.string a2_0, .slice A2_1 l2_1.length c2_1, .slice A2_2 l2_2.length c2_2, .slice A2_3 l2_3.length c2_3, .slice A2_4 l2_4.length c2_4, .slice A2_5 l2_5.length c2_5, .slice A2_6 l2_6.length c2_6]) (t := 29) ?hr ?_; (case hd => rfl); (case hg => rfl); (case hr => first | (go_simp; done) | (go_simp; rfl)); intro gb309 hg w7 hbox hb; have n0_ := Aside0.mk (below_step (by repeat (first | (with_reducible first | exact HB.out | apply below_alloc | apply pw_below_drewN | apply below_drew1) | exact HB.out)) hb); have n1_ := Aside0.mk (hbox); have n2_ := Aside0.mk ((by rw [hg]; exact (below_size (by repeat (first | (with_reducible first | exact HB.out | apply below_alloc | apply pw_below_drewN | apply below_drew1) | exact HB.out))) : w.heap.size ≤ gb309)); have n3_ := n2_; clear HB; have HB := n0_; have BK309 := n1_; have GW309 := n2_; have GE309 := n3_; clear n0_ n1_ n2_ n3_; clear hb hbox hg) | (go_at_call 8; (with_reducible refine (curtilagelaw13_awake.calls k  t310 _ A4.out).mono ?_); rintro e w8 ⟨rfl, hb⟩; have n0_ := Aside0.mk (blk_below (g := gb309) (o := .cells #[.string a2_0, .slice A2_1 l2_1.length c2_1, .slice A2_2 l2_2.length c2_2, .slice A2_3 l2_3.length c2_3, .slice A2_4 l2_4.length c2_4, .slice A2_5 l2_5.length c2_5, .slice A2_6 l2_6.length c2_6] 29 (0, 0)) (by (with_reducible repeat (first | refine blk_drewN ?_ _ | refine blk_drew ?_ | refine blk_alloc ?_ _)); exact BK309.out) hb); have n1_ := Aside0.mk (below_step (by repeat (first | (with_reducible first | exact HB.out | apply below_alloc | apply pw_below_drewN | apply below_drew1 | refine below_set ?_ GE309.out) | exact HB.out)) hb); clear BK309; clear HB; have BK309 := n0_; have HB := n1_; clear n0_ n1_; (try clear hb); (try clear hb2); (try clear hk); (try clear hi)) | (go_at_call 9; (with_reducible refine (curtilageref13_Short.calls k _ _ l0 20 t311 _ ?side1 ?side2 A5.out).mono ?_); (case side1 => repeat (first | exact (Kd.C_below HR0.out HB.out) | (with_reducible refine Kd.C_alloc ?_ _) | (with_reducible refine Kd.C_drewN ?_ _) | (with_reducible refine Kd.C_drew ?_))); (case side2 => exact HC0.out); rintro e w' ⟨rfl, ⟨nd, rfl⟩⟩; (try first | exact ⟨rfl, _, World.drewN_drewN _ _ _⟩ | exact ⟨rfl, _, Eq.trans (World.drewN_drewN _ _ _) (congrArg (World.drewN _) (Nat.add_assoc _ _ _))⟩)))
  repeat (go_quiet (first | ((with_reducible refine gate_dst (N := 5) rfl ?_); (try (refine gate_guard (by rfl) ?_; dsimp only)); refine box_event ?hg (N := 5) ?hd (cs := #[.string a2_0, .slice A2_1 l2_1.length c2_1, .slice A2_2 l2_2.length c2_2, .slice A2_3 l2_3.length c2_3, .slice A2_4 l2_4.length c2_4, .slice A2_5 l2_5.length c2_5, .slice A2_6 l2_6.length c2_6]) (t := 29) ?hr ?_; (case hd => rfl); (case hg => rfl); (case hr => first | (go_simp; done) | (go_simp; rfl)); intro gb309 hg w7 hbox hb; have n0_ := Aside0.mk (below_step (by repeat (first | (with_reducible first | exact HB.out | apply below_alloc | apply pw_below_drewN | apply below_drew1) | exact HB.out)) hb); have n1_ := Aside0.mk (hbox); have n2_ := Aside0.mk ((by rw [hg]; exact (below_size (by repeat (first | (with_reducible first | exact HB.out | apply below_alloc | apply pw_below_drewN | apply below_drew1) | exact HB.out))) : w.heap.size ≤ gb309)); have n3_ := n2_; clear HB; have HB := n0_; have BK309 := n1_; have GW309 := n2_; have GE309 := n3_; clear n0_ n1_ n2_ n3_; clear hb hbox hg) | (go_at_call 8; (with_reducible refine (curtilagelaw13_awake.calls k  t310 _ A4.out).mono ?_); rintro e w8 ⟨rfl, hb⟩; have n0_ := Aside0.mk (blk_below (g := gb309) (o := .cells #[.string a2_0, .slice A2_1 l2_1.length c2_1, .slice A2_2 l2_2.length c2_2, .slice A2_3 l2_3.length c2_3, .slice A2_4 l2_4.length c2_4, .slice A2_5 l2_5.length c2_5, .slice A2_6 l2_6.length c2_6] 29 (0, 0)) (by (with_reducible repeat (first | refine blk_drewN ?_ _ | refine blk_drew ?_ | refine blk_alloc ?_ _)); exact BK309.out) hb); have n1_ := Aside0.mk (below_step (by repeat (first | (with_reducible first | exact HB.out | apply below_alloc | apply pw_below_drewN | apply below_drew1 | refine below_set ?_ GE309.out) | exact HB.out)) hb); clear BK309; clear HB; have BK309 := n0_; have HB := n1_; clear n0_ n1_; (try clear hb); (try clear hb2); (try clear hk); (try clear hi)) | (go_at_call 9; (with_reducible refine (curtilageref13_Short.calls k _ _ l0 20 t311 _ ?side1 ?side2 A5.out).mono ?_); (case side1 => repeat (first | exact (Kd.C_below HR0.out HB.out) | (with_reducible refine Kd.C_alloc ?_ _) | (with_reducible refine Kd.C_drewN ?_ _) | (with_reducible refine Kd.C_drew ?_))); (case side2 => exact HC0.out); rintro e w' ⟨rfl, ⟨nd, rfl⟩⟩; (try first | exact ⟨rfl, _, World.drewN_drewN _ _ _⟩ | exact ⟨rfl, _, Eq.trans (World.drewN_drewN _ _ _) (congrArg (World.drewN _) (Nat.add_assoc _ _ _))⟩))); go_upto_region 3 with (first | ((with_reducible refine gate_dst (N := 5) rfl ?_); (try (refine gate_guard (by rfl) ?_; dsimp only)); refine box_event ?hg (N := 5) ?hd (cs := #[.string a2_0, .slice A2_1 l2_1.length c2_1, .slice A2_2 l2_2.length c2_2, .slice A2_3 l2_3.length c2_3, .slice A2_4 l2_4.length c2_4, .slice A2_5 l2_5.length c2_5, .slice A2_6 l2_6.length c2_6]) (t := 29) ?hr ?_; (case hd => rfl); (case hg => rfl); (case hr => first | (go_simp; done) | (go_simp; rfl)); intro gb309 hg w7 hbox hb; have n0_ := Aside0.mk (below_step (by repeat (first | (with_reducible first | exact HB.out | apply below_alloc | apply pw_below_drewN | apply below_drew1) | exact HB.out)) hb); have n1_ := Aside0.mk (hbox); have n2_ := Aside0.mk ((by rw [hg]; exact (below_size (by repeat (first | (with_reducible first | exact HB.out | apply below_alloc | apply pw_below_drewN | apply below_drew1) | exact HB.out))) : w.heap.size ≤ gb309)); have n3_ := n2_; clear HB; have HB := n0_; have BK309 := n1_; have GW309 := n2_; have GE309 := n3_; clear n0_ n1_ n2_ n3_; clear hb hbox hg) | (go_at_call 8; (with_reducible refine (curtilagelaw13_awake.calls k  t310 _ A4.out).mono ?_); rintro e w8 ⟨rfl, hb⟩; have n0_ := Aside0.mk (blk_below (g := gb309) (o := .cells #[.string a2_0, .slice A2_1 l2_1.length c2_1, .slice A2_2 l2_2.length c2_2, .slice A2_3 l2_3.length c2_3, .slice A2_4 l2_4.length c2_4, .slice A2_5 l2_5.length c2_5, .slice A2_6 l2_6.length c2_6] 29 (0, 0)) (by (with_reducible repeat (first | refine blk_drewN ?_ _ | refine blk_drew ?_ | refine blk_alloc ?_ _)); exact BK309.out) hb); have n1_ := Aside0.mk (below_step (by repeat (first | (with_reducible first | exact HB.out | apply below_alloc | apply pw_below_drewN | apply below_drew1 | refine below_set ?_ GE309.out) | exact HB.out)) hb); clear BK309; clear HB; have BK309 := n0_; have HB := n1_; clear n0_ n1_; (try clear hb); (try clear hb2); (try clear hk); (try clear hi)) | (go_at_call 9; (with_reducible refine (curtilageref13_Short.calls k _ _ l0 20 t311 _ ?side1 ?side2 A5.out).mono ?_); (case side1 => repeat (first | exact (Kd.C_below HR0.out HB.out) | (with_reducible refine Kd.C_alloc ?_ _) | (with_reducible refine Kd.C_drewN ?_ _) | (with_reducible refine Kd.C_drew ?_))); (case side2 => exact HC0.out); rintro e w' ⟨rfl, ⟨nd, rfl⟩⟩; (try first | exact ⟨rfl, _, World.drewN_drewN _ _ _⟩ | exact ⟨rfl, _, Eq.trans (World.drewN_drewN _ _ _) (congrArg (World.drewN _) (Nat.add_assoc _ _ _))⟩))))
  (try simp only [Act.put, List.setIfInBounds_toArray, List.set_cons_zero, List.set_cons_succ])
  go_cut [36] (fun v36 wc => ∃ (kq : Nat) (x36_5 : Bool), v36 = .bool x36_5 ∧ Aside0 (curtilagelaw13_GraphMore.j0 kq l0 a1 t310 x36_5 a2_0 l2_1 l2_2 l2_3 l2_4 l2_5 l2_6 = some r) ∧ Aside0 (kq ≤ k) ∧ Aside0 (wc.heap[gb309]? = some (.cells #[.string a2_0, (.slice A2_1 l2_1.length c2_1), (.slice A2_2 l2_2.length c2_2), (.slice A2_3 l2_3.length c2_3), (.slice A2_4 l2_4.length c2_4), (.slice A2_5 l2_5.length c2_5), (.slice A2_6 l2_6.length c2_6)] 29 (0, 0))) ∧ Aside0 (Below w.heap.size w wc))
  case first =>
    have H := HC6.out
    clear HC6
    by_cases c9 : t311 = true
    · subst c9
      have H1 : (if (l2_1.length : Int) > 10 then (curtilagelaw13_GraphMore.j0 k l0 a1 t310 true a2_0 l2_1 l2_2 l2_3 l2_4 l2_5 l2_6) else (curtilagelaw13_GraphMore.j0 k l0 a1 t310 (a2_0.toList == a1.toList) a2_0 l2_1 l2_2 l2_3 l2_4 l2_5 l2_6)) = some r := by rw [if_pos rfl] at H; exact H
      clear H
      have H := H1
      clear H1
      by_cases c10 : (l2_1.length : Int) > 10
      · rw [if_pos c10] at H
        have c10b0 : decide (10 < (l2_1.length : Int)) = true := decide_eq_true c10
        have c10b1 : decide (10 < l2_1.length) = true := decide_eq_true (by omega)
        clear c10
        (first | rw [c10b0] | (simp only [i64_w, i32_w]; rw [c10b0]) | skip)
        have H' := Aside0.mk H
        clear H
        have hcz11_0 : w8.cell? ⟨gb309, 0, none⟩ = some (.string a2_0) := (blk_cell BK309.out 0).trans rfl
        have hcz11_1 : w8.cell? ⟨gb309, 1, none⟩ = some (.slice A2_1 l2_1.length c2_1) := (blk_cell BK309.out 1).trans rfl
        have hcz11_2 : w8.cell? ⟨gb309, 2, none⟩ = some (.slice A2_2 l2_2.length c2_2) := (blk_cell BK309.out 2).trans rfl
        have hcz11_3 : w8.cell? ⟨gb309, 3, none⟩ = some (.slice A2_3 l2_3.length c2_3) := (blk_cell BK309.out 3).trans rfl
        have hcz11_4 : w8.cell? ⟨gb309, 4, none⟩ = some (.slice A2_4 l2_4.length c2_4) := (blk_cell BK309.out 4).trans rfl
        have hcz11_5 : w8.cell? ⟨gb309, 5, none⟩ = some (.slice A2_5 l2_5.length c2_5) := (blk_cell BK309.out 5).trans rfl
        have hcz11_6 : w8.cell? ⟨gb309, 6, none⟩ = some (.slice A2_6 l2_6.length c2_6) := (blk_cell BK309.out 6).trans rfl
        have hfz11_0 := blk_frozen BK309.out 0
        have hfz11_1 := blk_frozen BK309.out 1
        have hfz11_2 := blk_frozen BK309.out 2
        have hfz11_3 := blk_frozen BK309.out 3
        have hfz11_4 := blk_frozen BK309.out 4
        have hfz11_5 := blk_frozen BK309.out 5
        have hfz11_6 := blk_frozen BK309.out 6
        go_wp2
        repeat (go_quiet (fail); try go_wp2)
        go_meet
        case rel => exact ⟨_, (true), (by first | rfl | (simp; done) | (simp [*]; done)), H', ⟨by first | omega | exact Nat.le_refl _⟩, ⟨by (with_reducible repeat (first | refine blk_drewN ?_ _ | refine blk_drew ?_ | refine blk_alloc ?_ _)); exact BK309.out⟩, ⟨by repeat (first | (with_reducible first | exact HB.out | apply below_alloc | apply pw_below_drewN | apply below_drew1 | refine below_set ?_ GE309.out) | exact HB.out)⟩⟩
      · rw [if_neg c10] at H
        have c10b0 : decide (10 < (l2_1.length : Int)) = false := decide_eq_false c10
        have c10b1 : decide (10 < l2_1.length) = false := decide_eq_false (by omega)
        clear c10
        (first | rw [c10b0] | (simp only [i64_w, i32_w]; rw [c10b0]) | skip)
        have H' := Aside0.mk H
        clear H
        have hcz12_0 : w8.cell? ⟨gb309, 0, none⟩ = some (.string a2_0) := (blk_cell BK309.out 0).trans rfl
        have hcz12_1 : w8.cell? ⟨gb309, 1, none⟩ = some (.slice A2_1 l2_1.length c2_1) := (blk_cell BK309.out 1).trans rfl
        have hcz12_2 : w8.cell? ⟨gb309, 2, none⟩ = some (.slice A2_2 l2_2.length c2_2) := (blk_cell BK309.out 2).trans rfl
        have hcz12_3 : w8.cell? ⟨gb309, 3, none⟩ = some (.slice A2_3 l2_3.length c2_3) := (blk_cell BK309.out 3).trans rfl
        have hcz12_4 : w8.cell? ⟨gb309, 4, none⟩ = some (.slice A2_4 l2_4.length c2_4) := (blk_cell BK309.out 4).trans rfl
        have hcz12_5 : w8.cell? ⟨gb309, 5, none⟩ = some (.slice A2_5 l2_5.length c2_5) := (blk_cell BK309.out 5).trans rfl
        have hcz12_6 : w8.cell? ⟨gb309, 6, none⟩ = some (.slice A2_6 l2_6.length c2_6) := (blk_cell BK309.out 6).trans rfl
        have hfz12_0 := blk_frozen BK309.out 0
        have hfz12_1 := blk_frozen BK309.out 1
        have hfz12_2 := blk_frozen BK309.out 2
        have hfz12_3 := blk_frozen BK309.out 3
        have hfz12_4 := blk_frozen BK309.out 4
        have hfz12_5 := blk_frozen BK309.out 5
        have hfz12_6 := blk_frozen BK309.out 6
        go_wp2
        repeat (go_quiet (fail); try go_wp2)
        go_meet
        case rel => exact ⟨_, ((a2_0.toList == a1.toList)), (by first | rfl | (simp; done) | (simp [*]; done)), H', ⟨by first | omega | exact Nat.le_refl _⟩, ⟨by (with_reducible repeat (first | refine blk_drewN ?_ _ | refine blk_drew ?_ | refine blk_alloc ?_ _)); exact BK309.out⟩, ⟨by repeat (first | (with_reducible first | exact HB.out | apply below_alloc | apply pw_below_drewN | apply below_drew1 | refine below_set ?_ GE309.out) | exact HB.out)⟩⟩
    · replace c9 := Bool.eq_false_iff.mpr c9
      subst c9
      have H1 : (curtilagelaw13_GraphMore.j0 k l0 a1 t310 true a2_0 l2_1 l2_2 l2_3 l2_4 l2_5 l2_6) = some r := by rw [if_neg (show ¬ (false = true) by decide)] at H; exact H
      clear H
      have H := H1
      clear H1
      have H' := Aside0.mk H
      clear H
      go_wp2
      repeat (go_quiet (fail); try go_wp2)
      go_meet
      case rel => exact ⟨_, (true), (by first | rfl | (simp; done) | (simp [*]; done)), H', ⟨by first | omega | exact Nat.le_refl _⟩, ⟨by (with_reducible repeat (first | refine blk_drewN ?_ _ | refine blk_drew ?_ | refine blk_alloc ?_ _)); exact BK309.out⟩, ⟨by repeat (first | (with_reducible first | exact HB.out | apply below_alloc | apply pw_below_drewN | apply below_drew1 | refine below_set ?_ GE309.out) | exact HB.out)⟩⟩
  case rest =>
    clear HC6
    try clear c1
    try clear c2
    try clear p2
    try clear c3
    try clear c9
    try clear c10
    try clear c10b0
    try clear c10b1
    try clear hcz11_0
    try clear hcz11_1
    try clear hcz11_2
    try clear hcz11_3
    try clear hcz11_4
    try clear hcz11_5
    try clear hcz11_6
    try clear hcz12_0
    try clear hcz12_1
    try clear hcz12_2
    try clear hcz12_3
    try clear hcz12_4
    try clear hcz12_5
    try clear hcz12_6
    try clear hfz11_0
    try clear hfz11_1
    try clear hfz11_2
    try clear hfz11_3
    try clear hfz11_4
    try clear hfz11_5
    try clear hfz11_6
    try clear hfz12_0
    try clear hfz12_1
    try clear hfz12_2
    try clear hfz12_3
    try clear hfz12_4
    try clear hfz12_5
    try clear hfz12_6
    obtain ⟨kq, x36_5, rfl, HA, HJ5, BK309, HB⟩ := hcut
    cases kq with
    | zero => exact absurd HA.out (by simp [curtilagelaw13_GraphMore.j0])
    | succ kj5 =>
      have H := HA.out
      clear HA
      simp only [curtilagelaw13_GraphMore.j0] at H
      by_cases c13 : x36_5 = true
      · subst c13
        have H1 : (some t310) = some r := by rw [if_pos rfl] at H; exact H
        clear H
        have H := H1
        clear H1
        obtain rfl := Option.some.inj H
        go_wp2
        repeat (go_quiet (fail); try go_wp2)
        go_ret
        exact ⟨by first | rfl | (simp [errW_none, errW_some] <;> rfl) | (simp [*, errW_none, errW_some] <;> rfl), by repeat (first | (with_reducible first | exact HB.out | apply below_alloc | apply pw_below_drewN | apply below_drew1 | refine below_set ?_ GE309.out) | exact HB.out)⟩
      · replace c13 := Bool.eq_false_iff.mpr c13
        subst c13
        have H1 : (curtilagelaw13_GraphMore.l0 kj5 l0 a1 t310 0 a2_0 l2_1 l2_2 l2_3 l2_4 l2_5 l2_6) = some r := by rw [if_neg (show ¬ (false = true) by decide)] at H; exact H
        clear H
        have H := H1
        clear H1
        have H' := Aside0.mk H
        clear H
        go_wp2
        repeat (go_quiet (fail); try go_wp2)
        go_loopg [9] kj5 (fun kq v9 w' => ∃ (x9_2 : Int), v9 = .int .i64 x9_2 ∧ Aside0 (curtilagelaw13_GraphMore.l0 kq l0 a1 t310 x9_2 a2_0 l2_1 l2_2 l2_3 l2_4 l2_5 l2_6 = some r) ∧ Aside0 (kq ≤ kj5) ∧ Aside0 (w'.heap[gb309]? = some (.cells #[.string a2_0, (.slice A2_1 l2_1.length c2_1), (.slice A2_2 l2_2.length c2_2), (.slice A2_3 l2_3.length c2_3), (.slice A2_4 l2_4.length c2_4), (.slice A2_5 l2_5.length c2_5), (.slice A2_6 l2_6.length c2_6)] 29 (0, 0))) ∧ Aside0 (Below w.heap.size w w'))
        case atStart => exact ⟨(0), (by first | rfl | (simp; done) | (simp [*]; done)), H', ⟨Nat.le_refl _⟩, ⟨by (with_reducible repeat (first | refine blk_drewN ?_ _ | refine blk_drew ?_ | refine blk_alloc ?_ _)); exact BK309.out⟩, ⟨by repeat (first | (with_reducible first | exact HB.out | apply below_alloc | apply pw_below_drewN | apply below_drew1 | refine below_set ?_ GE309.out) | exact HB.out)⟩⟩
        case round =>
          clear H'
          try clear c1
          try clear c2
          try clear p2
          try clear c3
          try clear c9
          try clear c10
          try clear c10b0
          try clear c10b1
          try clear c13
          try clear hcz11_0
          try clear hcz11_1
          try clear hcz11_2
          try clear hcz11_3
          try clear hcz11_4
          try clear hcz11_5
          try clear hcz11_6
          try clear hcz12_0
          try clear hcz12_1
          try clear hcz12_2
          try clear hcz12_3
          try clear hcz12_4
          try clear hcz12_5
          try clear hcz12_6
          try clear hfz11_0
          try clear hfz11_1
          try clear hfz11_2
          try clear hfz11_3
          try clear hfz11_4
          try clear hfz11_5
          try clear hfz11_6
          try clear hfz12_0
          try clear hfz12_1
          try clear hfz12_2
          try clear hfz12_3
          try clear hfz12_4
          try clear hfz12_5
          try clear hfz12_6
          try clear p2
          obtain ⟨x9_2, rfl, HA, HK2, BK309, HB⟩ := hrel
          cases gk with
          | zero => exact absurd HA.out (by simp [curtilagelaw13_GraphMore.l0])
          | succ k2 =>
            have H := HA.out
            clear HA
            simp only [curtilagelaw13_GraphMore.l0] at H
            by_cases c14 : x9_2 < (l0.length : Int)
            · rw [if_pos c14] at H
              have c14b0 : decide (x9_2 < (l0.length : Int)) = true := decide_eq_true c14
              clear c14
              have H' := Aside0.mk H
              clear H
              go_wp2
              repeat (go_quiet (fail); try go_wp2)
              go_loopg [10] k2 (fun kq v10 w' => ∃ (x10_3 : Int), v10 = .int .i64 x10_3 ∧ Aside0 (curtilagelaw13_GraphMore.l1 kq l0 a1 t310 x9_2 x10_3 a2_0 l2_1 l2_2 l2_3 l2_4 l2_5 l2_6 = some r) ∧ Aside0 (kq ≤ k2) ∧ Aside0 (w'.heap[gb309]? = some (.cells #[.string a2_0, (.slice A2_1 l2_1.length c2_1), (.slice A2_2 l2_2.length c2_2), (.slice A2_3 l2_3.length c2_3), (.slice A2_4 l2_4.length c2_4), (.slice A2_5 l2_5.length c2_5), (.slice A2_6 l2_6.length c2_6)] 29 (0, 0))) ∧ Aside0 (Below w.heap.size w w'))
              case atStart => exact ⟨(0), (by first | rfl | (simp; done) | (simp [*]; done)), H', ⟨Nat.le_refl _⟩, ⟨by (with_reducible repeat (first | refine blk_drewN ?_ _ | refine blk_drew ?_ | refine blk_alloc ?_ _)); exact BK309.out⟩, ⟨by repeat (first | (with_reducible first | exact HB.out | apply below_alloc | apply pw_below_drewN | apply below_drew1 | refine below_set ?_ GE309.out) | exact HB.out)⟩⟩
              case round =>
                clear H'
                try clear c1
                try clear c2
                try clear p2
                try clear c3
                try clear c9
                try clear c10
                try clear c10b0
                try clear c10b1
                try clear c13
                try clear c14
                try clear c14b0
                try clear hcz11_0
                try clear hcz11_1
                try clear hcz11_2
                try clear hcz11_3
                try clear hcz11_4
                try clear hcz11_5
                try clear hcz11_6
                try clear hcz12_0
                try clear hcz12_1
                try clear hcz12_2
                try clear hcz12_3
                try clear hcz12_4
                try clear hcz12_5
                try clear hcz12_6
                try clear hfz11_0
                try clear hfz11_1
                try clear hfz11_2
                try clear hfz11_3
                try clear hfz11_4
                try clear hfz11_5
                try clear hfz11_6
                try clear hfz12_0
                try clear hfz12_1
                try clear hfz12_2
                try clear hfz12_3
                try clear hfz12_4
                try clear hfz12_5
                try clear hfz12_6
                try clear p2
                obtain ⟨x10_3, rfl, HA, HK3, BK309, HB⟩ := hrel
                cases gk with
                | zero => exact absurd HA.out (by simp [curtilagelaw13_GraphMore.l1])
                | succ k3 =>
                  have H := HA.out
                  clear HA
                  simp only [curtilagelaw13_GraphMore.l1] at H
                  by_cases c15 : 0 ≤ x9_2
                  · rw [if_pos c15] at H
                    have c15b0 : decide (0 ≤ x9_2) = true := decide_eq_true c15
                    clear c15
                    by_cases c16 : x9_2 < (l0.length : Int)
                    · rw [if_pos c16] at H
                      have c16b0 : decide (x9_2 < (l0.length : Int)) = true := decide_eq_true c16
                      clear c16
                      by_cases c17 : x10_3 < (((rd_T29 l0 x9_2).f1).length : Int)
                      · rw [if_pos c17] at H
                        have c17b0 : decide (x10_3 < (((rd_T29 l0 x9_2).f1).length : Int)) = true := decide_eq_true c17
                        clear c17
                        by_cases c18 : 0 ≤ x10_3
                        · rw [if_pos c18] at H
                          have c18b0 : decide (0 ≤ x10_3) = true := decide_eq_true c18
                          clear c18
                          by_cases c19 : (rdOf ByteArray.empty ((rd_T29 l0 x9_2).f1) x10_3).toList = a2_0.toList
                          · rw [if_pos c19] at H
                            have c19b0 : ((rdOf ByteArray.empty ((rd_T29 l0 x9_2).f1) x10_3).toList == a2_0.toList) = true := beq_iff_eq.mpr c19
                            have c19b1 : ((rdOf ByteArray.empty ((rd_T29 l0 x9_2).f1) x10_3).toList != a2_0.toList) = false := bne_eq_false_iff_eq.mpr c19
                            clear c19
                            obtain rfl := Option.some.inj H
                            have p312 : 0 ≤ (x9_2 : Int) := of_decide_eq_true (by first | (with_reducible assumption) | assumption)
                            have q312 : x9_2 < (l0.length : Int) := of_decide_eq_true (by first | (with_reducible assumption) | assumption)
                            obtain ⟨ad312, A312_1, c312_1, A312_2, c312_2, A312_3, c312_3, A312_4, c312_4, A312_5, c312_5, A312_6, c312_6, e312, hx312_0, hx312_1, hx312_2, hx312_3, hx312_4, hx312_5, hx312_6, hl312_1, hi312_1, hl312_2, hi312_2, hl312_3, hi312_3, hl312_4, hi312_4, hl312_5, hi312_5, hl312_6, hi312_6⟩ := at_T29 HR0.out x9_2 p312 q312
                            cases e312
                            replace hx312_0 := (HB.out.cell (World.block_lt_of_cell? w _ hx312_0)).trans hx312_0
                            replace hx312_1 := (HB.out.cell (World.block_lt_of_cell? w _ hx312_1)).trans hx312_1
                            replace hx312_2 := (HB.out.cell (World.block_lt_of_cell? w _ hx312_2)).trans hx312_2
                            replace hx312_3 := (HB.out.cell (World.block_lt_of_cell? w _ hx312_3)).trans hx312_3
                            replace hx312_4 := (HB.out.cell (World.block_lt_of_cell? w _ hx312_4)).trans hx312_4
                            replace hx312_5 := (HB.out.cell (World.block_lt_of_cell? w _ hx312_5)).trans hx312_5
                            replace hx312_6 := (HB.out.cell (World.block_lt_of_cell? w _ hx312_6)).trans hx312_6
                            have HR312_1 := Aside0.mk hi312_1
                            have HC312_1 := Aside0.mk hl312_1
                            clear hi312_1 hl312_1
                            have HR312_2 := Aside0.mk hi312_2
                            have HC312_2 := Aside0.mk hl312_2
                            clear hi312_2 hl312_2
                            have HR312_3 := Aside0.mk hi312_3
                            have HC312_3 := Aside0.mk hl312_3
                            clear hi312_3 hl312_3
                            have HR312_4 := Aside0.mk hi312_4
                            have HC312_4 := Aside0.mk hl312_4
                            clear hi312_4 hl312_4
                            have HR312_5 := Aside0.mk hi312_5
                            have HC312_5 := Aside0.mk hl312_5
                            clear hi312_5 hl312_5
                            have HR312_6 := Aside0.mk hi312_6
                            have HC312_6 := Aside0.mk hl312_6
                            clear hi312_6 hl312_6
                            replace p312 := eq_true p312
                            replace q312 := eq_true q312
                            have p313 : 0 ≤ (x9_2 : Int) := of_decide_eq_true (by first | (with_reducible assumption) | assumption)
                            have q313 : x9_2 < (l0.length : Int) := of_decide_eq_true (by first | (with_reducible assumption) | assumption)
                            obtain ⟨ad313, A313_1, c313_1, A313_2, c313_2, A313_3, c313_3, A313_4, c313_4, A313_5, c313_5, A313_6, c313_6, e313, hx313_0, hx313_1, hx313_2, hx313_3, hx313_4, hx313_5, hx313_6, hl313_1, hi313_1, hl313_2, hi313_2, hl313_3, hi313_3, hl313_4, hi313_4, hl313_5, hi313_5, hl313_6, hi313_6⟩ := at_T29 HR0.out x9_2 p313 q313
                            obtain rfl : ad312 = ad313 := (by injection e313)
                            replace hx313_0 := (HB.out.cell (World.block_lt_of_cell? w _ hx313_0)).trans hx313_0
                            replace hx313_1 := (HB.out.cell (World.block_lt_of_cell? w _ hx313_1)).trans hx313_1
                            replace hx313_2 := (HB.out.cell (World.block_lt_of_cell? w _ hx313_2)).trans hx313_2
                            replace hx313_3 := (HB.out.cell (World.block_lt_of_cell? w _ hx313_3)).trans hx313_3
                            replace hx313_4 := (HB.out.cell (World.block_lt_of_cell? w _ hx313_4)).trans hx313_4
                            replace hx313_5 := (HB.out.cell (World.block_lt_of_cell? w _ hx313_5)).trans hx313_5
                            replace hx313_6 := (HB.out.cell (World.block_lt_of_cell? w _ hx313_6)).trans hx313_6
                            have HR313_1 := Aside0.mk hi313_1
                            have HC313_1 := Aside0.mk hl313_1
                            clear hi313_1 hl313_1
                            have HR313_2 := Aside0.mk hi313_2
                            have HC313_2 := Aside0.mk hl313_2
                            clear hi313_2 hl313_2
                            have HR313_3 := Aside0.mk hi313_3
                            have HC313_3 := Aside0.mk hl313_3
                            clear hi313_3 hl313_3
                            have HR313_4 := Aside0.mk hi313_4
                            have HC313_4 := Aside0.mk hl313_4
                            clear hi313_4 hl313_4
                            have HR313_5 := Aside0.mk hi313_5
                            have HC313_5 := Aside0.mk hl313_5
                            clear hi313_5 hl313_5
                            have HR313_6 := Aside0.mk hi313_6
                            have HC313_6 := Aside0.mk hl313_6
                            clear hi313_6 hl313_6
                            replace p313 := eq_true p313
                            replace q313 := eq_true q313
                            have ea_ := Option.some.inj (hx312_1.symm.trans hx313_1)
                            injection ea_ with ea_ en_ ec_
                            subst ea_
                            subst ec_
                            clear en_
                            have ea_ := Option.some.inj (hx312_2.symm.trans hx313_2)
                            injection ea_ with ea_ en_ ec_
                            subst ea_
                            subst ec_
                            clear en_
                            have ea_ := Option.some.inj (hx312_3.symm.trans hx313_3)
                            injection ea_ with ea_ en_ ec_
                            subst ea_
                            subst ec_
                            clear en_
                            have ea_ := Option.some.inj (hx312_4.symm.trans hx313_4)
                            injection ea_ with ea_ en_ ec_
                            subst ea_
                            subst ec_
                            clear en_
                            have ea_ := Option.some.inj (hx312_5.symm.trans hx313_5)
                            injection ea_ with ea_ en_ ec_
                            subst ea_
                            subst ec_
                            clear en_
                            have ea_ := Option.some.inj (hx312_6.symm.trans hx313_6)
                            injection ea_ with ea_ en_ ec_
                            subst ea_
                            subst ec_
                            clear en_
                            have p314 : 0 ≤ (x10_3 : Int) := of_decide_eq_true (by first | (with_reducible assumption) | assumption)
                            have q314 : x10_3 < (((rd_T29 l0 x9_2).f1).length : Int) := of_decide_eq_true (by first | (with_reducible assumption) | assumption)
                            obtain ⟨ad314, e314, hx314_0⟩ := Kd.at_string HR313_1.out x10_3 p314 q314
                            cases e314
                            replace hx314_0 := (HB.out.cell (World.block_lt_of_cell? w _ hx314_0)).trans hx314_0
                            replace p314 := eq_true p314
                            replace q314 := eq_true q314
                            have hcz20_0 : wr.cell? ⟨gb309, 0, none⟩ = some (.string a2_0) := (blk_cell BK309.out 0).trans rfl
                            have hcz20_1 : wr.cell? ⟨gb309, 1, none⟩ = some (.slice A2_1 l2_1.length c2_1) := (blk_cell BK309.out 1).trans rfl
                            have hcz20_2 : wr.cell? ⟨gb309, 2, none⟩ = some (.slice A2_2 l2_2.length c2_2) := (blk_cell BK309.out 2).trans rfl
                            have hcz20_3 : wr.cell? ⟨gb309, 3, none⟩ = some (.slice A2_3 l2_3.length c2_3) := (blk_cell BK309.out 3).trans rfl
                            have hcz20_4 : wr.cell? ⟨gb309, 4, none⟩ = some (.slice A2_4 l2_4.length c2_4) := (blk_cell BK309.out 4).trans rfl
                            have hcz20_5 : wr.cell? ⟨gb309, 5, none⟩ = some (.slice A2_5 l2_5.length c2_5) := (blk_cell BK309.out 5).trans rfl
                            have hcz20_6 : wr.cell? ⟨gb309, 6, none⟩ = some (.slice A2_6 l2_6.length c2_6) := (blk_cell BK309.out 6).trans rfl
                            have hfz20_0 := blk_frozen BK309.out 0
                            have hfz20_1 := blk_frozen BK309.out 1
                            have hfz20_2 := blk_frozen BK309.out 2
                            have hfz20_3 := blk_frozen BK309.out 3
                            have hfz20_4 := blk_frozen BK309.out 4
                            have hfz20_5 := blk_frozen BK309.out 5
                            have hfz20_6 := blk_frozen BK309.out 6
                            go_wp2
                            repeat (go_quiet (fail); try go_wp2)
                            go_ret
                            exact ⟨by first | rfl | (simp [errW_none, errW_some] <;> rfl) | (simp [*, errW_none, errW_some] <;> rfl), by repeat (first | (with_reducible first | exact HB.out | apply below_alloc | apply pw_below_drewN | apply below_drew1 | refine below_set ?_ GE309.out) | exact HB.out)⟩
                          · rw [if_neg c19] at H
                            have c19b0 : ((rdOf ByteArray.empty ((rd_T29 l0 x9_2).f1) x10_3).toList == a2_0.toList) = false := beq_eq_false_iff_ne.mpr c19
                            have c19b1 : ((rdOf ByteArray.empty ((rd_T29 l0 x9_2).f1) x10_3).toList != a2_0.toList) = true := bne_iff_ne.mpr c19
                            have H' := Aside0.mk H
                            clear H
                            have p312 : 0 ≤ (x9_2 : Int) := of_decide_eq_true (by first | (with_reducible assumption) | assumption)
                            have q312 : x9_2 < (l0.length : Int) := of_decide_eq_true (by first | (with_reducible assumption) | assumption)
                            obtain ⟨ad312, A312_1, c312_1, A312_2, c312_2, A312_3, c312_3, A312_4, c312_4, A312_5, c312_5, A312_6, c312_6, e312, hx312_0, hx312_1, hx312_2, hx312_3, hx312_4, hx312_5, hx312_6, hl312_1, hi312_1, hl312_2, hi312_2, hl312_3, hi312_3, hl312_4, hi312_4, hl312_5, hi312_5, hl312_6, hi312_6⟩ := at_T29 HR0.out x9_2 p312 q312
                            cases e312
                            replace hx312_0 := (HB.out.cell (World.block_lt_of_cell? w _ hx312_0)).trans hx312_0
                            replace hx312_1 := (HB.out.cell (World.block_lt_of_cell? w _ hx312_1)).trans hx312_1
                            replace hx312_2 := (HB.out.cell (World.block_lt_of_cell? w _ hx312_2)).trans hx312_2
                            replace hx312_3 := (HB.out.cell (World.block_lt_of_cell? w _ hx312_3)).trans hx312_3
                            replace hx312_4 := (HB.out.cell (World.block_lt_of_cell? w _ hx312_4)).trans hx312_4
                            replace hx312_5 := (HB.out.cell (World.block_lt_of_cell? w _ hx312_5)).trans hx312_5
                            replace hx312_6 := (HB.out.cell (World.block_lt_of_cell? w _ hx312_6)).trans hx312_6
                            have HR312_1 := Aside0.mk hi312_1
                            have HC312_1 := Aside0.mk hl312_1
                            clear hi312_1 hl312_1
                            have HR312_2 := Aside0.mk hi312_2
                            have HC312_2 := Aside0.mk hl312_2
                            clear hi312_2 hl312_2
                            have HR312_3 := Aside0.mk hi312_3
                            have HC312_3 := Aside0.mk hl312_3
                            clear hi312_3 hl312_3
                            have HR312_4 := Aside0.mk hi312_4
                            have HC312_4 := Aside0.mk hl312_4
                            clear hi312_4 hl312_4
                            have HR312_5 := Aside0.mk hi312_5
                            have HC312_5 := Aside0.mk hl312_5
                            clear hi312_5 hl312_5
                            have HR312_6 := Aside0.mk hi312_6
                            have HC312_6 := Aside0.mk hl312_6
                            clear hi312_6 hl312_6
                            replace p312 := eq_true p312
                            replace q312 := eq_true q312
                            have p313 : 0 ≤ (x9_2 : Int) := of_decide_eq_true (by first | (with_reducible assumption) | assumption)
                            have q313 : x9_2 < (l0.length : Int) := of_decide_eq_true (by first | (with_reducible assumption) | assumption)
                            obtain ⟨ad313, A313_1, c313_1, A313_2, c313_2, A313_3, c313_3, A313_4, c313_4, A313_5, c313_5, A313_6, c313_6, e313, hx313_0, hx313_1, hx313_2, hx313_3, hx313_4, hx313_5, hx313_6, hl313_1, hi313_1, hl313_2, hi313_2, hl313_3, hi313_3, hl313_4, hi313_4, hl313_5, hi313_5, hl313_6, hi313_6⟩ := at_T29 HR0.out x9_2 p313 q313
                            obtain rfl : ad312 = ad313 := (by injection e313)
                            replace hx313_0 := (HB.out.cell (World.block_lt_of_cell? w _ hx313_0)).trans hx313_0
                            replace hx313_1 := (HB.out.cell (World.block_lt_of_cell? w _ hx313_1)).trans hx313_1
                            replace hx313_2 := (HB.out.cell (World.block_lt_of_cell? w _ hx313_2)).trans hx313_2
                            replace hx313_3 := (HB.out.cell (World.block_lt_of_cell? w _ hx313_3)).trans hx313_3
                            replace hx313_4 := (HB.out.cell (World.block_lt_of_cell? w _ hx313_4)).trans hx313_4
                            replace hx313_5 := (HB.out.cell (World.block_lt_of_cell? w _ hx313_5)).trans hx313_5
                            replace hx313_6 := (HB.out.cell (World.block_lt_of_cell? w _ hx313_6)).trans hx313_6
                            have HR313_1 := Aside0.mk hi313_1
                            have HC313_1 := Aside0.mk hl313_1
                            clear hi313_1 hl313_1
                            have HR313_2 := Aside0.mk hi313_2
                            have HC313_2 := Aside0.mk hl313_2
                            clear hi313_2 hl313_2
                            have HR313_3 := Aside0.mk hi313_3
                            have HC313_3 := Aside0.mk hl313_3
                            clear hi313_3 hl313_3
                            have HR313_4 := Aside0.mk hi313_4
                            have HC313_4 := Aside0.mk hl313_4
                            clear hi313_4 hl313_4
                            have HR313_5 := Aside0.mk hi313_5
                            have HC313_5 := Aside0.mk hl313_5
                            clear hi313_5 hl313_5
                            have HR313_6 := Aside0.mk hi313_6
                            have HC313_6 := Aside0.mk hl313_6
                            clear hi313_6 hl313_6
                            replace p313 := eq_true p313
                            replace q313 := eq_true q313
                            have ea_ := Option.some.inj (hx312_1.symm.trans hx313_1)
                            injection ea_ with ea_ en_ ec_
                            subst ea_
                            subst ec_
                            clear en_
                            have ea_ := Option.some.inj (hx312_2.symm.trans hx313_2)
                            injection ea_ with ea_ en_ ec_
                            subst ea_
                            subst ec_
                            clear en_
                            have ea_ := Option.some.inj (hx312_3.symm.trans hx313_3)
                            injection ea_ with ea_ en_ ec_
                            subst ea_
                            subst ec_
                            clear en_
                            have ea_ := Option.some.inj (hx312_4.symm.trans hx313_4)
                            injection ea_ with ea_ en_ ec_
                            subst ea_
                            subst ec_
                            clear en_
                            have ea_ := Option.some.inj (hx312_5.symm.trans hx313_5)
                            injection ea_ with ea_ en_ ec_
                            subst ea_
                            subst ec_
                            clear en_
                            have ea_ := Option.some.inj (hx312_6.symm.trans hx313_6)
                            injection ea_ with ea_ en_ ec_
                            subst ea_
                            subst ec_
                            clear en_
                            have p314 : 0 ≤ (x10_3 : Int) := of_decide_eq_true (by first | (with_reducible assumption) | assumption)
                            have q314 : x10_3 < (((rd_T29 l0 x9_2).f1).length : Int) := of_decide_eq_true (by first | (with_reducible assumption) | assumption)
                            obtain ⟨ad314, e314, hx314_0⟩ := Kd.at_string HR313_1.out x10_3 p314 q314
                            cases e314
                            replace hx314_0 := (HB.out.cell (World.block_lt_of_cell? w _ hx314_0)).trans hx314_0
                            replace p314 := eq_true p314
                            replace q314 := eq_true q314
                            have hcz21_0 : wr.cell? ⟨gb309, 0, none⟩ = some (.string a2_0) := (blk_cell BK309.out 0).trans rfl
                            have hcz21_1 : wr.cell? ⟨gb309, 1, none⟩ = some (.slice A2_1 l2_1.length c2_1) := (blk_cell BK309.out 1).trans rfl
                            have hcz21_2 : wr.cell? ⟨gb309, 2, none⟩ = some (.slice A2_2 l2_2.length c2_2) := (blk_cell BK309.out 2).trans rfl
                            have hcz21_3 : wr.cell? ⟨gb309, 3, none⟩ = some (.slice A2_3 l2_3.length c2_3) := (blk_cell BK309.out 3).trans rfl
                            have hcz21_4 : wr.cell? ⟨gb309, 4, none⟩ = some (.slice A2_4 l2_4.length c2_4) := (blk_cell BK309.out 4).trans rfl
                            have hcz21_5 : wr.cell? ⟨gb309, 5, none⟩ = some (.slice A2_5 l2_5.length c2_5) := (blk_cell BK309.out 5).trans rfl
                            have hcz21_6 : wr.cell? ⟨gb309, 6, none⟩ = some (.slice A2_6 l2_6.length c2_6) := (blk_cell BK309.out 6).trans rfl
                            have hfz21_0 := blk_frozen BK309.out 0
                            have hfz21_1 := blk_frozen BK309.out 1
                            have hfz21_2 := blk_frozen BK309.out 2
                            have hfz21_3 := blk_frozen BK309.out 3
                            have hfz21_4 := blk_frozen BK309.out 4
                            have hfz21_5 := blk_frozen BK309.out 5
                            have hfz21_6 := blk_frozen BK309.out 6
                            go_wp2
                            repeat (go_quiet (fail); try go_wp2)
                            go_roundg k3
                            case measure => have := HJ5.out; have := HK2.out; have := HK3.out; omega
                            case rel => exact ⟨(wrap64 (x10_3 + 1)), (by first | rfl | (simp; done) | (simp [*]; done)), H', ⟨by have := HJ5.out; have := HK2.out; have := HK3.out; omega⟩, ⟨by (with_reducible repeat (first | refine blk_drewN ?_ _ | refine blk_drew ?_ | refine blk_alloc ?_ _)); exact BK309.out⟩, ⟨by repeat (first | (with_reducible first | exact HB.out | apply below_alloc | apply pw_below_drewN | apply below_drew1 | refine below_set ?_ GE309.out) | exact HB.out)⟩⟩
                        · rw [if_neg c18] at H
                          exact absurd H (by simp)
                      · rw [if_neg c17] at H
                        have c17b0 : decide (x10_3 < (((rd_T29 l0 x9_2).f1).length : Int)) = false := decide_eq_false c17
                        clear c17
                        have H' := Aside0.mk H
                        clear H
                        have p312 : 0 ≤ (x9_2 : Int) := of_decide_eq_true (by first | (with_reducible assumption) | assumption)
                        have q312 : x9_2 < (l0.length : Int) := of_decide_eq_true (by first | (with_reducible assumption) | assumption)
                        obtain ⟨ad312, A312_1, c312_1, A312_2, c312_2, A312_3, c312_3, A312_4, c312_4, A312_5, c312_5, A312_6, c312_6, e312, hx312_0, hx312_1, hx312_2, hx312_3, hx312_4, hx312_5, hx312_6, hl312_1, hi312_1, hl312_2, hi312_2, hl312_3, hi312_3, hl312_4, hi312_4, hl312_5, hi312_5, hl312_6, hi312_6⟩ := at_T29 HR0.out x9_2 p312 q312
                        cases e312
                        replace hx312_0 := (HB.out.cell (World.block_lt_of_cell? w _ hx312_0)).trans hx312_0
                        replace hx312_1 := (HB.out.cell (World.block_lt_of_cell? w _ hx312_1)).trans hx312_1
                        replace hx312_2 := (HB.out.cell (World.block_lt_of_cell? w _ hx312_2)).trans hx312_2
                        replace hx312_3 := (HB.out.cell (World.block_lt_of_cell? w _ hx312_3)).trans hx312_3
                        replace hx312_4 := (HB.out.cell (World.block_lt_of_cell? w _ hx312_4)).trans hx312_4
                        replace hx312_5 := (HB.out.cell (World.block_lt_of_cell? w _ hx312_5)).trans hx312_5
                        replace hx312_6 := (HB.out.cell (World.block_lt_of_cell? w _ hx312_6)).trans hx312_6
                        have HR312_1 := Aside0.mk hi312_1
                        have HC312_1 := Aside0.mk hl312_1
                        clear hi312_1 hl312_1
                        have HR312_2 := Aside0.mk hi312_2
                        have HC312_2 := Aside0.mk hl312_2
                        clear hi312_2 hl312_2
                        have HR312_3 := Aside0.mk hi312_3
                        have HC312_3 := Aside0.mk hl312_3
                        clear hi312_3 hl312_3
                        have HR312_4 := Aside0.mk hi312_4
                        have HC312_4 := Aside0.mk hl312_4
                        clear hi312_4 hl312_4
                        have HR312_5 := Aside0.mk hi312_5
                        have HC312_5 := Aside0.mk hl312_5
                        clear hi312_5 hl312_5
                        have HR312_6 := Aside0.mk hi312_6
                        have HC312_6 := Aside0.mk hl312_6
                        clear hi312_6 hl312_6
                        replace p312 := eq_true p312
                        replace q312 := eq_true q312
                        go_wp2
                        repeat (go_quiet (fail); try go_wp2)
                        go_roundg k3
                        case measure => have := HJ5.out; have := HK2.out; have := HK3.out; omega
                        case rel => exact ⟨(wrap64 (x9_2 + 1)), (by first | rfl | (simp; done) | (simp [*]; done)), H', ⟨by have := HJ5.out; have := HK2.out; have := HK3.out; omega⟩, ⟨by (with_reducible repeat (first | refine blk_drewN ?_ _ | refine blk_drew ?_ | refine blk_alloc ?_ _)); exact BK309.out⟩, ⟨by repeat (first | (with_reducible first | exact HB.out | apply below_alloc | apply pw_below_drewN | apply below_drew1 | refine below_set ?_ GE309.out) | exact HB.out)⟩⟩
                    · rw [if_neg c16] at H
                      exact absurd H (by simp)
                  · rw [if_neg c15] at H
                    exact absurd H (by simp)
            · rw [if_neg c14] at H
              have c14b0 : decide (x9_2 < (l0.length : Int)) = false := decide_eq_false c14
              clear c14
              have hlq : (l0.length : Int) < 1000000 := by
                by_cases hlq : (l0.length : Int) < 1000000
                · exact hlq
                · rw [if_neg hlq] at H; cases H
              rw [if_pos hlq] at H
              obtain ⟨la, hla⟩ : ∃ la : List S29, la = l0 ++ [(⟨a2_0, l2_1, l2_2, l2_3, l2_4, l2_5, l2_6⟩ : S29)] := ⟨_, rfl⟩
              rw [← hla] at H
              have Ela := Aside0.mk hla
              have HCL := Aside0.mk H
              have HLQ := Aside0.mk hlq
              clear H hla hlq
              have HM := Aside0.mk (k29_mk w (⟨a2_0, l2_1, l2_2, l2_3, l2_4, l2_5, l2_6⟩ : S29) HC2_1.out HR2_1.out HC2_2.out HR2_2.out HC2_3.out HR2_3.out HC2_4.out HR2_4.out HC2_5.out HR2_5.out HC2_6.out HR2_6.out)
              go_wp2
              have n0_ := Aside0.mk (blk_drew BK309.out)
              have n1_ := Aside0.mk (below_drew1 HB.out)
              clear BK309 HB
              have BK309 := n0_
              have HB := n1_
              clear n0_ n1_
              refine start_ (n := 7) (S := fun w' => w'.cell? ⟨gb309, 0, none⟩ = some (.string a2_0) ∧ w'.cell? ⟨gb309, 1, none⟩ = some (.slice A2_1 l2_1.length c2_1) ∧ w'.cell? ⟨gb309, 2, none⟩ = some (.slice A2_2 l2_2.length c2_2) ∧ w'.cell? ⟨gb309, 3, none⟩ = some (.slice A2_3 l2_3.length c2_3) ∧ w'.cell? ⟨gb309, 4, none⟩ = some (.slice A2_4 l2_4.length c2_4) ∧ w'.cell? ⟨gb309, 5, none⟩ = some (.slice A2_5 l2_5.length c2_5) ∧ w'.cell? ⟨gb309, 6, none⟩ = some (.slice A2_6 l2_6.length c2_6)) (ds := []) #[false, false, false, false, false, false, false] (by kernel_rfl) rfl rfl ⟨(blk_cell BK309.out 0).trans rfl, (blk_cell BK309.out 1).trans rfl, (blk_cell BK309.out 2).trans rfl, (blk_cell BK309.out 3).trans rfl, (blk_cell BK309.out 4).trans rfl, (blk_cell BK309.out 5).trans rfl, (blk_cell BK309.out 6).trans rfl⟩ (fun hHeld => ?_)
              generalize hwq : World.drew _ = w9 at BK309 HB hHeld ⊢
              clear hwq
              refine pure_ (i := 1) (N := some 67) (v := ?_) (a' := ?_) #[false, true, false, false, false, false, false] rfl rfl (by kernel_rfl) (fun _ _ _ h => h) (Or.inl ⟨by rfl, ?_⟩) ?_ ?_
              rotate_left
              · intro w'
                go_simp
                with_reducible rfl
              rotate_left
              · simp only [Act.put, List.setIfInBounds_toArray, List.set_cons_zero, List.set_cons_succ, i64_w, i32_w]
                rfl
              refine take_ (i := 3) (N := some 69) (v := ?_) (a' := ?_) #[false, true, false, true, false, false, false] rfl rfl (by kernel_rfl) (fun _ _ _ h => h) (Or.inl ⟨by rfl, ?_⟩) hHeld ?_ ?_
              rotate_left
              · rintro w' ⟨s0, s1, s2, s3, s4, s5, s6⟩
                go_simp
                with_reducible rfl
              rotate_left
              · simp only [Act.put, List.setIfInBounds_toArray, List.set_cons_zero, List.set_cons_succ, i64_w, i32_w]
                rfl
              refine join_ (σ := Value × Value × Value) 2 #[true, true, true, true, true, false, false] (fun s_ => [(66, s_.1), (68, s_.2.1), (70, s_.2.2)]) (fun s_ w' => Below w9.heap.size w9 w' ∧ Kd.R (Kd.fixed k29 w) 29 w' w9.heap.size (fun _ => True) s_.2.1 l0 ∧ Kd.R (Kd.fixed k29 w) 29 w' w9.heap.size (fun _ => True) s_.2.2 [(⟨a2_0, l2_1, l2_2, l2_3, l2_4, l2_5, l2_6⟩ : S29)]) ?_ ?_
              rotate_left
              · intro hCont
                refine two_ (i := 0) (j := 4) (Ni := some 66) (Nj := some 70) #[true, true, false, true, false, false, false] #[false, true, false, true, true, false, false] rfl rfl rfl rfl (by kernel_rfl) (by decide) (by decide) (fun K hK => ?_) (fun K hK => ?_)
                · refine Kd.R_lit_step (Kd.fixed k29 w) (w0 := w9) w9.heap.size 29 ?hg (N := 66) ?hd (xs := ([] : List S29)) (inner := []) (ok := fun _ => True) (okp := fun _ => False) ?hr ?hp (fun _ hk => hk.elim) ?hf ?hB ?hS (by simp) ?_; (case hd => rfl); (case hg => rfl); (case hr => first | (go_simp; done) | (go_simp; rfl)); (case hp => exact (Reps.none _ _))
                  (case hf => trivial)
                  (case hB => exact Below.refl _ _)
                  (case hS => exact Nat.le_refl _)
                  intro v66 w10 ho66 hb1 hg1 hn1
                  have BKc := Aside0.mk (blk_below (g := gb309) (o := .cells #[.string a2_0, .slice A2_1 l2_1.length c2_1, .slice A2_2 l2_2.length c2_2, .slice A2_3 l2_3.length c2_3, .slice A2_4 l2_4.length c2_4, .slice A2_5 l2_5.length c2_5, .slice A2_6 l2_6.length c2_6] 29 (0, 0)) BK309.out hb1)
                  refine hK.out _ _ ⟨(blk_cell BKc.out 0).trans rfl, (blk_cell BKc.out 1).trans rfl, (blk_cell BKc.out 2).trans rfl, (blk_cell BKc.out 3).trans rfl, (blk_cell BKc.out 4).trans rfl, (blk_cell BKc.out 5).trans rfl, (blk_cell BKc.out 6).trans rfl⟩ (fun hHeld => ?_)
                  clear hK K
                  refine norm_ (a' := ?_) ?_ ?_
                  rotate_left
                  · show Act.put _ (some 66) _ = _
                    simp only [Act.put, List.setIfInBounds_toArray, List.set_cons_zero, List.set_cons_succ, i64_w, i32_w]
                    rfl
                  refine two_ (i := 2) (j := 4) (Ni := some 68) (Nj := some 70) #[true, true, true, true, false, false, false] #[true, true, false, true, true, false, false] rfl rfl rfl rfl (by kernel_rfl) (by decide) (by decide) (fun K hK => ?_) (fun K hK => ?_)
                  · refine Kd.R_append_rows_step (Kd.fixed k29 w) (Rr := k29.K w) (w0 := w9) w9.heap.size (by rfl) (.tmp 66) (.tmp 67) 22 29 (.agg #[.string (⟨#[]⟩ : ByteArray), .slice none 0 0, .slice none 0 0, .slice none 0 0, .slice none 0 0, .slice none 0 0, .slice none 0 0]) 160 rfl Try.underlying22 inf29 rfl (show 0 < 7 from by decide) (by omega) v66 [] l0 _ _ _ (fun _ => True) (fun _ => False) rfl rfl ?aO ?aR (fun x cs hk => hk) (fun _ hk => hk.elim) (fun _ _ => trivial) ?aB ?aS ?aL ?_
                    (case aO => exact ho66)
                    (case aR => exact ReadsRow.imp_ (show ReadsRow (k29.K w) k29.sz w A0 l0.length l0 from HR0.out) (below_step HB.out hb1) (fun _ _ h => h))
                    (case aB => exact hb1)
                    (case aS => exact hb1.size)
                    (case aL => have := HLQ.out; simp only [List.length_nil]; omega)
                    intro v68 w11 ho68 hb2 hg2 hat2
                    clear BKc
                    have BKc := Aside0.mk (blk_below (g := gb309) (o := .cells #[.string a2_0, .slice A2_1 l2_1.length c2_1, .slice A2_2 l2_2.length c2_2, .slice A2_3 l2_3.length c2_3, .slice A2_4 l2_4.length c2_4, .slice A2_5 l2_5.length c2_5, .slice A2_6 l2_6.length c2_6] 29 (0, 0)) BK309.out hb2)
                    refine hK.out _ _ ⟨(blk_cell BKc.out 0).trans rfl, (blk_cell BKc.out 1).trans rfl, (blk_cell BKc.out 2).trans rfl, (blk_cell BKc.out 3).trans rfl, (blk_cell BKc.out 4).trans rfl, (blk_cell BKc.out 5).trans rfl, (blk_cell BKc.out 6).trans rfl⟩ (fun hHeld => ?_)
                    clear hK K
                    refine norm_ (a' := ?_) ?_ ?_
                    rotate_left
                    · show Act.put _ (some 68) _ = _
                      simp only [Act.put, List.setIfInBounds_toArray, List.set_cons_zero, List.set_cons_succ, i64_w, i32_w]
                      rfl
                    refine one_ (i := 4) (N := some 70) #[true, true, true, true, true, false, false] rfl rfl (by kernel_rfl) (by decide) (fun K hK => ?_)
                    refine Kd.R_lit_step (Kd.fixed k29 w) (w0 := w9) w9.heap.size 29 ?hg (N := 70) ?hd (xs := [(⟨a2_0, l2_1, l2_2, l2_3, l2_4, l2_5, l2_6⟩ : S29)]) (inner := [.string a2_0, .slice A2_1 l2_1.length c2_1, .slice A2_2 l2_2.length c2_2, .slice A2_3 l2_3.length c2_3, .slice A2_4 l2_4.length c2_4, .slice A2_5 l2_5.length c2_5, .slice A2_6 l2_6.length c2_6]) (ok := fun _ => True) (okp := fun _ => False) ?hr ?hp (fun _ hk => hk.elim) ?hf ?hB ?hS (by simp) ?_; (case hd => rfl); (case hg => rfl); (case hr => first | (go_simp; done) | (go_simp; rfl)); (case hp => exact Reps.snoc (Reps.none _ _) HM.out rfl)
                    (case hf => trivial)
                    (case hB => exact hb2)
                    (case hS => exact hb2.size)
                    intro v70 w12 ho70 hb3 hg3 hn3
                    clear BKc
                    have BKc := Aside0.mk (blk_below (g := gb309) (o := .cells #[.string a2_0, .slice A2_1 l2_1.length c2_1, .slice A2_2 l2_2.length c2_2, .slice A2_3 l2_3.length c2_3, .slice A2_4 l2_4.length c2_4, .slice A2_5 l2_5.length c2_5, .slice A2_6 l2_6.length c2_6] 29 (0, 0)) BK309.out hb3)
                    refine hK.out _ _ ⟨(blk_cell BKc.out 0).trans rfl, (blk_cell BKc.out 1).trans rfl, (blk_cell BKc.out 2).trans rfl, (blk_cell BKc.out 3).trans rfl, (blk_cell BKc.out 4).trans rfl, (blk_cell BKc.out 5).trans rfl, (blk_cell BKc.out 6).trans rfl⟩ (fun hHeld => ?_)
                    clear hK K
                    refine norm_ (a' := ?_) ?_ ?_
                    rotate_left
                    · show Act.put _ (some 70) _ = _
                      simp only [Act.put, List.setIfInBounds_toArray, List.set_cons_zero, List.set_cons_succ, i64_w, i32_w]
                      rfl
                    exact norm_ (by simp only [putAll, Act.put, List.setIfInBounds_toArray, List.set_cons_zero, List.set_cons_succ]) (hCont (v66, v68, v70) _ ⟨hb3, (Kd.R_grown ho68 hg3 (fun _ _ => by simp)), ho70⟩)
                  · refine Kd.R_lit_step (Kd.fixed k29 w) (w0 := w9) w9.heap.size 29 ?hg (N := 70) ?hd (xs := [(⟨a2_0, l2_1, l2_2, l2_3, l2_4, l2_5, l2_6⟩ : S29)]) (inner := [.string a2_0, .slice A2_1 l2_1.length c2_1, .slice A2_2 l2_2.length c2_2, .slice A2_3 l2_3.length c2_3, .slice A2_4 l2_4.length c2_4, .slice A2_5 l2_5.length c2_5, .slice A2_6 l2_6.length c2_6]) (ok := fun k => w10.heap.size ≤ k) (okp := fun _ => False) ?hr ?hp (fun _ hk => hk.elim) ?hf ?hB ?hS (by simp) ?_; (case hd => rfl); (case hg => rfl); (case hr => first | (go_simp; done) | (go_simp; rfl)); (case hp => exact Reps.snoc (Reps.none _ _) HM.out rfl)
                    (case hf => exact Nat.le_refl _)
                    (case hB => exact hb1)
                    (case hS => exact hb1.size)
                    intro v70 w11 ho70 hb2 hg2 hn2
                    clear BKc
                    have BKc := Aside0.mk (blk_below (g := gb309) (o := .cells #[.string a2_0, .slice A2_1 l2_1.length c2_1, .slice A2_2 l2_2.length c2_2, .slice A2_3 l2_3.length c2_3, .slice A2_4 l2_4.length c2_4, .slice A2_5 l2_5.length c2_5, .slice A2_6 l2_6.length c2_6] 29 (0, 0)) BK309.out hb2)
                    refine hK.out _ _ ⟨(blk_cell BKc.out 0).trans rfl, (blk_cell BKc.out 1).trans rfl, (blk_cell BKc.out 2).trans rfl, (blk_cell BKc.out 3).trans rfl, (blk_cell BKc.out 4).trans rfl, (blk_cell BKc.out 5).trans rfl, (blk_cell BKc.out 6).trans rfl⟩ (fun hHeld => ?_)
                    clear hK K
                    refine norm_ (a' := ?_) ?_ ?_
                    rotate_left
                    · show Act.put _ (some 70) _ = _
                      simp only [Act.put, List.setIfInBounds_toArray, List.set_cons_zero, List.set_cons_succ, i64_w, i32_w]
                      rfl
                    refine one_ (i := 2) (N := some 68) #[true, true, true, true, true, false, false] rfl rfl (by kernel_rfl) (by decide) (fun K hK => ?_)
                    refine Kd.R_append_rows_step (Kd.fixed k29 w) (Rr := k29.K w) (w0 := w9) w9.heap.size (by rfl) (.tmp 66) (.tmp 67) 22 29 (.agg #[.string (⟨#[]⟩ : ByteArray), .slice none 0 0, .slice none 0 0, .slice none 0 0, .slice none 0 0, .slice none 0 0, .slice none 0 0]) 160 rfl Try.underlying22 inf29 rfl (show 0 < 7 from by decide) (by omega) v66 [] l0 _ _ _ (fun _ => True) (fun _ => False) rfl rfl ?aO ?aR (fun x cs hk => hk) (fun _ hk => hk.elim) (fun _ _ => trivial) ?aB ?aS ?aL ?_
                    (case aO => exact Kd.R_grown ho66 hg2 (fun _ _ => by simp))
                    (case aR => exact ReadsRow.imp_ (show ReadsRow (k29.K w) k29.sz w A0 l0.length l0 from HR0.out) (below_step HB.out hb2) (fun _ _ h => h))
                    (case aB => exact hb2)
                    (case aS => exact hb2.size)
                    (case aL => have := HLQ.out; simp only [List.length_nil]; omega)
                    intro v68 w12 ho68 hb3 hg3 hat3
                    clear BKc
                    have BKc := Aside0.mk (blk_below (g := gb309) (o := .cells #[.string a2_0, .slice A2_1 l2_1.length c2_1, .slice A2_2 l2_2.length c2_2, .slice A2_3 l2_3.length c2_3, .slice A2_4 l2_4.length c2_4, .slice A2_5 l2_5.length c2_5, .slice A2_6 l2_6.length c2_6] 29 (0, 0)) BK309.out hb3)
                    refine hK.out _ _ ⟨(blk_cell BKc.out 0).trans rfl, (blk_cell BKc.out 1).trans rfl, (blk_cell BKc.out 2).trans rfl, (blk_cell BKc.out 3).trans rfl, (blk_cell BKc.out 4).trans rfl, (blk_cell BKc.out 5).trans rfl, (blk_cell BKc.out 6).trans rfl⟩ (fun hHeld => ?_)
                    clear hK K
                    refine norm_ (a' := ?_) ?_ ?_
                    rotate_left
                    · show Act.put _ (some 68) _ = _
                      simp only [Act.put, List.setIfInBounds_toArray, List.set_cons_zero, List.set_cons_succ, i64_w, i32_w]
                      rfl
                    exact norm_ (by simp only [putAll, Act.put, List.setIfInBounds_toArray, List.set_cons_zero, List.set_cons_succ]) (hCont (v66, v68, v70) _ ⟨hb3, ho68, (Kd.R_mono (Kd.R_grown ho70 hg3 (fun k hk he => by have := Kd.R_lt ho66 k he.symm; omega)) (fun _ _ => trivial))⟩)
                · refine Kd.R_lit_step (Kd.fixed k29 w) (w0 := w9) w9.heap.size 29 ?hg (N := 70) ?hd (xs := [(⟨a2_0, l2_1, l2_2, l2_3, l2_4, l2_5, l2_6⟩ : S29)]) (inner := [.string a2_0, .slice A2_1 l2_1.length c2_1, .slice A2_2 l2_2.length c2_2, .slice A2_3 l2_3.length c2_3, .slice A2_4 l2_4.length c2_4, .slice A2_5 l2_5.length c2_5, .slice A2_6 l2_6.length c2_6]) (ok := fun _ => True) (okp := fun _ => False) ?hr ?hp (fun _ hk => hk.elim) ?hf ?hB ?hS (by simp) ?_; (case hd => rfl); (case hg => rfl); (case hr => first | (go_simp; done) | (go_simp; rfl)); (case hp => exact Reps.snoc (Reps.none _ _) HM.out rfl)
                  (case hf => trivial)
                  (case hB => exact Below.refl _ _)
                  (case hS => exact Nat.le_refl _)
                  intro v70 w10 ho70 hb1 hg1 hn1
                  have BKc := Aside0.mk (blk_below (g := gb309) (o := .cells #[.string a2_0, .slice A2_1 l2_1.length c2_1, .slice A2_2 l2_2.length c2_2, .slice A2_3 l2_3.length c2_3, .slice A2_4 l2_4.length c2_4, .slice A2_5 l2_5.length c2_5, .slice A2_6 l2_6.length c2_6] 29 (0, 0)) BK309.out hb1)
                  refine hK.out _ _ ⟨(blk_cell BKc.out 0).trans rfl, (blk_cell BKc.out 1).trans rfl, (blk_cell BKc.out 2).trans rfl, (blk_cell BKc.out 3).trans rfl, (blk_cell BKc.out 4).trans rfl, (blk_cell BKc.out 5).trans rfl, (blk_cell BKc.out 6).trans rfl⟩ (fun hHeld => ?_)
                  clear hK K
                  refine norm_ (a' := ?_) ?_ ?_
                  rotate_left
                  · show Act.put _ (some 70) _ = _
                    simp only [Act.put, List.setIfInBounds_toArray, List.set_cons_zero, List.set_cons_succ, i64_w, i32_w]
                    rfl
                  refine one_ (i := 0) (N := some 66) #[true, true, false, true, true, false, false] rfl rfl (by kernel_rfl) (by decide) (fun K hK => ?_)
                  refine Kd.R_lit_step (Kd.fixed k29 w) (w0 := w9) w9.heap.size 29 ?hg (N := 66) ?hd (xs := ([] : List S29)) (inner := []) (ok := fun _ => True) (okp := fun _ => False) ?hr ?hp (fun _ hk => hk.elim) ?hf ?hB ?hS (by simp) ?_; (case hd => rfl); (case hg => rfl); (case hr => first | (go_simp; done) | (go_simp; rfl)); (case hp => exact (Reps.none _ _))
                  (case hf => trivial)
                  (case hB => exact hb1)
                  (case hS => exact hb1.size)
                  intro v66 w11 ho66 hb2 hg2 hn2
                  clear BKc
                  have BKc := Aside0.mk (blk_below (g := gb309) (o := .cells #[.string a2_0, .slice A2_1 l2_1.length c2_1, .slice A2_2 l2_2.length c2_2, .slice A2_3 l2_3.length c2_3, .slice A2_4 l2_4.length c2_4, .slice A2_5 l2_5.length c2_5, .slice A2_6 l2_6.length c2_6] 29 (0, 0)) BK309.out hb2)
                  refine hK.out _ _ ⟨(blk_cell BKc.out 0).trans rfl, (blk_cell BKc.out 1).trans rfl, (blk_cell BKc.out 2).trans rfl, (blk_cell BKc.out 3).trans rfl, (blk_cell BKc.out 4).trans rfl, (blk_cell BKc.out 5).trans rfl, (blk_cell BKc.out 6).trans rfl⟩ (fun hHeld => ?_)
                  clear hK K
                  refine norm_ (a' := ?_) ?_ ?_
                  rotate_left
                  · show Act.put _ (some 66) _ = _
                    simp only [Act.put, List.setIfInBounds_toArray, List.set_cons_zero, List.set_cons_succ, i64_w, i32_w]
                    rfl
                  refine one_ (i := 2) (N := some 68) #[true, true, true, true, true, false, false] rfl rfl (by kernel_rfl) (by decide) (fun K hK => ?_)
                  refine Kd.R_append_rows_step (Kd.fixed k29 w) (Rr := k29.K w) (w0 := w9) w9.heap.size (by rfl) (.tmp 66) (.tmp 67) 22 29 (.agg #[.string (⟨#[]⟩ : ByteArray), .slice none 0 0, .slice none 0 0, .slice none 0 0, .slice none 0 0, .slice none 0 0, .slice none 0 0]) 160 rfl Try.underlying22 inf29 rfl (show 0 < 7 from by decide) (by omega) v66 [] l0 _ _ _ (fun _ => True) (fun _ => False) rfl rfl ?aO ?aR (fun x cs hk => hk) (fun _ hk => hk.elim) (fun _ _ => trivial) ?aB ?aS ?aL ?_
                  (case aO => exact ho66)
                  (case aR => exact ReadsRow.imp_ (show ReadsRow (k29.K w) k29.sz w A0 l0.length l0 from HR0.out) (below_step HB.out hb2) (fun _ _ h => h))
                  (case aB => exact hb2)
                  (case aS => exact hb2.size)
                  (case aL => have := HLQ.out; simp only [List.length_nil]; omega)
                  intro v68 w12 ho68 hb3 hg3 hat3
                  clear BKc
                  have BKc := Aside0.mk (blk_below (g := gb309) (o := .cells #[.string a2_0, .slice A2_1 l2_1.length c2_1, .slice A2_2 l2_2.length c2_2, .slice A2_3 l2_3.length c2_3, .slice A2_4 l2_4.length c2_4, .slice A2_5 l2_5.length c2_5, .slice A2_6 l2_6.length c2_6] 29 (0, 0)) BK309.out hb3)
                  refine hK.out _ _ ⟨(blk_cell BKc.out 0).trans rfl, (blk_cell BKc.out 1).trans rfl, (blk_cell BKc.out 2).trans rfl, (blk_cell BKc.out 3).trans rfl, (blk_cell BKc.out 4).trans rfl, (blk_cell BKc.out 5).trans rfl, (blk_cell BKc.out 6).trans rfl⟩ (fun hHeld => ?_)
                  clear hK K
                  refine norm_ (a' := ?_) ?_ ?_
                  rotate_left
                  · show Act.put _ (some 68) _ = _
                    simp only [Act.put, List.setIfInBounds_toArray, List.set_cons_zero, List.set_cons_succ, i64_w, i32_w]
                    rfl
                  exact norm_ (by simp only [putAll, Act.put, List.setIfInBounds_toArray, List.set_cons_zero, List.set_cons_succ]) (hCont (v66, v68, v70) _ ⟨hb3, ho68, (Kd.R_mono (Kd.R_grown (Kd.R_mono (Kd.R_grown (Kd.R_bound ho70) hg2 (fun _ _ => by simp)) (ok' := fun k => k < w10.heap.size) (fun k hk => hk.2.2.1)) hg3 (fun k hk he => by obtain ⟨b, hb, hle⟩ := hn2; rw [hb] at he; injection he with he; omega)) (fun _ _ => trivial))⟩)
              rintro ⟨v66, v68, v70⟩ w12 ⟨hb3, ho68, ho70⟩
              simp only at ho68 ho70
              obtain ⟨A70, c70, rfl⟩ := Kd.R_slice ho70
              refine norm_ (a' := ?_) ?_ ?_
              rotate_left
              · simp only [putAll, Act.put, List.setIfInBounds_toArray, List.set_cons_zero, List.set_cons_succ, i64_w, i32_w]
                rfl
              refine one_ (i := 5) (N := some 71) #[true, true, true, true, true, true, false] rfl rfl (by kernel_rfl) (by decide) (fun K hK => ?_)
              refine Kd.R_append_rows_step (Kd.fixed k29 w) (Rr := k29.K w) (w0 := w9) w9.heap.size (by rfl) (.tmp 68) (.tmp 70) 22 29 (.agg #[.string (⟨#[]⟩ : ByteArray), .slice none 0 0, .slice none 0 0, .slice none 0 0, .slice none 0 0, .slice none 0 0, .slice none 0 0]) 160 rfl Try.underlying22 inf29 rfl (show 0 < 7 from by decide) (by omega) v68 l0 [(⟨a2_0, l2_1, l2_2, l2_3, l2_4, l2_5, l2_6⟩ : S29)] _ _ _ (fun _ => True) (fun _ => False) rfl rfl ?aO ?aR (fun x cs hk => hk) (fun _ hk => hk.elim) (fun _ _ => trivial) ?aB ?aS ?aL ?_
              (case aO => exact ho68)
              (case aR => exact (Kd.R_reads' ho70).2.2)
              (case aB => exact hb3)
              (case aS => exact hb3.size)
              (case aL => have := HLQ.out; simp only [List.length_cons, List.length_nil]; omega)
              intro v71 w13 ho71 hb4 hg4 hat4
              have BKc := Aside0.mk (blk_below (g := gb309) (o := .cells #[.string a2_0, .slice A2_1 l2_1.length c2_1, .slice A2_2 l2_2.length c2_2, .slice A2_3 l2_3.length c2_3, .slice A2_4 l2_4.length c2_4, .slice A2_5 l2_5.length c2_5, .slice A2_6 l2_6.length c2_6] 29 (0, 0)) BK309.out hb4)
              refine hK.out _ _ ⟨(blk_cell BKc.out 0).trans rfl, (blk_cell BKc.out 1).trans rfl, (blk_cell BKc.out 2).trans rfl, (blk_cell BKc.out 3).trans rfl, (blk_cell BKc.out 4).trans rfl, (blk_cell BKc.out 5).trans rfl, (blk_cell BKc.out 6).trans rfl⟩ (fun hHeld => ?_)
              clear hK K
              refine norm_ (a' := ?_) ?_ ?_
              rotate_left
              · show Act.put _ (some 71) _ = _
                simp only [Act.put, List.setIfInBounds_toArray, List.set_cons_zero, List.set_cons_succ, i64_w, i32_w]
                rfl
              rw [← Ela.out] at ho71
              obtain ⟨A11, c11, rfl⟩ := Kd.R_slice ho71
              have n0_ := Aside0.mk (below_step HB.out hb4)
              have HCA := Aside0.mk (Kd.R_reads' ho71).2.1
              have HRA := Aside0.mk (Kd.C_read (d := k29) (dm := Kd.fixed k29 w) rfl (fun x cs hk => k29.K_below n0_.out hk) (Kd.R_reads' ho71).2.2)
              clear HB BK309 ho71 hb4 hg4 hat4 hb3 ho68 ho70
              have HB := n0_
              have BK309 := BKc
              clear n0_ BKc
              refine pure_ (i := 6) (N := some 11) (v := ?_) (a' := ?_) #[true, true, true, true, true, true, true] rfl rfl (by kernel_rfl) (fun _ _ _ h => h) (Or.inl ⟨by rfl, ?_⟩) ?_ ?_
              rotate_left
              · intro w'
                go_simp
                with_reducible rfl
              rotate_left
              · simp only [Act.put, List.setIfInBounds_toArray, List.set_cons_zero, List.set_cons_succ, i64_w, i32_w]
                rfl
              refine done_ (by kernel_rfl) ?_
              clear hHeld
              have H := HCL.out
              clear HCL HLQ
              replace H := Option.bind_eq_some_iff.mp H
              obtain ⟨⟨t315, t316, t317⟩, A220, H⟩ := H
              replace H : ((graph_Closure.f la a1).bind fun bt320 => ((graph_Begin.f l0 t315).bind fun t325 => ((graph_Begin.f la bt320.1).bind fun t328 => (if t310 = true then (if t317 = bt320.2.2 then (if t316.toList = bt320.2.1.toList then ((curtilageref10_Numbers.f k2 t315 bt320.1).bind fun t331 => (if t331 = true then (if t317 = 0 then ((curtilageref10_Numbers.f k2 t325 t328).bind fun t332 => (some t332)) else (some true)) else (some false))) else (some false)) else (some false)) else (some false))))) = some r := H
              have A22 := Aside0.mk A220
              clear A220
              replace H := Option.bind_eq_some_iff.mp H
              obtain ⟨⟨t320, t321, t322⟩, A230, H⟩ := H
              replace H : ((graph_Begin.f l0 t315).bind fun t325 => ((graph_Begin.f la t320).bind fun t328 => (if t310 = true then (if t317 = t322 then (if t316.toList = t321.toList then ((curtilageref10_Numbers.f k2 t315 t320).bind fun t331 => (if t331 = true then (if t317 = 0 then ((curtilageref10_Numbers.f k2 t325 t328).bind fun t332 => (some t332)) else (some true)) else (some false))) else (some false)) else (some false)) else (some false)))) = some r := H
              have A23 := Aside0.mk A230
              clear A230
              replace H := Option.bind_eq_some_iff.mp H
              obtain ⟨t325, A240, H⟩ := H
              replace H : ((graph_Begin.f la t320).bind fun t328 => (if t310 = true then (if t317 = t322 then (if t316.toList = t321.toList then ((curtilageref10_Numbers.f k2 t315 t320).bind fun t331 => (if t331 = true then (if t317 = 0 then ((curtilageref10_Numbers.f k2 t325 t328).bind fun t332 => (some t332)) else (some true)) else (some false))) else (some false)) else (some false)) else (some false))) = some r := H
              have A24 := Aside0.mk A240
              clear A240
              replace H := Option.bind_eq_some_iff.mp H
              obtain ⟨t328, A250, H⟩ := H
              replace H : (if t310 = true then (if t317 = t322 then (if t316.toList = t321.toList then ((curtilageref10_Numbers.f k2 t315 t320).bind fun t331 => (if t331 = true then (if t317 = 0 then ((curtilageref10_Numbers.f k2 t325 t328).bind fun t332 => (some t332)) else (some true)) else (some false))) else (some false)) else (some false)) else (some false)) = some r := H
              have A25 := Aside0.mk A250
              clear A250
              by_cases c26 : t310 = true
              · subst c26
                have H1 : (if t317 = t322 then (if t316.toList = t321.toList then ((curtilageref10_Numbers.f k2 t315 t320).bind fun t331 => (if t331 = true then (if t317 = 0 then ((curtilageref10_Numbers.f k2 t325 t328).bind fun t332 => (some t332)) else (some true)) else (some false))) else (some false)) else (some false)) = some r := by rw [if_pos rfl] at H; exact H
                clear H
                have H := H1
                clear H1
                by_cases c27 : t317 = t322
                · rw [if_pos c27] at H
                  have c27b0 : (t317 == t322) = true := beq_iff_eq.mpr c27
                  have c27b1 : (t317 != t322) = false := bne_eq_false_iff_eq.mpr c27
                  clear c27
                  by_cases c28 : t316.toList = t321.toList
                  · rw [if_pos c28] at H
                    have c28b0 : (t316.toList == t321.toList) = true := beq_iff_eq.mpr c28
                    have c28b1 : (t316.toList != t321.toList) = false := bne_eq_false_iff_eq.mpr c28
                    clear c28
                    replace H := Option.bind_eq_some_iff.mp H
                    obtain ⟨t331, A290, H⟩ := H
                    replace H : (if t331 = true then (if t317 = 0 then ((curtilageref10_Numbers.f k2 t325 t328).bind fun t332 => (some t332)) else (some true)) else (some false)) = some r := H
                    have A29 := Aside0.mk A290
                    clear A290
                    by_cases c30 : t331 = true
                    · subst c30
                      have H1 : (if t317 = 0 then ((curtilageref10_Numbers.f k2 t325 t328).bind fun t332 => (some t332)) else (some true)) = some r := by rw [if_pos rfl] at H; exact H
                      clear H
                      have H := H1
                      clear H1
                      by_cases c31 : t317 = 0
                      · rw [if_pos c31] at H
                        have c31b0 : (t317 == 0) = true := beq_iff_eq.mpr c31
                        have c31b1 : (t317 != 0) = false := bne_eq_false_iff_eq.mpr c31
                        clear c31
                        replace H := Option.bind_eq_some_iff.mp H
                        obtain ⟨t332, A320, H⟩ := H
                        replace H : (some t332) = some r := H
                        have A32 := Aside0.mk A320
                        clear A320
                        obtain rfl := Option.some.inj H
                        go_wp2_with (first | (go_at_call 10; (with_reducible refine (graph_Closure.calls _ _ l0 a1 t315 t316 t317 _ ?side1 ?side2 A22.out).mono ?_); (case side1 => repeat (first | exact (Kd.C_below HR0.out HB.out) | (with_reducible refine Kd.C_alloc ?_ _) | (with_reducible refine Kd.C_drewN ?_ _) | (with_reducible refine Kd.C_drew ?_))); (case side2 => exact HC0.out); rintro e w33 ⟨v318, rfl, ho0, hb⟩; have nA_ := Aside0.mk (Kd.C_below (by repeat (first | exact HRA.out | (with_reducible refine Kd.C_alloc ?_ _) | (with_reducible refine Kd.C_drewN ?_ _) | (with_reducible refine Kd.C_drew ?_))) hb); clear HRA; have HRA := nA_; clear nA_; have n0_ := Aside0.mk (Kd.R_lower ho0 (below_size (by repeat (first | (with_reducible first | exact HB.out | apply below_alloc | apply pw_below_drewN | apply below_drew1 | refine below_set ?_ GE309.out) | exact HB.out)))); have n1_ := Aside0.mk (blk_below (g := gb309) (o := .cells #[.string a2_0, .slice A2_1 l2_1.length c2_1, .slice A2_2 l2_2.length c2_2, .slice A2_3 l2_3.length c2_3, .slice A2_4 l2_4.length c2_4, .slice A2_5 l2_5.length c2_5, .slice A2_6 l2_6.length c2_6] 29 (0, 0)) (by (with_reducible repeat (first | refine blk_drewN ?_ _ | refine blk_drew ?_ | refine blk_alloc ?_ _)); exact BK309.out) hb); have n2_ := Aside0.mk (below_step (by repeat (first | (with_reducible first | exact HB.out | apply below_alloc | apply pw_below_drewN | apply below_drew1 | refine below_set ?_ GE309.out) | exact HB.out)) hb); clear BK309; clear HB; have HO319 := n0_; have BK309 := n1_; have HB := n2_; clear n0_ n1_ n2_; (try clear hb); (try clear hb2); (try clear hk); (try clear hi); (try clear ho0)) | (go_at_call 10; (with_reducible refine (graph_Closure.calls _ _ la a1 t320 t321 t322 _ ?side1 ?side2 A23.out).mono ?_); (case side1 => repeat (first | exact HRA.out | (with_reducible refine Kd.C_alloc ?_ _) | (with_reducible refine Kd.C_drewN ?_ _) | (with_reducible refine Kd.C_drew ?_))); (case side2 => exact HCA.out); rintro e w34 ⟨v323, rfl, ho0, hb⟩; have nA_ := Aside0.mk (Kd.C_below (by repeat (first | exact HRA.out | (with_reducible refine Kd.C_alloc ?_ _) | (with_reducible refine Kd.C_drewN ?_ _) | (with_reducible refine Kd.C_drew ?_))) hb); clear HRA; have HRA := nA_; clear nA_; have n0_ := Aside0.mk (Kd.R_elder' (by (with_reducible repeat (first | apply Kd.R_alloc | apply Kd.R_drewN | apply Kd.R_drew)); exact HO319.out) (Kd.R_base ho0) hb); have n1_ := Aside0.mk (Kd.R_lower (Kd.R_new' ho0 (Kd.R_lt (by (with_reducible repeat (first | apply Kd.R_alloc | apply Kd.R_drewN | apply Kd.R_drew)); exact HO319.out))) (below_size (by repeat (first | (with_reducible first | exact HB.out | apply below_alloc | apply pw_below_drewN | apply below_drew1 | refine below_set ?_ GE309.out) | exact HB.out)))); have n2_ := Aside0.mk (blk_below (g := gb309) (o := .cells #[.string a2_0, .slice A2_1 l2_1.length c2_1, .slice A2_2 l2_2.length c2_2, .slice A2_3 l2_3.length c2_3, .slice A2_4 l2_4.length c2_4, .slice A2_5 l2_5.length c2_5, .slice A2_6 l2_6.length c2_6] 29 (0, 0)) (by (with_reducible repeat (first | refine blk_drewN ?_ _ | refine blk_drew ?_ | refine blk_alloc ?_ _)); exact BK309.out) hb); have n3_ := Aside0.mk (below_step (by repeat (first | (with_reducible first | exact HB.out | apply below_alloc | apply pw_below_drewN | apply below_drew1 | refine below_set ?_ GE309.out) | exact HB.out)) hb); clear HO319; clear BK309; clear HB; have HO319 := n0_; have HO324 := n1_; have BK309 := n2_; have HB := n3_; clear n0_ n1_ n2_ n3_; (try clear hb); (try clear hb2); (try clear hk); (try clear hi); (try clear ho0); obtain ⟨Ao35, co35, eo35⟩ := Kd.R_slice HO319.out; subst eo35) | (go_at_call 11; (with_reducible refine (graph_Begin.calls _ _ l0 _ _ t315 t325 _ ?side1 ?side2 ?side3 ?side4 A24.out).mono ?_); (case side1 => repeat (first | exact (Kd.C_below HR0.out HB.out) | (with_reducible refine Kd.C_alloc ?_ _) | (with_reducible refine Kd.C_drewN ?_ _) | (with_reducible refine Kd.C_drew ?_))); (case side2 => exact HC0.out); (case side3 => repeat (first | exact (Kd.R_reads' HO319.out).2.2 | (with_reducible refine Kd.C_alloc ?_ _) | (with_reducible refine Kd.C_drewN ?_ _) | (with_reducible refine Kd.C_drew ?_))); (case side4 => exact (Kd.R_reads' HO319.out).2.1); rintro e w36 ⟨v326, rfl, ho0, hb⟩; have nA_ := Aside0.mk (Kd.C_below (by repeat (first | exact HRA.out | (with_reducible refine Kd.C_alloc ?_ _) | (with_reducible refine Kd.C_drewN ?_ _) | (with_reducible refine Kd.C_drew ?_))) hb); clear HRA; have HRA := nA_; clear nA_; have n0_ := Aside0.mk (Kd.R_elder' (by (with_reducible repeat (first | apply Kd.R_alloc | apply Kd.R_drewN | apply Kd.R_drew)); exact HO319.out) (Kd.R_base ho0) hb); have n1_ := Aside0.mk (Kd.R_elder' (by (with_reducible repeat (first | apply Kd.R_alloc | apply Kd.R_drewN | apply Kd.R_drew)); exact HO324.out) (Kd.R_base ho0) hb); have n2_ := Aside0.mk (Kd.R_lower (Kd.R_new' (Kd.R_new' ho0 (Kd.R_lt (by (with_reducible repeat (first | apply Kd.R_alloc | apply Kd.R_drewN | apply Kd.R_drew)); exact HO319.out))) (Kd.R_lt (by (with_reducible repeat (first | apply Kd.R_alloc | apply Kd.R_drewN | apply Kd.R_drew)); exact HO324.out))) (below_size (by repeat (first | (with_reducible first | exact HB.out | apply below_alloc | apply pw_below_drewN | apply below_drew1 | refine below_set ?_ GE309.out) | exact HB.out)))); have n3_ := Aside0.mk (blk_below (g := gb309) (o := .cells #[.string a2_0, .slice A2_1 l2_1.length c2_1, .slice A2_2 l2_2.length c2_2, .slice A2_3 l2_3.length c2_3, .slice A2_4 l2_4.length c2_4, .slice A2_5 l2_5.length c2_5, .slice A2_6 l2_6.length c2_6] 29 (0, 0)) (by (with_reducible repeat (first | refine blk_drewN ?_ _ | refine blk_drew ?_ | refine blk_alloc ?_ _)); exact BK309.out) hb); have n4_ := Aside0.mk (below_step (by repeat (first | (with_reducible first | exact HB.out | apply below_alloc | apply pw_below_drewN | apply below_drew1 | refine below_set ?_ GE309.out) | exact HB.out)) hb); clear HO319; clear HO324; clear BK309; clear HB; have HO319 := n0_; have HO324 := n1_; have HO327 := n2_; have BK309 := n3_; have HB := n4_; clear n0_ n1_ n2_ n3_ n4_; (try clear hb); (try clear hb2); (try clear hk); (try clear hi); (try clear ho0); obtain ⟨Ao37, co37, eo37⟩ := Kd.R_slice HO324.out; subst eo37) | (go_at_call 11; (with_reducible refine (graph_Begin.calls _ _ la _ _ t320 t328 _ ?side1 ?side2 ?side3 ?side4 A25.out).mono ?_); (case side1 => repeat (first | exact HRA.out | (with_reducible refine Kd.C_alloc ?_ _) | (with_reducible refine Kd.C_drewN ?_ _) | (with_reducible refine Kd.C_drew ?_))); (case side2 => exact HCA.out); (case side3 => repeat (first | exact (Kd.R_reads' HO324.out).2.2 | (with_reducible refine Kd.C_alloc ?_ _) | (with_reducible refine Kd.C_drewN ?_ _) | (with_reducible refine Kd.C_drew ?_))); (case side4 => exact (Kd.R_reads' HO324.out).2.1); rintro e w38 ⟨v329, rfl, ho0, hb⟩; have nA_ := Aside0.mk (Kd.C_below (by repeat (first | exact HRA.out | (with_reducible refine Kd.C_alloc ?_ _) | (with_reducible refine Kd.C_drewN ?_ _) | (with_reducible refine Kd.C_drew ?_))) hb); clear HRA; have HRA := nA_; clear nA_; have n0_ := Aside0.mk (Kd.R_elder' (by (with_reducible repeat (first | apply Kd.R_alloc | apply Kd.R_drewN | apply Kd.R_drew)); exact HO319.out) (Kd.R_base ho0) hb); have n1_ := Aside0.mk (Kd.R_elder' (by (with_reducible repeat (first | apply Kd.R_alloc | apply Kd.R_drewN | apply Kd.R_drew)); exact HO324.out) (Kd.R_base ho0) hb); have n2_ := Aside0.mk (Kd.R_elder' (by (with_reducible repeat (first | apply Kd.R_alloc | apply Kd.R_drewN | apply Kd.R_drew)); exact HO327.out) (Kd.R_base ho0) hb); have n3_ := Aside0.mk (Kd.R_lower (Kd.R_new' (Kd.R_new' (Kd.R_new' ho0 (Kd.R_lt (by (with_reducible repeat (first | apply Kd.R_alloc | apply Kd.R_drewN | apply Kd.R_drew)); exact HO319.out))) (Kd.R_lt (by (with_reducible repeat (first | apply Kd.R_alloc | apply Kd.R_drewN | apply Kd.R_drew)); exact HO324.out))) (Kd.R_lt (by (with_reducible repeat (first | apply Kd.R_alloc | apply Kd.R_drewN | apply Kd.R_drew)); exact HO327.out))) (below_size (by repeat (first | (with_reducible first | exact HB.out | apply below_alloc | apply pw_below_drewN | apply below_drew1 | refine below_set ?_ GE309.out) | exact HB.out)))); have n4_ := Aside0.mk (blk_below (g := gb309) (o := .cells #[.string a2_0, .slice A2_1 l2_1.length c2_1, .slice A2_2 l2_2.length c2_2, .slice A2_3 l2_3.length c2_3, .slice A2_4 l2_4.length c2_4, .slice A2_5 l2_5.length c2_5, .slice A2_6 l2_6.length c2_6] 29 (0, 0)) (by (with_reducible repeat (first | refine blk_drewN ?_ _ | refine blk_drew ?_ | refine blk_alloc ?_ _)); exact BK309.out) hb); have n5_ := Aside0.mk (below_step (by repeat (first | (with_reducible first | exact HB.out | apply below_alloc | apply pw_below_drewN | apply below_drew1 | refine below_set ?_ GE309.out) | exact HB.out)) hb); clear HO319; clear HO324; clear HO327; clear BK309; clear HB; have HO319 := n0_; have HO324 := n1_; have HO327 := n2_; have HO330 := n3_; have BK309 := n4_; have HB := n5_; clear n0_ n1_ n2_ n3_ n4_ n5_; (try clear hb); (try clear hb2); (try clear hk); (try clear hi); (try clear ho0)) | (go_at_call 12; (with_reducible refine (curtilageref10_Numbers.calls k2 _ _ t315 _ _ t320 true _ ?side1 ?side2 ?side3 ?side4 A29.out).mono ?_); (case side1 => repeat (first | exact (Kd.R_reads' HO319.out).2.2 | (with_reducible refine Kd.C_alloc ?_ _) | (with_reducible refine Kd.C_drewN ?_ _) | (with_reducible refine Kd.C_drew ?_))); (case side2 => exact (Kd.R_reads' HO319.out).2.1); (case side3 => repeat (first | exact (Kd.R_reads' HO324.out).2.2 | (with_reducible refine Kd.C_alloc ?_ _) | (with_reducible refine Kd.C_drewN ?_ _) | (with_reducible refine Kd.C_drew ?_))); (case side4 => exact (Kd.R_reads' HO324.out).2.1); rintro e w' ⟨rfl, ⟨nd, rfl⟩⟩; (try first | exact ⟨rfl, _, World.drewN_drewN _ _ _⟩ | exact ⟨rfl, _, Eq.trans (World.drewN_drewN _ _ _) (congrArg (World.drewN _) (Nat.add_assoc _ _ _))⟩); obtain ⟨Ao39, co39, eo39⟩ := Kd.R_slice HO327.out; subst eo39; obtain ⟨Ao40, co40, eo40⟩ := Kd.R_slice HO330.out; subst eo40) | (go_at_call 12; (with_reducible refine (curtilageref10_Numbers.calls k2 _ _ t325 _ _ t328 t332 _ ?side1 ?side2 ?side3 ?side4 A32.out).mono ?_); (case side1 => repeat (first | exact (Kd.R_reads' HO327.out).2.2 | (with_reducible refine Kd.C_alloc ?_ _) | (with_reducible refine Kd.C_drewN ?_ _) | (with_reducible refine Kd.C_drew ?_))); (case side2 => exact (Kd.R_reads' HO327.out).2.1); (case side3 => repeat (first | exact (Kd.R_reads' HO330.out).2.2 | (with_reducible refine Kd.C_alloc ?_ _) | (with_reducible refine Kd.C_drewN ?_ _) | (with_reducible refine Kd.C_drew ?_))); (case side4 => exact (Kd.R_reads' HO330.out).2.1); rintro e w' ⟨rfl, ⟨nd, rfl⟩⟩; (try first | exact ⟨rfl, _, World.drewN_drewN _ _ _⟩ | exact ⟨rfl, _, Eq.trans (World.drewN_drewN _ _ _) (congrArg (World.drewN _) (Nat.add_assoc _ _ _))⟩)))
                        repeat (go_quiet (first | (go_at_call 10; (with_reducible refine (graph_Closure.calls _ _ l0 a1 t315 t316 t317 _ ?side1 ?side2 A22.out).mono ?_); (case side1 => repeat (first | exact (Kd.C_below HR0.out HB.out) | (with_reducible refine Kd.C_alloc ?_ _) | (with_reducible refine Kd.C_drewN ?_ _) | (with_reducible refine Kd.C_drew ?_))); (case side2 => exact HC0.out); rintro e w33 ⟨v318, rfl, ho0, hb⟩; have nA_ := Aside0.mk (Kd.C_below (by repeat (first | exact HRA.out | (with_reducible refine Kd.C_alloc ?_ _) | (with_reducible refine Kd.C_drewN ?_ _) | (with_reducible refine Kd.C_drew ?_))) hb); clear HRA; have HRA := nA_; clear nA_; have n0_ := Aside0.mk (Kd.R_lower ho0 (below_size (by repeat (first | (with_reducible first | exact HB.out | apply below_alloc | apply pw_below_drewN | apply below_drew1 | refine below_set ?_ GE309.out) | exact HB.out)))); have n1_ := Aside0.mk (blk_below (g := gb309) (o := .cells #[.string a2_0, .slice A2_1 l2_1.length c2_1, .slice A2_2 l2_2.length c2_2, .slice A2_3 l2_3.length c2_3, .slice A2_4 l2_4.length c2_4, .slice A2_5 l2_5.length c2_5, .slice A2_6 l2_6.length c2_6] 29 (0, 0)) (by (with_reducible repeat (first | refine blk_drewN ?_ _ | refine blk_drew ?_ | refine blk_alloc ?_ _)); exact BK309.out) hb); have n2_ := Aside0.mk (below_step (by repeat (first | (with_reducible first | exact HB.out | apply below_alloc | apply pw_below_drewN | apply below_drew1 | refine below_set ?_ GE309.out) | exact HB.out)) hb); clear BK309; clear HB; have HO319 := n0_; have BK309 := n1_; have HB := n2_; clear n0_ n1_ n2_; (try clear hb); (try clear hb2); (try clear hk); (try clear hi); (try clear ho0)) | (go_at_call 10; (with_reducible refine (graph_Closure.calls _ _ la a1 t320 t321 t322 _ ?side1 ?side2 A23.out).mono ?_); (case side1 => repeat (first | exact HRA.out | (with_reducible refine Kd.C_alloc ?_ _) | (with_reducible refine Kd.C_drewN ?_ _) | (with_reducible refine Kd.C_drew ?_))); (case side2 => exact HCA.out); rintro e w34 ⟨v323, rfl, ho0, hb⟩; have nA_ := Aside0.mk (Kd.C_below (by repeat (first | exact HRA.out | (with_reducible refine Kd.C_alloc ?_ _) | (with_reducible refine Kd.C_drewN ?_ _) | (with_reducible refine Kd.C_drew ?_))) hb); clear HRA; have HRA := nA_; clear nA_; have n0_ := Aside0.mk (Kd.R_elder' (by (with_reducible repeat (first | apply Kd.R_alloc | apply Kd.R_drewN | apply Kd.R_drew)); exact HO319.out) (Kd.R_base ho0) hb); have n1_ := Aside0.mk (Kd.R_lower (Kd.R_new' ho0 (Kd.R_lt (by (with_reducible repeat (first | apply Kd.R_alloc | apply Kd.R_drewN | apply Kd.R_drew)); exact HO319.out))) (below_size (by repeat (first | (with_reducible first | exact HB.out | apply below_alloc | apply pw_below_drewN | apply below_drew1 | refine below_set ?_ GE309.out) | exact HB.out)))); have n2_ := Aside0.mk (blk_below (g := gb309) (o := .cells #[.string a2_0, .slice A2_1 l2_1.length c2_1, .slice A2_2 l2_2.length c2_2, .slice A2_3 l2_3.length c2_3, .slice A2_4 l2_4.length c2_4, .slice A2_5 l2_5.length c2_5, .slice A2_6 l2_6.length c2_6] 29 (0, 0)) (by (with_reducible repeat (first | refine blk_drewN ?_ _ | refine blk_drew ?_ | refine blk_alloc ?_ _)); exact BK309.out) hb); have n3_ := Aside0.mk (below_step (by repeat (first | (with_reducible first | exact HB.out | apply below_alloc | apply pw_below_drewN | apply below_drew1 | refine below_set ?_ GE309.out) | exact HB.out)) hb); clear HO319; clear BK309; clear HB; have HO319 := n0_; have HO324 := n1_; have BK309 := n2_; have HB := n3_; clear n0_ n1_ n2_ n3_; (try clear hb); (try clear hb2); (try clear hk); (try clear hi); (try clear ho0); obtain ⟨Ao35, co35, eo35⟩ := Kd.R_slice HO319.out; subst eo35) | (go_at_call 11; (with_reducible refine (graph_Begin.calls _ _ l0 _ _ t315 t325 _ ?side1 ?side2 ?side3 ?side4 A24.out).mono ?_); (case side1 => repeat (first | exact (Kd.C_below HR0.out HB.out) | (with_reducible refine Kd.C_alloc ?_ _) | (with_reducible refine Kd.C_drewN ?_ _) | (with_reducible refine Kd.C_drew ?_))); (case side2 => exact HC0.out); (case side3 => repeat (first | exact (Kd.R_reads' HO319.out).2.2 | (with_reducible refine Kd.C_alloc ?_ _) | (with_reducible refine Kd.C_drewN ?_ _) | (with_reducible refine Kd.C_drew ?_))); (case side4 => exact (Kd.R_reads' HO319.out).2.1); rintro e w36 ⟨v326, rfl, ho0, hb⟩; have nA_ := Aside0.mk (Kd.C_below (by repeat (first | exact HRA.out | (with_reducible refine Kd.C_alloc ?_ _) | (with_reducible refine Kd.C_drewN ?_ _) | (with_reducible refine Kd.C_drew ?_))) hb); clear HRA; have HRA := nA_; clear nA_; have n0_ := Aside0.mk (Kd.R_elder' (by (with_reducible repeat (first | apply Kd.R_alloc | apply Kd.R_drewN | apply Kd.R_drew)); exact HO319.out) (Kd.R_base ho0) hb); have n1_ := Aside0.mk (Kd.R_elder' (by (with_reducible repeat (first | apply Kd.R_alloc | apply Kd.R_drewN | apply Kd.R_drew)); exact HO324.out) (Kd.R_base ho0) hb); have n2_ := Aside0.mk (Kd.R_lower (Kd.R_new' (Kd.R_new' ho0 (Kd.R_lt (by (with_reducible repeat (first | apply Kd.R_alloc | apply Kd.R_drewN | apply Kd.R_drew)); exact HO319.out))) (Kd.R_lt (by (with_reducible repeat (first | apply Kd.R_alloc | apply Kd.R_drewN | apply Kd.R_drew)); exact HO324.out))) (below_size (by repeat (first | (with_reducible first | exact HB.out | apply below_alloc | apply pw_below_drewN | apply below_drew1 | refine below_set ?_ GE309.out) | exact HB.out)))); have n3_ := Aside0.mk (blk_below (g := gb309) (o := .cells #[.string a2_0, .slice A2_1 l2_1.length c2_1, .slice A2_2 l2_2.length c2_2, .slice A2_3 l2_3.length c2_3, .slice A2_4 l2_4.length c2_4, .slice A2_5 l2_5.length c2_5, .slice A2_6 l2_6.length c2_6] 29 (0, 0)) (by (with_reducible repeat (first | refine blk_drewN ?_ _ | refine blk_drew ?_ | refine blk_alloc ?_ _)); exact BK309.out) hb); have n4_ := Aside0.mk (below_step (by repeat (first | (with_reducible first | exact HB.out | apply below_alloc | apply pw_below_drewN | apply below_drew1 | refine below_set ?_ GE309.out) | exact HB.out)) hb); clear HO319; clear HO324; clear BK309; clear HB; have HO319 := n0_; have HO324 := n1_; have HO327 := n2_; have BK309 := n3_; have HB := n4_; clear n0_ n1_ n2_ n3_ n4_; (try clear hb); (try clear hb2); (try clear hk); (try clear hi); (try clear ho0); obtain ⟨Ao37, co37, eo37⟩ := Kd.R_slice HO324.out; subst eo37) | (go_at_call 11; (with_reducible refine (graph_Begin.calls _ _ la _ _ t320 t328 _ ?side1 ?side2 ?side3 ?side4 A25.out).mono ?_); (case side1 => repeat (first | exact HRA.out | (with_reducible refine Kd.C_alloc ?_ _) | (with_reducible refine Kd.C_drewN ?_ _) | (with_reducible refine Kd.C_drew ?_))); (case side2 => exact HCA.out); (case side3 => repeat (first | exact (Kd.R_reads' HO324.out).2.2 | (with_reducible refine Kd.C_alloc ?_ _) | (with_reducible refine Kd.C_drewN ?_ _) | (with_reducible refine Kd.C_drew ?_))); (case side4 => exact (Kd.R_reads' HO324.out).2.1); rintro e w38 ⟨v329, rfl, ho0, hb⟩; have nA_ := Aside0.mk (Kd.C_below (by repeat (first | exact HRA.out | (with_reducible refine Kd.C_alloc ?_ _) | (with_reducible refine Kd.C_drewN ?_ _) | (with_reducible refine Kd.C_drew ?_))) hb); clear HRA; have HRA := nA_; clear nA_; have n0_ := Aside0.mk (Kd.R_elder' (by (with_reducible repeat (first | apply Kd.R_alloc | apply Kd.R_drewN | apply Kd.R_drew)); exact HO319.out) (Kd.R_base ho0) hb); have n1_ := Aside0.mk (Kd.R_elder' (by (with_reducible repeat (first | apply Kd.R_alloc | apply Kd.R_drewN | apply Kd.R_drew)); exact HO324.out) (Kd.R_base ho0) hb); have n2_ := Aside0.mk (Kd.R_elder' (by (with_reducible repeat (first | apply Kd.R_alloc | apply Kd.R_drewN | apply Kd.R_drew)); exact HO327.out) (Kd.R_base ho0) hb); have n3_ := Aside0.mk (Kd.R_lower (Kd.R_new' (Kd.R_new' (Kd.R_new' ho0 (Kd.R_lt (by (with_reducible repeat (first | apply Kd.R_alloc | apply Kd.R_drewN | apply Kd.R_drew)); exact HO319.out))) (Kd.R_lt (by (with_reducible repeat (first | apply Kd.R_alloc | apply Kd.R_drewN | apply Kd.R_drew)); exact HO324.out))) (Kd.R_lt (by (with_reducible repeat (first | apply Kd.R_alloc | apply Kd.R_drewN | apply Kd.R_drew)); exact HO327.out))) (below_size (by repeat (first | (with_reducible first | exact HB.out | apply below_alloc | apply pw_below_drewN | apply below_drew1 | refine below_set ?_ GE309.out) | exact HB.out)))); have n4_ := Aside0.mk (blk_below (g := gb309) (o := .cells #[.string a2_0, .slice A2_1 l2_1.length c2_1, .slice A2_2 l2_2.length c2_2, .slice A2_3 l2_3.length c2_3, .slice A2_4 l2_4.length c2_4, .slice A2_5 l2_5.length c2_5, .slice A2_6 l2_6.length c2_6] 29 (0, 0)) (by (with_reducible repeat (first | refine blk_drewN ?_ _ | refine blk_drew ?_ | refine blk_alloc ?_ _)); exact BK309.out) hb); have n5_ := Aside0.mk (below_step (by repeat (first | (with_reducible first | exact HB.out | apply below_alloc | apply pw_below_drewN | apply below_drew1 | refine below_set ?_ GE309.out) | exact HB.out)) hb); clear HO319; clear HO324; clear HO327; clear BK309; clear HB; have HO319 := n0_; have HO324 := n1_; have HO327 := n2_; have HO330 := n3_; have BK309 := n4_; have HB := n5_; clear n0_ n1_ n2_ n3_ n4_ n5_; (try clear hb); (try clear hb2); (try clear hk); (try clear hi); (try clear ho0)) | (go_at_call 12; (with_reducible refine (curtilageref10_Numbers.calls k2 _ _ t315 _ _ t320 true _ ?side1 ?side2 ?side3 ?side4 A29.out).mono ?_); (case side1 => repeat (first | exact (Kd.R_reads' HO319.out).2.2 | (with_reducible refine Kd.C_alloc ?_ _) | (with_reducible refine Kd.C_drewN ?_ _) | (with_reducible refine Kd.C_drew ?_))); (case side2 => exact (Kd.R_reads' HO319.out).2.1); (case side3 => repeat (first | exact (Kd.R_reads' HO324.out).2.2 | (with_reducible refine Kd.C_alloc ?_ _) | (with_reducible refine Kd.C_drewN ?_ _) | (with_reducible refine Kd.C_drew ?_))); (case side4 => exact (Kd.R_reads' HO324.out).2.1); rintro e w' ⟨rfl, ⟨nd, rfl⟩⟩; (try first | exact ⟨rfl, _, World.drewN_drewN _ _ _⟩ | exact ⟨rfl, _, Eq.trans (World.drewN_drewN _ _ _) (congrArg (World.drewN _) (Nat.add_assoc _ _ _))⟩); obtain ⟨Ao39, co39, eo39⟩ := Kd.R_slice HO327.out; subst eo39; obtain ⟨Ao40, co40, eo40⟩ := Kd.R_slice HO330.out; subst eo40) | (go_at_call 12; (with_reducible refine (curtilageref10_Numbers.calls k2 _ _ t325 _ _ t328 t332 _ ?side1 ?side2 ?side3 ?side4 A32.out).mono ?_); (case side1 => repeat (first | exact (Kd.R_reads' HO327.out).2.2 | (with_reducible refine Kd.C_alloc ?_ _) | (with_reducible refine Kd.C_drewN ?_ _) | (with_reducible refine Kd.C_drew ?_))); (case side2 => exact (Kd.R_reads' HO327.out).2.1); (case side3 => repeat (first | exact (Kd.R_reads' HO330.out).2.2 | (with_reducible refine Kd.C_alloc ?_ _) | (with_reducible refine Kd.C_drewN ?_ _) | (with_reducible refine Kd.C_drew ?_))); (case side4 => exact (Kd.R_reads' HO330.out).2.1); rintro e w' ⟨rfl, ⟨nd, rfl⟩⟩; (try first | exact ⟨rfl, _, World.drewN_drewN _ _ _⟩ | exact ⟨rfl, _, Eq.trans (World.drewN_drewN _ _ _) (congrArg (World.drewN _) (Nat.add_assoc _ _ _))⟩))); try go_wp2_with (first | (go_at_call 10; (with_reducible refine (graph_Closure.calls _ _ l0 a1 t315 t316 t317 _ ?side1 ?side2 A22.out).mono ?_); (case side1 => repeat (first | exact (Kd.C_below HR0.out HB.out) | (with_reducible refine Kd.C_alloc ?_ _) | (with_reducible refine Kd.C_drewN ?_ _) | (with_reducible refine Kd.C_drew ?_))); (case side2 => exact HC0.out); rintro e w33 ⟨v318, rfl, ho0, hb⟩; have nA_ := Aside0.mk (Kd.C_below (by repeat (first | exact HRA.out | (with_reducible refine Kd.C_alloc ?_ _) | (with_reducible refine Kd.C_drewN ?_ _) | (with_reducible refine Kd.C_drew ?_))) hb); clear HRA; have HRA := nA_; clear nA_; have n0_ := Aside0.mk (Kd.R_lower ho0 (below_size (by repeat (first | (with_reducible first | exact HB.out | apply below_alloc | apply pw_below_drewN | apply below_drew1 | refine below_set ?_ GE309.out) | exact HB.out)))); have n1_ := Aside0.mk (blk_below (g := gb309) (o := .cells #[.string a2_0, .slice A2_1 l2_1.length c2_1, .slice A2_2 l2_2.length c2_2, .slice A2_3 l2_3.length c2_3, .slice A2_4 l2_4.length c2_4, .slice A2_5 l2_5.length c2_5, .slice A2_6 l2_6.length c2_6] 29 (0, 0)) (by (with_reducible repeat (first | refine blk_drewN ?_ _ | refine blk_drew ?_ | refine blk_alloc ?_ _)); exact BK309.out) hb); have n2_ := Aside0.mk (below_step (by repeat (first | (with_reducible first | exact HB.out | apply below_alloc | apply pw_below_drewN | apply below_drew1 | refine below_set ?_ GE309.out) | exact HB.out)) hb); clear BK309; clear HB; have HO319 := n0_; have BK309 := n1_; have HB := n2_; clear n0_ n1_ n2_; (try clear hb); (try clear hb2); (try clear hk); (try clear hi); (try clear ho0)) | (go_at_call 10; (with_reducible refine (graph_Closure.calls _ _ la a1 t320 t321 t322 _ ?side1 ?side2 A23.out).mono ?_); (case side1 => repeat (first | exact HRA.out | (with_reducible refine Kd.C_alloc ?_ _) | (with_reducible refine Kd.C_drewN ?_ _) | (with_reducible refine Kd.C_drew ?_))); (case side2 => exact HCA.out); rintro e w34 ⟨v323, rfl, ho0, hb⟩; have nA_ := Aside0.mk (Kd.C_below (by repeat (first | exact HRA.out | (with_reducible refine Kd.C_alloc ?_ _) | (with_reducible refine Kd.C_drewN ?_ _) | (with_reducible refine Kd.C_drew ?_))) hb); clear HRA; have HRA := nA_; clear nA_; have n0_ := Aside0.mk (Kd.R_elder' (by (with_reducible repeat (first | apply Kd.R_alloc | apply Kd.R_drewN | apply Kd.R_drew)); exact HO319.out) (Kd.R_base ho0) hb); have n1_ := Aside0.mk (Kd.R_lower (Kd.R_new' ho0 (Kd.R_lt (by (with_reducible repeat (first | apply Kd.R_alloc | apply Kd.R_drewN | apply Kd.R_drew)); exact HO319.out))) (below_size (by repeat (first | (with_reducible first | exact HB.out | apply below_alloc | apply pw_below_drewN | apply below_drew1 | refine below_set ?_ GE309.out) | exact HB.out)))); have n2_ := Aside0.mk (blk_below (g := gb309) (o := .cells #[.string a2_0, .slice A2_1 l2_1.length c2_1, .slice A2_2 l2_2.length c2_2, .slice A2_3 l2_3.length c2_3, .slice A2_4 l2_4.length c2_4, .slice A2_5 l2_5.length c2_5, .slice A2_6 l2_6.length c2_6] 29 (0, 0)) (by (with_reducible repeat (first | refine blk_drewN ?_ _ | refine blk_drew ?_ | refine blk_alloc ?_ _)); exact BK309.out) hb); have n3_ := Aside0.mk (below_step (by repeat (first | (with_reducible first | exact HB.out | apply below_alloc | apply pw_below_drewN | apply below_drew1 | refine below_set ?_ GE309.out) | exact HB.out)) hb); clear HO319; clear BK309; clear HB; have HO319 := n0_; have HO324 := n1_; have BK309 := n2_; have HB := n3_; clear n0_ n1_ n2_ n3_; (try clear hb); (try clear hb2); (try clear hk); (try clear hi); (try clear ho0); obtain ⟨Ao35, co35, eo35⟩ := Kd.R_slice HO319.out; subst eo35) | (go_at_call 11; (with_reducible refine (graph_Begin.calls _ _ l0 _ _ t315 t325 _ ?side1 ?side2 ?side3 ?side4 A24.out).mono ?_); (case side1 => repeat (first | exact (Kd.C_below HR0.out HB.out) | (with_reducible refine Kd.C_alloc ?_ _) | (with_reducible refine Kd.C_drewN ?_ _) | (with_reducible refine Kd.C_drew ?_))); (case side2 => exact HC0.out); (case side3 => repeat (first | exact (Kd.R_reads' HO319.out).2.2 | (with_reducible refine Kd.C_alloc ?_ _) | (with_reducible refine Kd.C_drewN ?_ _) | (with_reducible refine Kd.C_drew ?_))); (case side4 => exact (Kd.R_reads' HO319.out).2.1); rintro e w36 ⟨v326, rfl, ho0, hb⟩; have nA_ := Aside0.mk (Kd.C_below (by repeat (first | exact HRA.out | (with_reducible refine Kd.C_alloc ?_ _) | (with_reducible refine Kd.C_drewN ?_ _) | (with_reducible refine Kd.C_drew ?_))) hb); clear HRA; have HRA := nA_; clear nA_; have n0_ := Aside0.mk (Kd.R_elder' (by (with_reducible repeat (first | apply Kd.R_alloc | apply Kd.R_drewN | apply Kd.R_drew)); exact HO319.out) (Kd.R_base ho0) hb); have n1_ := Aside0.mk (Kd.R_elder' (by (with_reducible repeat (first | apply Kd.R_alloc | apply Kd.R_drewN | apply Kd.R_drew)); exact HO324.out) (Kd.R_base ho0) hb); have n2_ := Aside0.mk (Kd.R_lower (Kd.R_new' (Kd.R_new' ho0 (Kd.R_lt (by (with_reducible repeat (first | apply Kd.R_alloc | apply Kd.R_drewN | apply Kd.R_drew)); exact HO319.out))) (Kd.R_lt (by (with_reducible repeat (first | apply Kd.R_alloc | apply Kd.R_drewN | apply Kd.R_drew)); exact HO324.out))) (below_size (by repeat (first | (with_reducible first | exact HB.out | apply below_alloc | apply pw_below_drewN | apply below_drew1 | refine below_set ?_ GE309.out) | exact HB.out)))); have n3_ := Aside0.mk (blk_below (g := gb309) (o := .cells #[.string a2_0, .slice A2_1 l2_1.length c2_1, .slice A2_2 l2_2.length c2_2, .slice A2_3 l2_3.length c2_3, .slice A2_4 l2_4.length c2_4, .slice A2_5 l2_5.length c2_5, .slice A2_6 l2_6.length c2_6] 29 (0, 0)) (by (with_reducible repeat (first | refine blk_drewN ?_ _ | refine blk_drew ?_ | refine blk_alloc ?_ _)); exact BK309.out) hb); have n4_ := Aside0.mk (below_step (by repeat (first | (with_reducible first | exact HB.out | apply below_alloc | apply pw_below_drewN | apply below_drew1 | refine below_set ?_ GE309.out) | exact HB.out)) hb); clear HO319; clear HO324; clear BK309; clear HB; have HO319 := n0_; have HO324 := n1_; have HO327 := n2_; have BK309 := n3_; have HB := n4_; clear n0_ n1_ n2_ n3_ n4_; (try clear hb); (try clear hb2); (try clear hk); (try clear hi); (try clear ho0); obtain ⟨Ao37, co37, eo37⟩ := Kd.R_slice HO324.out; subst eo37) | (go_at_call 11; (with_reducible refine (graph_Begin.calls _ _ la _ _ t320 t328 _ ?side1 ?side2 ?side3 ?side4 A25.out).mono ?_); (case side1 => repeat (first | exact HRA.out | (with_reducible refine Kd.C_alloc ?_ _) | (with_reducible refine Kd.C_drewN ?_ _) | (with_reducible refine Kd.C_drew ?_))); (case side2 => exact HCA.out); (case side3 => repeat (first | exact (Kd.R_reads' HO324.out).2.2 | (with_reducible refine Kd.C_alloc ?_ _) | (with_reducible refine Kd.C_drewN ?_ _) | (with_reducible refine Kd.C_drew ?_))); (case side4 => exact (Kd.R_reads' HO324.out).2.1); rintro e w38 ⟨v329, rfl, ho0, hb⟩; have nA_ := Aside0.mk (Kd.C_below (by repeat (first | exact HRA.out | (with_reducible refine Kd.C_alloc ?_ _) | (with_reducible refine Kd.C_drewN ?_ _) | (with_reducible refine Kd.C_drew ?_))) hb); clear HRA; have HRA := nA_; clear nA_; have n0_ := Aside0.mk (Kd.R_elder' (by (with_reducible repeat (first | apply Kd.R_alloc | apply Kd.R_drewN | apply Kd.R_drew)); exact HO319.out) (Kd.R_base ho0) hb); have n1_ := Aside0.mk (Kd.R_elder' (by (with_reducible repeat (first | apply Kd.R_alloc | apply Kd.R_drewN | apply Kd.R_drew)); exact HO324.out) (Kd.R_base ho0) hb); have n2_ := Aside0.mk (Kd.R_elder' (by (with_reducible repeat (first | apply Kd.R_alloc | apply Kd.R_drewN | apply Kd.R_drew)); exact HO327.out) (Kd.R_base ho0) hb); have n3_ := Aside0.mk (Kd.R_lower (Kd.R_new' (Kd.R_new' (Kd.R_new' ho0 (Kd.R_lt (by (with_reducible repeat (first | apply Kd.R_alloc | apply Kd.R_drewN | apply Kd.R_drew)); exact HO319.out))) (Kd.R_lt (by (with_reducible repeat (first | apply Kd.R_alloc | apply Kd.R_drewN | apply Kd.R_drew)); exact HO324.out))) (Kd.R_lt (by (with_reducible repeat (first | apply Kd.R_alloc | apply Kd.R_drewN | apply Kd.R_drew)); exact HO327.out))) (below_size (by repeat (first | (with_reducible first | exact HB.out | apply below_alloc | apply pw_below_drewN | apply below_drew1 | refine below_set ?_ GE309.out) | exact HB.out)))); have n4_ := Aside0.mk (blk_below (g := gb309) (o := .cells #[.string a2_0, .slice A2_1 l2_1.length c2_1, .slice A2_2 l2_2.length c2_2, .slice A2_3 l2_3.length c2_3, .slice A2_4 l2_4.length c2_4, .slice A2_5 l2_5.length c2_5, .slice A2_6 l2_6.length c2_6] 29 (0, 0)) (by (with_reducible repeat (first | refine blk_drewN ?_ _ | refine blk_drew ?_ | refine blk_alloc ?_ _)); exact BK309.out) hb); have n5_ := Aside0.mk (below_step (by repeat (first | (with_reducible first | exact HB.out | apply below_alloc | apply pw_below_drewN | apply below_drew1 | refine below_set ?_ GE309.out) | exact HB.out)) hb); clear HO319; clear HO324; clear HO327; clear BK309; clear HB; have HO319 := n0_; have HO324 := n1_; have HO327 := n2_; have HO330 := n3_; have BK309 := n4_; have HB := n5_; clear n0_ n1_ n2_ n3_ n4_ n5_; (try clear hb); (try clear hb2); (try clear hk); (try clear hi); (try clear ho0)) | (go_at_call 12; (with_reducible refine (curtilageref10_Numbers.calls k2 _ _ t315 _ _ t320 true _ ?side1 ?side2 ?side3 ?side4 A29.out).mono ?_); (case side1 => repeat (first | exact (Kd.R_reads' HO319.out).2.2 | (with_reducible refine Kd.C_alloc ?_ _) | (with_reducible refine Kd.C_drewN ?_ _) | (with_reducible refine Kd.C_drew ?_))); (case side2 => exact (Kd.R_reads' HO319.out).2.1); (case side3 => repeat (first | exact (Kd.R_reads' HO324.out).2.2 | (with_reducible refine Kd.C_alloc ?_ _) | (with_reducible refine Kd.C_drewN ?_ _) | (with_reducible refine Kd.C_drew ?_))); (case side4 => exact (Kd.R_reads' HO324.out).2.1); rintro e w' ⟨rfl, ⟨nd, rfl⟩⟩; (try first | exact ⟨rfl, _, World.drewN_drewN _ _ _⟩ | exact ⟨rfl, _, Eq.trans (World.drewN_drewN _ _ _) (congrArg (World.drewN _) (Nat.add_assoc _ _ _))⟩); obtain ⟨Ao39, co39, eo39⟩ := Kd.R_slice HO327.out; subst eo39; obtain ⟨Ao40, co40, eo40⟩ := Kd.R_slice HO330.out; subst eo40) | (go_at_call 12; (with_reducible refine (curtilageref10_Numbers.calls k2 _ _ t325 _ _ t328 t332 _ ?side1 ?side2 ?side3 ?side4 A32.out).mono ?_); (case side1 => repeat (first | exact (Kd.R_reads' HO327.out).2.2 | (with_reducible refine Kd.C_alloc ?_ _) | (with_reducible refine Kd.C_drewN ?_ _) | (with_reducible refine Kd.C_drew ?_))); (case side2 => exact (Kd.R_reads' HO327.out).2.1); (case side3 => repeat (first | exact (Kd.R_reads' HO330.out).2.2 | (with_reducible refine Kd.C_alloc ?_ _) | (with_reducible refine Kd.C_drewN ?_ _) | (with_reducible refine Kd.C_drew ?_))); (case side4 => exact (Kd.R_reads' HO330.out).2.1); rintro e w' ⟨rfl, ⟨nd, rfl⟩⟩; (try first | exact ⟨rfl, _, World.drewN_drewN _ _ _⟩ | exact ⟨rfl, _, Eq.trans (World.drewN_drewN _ _ _) (congrArg (World.drewN _) (Nat.add_assoc _ _ _))⟩))))
                        go_ret
                        exact ⟨by first | rfl | (simp [errW_none, errW_some] <;> rfl) | (simp [*, errW_none, errW_some] <;> rfl), by repeat (first | (with_reducible first | exact HB.out | apply below_alloc | apply pw_below_drewN | apply below_drew1 | refine below_set ?_ GE309.out) | exact HB.out)⟩
                      · rw [if_neg c31] at H
                        have c31b0 : (t317 == 0) = false := beq_eq_false_iff_ne.mpr c31
                        have c31b1 : (t317 != 0) = true := bne_iff_ne.mpr c31
                        obtain rfl := Option.some.inj H
                        go_wp2_with (first | (go_at_call 10; (with_reducible refine (graph_Closure.calls _ _ l0 a1 t315 t316 t317 _ ?side1 ?side2 A22.out).mono ?_); (case side1 => repeat (first | exact (Kd.C_below HR0.out HB.out) | (with_reducible refine Kd.C_alloc ?_ _) | (with_reducible refine Kd.C_drewN ?_ _) | (with_reducible refine Kd.C_drew ?_))); (case side2 => exact HC0.out); rintro e w41 ⟨v318, rfl, ho0, hb⟩; have nA_ := Aside0.mk (Kd.C_below (by repeat (first | exact HRA.out | (with_reducible refine Kd.C_alloc ?_ _) | (with_reducible refine Kd.C_drewN ?_ _) | (with_reducible refine Kd.C_drew ?_))) hb); clear HRA; have HRA := nA_; clear nA_; have n0_ := Aside0.mk (Kd.R_lower ho0 (below_size (by repeat (first | (with_reducible first | exact HB.out | apply below_alloc | apply pw_below_drewN | apply below_drew1 | refine below_set ?_ GE309.out) | exact HB.out)))); have n1_ := Aside0.mk (blk_below (g := gb309) (o := .cells #[.string a2_0, .slice A2_1 l2_1.length c2_1, .slice A2_2 l2_2.length c2_2, .slice A2_3 l2_3.length c2_3, .slice A2_4 l2_4.length c2_4, .slice A2_5 l2_5.length c2_5, .slice A2_6 l2_6.length c2_6] 29 (0, 0)) (by (with_reducible repeat (first | refine blk_drewN ?_ _ | refine blk_drew ?_ | refine blk_alloc ?_ _)); exact BK309.out) hb); have n2_ := Aside0.mk (below_step (by repeat (first | (with_reducible first | exact HB.out | apply below_alloc | apply pw_below_drewN | apply below_drew1 | refine below_set ?_ GE309.out) | exact HB.out)) hb); clear BK309; clear HB; have HO319 := n0_; have BK309 := n1_; have HB := n2_; clear n0_ n1_ n2_; (try clear hb); (try clear hb2); (try clear hk); (try clear hi); (try clear ho0)) | (go_at_call 10; (with_reducible refine (graph_Closure.calls _ _ la a1 t320 t321 t322 _ ?side1 ?side2 A23.out).mono ?_); (case side1 => repeat (first | exact HRA.out | (with_reducible refine Kd.C_alloc ?_ _) | (with_reducible refine Kd.C_drewN ?_ _) | (with_reducible refine Kd.C_drew ?_))); (case side2 => exact HCA.out); rintro e w42 ⟨v323, rfl, ho0, hb⟩; have nA_ := Aside0.mk (Kd.C_below (by repeat (first | exact HRA.out | (with_reducible refine Kd.C_alloc ?_ _) | (with_reducible refine Kd.C_drewN ?_ _) | (with_reducible refine Kd.C_drew ?_))) hb); clear HRA; have HRA := nA_; clear nA_; have n0_ := Aside0.mk (Kd.R_elder' (by (with_reducible repeat (first | apply Kd.R_alloc | apply Kd.R_drewN | apply Kd.R_drew)); exact HO319.out) (Kd.R_base ho0) hb); have n1_ := Aside0.mk (Kd.R_lower (Kd.R_new' ho0 (Kd.R_lt (by (with_reducible repeat (first | apply Kd.R_alloc | apply Kd.R_drewN | apply Kd.R_drew)); exact HO319.out))) (below_size (by repeat (first | (with_reducible first | exact HB.out | apply below_alloc | apply pw_below_drewN | apply below_drew1 | refine below_set ?_ GE309.out) | exact HB.out)))); have n2_ := Aside0.mk (blk_below (g := gb309) (o := .cells #[.string a2_0, .slice A2_1 l2_1.length c2_1, .slice A2_2 l2_2.length c2_2, .slice A2_3 l2_3.length c2_3, .slice A2_4 l2_4.length c2_4, .slice A2_5 l2_5.length c2_5, .slice A2_6 l2_6.length c2_6] 29 (0, 0)) (by (with_reducible repeat (first | refine blk_drewN ?_ _ | refine blk_drew ?_ | refine blk_alloc ?_ _)); exact BK309.out) hb); have n3_ := Aside0.mk (below_step (by repeat (first | (with_reducible first | exact HB.out | apply below_alloc | apply pw_below_drewN | apply below_drew1 | refine below_set ?_ GE309.out) | exact HB.out)) hb); clear HO319; clear BK309; clear HB; have HO319 := n0_; have HO324 := n1_; have BK309 := n2_; have HB := n3_; clear n0_ n1_ n2_ n3_; (try clear hb); (try clear hb2); (try clear hk); (try clear hi); (try clear ho0); obtain ⟨Ao43, co43, eo43⟩ := Kd.R_slice HO319.out; subst eo43) | (go_at_call 11; (with_reducible refine (graph_Begin.calls _ _ l0 _ _ t315 t325 _ ?side1 ?side2 ?side3 ?side4 A24.out).mono ?_); (case side1 => repeat (first | exact (Kd.C_below HR0.out HB.out) | (with_reducible refine Kd.C_alloc ?_ _) | (with_reducible refine Kd.C_drewN ?_ _) | (with_reducible refine Kd.C_drew ?_))); (case side2 => exact HC0.out); (case side3 => repeat (first | exact (Kd.R_reads' HO319.out).2.2 | (with_reducible refine Kd.C_alloc ?_ _) | (with_reducible refine Kd.C_drewN ?_ _) | (with_reducible refine Kd.C_drew ?_))); (case side4 => exact (Kd.R_reads' HO319.out).2.1); rintro e w44 ⟨v326, rfl, ho0, hb⟩; have nA_ := Aside0.mk (Kd.C_below (by repeat (first | exact HRA.out | (with_reducible refine Kd.C_alloc ?_ _) | (with_reducible refine Kd.C_drewN ?_ _) | (with_reducible refine Kd.C_drew ?_))) hb); clear HRA; have HRA := nA_; clear nA_; have n0_ := Aside0.mk (Kd.R_elder' (by (with_reducible repeat (first | apply Kd.R_alloc | apply Kd.R_drewN | apply Kd.R_drew)); exact HO319.out) (Kd.R_base ho0) hb); have n1_ := Aside0.mk (Kd.R_elder' (by (with_reducible repeat (first | apply Kd.R_alloc | apply Kd.R_drewN | apply Kd.R_drew)); exact HO324.out) (Kd.R_base ho0) hb); have n2_ := Aside0.mk (Kd.R_lower (Kd.R_new' (Kd.R_new' ho0 (Kd.R_lt (by (with_reducible repeat (first | apply Kd.R_alloc | apply Kd.R_drewN | apply Kd.R_drew)); exact HO319.out))) (Kd.R_lt (by (with_reducible repeat (first | apply Kd.R_alloc | apply Kd.R_drewN | apply Kd.R_drew)); exact HO324.out))) (below_size (by repeat (first | (with_reducible first | exact HB.out | apply below_alloc | apply pw_below_drewN | apply below_drew1 | refine below_set ?_ GE309.out) | exact HB.out)))); have n3_ := Aside0.mk (blk_below (g := gb309) (o := .cells #[.string a2_0, .slice A2_1 l2_1.length c2_1, .slice A2_2 l2_2.length c2_2, .slice A2_3 l2_3.length c2_3, .slice A2_4 l2_4.length c2_4, .slice A2_5 l2_5.length c2_5, .slice A2_6 l2_6.length c2_6] 29 (0, 0)) (by (with_reducible repeat (first | refine blk_drewN ?_ _ | refine blk_drew ?_ | refine blk_alloc ?_ _)); exact BK309.out) hb); have n4_ := Aside0.mk (below_step (by repeat (first | (with_reducible first | exact HB.out | apply below_alloc | apply pw_below_drewN | apply below_drew1 | refine below_set ?_ GE309.out) | exact HB.out)) hb); clear HO319; clear HO324; clear BK309; clear HB; have HO319 := n0_; have HO324 := n1_; have HO327 := n2_; have BK309 := n3_; have HB := n4_; clear n0_ n1_ n2_ n3_ n4_; (try clear hb); (try clear hb2); (try clear hk); (try clear hi); (try clear ho0); obtain ⟨Ao45, co45, eo45⟩ := Kd.R_slice HO324.out; subst eo45) | (go_at_call 11; (with_reducible refine (graph_Begin.calls _ _ la _ _ t320 t328 _ ?side1 ?side2 ?side3 ?side4 A25.out).mono ?_); (case side1 => repeat (first | exact HRA.out | (with_reducible refine Kd.C_alloc ?_ _) | (with_reducible refine Kd.C_drewN ?_ _) | (with_reducible refine Kd.C_drew ?_))); (case side2 => exact HCA.out); (case side3 => repeat (first | exact (Kd.R_reads' HO324.out).2.2 | (with_reducible refine Kd.C_alloc ?_ _) | (with_reducible refine Kd.C_drewN ?_ _) | (with_reducible refine Kd.C_drew ?_))); (case side4 => exact (Kd.R_reads' HO324.out).2.1); rintro e w46 ⟨v329, rfl, ho0, hb⟩; have nA_ := Aside0.mk (Kd.C_below (by repeat (first | exact HRA.out | (with_reducible refine Kd.C_alloc ?_ _) | (with_reducible refine Kd.C_drewN ?_ _) | (with_reducible refine Kd.C_drew ?_))) hb); clear HRA; have HRA := nA_; clear nA_; have n0_ := Aside0.mk (Kd.R_elder' (by (with_reducible repeat (first | apply Kd.R_alloc | apply Kd.R_drewN | apply Kd.R_drew)); exact HO319.out) (Kd.R_base ho0) hb); have n1_ := Aside0.mk (Kd.R_elder' (by (with_reducible repeat (first | apply Kd.R_alloc | apply Kd.R_drewN | apply Kd.R_drew)); exact HO324.out) (Kd.R_base ho0) hb); have n2_ := Aside0.mk (Kd.R_elder' (by (with_reducible repeat (first | apply Kd.R_alloc | apply Kd.R_drewN | apply Kd.R_drew)); exact HO327.out) (Kd.R_base ho0) hb); have n3_ := Aside0.mk (Kd.R_lower (Kd.R_new' (Kd.R_new' (Kd.R_new' ho0 (Kd.R_lt (by (with_reducible repeat (first | apply Kd.R_alloc | apply Kd.R_drewN | apply Kd.R_drew)); exact HO319.out))) (Kd.R_lt (by (with_reducible repeat (first | apply Kd.R_alloc | apply Kd.R_drewN | apply Kd.R_drew)); exact HO324.out))) (Kd.R_lt (by (with_reducible repeat (first | apply Kd.R_alloc | apply Kd.R_drewN | apply Kd.R_drew)); exact HO327.out))) (below_size (by repeat (first | (with_reducible first | exact HB.out | apply below_alloc | apply pw_below_drewN | apply below_drew1 | refine below_set ?_ GE309.out) | exact HB.out)))); have n4_ := Aside0.mk (blk_below (g := gb309) (o := .cells #[.string a2_0, .slice A2_1 l2_1.length c2_1, .slice A2_2 l2_2.length c2_2, .slice A2_3 l2_3.length c2_3, .slice A2_4 l2_4.length c2_4, .slice A2_5 l2_5.length c2_5, .slice A2_6 l2_6.length c2_6] 29 (0, 0)) (by (with_reducible repeat (first | refine blk_drewN ?_ _ | refine blk_drew ?_ | refine blk_alloc ?_ _)); exact BK309.out) hb); have n5_ := Aside0.mk (below_step (by repeat (first | (with_reducible first | exact HB.out | apply below_alloc | apply pw_below_drewN | apply below_drew1 | refine below_set ?_ GE309.out) | exact HB.out)) hb); clear HO319; clear HO324; clear HO327; clear BK309; clear HB; have HO319 := n0_; have HO324 := n1_; have HO327 := n2_; have HO330 := n3_; have BK309 := n4_; have HB := n5_; clear n0_ n1_ n2_ n3_ n4_ n5_; (try clear hb); (try clear hb2); (try clear hk); (try clear hi); (try clear ho0)) | (go_at_call 12; (with_reducible refine (curtilageref10_Numbers.calls k2 _ _ t315 _ _ t320 true _ ?side1 ?side2 ?side3 ?side4 A29.out).mono ?_); (case side1 => repeat (first | exact (Kd.R_reads' HO319.out).2.2 | (with_reducible refine Kd.C_alloc ?_ _) | (with_reducible refine Kd.C_drewN ?_ _) | (with_reducible refine Kd.C_drew ?_))); (case side2 => exact (Kd.R_reads' HO319.out).2.1); (case side3 => repeat (first | exact (Kd.R_reads' HO324.out).2.2 | (with_reducible refine Kd.C_alloc ?_ _) | (with_reducible refine Kd.C_drewN ?_ _) | (with_reducible refine Kd.C_drew ?_))); (case side4 => exact (Kd.R_reads' HO324.out).2.1); rintro e w' ⟨rfl, ⟨nd, rfl⟩⟩; (try first | exact ⟨rfl, _, World.drewN_drewN _ _ _⟩ | exact ⟨rfl, _, Eq.trans (World.drewN_drewN _ _ _) (congrArg (World.drewN _) (Nat.add_assoc _ _ _))⟩)))
                        repeat (go_quiet (first | (go_at_call 10; (with_reducible refine (graph_Closure.calls _ _ l0 a1 t315 t316 t317 _ ?side1 ?side2 A22.out).mono ?_); (case side1 => repeat (first | exact (Kd.C_below HR0.out HB.out) | (with_reducible refine Kd.C_alloc ?_ _) | (with_reducible refine Kd.C_drewN ?_ _) | (with_reducible refine Kd.C_drew ?_))); (case side2 => exact HC0.out); rintro e w41 ⟨v318, rfl, ho0, hb⟩; have nA_ := Aside0.mk (Kd.C_below (by repeat (first | exact HRA.out | (with_reducible refine Kd.C_alloc ?_ _) | (with_reducible refine Kd.C_drewN ?_ _) | (with_reducible refine Kd.C_drew ?_))) hb); clear HRA; have HRA := nA_; clear nA_; have n0_ := Aside0.mk (Kd.R_lower ho0 (below_size (by repeat (first | (with_reducible first | exact HB.out | apply below_alloc | apply pw_below_drewN | apply below_drew1 | refine below_set ?_ GE309.out) | exact HB.out)))); have n1_ := Aside0.mk (blk_below (g := gb309) (o := .cells #[.string a2_0, .slice A2_1 l2_1.length c2_1, .slice A2_2 l2_2.length c2_2, .slice A2_3 l2_3.length c2_3, .slice A2_4 l2_4.length c2_4, .slice A2_5 l2_5.length c2_5, .slice A2_6 l2_6.length c2_6] 29 (0, 0)) (by (with_reducible repeat (first | refine blk_drewN ?_ _ | refine blk_drew ?_ | refine blk_alloc ?_ _)); exact BK309.out) hb); have n2_ := Aside0.mk (below_step (by repeat (first | (with_reducible first | exact HB.out | apply below_alloc | apply pw_below_drewN | apply below_drew1 | refine below_set ?_ GE309.out) | exact HB.out)) hb); clear BK309; clear HB; have HO319 := n0_; have BK309 := n1_; have HB := n2_; clear n0_ n1_ n2_; (try clear hb); (try clear hb2); (try clear hk); (try clear hi); (try clear ho0)) | (go_at_call 10; (with_reducible refine (graph_Closure.calls _ _ la a1 t320 t321 t322 _ ?side1 ?side2 A23.out).mono ?_); (case side1 => repeat (first | exact HRA.out | (with_reducible refine Kd.C_alloc ?_ _) | (with_reducible refine Kd.C_drewN ?_ _) | (with_reducible refine Kd.C_drew ?_))); (case side2 => exact HCA.out); rintro e w42 ⟨v323, rfl, ho0, hb⟩; have nA_ := Aside0.mk (Kd.C_below (by repeat (first | exact HRA.out | (with_reducible refine Kd.C_alloc ?_ _) | (with_reducible refine Kd.C_drewN ?_ _) | (with_reducible refine Kd.C_drew ?_))) hb); clear HRA; have HRA := nA_; clear nA_; have n0_ := Aside0.mk (Kd.R_elder' (by (with_reducible repeat (first | apply Kd.R_alloc | apply Kd.R_drewN | apply Kd.R_drew)); exact HO319.out) (Kd.R_base ho0) hb); have n1_ := Aside0.mk (Kd.R_lower (Kd.R_new' ho0 (Kd.R_lt (by (with_reducible repeat (first | apply Kd.R_alloc | apply Kd.R_drewN | apply Kd.R_drew)); exact HO319.out))) (below_size (by repeat (first | (with_reducible first | exact HB.out | apply below_alloc | apply pw_below_drewN | apply below_drew1 | refine below_set ?_ GE309.out) | exact HB.out)))); have n2_ := Aside0.mk (blk_below (g := gb309) (o := .cells #[.string a2_0, .slice A2_1 l2_1.length c2_1, .slice A2_2 l2_2.length c2_2, .slice A2_3 l2_3.length c2_3, .slice A2_4 l2_4.length c2_4, .slice A2_5 l2_5.length c2_5, .slice A2_6 l2_6.length c2_6] 29 (0, 0)) (by (with_reducible repeat (first | refine blk_drewN ?_ _ | refine blk_drew ?_ | refine blk_alloc ?_ _)); exact BK309.out) hb); have n3_ := Aside0.mk (below_step (by repeat (first | (with_reducible first | exact HB.out | apply below_alloc | apply pw_below_drewN | apply below_drew1 | refine below_set ?_ GE309.out) | exact HB.out)) hb); clear HO319; clear BK309; clear HB; have HO319 := n0_; have HO324 := n1_; have BK309 := n2_; have HB := n3_; clear n0_ n1_ n2_ n3_; (try clear hb); (try clear hb2); (try clear hk); (try clear hi); (try clear ho0); obtain ⟨Ao43, co43, eo43⟩ := Kd.R_slice HO319.out; subst eo43) | (go_at_call 11; (with_reducible refine (graph_Begin.calls _ _ l0 _ _ t315 t325 _ ?side1 ?side2 ?side3 ?side4 A24.out).mono ?_); (case side1 => repeat (first | exact (Kd.C_below HR0.out HB.out) | (with_reducible refine Kd.C_alloc ?_ _) | (with_reducible refine Kd.C_drewN ?_ _) | (with_reducible refine Kd.C_drew ?_))); (case side2 => exact HC0.out); (case side3 => repeat (first | exact (Kd.R_reads' HO319.out).2.2 | (with_reducible refine Kd.C_alloc ?_ _) | (with_reducible refine Kd.C_drewN ?_ _) | (with_reducible refine Kd.C_drew ?_))); (case side4 => exact (Kd.R_reads' HO319.out).2.1); rintro e w44 ⟨v326, rfl, ho0, hb⟩; have nA_ := Aside0.mk (Kd.C_below (by repeat (first | exact HRA.out | (with_reducible refine Kd.C_alloc ?_ _) | (with_reducible refine Kd.C_drewN ?_ _) | (with_reducible refine Kd.C_drew ?_))) hb); clear HRA; have HRA := nA_; clear nA_; have n0_ := Aside0.mk (Kd.R_elder' (by (with_reducible repeat (first | apply Kd.R_alloc | apply Kd.R_drewN | apply Kd.R_drew)); exact HO319.out) (Kd.R_base ho0) hb); have n1_ := Aside0.mk (Kd.R_elder' (by (with_reducible repeat (first | apply Kd.R_alloc | apply Kd.R_drewN | apply Kd.R_drew)); exact HO324.out) (Kd.R_base ho0) hb); have n2_ := Aside0.mk (Kd.R_lower (Kd.R_new' (Kd.R_new' ho0 (Kd.R_lt (by (with_reducible repeat (first | apply Kd.R_alloc | apply Kd.R_drewN | apply Kd.R_drew)); exact HO319.out))) (Kd.R_lt (by (with_reducible repeat (first | apply Kd.R_alloc | apply Kd.R_drewN | apply Kd.R_drew)); exact HO324.out))) (below_size (by repeat (first | (with_reducible first | exact HB.out | apply below_alloc | apply pw_below_drewN | apply below_drew1 | refine below_set ?_ GE309.out) | exact HB.out)))); have n3_ := Aside0.mk (blk_below (g := gb309) (o := .cells #[.string a2_0, .slice A2_1 l2_1.length c2_1, .slice A2_2 l2_2.length c2_2, .slice A2_3 l2_3.length c2_3, .slice A2_4 l2_4.length c2_4, .slice A2_5 l2_5.length c2_5, .slice A2_6 l2_6.length c2_6] 29 (0, 0)) (by (with_reducible repeat (first | refine blk_drewN ?_ _ | refine blk_drew ?_ | refine blk_alloc ?_ _)); exact BK309.out) hb); have n4_ := Aside0.mk (below_step (by repeat (first | (with_reducible first | exact HB.out | apply below_alloc | apply pw_below_drewN | apply below_drew1 | refine below_set ?_ GE309.out) | exact HB.out)) hb); clear HO319; clear HO324; clear BK309; clear HB; have HO319 := n0_; have HO324 := n1_; have HO327 := n2_; have BK309 := n3_; have HB := n4_; clear n0_ n1_ n2_ n3_ n4_; (try clear hb); (try clear hb2); (try clear hk); (try clear hi); (try clear ho0); obtain ⟨Ao45, co45, eo45⟩ := Kd.R_slice HO324.out; subst eo45) | (go_at_call 11; (with_reducible refine (graph_Begin.calls _ _ la _ _ t320 t328 _ ?side1 ?side2 ?side3 ?side4 A25.out).mono ?_); (case side1 => repeat (first | exact HRA.out | (with_reducible refine Kd.C_alloc ?_ _) | (with_reducible refine Kd.C_drewN ?_ _) | (with_reducible refine Kd.C_drew ?_))); (case side2 => exact HCA.out); (case side3 => repeat (first | exact (Kd.R_reads' HO324.out).2.2 | (with_reducible refine Kd.C_alloc ?_ _) | (with_reducible refine Kd.C_drewN ?_ _) | (with_reducible refine Kd.C_drew ?_))); (case side4 => exact (Kd.R_reads' HO324.out).2.1); rintro e w46 ⟨v329, rfl, ho0, hb⟩; have nA_ := Aside0.mk (Kd.C_below (by repeat (first | exact HRA.out | (with_reducible refine Kd.C_alloc ?_ _) | (with_reducible refine Kd.C_drewN ?_ _) | (with_reducible refine Kd.C_drew ?_))) hb); clear HRA; have HRA := nA_; clear nA_; have n0_ := Aside0.mk (Kd.R_elder' (by (with_reducible repeat (first | apply Kd.R_alloc | apply Kd.R_drewN | apply Kd.R_drew)); exact HO319.out) (Kd.R_base ho0) hb); have n1_ := Aside0.mk (Kd.R_elder' (by (with_reducible repeat (first | apply Kd.R_alloc | apply Kd.R_drewN | apply Kd.R_drew)); exact HO324.out) (Kd.R_base ho0) hb); have n2_ := Aside0.mk (Kd.R_elder' (by (with_reducible repeat (first | apply Kd.R_alloc | apply Kd.R_drewN | apply Kd.R_drew)); exact HO327.out) (Kd.R_base ho0) hb); have n3_ := Aside0.mk (Kd.R_lower (Kd.R_new' (Kd.R_new' (Kd.R_new' ho0 (Kd.R_lt (by (with_reducible repeat (first | apply Kd.R_alloc | apply Kd.R_drewN | apply Kd.R_drew)); exact HO319.out))) (Kd.R_lt (by (with_reducible repeat (first | apply Kd.R_alloc | apply Kd.R_drewN | apply Kd.R_drew)); exact HO324.out))) (Kd.R_lt (by (with_reducible repeat (first | apply Kd.R_alloc | apply Kd.R_drewN | apply Kd.R_drew)); exact HO327.out))) (below_size (by repeat (first | (with_reducible first | exact HB.out | apply below_alloc | apply pw_below_drewN | apply below_drew1 | refine below_set ?_ GE309.out) | exact HB.out)))); have n4_ := Aside0.mk (blk_below (g := gb309) (o := .cells #[.string a2_0, .slice A2_1 l2_1.length c2_1, .slice A2_2 l2_2.length c2_2, .slice A2_3 l2_3.length c2_3, .slice A2_4 l2_4.length c2_4, .slice A2_5 l2_5.length c2_5, .slice A2_6 l2_6.length c2_6] 29 (0, 0)) (by (with_reducible repeat (first | refine blk_drewN ?_ _ | refine blk_drew ?_ | refine blk_alloc ?_ _)); exact BK309.out) hb); have n5_ := Aside0.mk (below_step (by repeat (first | (with_reducible first | exact HB.out | apply below_alloc | apply pw_below_drewN | apply below_drew1 | refine below_set ?_ GE309.out) | exact HB.out)) hb); clear HO319; clear HO324; clear HO327; clear BK309; clear HB; have HO319 := n0_; have HO324 := n1_; have HO327 := n2_; have HO330 := n3_; have BK309 := n4_; have HB := n5_; clear n0_ n1_ n2_ n3_ n4_ n5_; (try clear hb); (try clear hb2); (try clear hk); (try clear hi); (try clear ho0)) | (go_at_call 12; (with_reducible refine (curtilageref10_Numbers.calls k2 _ _ t315 _ _ t320 true _ ?side1 ?side2 ?side3 ?side4 A29.out).mono ?_); (case side1 => repeat (first | exact (Kd.R_reads' HO319.out).2.2 | (with_reducible refine Kd.C_alloc ?_ _) | (with_reducible refine Kd.C_drewN ?_ _) | (with_reducible refine Kd.C_drew ?_))); (case side2 => exact (Kd.R_reads' HO319.out).2.1); (case side3 => repeat (first | exact (Kd.R_reads' HO324.out).2.2 | (with_reducible refine Kd.C_alloc ?_ _) | (with_reducible refine Kd.C_drewN ?_ _) | (with_reducible refine Kd.C_drew ?_))); (case side4 => exact (Kd.R_reads' HO324.out).2.1); rintro e w' ⟨rfl, ⟨nd, rfl⟩⟩; (try first | exact ⟨rfl, _, World.drewN_drewN _ _ _⟩ | exact ⟨rfl, _, Eq.trans (World.drewN_drewN _ _ _) (congrArg (World.drewN _) (Nat.add_assoc _ _ _))⟩))); try go_wp2_with (first | (go_at_call 10; (with_reducible refine (graph_Closure.calls _ _ l0 a1 t315 t316 t317 _ ?side1 ?side2 A22.out).mono ?_); (case side1 => repeat (first | exact (Kd.C_below HR0.out HB.out) | (with_reducible refine Kd.C_alloc ?_ _) | (with_reducible refine Kd.C_drewN ?_ _) | (with_reducible refine Kd.C_drew ?_))); (case side2 => exact HC0.out); rintro e w41 ⟨v318, rfl, ho0, hb⟩; have nA_ := Aside0.mk (Kd.C_below (by repeat (first | exact HRA.out | (with_reducible refine Kd.C_alloc ?_ _) | (with_reducible refine Kd.C_drewN ?_ _) | (with_reducible refine Kd.C_drew ?_))) hb); clear HRA; have HRA := nA_; clear nA_; have n0_ := Aside0.mk (Kd.R_lower ho0 (below_size (by repeat (first | (with_reducible first | exact HB.out | apply below_alloc | apply pw_below_drewN | apply below_drew1 | refine below_set ?_ GE309.out) | exact HB.out)))); have n1_ := Aside0.mk (blk_below (g := gb309) (o := .cells #[.string a2_0, .slice A2_1 l2_1.length c2_1, .slice A2_2 l2_2.length c2_2, .slice A2_3 l2_3.length c2_3, .slice A2_4 l2_4.length c2_4, .slice A2_5 l2_5.length c2_5, .slice A2_6 l2_6.length c2_6] 29 (0, 0)) (by (with_reducible repeat (first | refine blk_drewN ?_ _ | refine blk_drew ?_ | refine blk_alloc ?_ _)); exact BK309.out) hb); have n2_ := Aside0.mk (below_step (by repeat (first | (with_reducible first | exact HB.out | apply below_alloc | apply pw_below_drewN | apply below_drew1 | refine below_set ?_ GE309.out) | exact HB.out)) hb); clear BK309; clear HB; have HO319 := n0_; have BK309 := n1_; have HB := n2_; clear n0_ n1_ n2_; (try clear hb); (try clear hb2); (try clear hk); (try clear hi); (try clear ho0)) | (go_at_call 10; (with_reducible refine (graph_Closure.calls _ _ la a1 t320 t321 t322 _ ?side1 ?side2 A23.out).mono ?_); (case side1 => repeat (first | exact HRA.out | (with_reducible refine Kd.C_alloc ?_ _) | (with_reducible refine Kd.C_drewN ?_ _) | (with_reducible refine Kd.C_drew ?_))); (case side2 => exact HCA.out); rintro e w42 ⟨v323, rfl, ho0, hb⟩; have nA_ := Aside0.mk (Kd.C_below (by repeat (first | exact HRA.out | (with_reducible refine Kd.C_alloc ?_ _) | (with_reducible refine Kd.C_drewN ?_ _) | (with_reducible refine Kd.C_drew ?_))) hb); clear HRA; have HRA := nA_; clear nA_; have n0_ := Aside0.mk (Kd.R_elder' (by (with_reducible repeat (first | apply Kd.R_alloc | apply Kd.R_drewN | apply Kd.R_drew)); exact HO319.out) (Kd.R_base ho0) hb); have n1_ := Aside0.mk (Kd.R_lower (Kd.R_new' ho0 (Kd.R_lt (by (with_reducible repeat (first | apply Kd.R_alloc | apply Kd.R_drewN | apply Kd.R_drew)); exact HO319.out))) (below_size (by repeat (first | (with_reducible first | exact HB.out | apply below_alloc | apply pw_below_drewN | apply below_drew1 | refine below_set ?_ GE309.out) | exact HB.out)))); have n2_ := Aside0.mk (blk_below (g := gb309) (o := .cells #[.string a2_0, .slice A2_1 l2_1.length c2_1, .slice A2_2 l2_2.length c2_2, .slice A2_3 l2_3.length c2_3, .slice A2_4 l2_4.length c2_4, .slice A2_5 l2_5.length c2_5, .slice A2_6 l2_6.length c2_6] 29 (0, 0)) (by (with_reducible repeat (first | refine blk_drewN ?_ _ | refine blk_drew ?_ | refine blk_alloc ?_ _)); exact BK309.out) hb); have n3_ := Aside0.mk (below_step (by repeat (first | (with_reducible first | exact HB.out | apply below_alloc | apply pw_below_drewN | apply below_drew1 | refine below_set ?_ GE309.out) | exact HB.out)) hb); clear HO319; clear BK309; clear HB; have HO319 := n0_; have HO324 := n1_; have BK309 := n2_; have HB := n3_; clear n0_ n1_ n2_ n3_; (try clear hb); (try clear hb2); (try clear hk); (try clear hi); (try clear ho0); obtain ⟨Ao43, co43, eo43⟩ := Kd.R_slice HO319.out; subst eo43) | (go_at_call 11; (with_reducible refine (graph_Begin.calls _ _ l0 _ _ t315 t325 _ ?side1 ?side2 ?side3 ?side4 A24.out).mono ?_); (case side1 => repeat (first | exact (Kd.C_below HR0.out HB.out) | (with_reducible refine Kd.C_alloc ?_ _) | (with_reducible refine Kd.C_drewN ?_ _) | (with_reducible refine Kd.C_drew ?_))); (case side2 => exact HC0.out); (case side3 => repeat (first | exact (Kd.R_reads' HO319.out).2.2 | (with_reducible refine Kd.C_alloc ?_ _) | (with_reducible refine Kd.C_drewN ?_ _) | (with_reducible refine Kd.C_drew ?_))); (case side4 => exact (Kd.R_reads' HO319.out).2.1); rintro e w44 ⟨v326, rfl, ho0, hb⟩; have nA_ := Aside0.mk (Kd.C_below (by repeat (first | exact HRA.out | (with_reducible refine Kd.C_alloc ?_ _) | (with_reducible refine Kd.C_drewN ?_ _) | (with_reducible refine Kd.C_drew ?_))) hb); clear HRA; have HRA := nA_; clear nA_; have n0_ := Aside0.mk (Kd.R_elder' (by (with_reducible repeat (first | apply Kd.R_alloc | apply Kd.R_drewN | apply Kd.R_drew)); exact HO319.out) (Kd.R_base ho0) hb); have n1_ := Aside0.mk (Kd.R_elder' (by (with_reducible repeat (first | apply Kd.R_alloc | apply Kd.R_drewN | apply Kd.R_drew)); exact HO324.out) (Kd.R_base ho0) hb); have n2_ := Aside0.mk (Kd.R_lower (Kd.R_new' (Kd.R_new' ho0 (Kd.R_lt (by (with_reducible repeat (first | apply Kd.R_alloc | apply Kd.R_drewN | apply Kd.R_drew)); exact HO319.out))) (Kd.R_lt (by (with_reducible repeat (first | apply Kd.R_alloc | apply Kd.R_drewN | apply Kd.R_drew)); exact HO324.out))) (below_size (by repeat (first | (with_reducible first | exact HB.out | apply below_alloc | apply pw_below_drewN | apply below_drew1 | refine below_set ?_ GE309.out) | exact HB.out)))); have n3_ := Aside0.mk (blk_below (g := gb309) (o := .cells #[.string a2_0, .slice A2_1 l2_1.length c2_1, .slice A2_2 l2_2.length c2_2, .slice A2_3 l2_3.length c2_3, .slice A2_4 l2_4.length c2_4, .slice A2_5 l2_5.length c2_5, .slice A2_6 l2_6.length c2_6] 29 (0, 0)) (by (with_reducible repeat (first | refine blk_drewN ?_ _ | refine blk_drew ?_ | refine blk_alloc ?_ _)); exact BK309.out) hb); have n4_ := Aside0.mk (below_step (by repeat (first | (with_reducible first | exact HB.out | apply below_alloc | apply pw_below_drewN | apply below_drew1 | refine below_set ?_ GE309.out) | exact HB.out)) hb); clear HO319; clear HO324; clear BK309; clear HB; have HO319 := n0_; have HO324 := n1_; have HO327 := n2_; have BK309 := n3_; have HB := n4_; clear n0_ n1_ n2_ n3_ n4_; (try clear hb); (try clear hb2); (try clear hk); (try clear hi); (try clear ho0); obtain ⟨Ao45, co45, eo45⟩ := Kd.R_slice HO324.out; subst eo45) | (go_at_call 11; (with_reducible refine (graph_Begin.calls _ _ la _ _ t320 t328 _ ?side1 ?side2 ?side3 ?side4 A25.out).mono ?_); (case side1 => repeat (first | exact HRA.out | (with_reducible refine Kd.C_alloc ?_ _) | (with_reducible refine Kd.C_drewN ?_ _) | (with_reducible refine Kd.C_drew ?_))); (case side2 => exact HCA.out); (case side3 => repeat (first | exact (Kd.R_reads' HO324.out).2.2 | (with_reducible refine Kd.C_alloc ?_ _) | (with_reducible refine Kd.C_drewN ?_ _) | (with_reducible refine Kd.C_drew ?_))); (case side4 => exact (Kd.R_reads' HO324.out).2.1); rintro e w46 ⟨v329, rfl, ho0, hb⟩; have nA_ := Aside0.mk (Kd.C_below (by repeat (first | exact HRA.out | (with_reducible refine Kd.C_alloc ?_ _) | (with_reducible refine Kd.C_drewN ?_ _) | (with_reducible refine Kd.C_drew ?_))) hb); clear HRA; have HRA := nA_; clear nA_; have n0_ := Aside0.mk (Kd.R_elder' (by (with_reducible repeat (first | apply Kd.R_alloc | apply Kd.R_drewN | apply Kd.R_drew)); exact HO319.out) (Kd.R_base ho0) hb); have n1_ := Aside0.mk (Kd.R_elder' (by (with_reducible repeat (first | apply Kd.R_alloc | apply Kd.R_drewN | apply Kd.R_drew)); exact HO324.out) (Kd.R_base ho0) hb); have n2_ := Aside0.mk (Kd.R_elder' (by (with_reducible repeat (first | apply Kd.R_alloc | apply Kd.R_drewN | apply Kd.R_drew)); exact HO327.out) (Kd.R_base ho0) hb); have n3_ := Aside0.mk (Kd.R_lower (Kd.R_new' (Kd.R_new' (Kd.R_new' ho0 (Kd.R_lt (by (with_reducible repeat (first | apply Kd.R_alloc | apply Kd.R_drewN | apply Kd.R_drew)); exact HO319.out))) (Kd.R_lt (by (with_reducible repeat (first | apply Kd.R_alloc | apply Kd.R_drewN | apply Kd.R_drew)); exact HO324.out))) (Kd.R_lt (by (with_reducible repeat (first | apply Kd.R_alloc | apply Kd.R_drewN | apply Kd.R_drew)); exact HO327.out))) (below_size (by repeat (first | (with_reducible first | exact HB.out | apply below_alloc | apply pw_below_drewN | apply below_drew1 | refine below_set ?_ GE309.out) | exact HB.out)))); have n4_ := Aside0.mk (blk_below (g := gb309) (o := .cells #[.string a2_0, .slice A2_1 l2_1.length c2_1, .slice A2_2 l2_2.length c2_2, .slice A2_3 l2_3.length c2_3, .slice A2_4 l2_4.length c2_4, .slice A2_5 l2_5.length c2_5, .slice A2_6 l2_6.length c2_6] 29 (0, 0)) (by (with_reducible repeat (first | refine blk_drewN ?_ _ | refine blk_drew ?_ | refine blk_alloc ?_ _)); exact BK309.out) hb); have n5_ := Aside0.mk (below_step (by repeat (first | (with_reducible first | exact HB.out | apply below_alloc | apply pw_below_drewN | apply below_drew1 | refine below_set ?_ GE309.out) | exact HB.out)) hb); clear HO319; clear HO324; clear HO327; clear BK309; clear HB; have HO319 := n0_; have HO324 := n1_; have HO327 := n2_; have HO330 := n3_; have BK309 := n4_; have HB := n5_; clear n0_ n1_ n2_ n3_ n4_ n5_; (try clear hb); (try clear hb2); (try clear hk); (try clear hi); (try clear ho0)) | (go_at_call 12; (with_reducible refine (curtilageref10_Numbers.calls k2 _ _ t315 _ _ t320 true _ ?side1 ?side2 ?side3 ?side4 A29.out).mono ?_); (case side1 => repeat (first | exact (Kd.R_reads' HO319.out).2.2 | (with_reducible refine Kd.C_alloc ?_ _) | (with_reducible refine Kd.C_drewN ?_ _) | (with_reducible refine Kd.C_drew ?_))); (case side2 => exact (Kd.R_reads' HO319.out).2.1); (case side3 => repeat (first | exact (Kd.R_reads' HO324.out).2.2 | (with_reducible refine Kd.C_alloc ?_ _) | (with_reducible refine Kd.C_drewN ?_ _) | (with_reducible refine Kd.C_drew ?_))); (case side4 => exact (Kd.R_reads' HO324.out).2.1); rintro e w' ⟨rfl, ⟨nd, rfl⟩⟩; (try first | exact ⟨rfl, _, World.drewN_drewN _ _ _⟩ | exact ⟨rfl, _, Eq.trans (World.drewN_drewN _ _ _) (congrArg (World.drewN _) (Nat.add_assoc _ _ _))⟩))))
                        go_ret
                        exact ⟨by first | rfl | (simp [errW_none, errW_some] <;> rfl) | (simp [*, errW_none, errW_some] <;> rfl), by repeat (first | (with_reducible first | exact HB.out | apply below_alloc | apply pw_below_drewN | apply below_drew1 | refine below_set ?_ GE309.out) | exact HB.out)⟩
                    · replace c30 := Bool.eq_false_iff.mpr c30
                      subst c30
                      have H1 : (some false) = some r := by rw [if_neg (show ¬ (false = true) by decide)] at H; exact H
                      clear H
                      have H := H1
                      clear H1
                      exact absurd ((Option.some.inj H).trans HT.out) (by decide)
                  · rw [if_neg c28] at H
                    have c28b0 : (t316.toList == t321.toList) = false := beq_eq_false_iff_ne.mpr c28
                    have c28b1 : (t316.toList != t321.toList) = true := bne_iff_ne.mpr c28
                    exact absurd ((Option.some.inj H).trans HT.out) (by decide)
                · rw [if_neg c27] at H
                  have c27b0 : (t317 == t322) = false := beq_eq_false_iff_ne.mpr c27
                  have c27b1 : (t317 != t322) = true := bne_iff_ne.mpr c27
                  exact absurd ((Option.some.inj H).trans HT.out) (by decide)
              · replace c26 := Bool.eq_false_iff.mpr c26
                subst c26
                have H1 : (some false) = some r := by rw [if_neg (show ¬ (false = true) by decide)] at H; exact H
                clear H
                have H := H1
                clear H1
                exact absurd ((Option.some.inj H).trans HT.out) (by decide)

end Go.Proofs.Ytndmfjdoekdleaa.P
