/- What functions of the program, and of its laws, give, each proved of its code by a walk; no condition. -/
import Derived.Test.YtociaidhgefpiaaKDlPlaysPx0
import Derived.Test.YtociaidhgefpiaaKDlPlaysPx1
import Derived.Test.YtociaidhgefpiaaKDlPlaysPx13
import Derived.Test.YtociaidhgefpiaaKDlPlaysSq
import Derived.Test.YtociaidhgefpiaaKDlPlaysUsh
namespace Go.Proofs.Ytociaidhgefpiaa.P
open Go.RowKit Go.Proofs.YtociaidhgefpiaaW.PrintWords Go.Proofs.YtociaidhgefpiaaW.PrintLast Go.Proofs.YtociaidhgefpiaaW.PrintMore
attribute [local go_sem] max2_int min2_int max_two min_two max_three min_three max_four min_four   -- for this text's walks alone
set_option linter.unusedVariables false
set_option linter.unusedSimpArgs false

mutual
def curtilageref21_Close.l0 : Nat → List (S38) → Int → Int → Int → List Int → List Int → Option (List Int × List Int × List Int × Int)
  | 0, _, _, _, _, _, _ => none
  | k + 1, x0, x9, x10, x11, x798000, x798001 => if x11 < (x798001.length : Int) then (if 0 ≤ x11 then (if (rd x798001 x11) = x9 then (curtilageref21_Close.l0 k x0 x9 x11 (wrap64 (x11 + 1)) x798000 x798001) else (curtilageref21_Close.l0 k x0 x9 x10 (wrap64 (x11 + 1)) x798000 x798001)) else (none)) else (if x9 < 0 then (curtilageref21_Close.j1 k x0 x10 true x798000 x798001) else (curtilageref21_Close.j1 k x0 x10 (x10 == 0) x798000 x798001))
def curtilageref21_Close.j1 : Nat → List (S38) → Int → Bool → List Int → List Int → Option (List Int × List Int × List Int × Int)
  | 0, _, _, _, _, _ => none
  | k + 1, x0, x10, x40, x798000, x798001 => if x40 = true then (some (x798000, x798001, ([] : List Int), 210)) else (curtilageref21_Close.l1 k x0 x10 0 x798000 x798001 ([] : List Int))
def curtilageref21_Close.l1 : Nat → List (S38) → Int → Int → List Int → List Int → List Int → Option (List Int × List Int × List Int × Int)
  | 0, _, _, _, _, _, _ => none
  | k + 1, x0, x10, x13, x798000, x798001, x802001 => if x13 < (x798001.length : Int) then (if x13 = x10 then (curtilageref21_Close.l1 k x0 x10 (wrap64 (x13 + 1)) x798000 x798001 x802001) else (if 0 ≤ x13 then (if x802001.length < 17592186044416 then (curtilageref21_Close.l1 k x0 x10 (wrap64 (x13 + 1)) x798000 x798001 (x802001 ++ [rd x798001 x13])) else (none)) else (none))) else (curtilageref21_Close.l2 k x0 ([] : List Int) 0 x798000 x798001 ([] : List Int) x802001)
def curtilageref21_Close.l2 : Nat → List (S38) → List Int → Int → List Int → List Int → List Int → List Int → Option (List Int × List Int × List Int × Int)
  | 0, _, _, _, _, _, _, _ => none
  | k + 1, x0, x14, x15, x798000, x798001, x802000, x802001 => if x15 < (x798000.length : Int) then (if 0 ≤ x15 then ((curtilageref21_Needed.f k x0 x802001 (rd x798000 x15)).bind fun t807 => (if t807 = true then (if x802000.length < 17592186044416 then (curtilageref21_Close.l2 k x0 x14 (wrap64 (x15 + 1)) x798000 x798001 (x802000 ++ [rd x798000 x15]) x802001) else (none)) else ((some (([rd x798000 x15] : List Int) : List Int)).bind fun y813 => (if y813.length + x14.length < 17592186044416 then (curtilageref21_Close.l2 k x0 (y813 ++ x14) (wrap64 (x15 + 1)) x798000 x798001 x802000 x802001) else (none))))) else (none)) else (some (x802000, x802001, x14, 0))
end
def curtilageref21_Close.f (k : Nat) (l0 : List (S38)) (l1_0 : List Int) (l1_1 : List Int) (a2 : ByteArray) : Option (List Int × List Int × List Int × Int) := (curtilageref13_Find.f k l0 a2).bind fun t799 => (curtilageref21_Close.l0 k l0 t799 0 1 l1_0 l1_1)
theorem curtilageref21_Close.mono_l : ∀ k, (∀ y0 y1 y2 y3 y4 y5, LeO (curtilageref21_Close.l0 k y0 y1 y2 y3 y4 y5) (curtilageref21_Close.l0 (k + 1) y0 y1 y2 y3 y4 y5)) ∧ (∀ y0 y1 y2 y3 y4, LeO (curtilageref21_Close.j1 k y0 y1 y2 y3 y4) (curtilageref21_Close.j1 (k + 1) y0 y1 y2 y3 y4)) ∧ (∀ y0 y1 y2 y3 y4 y5, LeO (curtilageref21_Close.l1 k y0 y1 y2 y3 y4 y5) (curtilageref21_Close.l1 (k + 1) y0 y1 y2 y3 y4 y5)) ∧ (∀ y0 y1 y2 y3 y4 y5 y6, LeO (curtilageref21_Close.l2 k y0 y1 y2 y3 y4 y5 y6) (curtilageref21_Close.l2 (k + 1) y0 y1 y2 y3 y4 y5 y6))
  | 0 => ⟨fun _ _ _ _ _ _ r h => by simp [curtilageref21_Close.l0] at h, fun _ _ _ _ _ r h => by simp [curtilageref21_Close.j1] at h, fun _ _ _ _ _ _ r h => by simp [curtilageref21_Close.l1] at h, fun _ _ _ _ _ _ _ r h => by simp [curtilageref21_Close.l2] at h⟩
  | k + 1 => by
    obtain ⟨ih0, ih1, ih2, ih3⟩ := curtilageref21_Close.mono_l k
    refine ⟨?_, ?_, ?_, ?_⟩
    · intro y0 y1 y2 y3 y4 y5
      unfold curtilageref21_Close.l0
      repeat' first
      | (with_reducible exact ih0 _ _ _ _ _ _)
      | (with_reducible exact ih1 _ _ _ _ _)
      | (with_reducible exact ih2 _ _ _ _ _ _)
      | (with_reducible exact ih3 _ _ _ _ _ _ _)
      | (with_reducible exact curtilageref13_Find.mono _ _ _)
      | (with_reducible exact curtilageref21_Needed.mono _ _ _ _)
      | (with_reducible exact LeO.refl _)
      | (with_reducible exact LeO.none _)
      | (with_reducible refine LeO.ite ?_ ?_)
      | (with_reducible refine LeO.bind ?_ (fun _ => ?_))
      | exact ih0 _ _ _ _ _ _
      | exact ih1 _ _ _ _ _
      | exact ih2 _ _ _ _ _ _
      | exact ih3 _ _ _ _ _ _ _
      | exact curtilageref13_Find.mono _ _ _
      | exact curtilageref21_Needed.mono _ _ _ _
      | exact LeO.none _
      | refine LeO.ite ?_ ?_
      | refine LeO.bind ?_ (fun _ => ?_)
    · intro y0 y1 y2 y3 y4
      unfold curtilageref21_Close.j1
      repeat' first
      | (with_reducible exact ih0 _ _ _ _ _ _)
      | (with_reducible exact ih1 _ _ _ _ _)
      | (with_reducible exact ih2 _ _ _ _ _ _)
      | (with_reducible exact ih3 _ _ _ _ _ _ _)
      | (with_reducible exact curtilageref13_Find.mono _ _ _)
      | (with_reducible exact curtilageref21_Needed.mono _ _ _ _)
      | (with_reducible exact LeO.refl _)
      | (with_reducible exact LeO.none _)
      | (with_reducible refine LeO.ite ?_ ?_)
      | (with_reducible refine LeO.bind ?_ (fun _ => ?_))
      | exact ih0 _ _ _ _ _ _
      | exact ih1 _ _ _ _ _
      | exact ih2 _ _ _ _ _ _
      | exact ih3 _ _ _ _ _ _ _
      | exact curtilageref13_Find.mono _ _ _
      | exact curtilageref21_Needed.mono _ _ _ _
      | exact LeO.none _
      | refine LeO.ite ?_ ?_
      | refine LeO.bind ?_ (fun _ => ?_)
    · intro y0 y1 y2 y3 y4 y5
      unfold curtilageref21_Close.l1
      repeat' first
      | (with_reducible exact ih0 _ _ _ _ _ _)
      | (with_reducible exact ih1 _ _ _ _ _)
      | (with_reducible exact ih2 _ _ _ _ _ _)
      | (with_reducible exact ih3 _ _ _ _ _ _ _)
      | (with_reducible exact curtilageref13_Find.mono _ _ _)
      | (with_reducible exact curtilageref21_Needed.mono _ _ _ _)
      | (with_reducible exact LeO.refl _)
      | (with_reducible exact LeO.none _)
      | (with_reducible refine LeO.ite ?_ ?_)
      | (with_reducible refine LeO.bind ?_ (fun _ => ?_))
      | exact ih0 _ _ _ _ _ _
      | exact ih1 _ _ _ _ _
      | exact ih2 _ _ _ _ _ _
      | exact ih3 _ _ _ _ _ _ _
      | exact curtilageref13_Find.mono _ _ _
      | exact curtilageref21_Needed.mono _ _ _ _
      | exact LeO.none _
      | refine LeO.ite ?_ ?_
      | refine LeO.bind ?_ (fun _ => ?_)
    · intro y0 y1 y2 y3 y4 y5 y6
      unfold curtilageref21_Close.l2
      repeat' first
      | (with_reducible exact ih0 _ _ _ _ _ _)
      | (with_reducible exact ih1 _ _ _ _ _)
      | (with_reducible exact ih2 _ _ _ _ _ _)
      | (with_reducible exact ih3 _ _ _ _ _ _ _)
      | (with_reducible exact curtilageref13_Find.mono _ _ _)
      | (with_reducible exact curtilageref21_Needed.mono _ _ _ _)
      | (with_reducible exact LeO.refl _)
      | (with_reducible exact LeO.none _)
      | (with_reducible refine LeO.ite ?_ ?_)
      | (with_reducible refine LeO.bind ?_ (fun _ => ?_))
      | exact ih0 _ _ _ _ _ _
      | exact ih1 _ _ _ _ _
      | exact ih2 _ _ _ _ _ _
      | exact ih3 _ _ _ _ _ _ _
      | exact curtilageref13_Find.mono _ _ _
      | exact curtilageref21_Needed.mono _ _ _ _
      | exact LeO.none _
      | refine LeO.ite ?_ ?_
      | refine LeO.bind ?_ (fun _ => ?_)
theorem curtilageref21_Close.mono : ∀ a0 a1 a2 a3 k, LeO (curtilageref21_Close.f k a0 a1 a2 a3) (curtilageref21_Close.f (k + 1) a0 a1 a2 a3) := by
  intro a0 a1 a2 a3 k
  obtain ⟨ih0, ih1, ih2, ih3⟩ := curtilageref21_Close.mono_l k
  unfold curtilageref21_Close.f
  repeat' first
      | (with_reducible exact ih0 _ _ _ _ _ _)
      | (with_reducible exact ih1 _ _ _ _ _)
      | (with_reducible exact ih2 _ _ _ _ _ _)
      | (with_reducible exact ih3 _ _ _ _ _ _ _)
      | (with_reducible exact curtilageref13_Find.mono _ _ _)
      | (with_reducible exact curtilageref21_Needed.mono _ _ _ _)
      | (with_reducible exact LeO.refl _)
      | (with_reducible exact LeO.none _)
      | (with_reducible refine LeO.ite ?_ ?_)
      | (with_reducible refine LeO.bind ?_ (fun _ => ?_))
      | exact ih0 _ _ _ _ _ _
      | exact ih1 _ _ _ _ _
      | exact ih2 _ _ _ _ _ _
      | exact ih3 _ _ _ _ _ _ _
      | exact curtilageref13_Find.mono _ _ _
      | exact curtilageref21_Needed.mono _ _ _ _
      | exact LeO.none _
      | refine LeO.ite ?_ ?_
      | refine LeO.bind ?_ (fun _ => ?_)
def curtilageref21_Close.T15 : Bool × List (List Nat × List Nat) := (true, [([], []), ([0], [0]), ([], []), ([2], [2]), ([], []), ([3, 4], [3, 4]), ([5], [5]), ([6], [6]), ([1, 7], [1, 7]), ([0, 1, 2, 3, 4, 5, 6, 7, 8], []), ([9, 8, 8, 0, 1, 2, 3, 4, 5, 6, 7, 8], [8, 9])])
def curtilageref21_Close.B15 : List Nat := [0, 1, 0, 4, 0, 28, 60, 124, 255, 511, 1023]
theorem curtilageref21_Close.tab15 : rtab .any (opsOf Try.f25 15) = curtilageref21_Close.T15 := by kernel_rfl
theorem curtilageref21_Close.bits15 : waitsOk curtilageref21_Close.T15.2 curtilageref21_Close.B15 = true := by kernel_rfl
def curtilageref21_Close.T20 : Bool × List (List Nat × List Nat) := (true, [([], []), ([], []), ([1], [1]), ([], []), ([3], [3]), ([], []), ([4, 5], [4, 5]), ([6], [6]), ([0, 2, 7], [0, 2, 7]), ([8, 8, 0, 1, 2, 3, 4, 5, 6, 7, 8], [8])])
def curtilageref21_Close.B20 : List Nat := [0, 0, 2, 0, 8, 0, 56, 120, 255, 511]
theorem curtilageref21_Close.tab20 : rtab .any (opsOf Try.f25 20) = curtilageref21_Close.T20 := by kernel_rfl
theorem curtilageref21_Close.bits20 : waitsOk curtilageref21_Close.T20.2 curtilageref21_Close.B20 = true := by kernel_rfl
def curtilageref21_Close.T22 : Bool × List (List Nat × List Nat) := (true, [([], []), ([0], [0]), ([], []), ([2], [2]), ([], []), ([3, 4], [3, 4]), ([5], [5]), ([6], [6]), ([1, 7], [1, 7]), ([0, 1, 2, 3, 4, 5, 6, 7, 8], []), ([9, 8, 8, 0, 1, 2, 3, 4, 5, 6, 7, 8], [8, 9])])
def curtilageref21_Close.B22 : List Nat := [0, 1, 0, 4, 0, 28, 60, 124, 255, 511, 1023]
theorem curtilageref21_Close.tab22 : rtab .any (opsOf Try.f25 22) = curtilageref21_Close.T22 := by kernel_rfl
theorem curtilageref21_Close.bits22 : waitsOk curtilageref21_Close.T22.2 curtilageref21_Close.B22 = true := by kernel_rfl
set_option maxHeartbeats 8000000 in
set_option maxRecDepth 100000 in
theorem curtilageref21_Close.calls (k : Nat) (A0 : Option Addr) (c0 : Nat) (l0 : List (S38)) (P1_0_ : Nat → Prop) (u9000_ : Value) (l1_0 : List Int) (P1_1_ : Nat → Prop) (u9001_ : Value) (l1_1 : List Int) (a2 : ByteArray) (r1 : List Int) (r2 : List Int) (r3 : List Int) (r4 : Int) (w0 w : World) (hB : Below w0.heap.size w0 w) (hr0 : ∀ W_, Kept w W_ (fun k_ => P1_0_ k_ ∨ P1_1_ k_) → Kd.C k38 W_ A0 l0.length l0) (hc0 : l0.length ≤ c0) (ho1_0 : Kd.R (Kd.int .i64) 3 w w0.heap.size P1_0_ u9000_ l1_0) (hp1_0_1_1 : ∀ k_, P1_0_ k_ → ¬ P1_1_ k_) (ho1_1 : Kd.R (Kd.int .i64) 3 w w0.heap.size P1_1_ u9001_ l1_1) (hp1_1_1_0 : ∀ k_, P1_1_ k_ → ¬ P1_0_ k_) (h : curtilageref21_Close.f k l0 l1_0 l1_1 a2 = some (r1, r2, r3, r4)) :
  Calls Try.prog 25 #[.slice A0 l0.length c0, .agg #[u9000_, u9001_], .string a2] w fun e w' => ∃ v0_ v1_ v2_ : Value, e = .returned (.tuple #[.agg #[v0_, v1_], v2_, .int .i64 r4]) ∧ Kd.R (Kd.int .i64) 3 w' w0.heap.size (fun k_ => ((P1_0_ k_ ∨ P1_1_ k_) ∨ w.heap.size ≤ k_) ∧ nv k_ v1_ ∧ nv k_ v2_) v0_ r1 ∧ Kd.R (Kd.int .i64) 3 w' w0.heap.size (fun k_ => ((P1_0_ k_ ∨ P1_1_ k_) ∨ w.heap.size ≤ k_) ∧ nv k_ v0_ ∧ nv k_ v2_) v1_ r2 ∧ Kd.R (Kd.int .i64) 3 w' w0.heap.size (fun k_ => ((P1_0_ k_ ∨ P1_1_ k_) ∨ w.heap.size ≤ k_) ∧ nv k_ v0_ ∧ nv k_ v1_) v2_ r3 ∧ Below w0.heap.size w0 w' ∧ Kept w w' (fun k_ => P1_0_ k_ ∨ P1_1_ k_) := by
 have hu53 := Try.underlying53
 have HR0 := am hr0
 have HC0 := am hc0
 clear hr0 hc0
 have HO1_0 := am (show Kd.R (Kd.int .i64) 3 w w0.heap.size (fun k_ => ((P1_0_ k_ ∨ P1_1_ k_) ∨ w.heap.size ≤ k_) ∧ nv k_ u9001_) u9000_ l1_0 from Kd.R_mono ho1_0 (fun k_ hk => ⟨(.inl (.inl hk)), fun e_ => hp1_0_1_1 k_ hk (ho1_1.1 k_ e_.symm)⟩))
 have HO1_1 := am (show Kd.R (Kd.int .i64) 3 w w0.heap.size (fun k_ => ((P1_0_ k_ ∨ P1_1_ k_) ∨ w.heap.size ≤ k_) ∧ nv k_ u9000_) u9001_ l1_1 from Kd.R_mono ho1_1 (fun k_ hk => ⟨(.inl (.inr hk)), fun e_ => hp1_1_1_0 k_ hk (ho1_0.1 k_ e_.symm)⟩))
 have HK := am (Kept.refl w (fun k_ => P1_0_ k_ ∨ P1_1_ k_))
 have HW0 := am hB.size
 have HB := am hB
 clear hB
 have H : ((curtilageref13_Find.f k l0 a2).bind fun t799 => (curtilageref21_Close.l0 k l0 t799 0 1 l1_0 l1_1)) = some (r1, r2, r3, r4) := h
 clear h
 replace H := Option.bind_eq_some_iff.mp H
 obtain ⟨t799, A40, H⟩ := H
 replace H : (curtilageref21_Close.l0 k l0 t799 0 1 l1_0 l1_1) = some (r1, r2, r3, r4) := H
 have A4 := am A40
 clear A40
 have H' := am H
 clear H
 obtain ⟨Ao5, co5, eo5⟩ := Kd.R_slice HO1_0.out
 subst eo5
 obtain ⟨Ao6, co6, eo6⟩ := Kd.R_slice HO1_1.out
 subst eo6
 go_enter Try.func25, Try.ntmps25
 go_wp2_with (first | ((with_reducible refine gate_dst (N := 4) rfl ?_); refine box_event ?hg (N := 4) ?hd (cs := #[.slice Ao5 l1_0.length co5, .slice Ao6 l1_1.length co6]) (t := 53) ?hr ?_; (case hd => rfl); (case hg => rfl); (case hr => first | (go_simp; done) | (go_simp; rfl)); intro gb797 hg w7 hbox hb; have n0_ := am (Kd.R_below (ua HO1_0.out) hb); have n1_ := am (Kd.R_below (ua HO1_1.out) hb); have n2_ := am (Kept.below (S := (fun k_ => P1_0_ k_ ∨ P1_1_ k_)) (uk HK.out) hb); have n3_ := am (below_step (uc HB.out) hb); have n4_ := am (hbox); have n5_ := am ((by rw [hg]; exact (by first | exact HK.out.1 | exact (show Kept w _ (fun k_ => P1_0_ k_ ∨ P1_1_ k_) from uk HK.out).1) : w.heap.size ≤ gb797)); have n6_ := am ((by rw [hg]; exact (below_size (uc HB.out)) : w0.heap.size ≤ gb797)); revert n0_ n1_ n2_ n3_ n4_ n5_ n6_; clear HO1_0 HO1_1 HK HB; intro HO1_0 HO1_1 HK HB BK797 GW797 GE797; clear hb hbox hg) | ((with_reducible refine gate_dst (N := 6) rfl ?_); refine box_event ?hg (N := 6) ?hd (cs := #[.slice none 0 0, .slice none 0 0]) (t := 53) ?hr ?_; (case hd => rfl); (case hg => rfl); (case hr => first | (go_simp; done) | (go_simp; rfl)); intro gb798 hg w8 hbox hb; have n0_ := am (Kd.R_below (ua HO1_0.out) hb); have n1_ := am (Kd.R_below (ua HO1_1.out) hb); have n2_ := am (blk_below (g := gb797) (o := .cells #[.slice Ao5 l1_0.length co5, .slice Ao6 l1_1.length co6] 53 (0, 0)) (ub BK797.out) hb); have n3_ := am (Kept.below (S := (fun k_ => P1_0_ k_ ∨ P1_1_ k_)) (uk HK.out) hb); have n4_ := am (below_step (uc HB.out) hb); have n5_ := am (hbox); have n6_ := am ((by rw [hg]; exact (by first | exact HK.out.1 | exact (show Kept w _ (fun k_ => P1_0_ k_ ∨ P1_1_ k_) from uk HK.out).1) : w.heap.size ≤ gb798)); have n7_ := am ((by rw [hg]; exact (below_size (uc HB.out)) : w0.heap.size ≤ gb798)); have n8_ := am ((by rw [hg]; exact Nat.ne_of_lt (blk_lt (g := gb797) (o := .cells #[.slice Ao5 l1_0.length co5, .slice Ao6 l1_1.length co6] 53 (0, 0)) (ub BK797.out)) : gb797 ≠ gb798)); have n9_ := am ((by rw [hg]; exact Nat.ne_of_gt (blk_lt (g := gb797) (o := .cells #[.slice Ao5 l1_0.length co5, .slice Ao6 l1_1.length co6] 53 (0, 0)) (ub BK797.out)) : gb798 ≠ gb797)); revert n0_ n1_ n2_ n3_ n4_ n5_ n6_ n7_ n8_ n9_; clear HO1_0 HO1_1 BK797 HK HB; intro HO1_0 HO1_1 BK797 HK HB BK798 GW798 GE798 NB797_798 NB798_797; clear hb hbox hg) | ((with_reducible refine gate_dst (N := 19) rfl ?_); (with_reducible refine gate_callee (f := 21) rfl ?_); refine gl (some 19) Try.func21 #[.slice A0 l0.length c0, .string a2] ?_; (with_reducible refine (curtilageref13_Find.calls k _ _ l0 a2 t799 _ ?side1 ?side2 A4.out).mono ?_); (case side1 => exact Kd.C_kept_now HR0.out (uk HK.out)); (case side2 => exact HC0.out); rintro e w' ⟨rfl, ⟨nd, rfl⟩⟩; refine ⟨_, rfl, ?_⟩))
 go_loopg [10, 11] k (fun kq v10 v11 w' => ∃ (x10_1 : Int) (x11_1 : Int), v10 = .int .i64 x10_1 ∧ v11 = .int .i64 x11_1 ∧ Aside0 (curtilageref21_Close.l0 kq l0 t799 x10_1 x11_1 l1_0 l1_1 = some (r1, r2, r3, r4)) ∧ Aside0 (kq ≤ k) ∧ Aside0 (Kd.R (Kd.int .i64) 3 w' w0.heap.size (fun k_ => ((P1_0_ k_ ∨ P1_1_ k_) ∨ w.heap.size ≤ k_) ∧ some k_ ≠ ((.slice Ao6 l1_1.length co6) : Value).ownBlock) (.slice Ao5 l1_0.length co5) l1_0) ∧ Aside0 (Kd.R (Kd.int .i64) 3 w' w0.heap.size (fun k_ => ((P1_0_ k_ ∨ P1_1_ k_) ∨ w.heap.size ≤ k_) ∧ some k_ ≠ ((.slice Ao5 l1_0.length co5) : Value).ownBlock) (.slice Ao6 l1_1.length co6) l1_1) ∧ Aside0 (w'.heap[gb797]? = some (.cells #[(.slice Ao5 l1_0.length co5), (.slice Ao6 l1_1.length co6)] 53 (0, 0))) ∧ Aside0 (w'.heap[gb798]? = some (.cells #[(.slice none 0 0), (.slice none 0 0)] 53 (0, 0))) ∧ Aside0 (Kept w w' (fun k_ => P1_0_ k_ ∨ P1_1_ k_)) ∧ Aside0 (Below w0.heap.size w0 w'))
 case atStart => exact ⟨(0), (1), uf, uf, H', ⟨Nat.le_refl _⟩, ⟨ua HO1_0.out⟩, ⟨ua HO1_1.out⟩, ⟨ub BK797.out⟩, ⟨ub BK798.out⟩, ⟨uk HK.out⟩, ⟨uc HB.out⟩⟩
 case round =>
  clear H'
  try clear p1
  try clear c2
  try clear p2
  obtain ⟨x10_1, x11_1, rfl, rfl, HA, HK1, HO_798000, HO_798001, BK797, BK798, HK, HB⟩ := hrel
  cases gk with
  | zero => exact absurd HA.out (by simp [curtilageref21_Close.l0])
  | succ k1 =>
   have H := HA.out
   clear HA
   simp only [curtilageref21_Close.l0] at H
   by_cases c9 : x11_1 < (l1_1.length : Int)
   ·rw [if_pos c9] at H
    have c9b0 : decide (x11_1 < (l1_1.length : Int)) = true := decide_eq_true c9
    clear c9
    by_cases c10 : 0 ≤ x11_1
    ·rw [if_pos c10] at H
     have c10b0 : decide (0 ≤ x11_1) = true := decide_eq_true c10
     clear c10
     by_cases c11 : (rd l1_1 x11_1) = t799
     ·rw [if_pos c11] at H
      have c11b0 : ((rd l1_1 x11_1) == t799) = true := beq_iff_eq.mpr c11
      have c11b1 : ((rd l1_1 x11_1) != t799) = false := bne_eq_false_iff_eq.mpr c11
      clear c11
      have H' := am H
      clear H
      have hnb12 := NB797_798.out
      have hnc12 := NB798_797.out
      have hcz13_0 : wr.cell? ⟨gb797, 0, none⟩ = some (.slice Ao5 l1_0.length co5) := (blk_cell BK797.out 0).trans rfl
      have hcz13_1 : wr.cell? ⟨gb797, 1, none⟩ = some (.slice Ao6 l1_1.length co6) := (blk_cell BK797.out 1).trans rfl
      have hfz13_0 := blk_frozen BK797.out 0
      have hfz13_1 := blk_frozen BK797.out 1
      have p800 : 0 ≤ (x11_1 : Int) := ud
      have q800 : x11_1 < (l1_1.length : Int) := ud
      obtain ⟨ad800, e800, hx800_0⟩ := Kd.at_int (Kd.R_reads' HO_798001.out).2.2 x11_1 p800 q800
      cases e800
      replace p800 := eq_true p800
      replace q800 := eq_true q800
      go_wp2
      go_roundg k1
      case measure => have := HK1.out; omega
      case rel => exact ⟨(x11_1), (wrap64 (x11_1 + 1)), uf, uf, H', ⟨by have := HK1.out; omega⟩, ⟨ua HO_798000.out⟩, ⟨ua HO_798001.out⟩, ⟨ub BK797.out⟩, ⟨ub BK798.out⟩, ⟨uk HK.out⟩, ⟨uc HB.out⟩⟩
     ·rw [if_neg c11] at H
      have c11b0 : ((rd l1_1 x11_1) == t799) = false := beq_eq_false_iff_ne.mpr c11
      have c11b1 : ((rd l1_1 x11_1) != t799) = true := bne_iff_ne.mpr c11
      have H' := am H
      clear H
      have hnb14 := NB797_798.out
      have hnc14 := NB798_797.out
      have hcz15_0 : wr.cell? ⟨gb797, 0, none⟩ = some (.slice Ao5 l1_0.length co5) := (blk_cell BK797.out 0).trans rfl
      have hcz15_1 : wr.cell? ⟨gb797, 1, none⟩ = some (.slice Ao6 l1_1.length co6) := (blk_cell BK797.out 1).trans rfl
      have hfz15_0 := blk_frozen BK797.out 0
      have hfz15_1 := blk_frozen BK797.out 1
      have p800 : 0 ≤ (x11_1 : Int) := ud
      have q800 : x11_1 < (l1_1.length : Int) := ud
      obtain ⟨ad800, e800, hx800_0⟩ := Kd.at_int (Kd.R_reads' HO_798001.out).2.2 x11_1 p800 q800
      cases e800
      replace p800 := eq_true p800
      replace q800 := eq_true q800
      go_wp2
      go_roundg k1
      case measure => have := HK1.out; omega
      case rel => exact ⟨(x10_1), (wrap64 (x11_1 + 1)), uf, uf, H', ⟨by have := HK1.out; omega⟩, ⟨ua HO_798000.out⟩, ⟨ua HO_798001.out⟩, ⟨ub BK797.out⟩, ⟨ub BK798.out⟩, ⟨uk HK.out⟩, ⟨uc HB.out⟩⟩
    ·rw [if_neg c10] at H
     exact absurd H (by simp)
   ·rw [if_neg c9] at H
    have c9b0 : decide (x11_1 < (l1_1.length : Int)) = false := decide_eq_false c9
    clear c9
    have HC16 := am H
    clear H
    have hnb17 := NB797_798.out
    have hnc17 := NB798_797.out
    have hcz18_0 : wr.cell? ⟨gb797, 0, none⟩ = some (.slice Ao5 l1_0.length co5) := (blk_cell BK797.out 0).trans rfl
    have hcz18_1 : wr.cell? ⟨gb797, 1, none⟩ = some (.slice Ao6 l1_1.length co6) := (blk_cell BK797.out 1).trans rfl
    have hfz18_0 := blk_frozen BK797.out 0
    have hfz18_1 := blk_frozen BK797.out 1
    go_upto_region 8 with (fail)
    go_cut [40] (fun v40 wc => ∃ (kq : Nat) (x40_15 : Bool), v40 = .bool x40_15 ∧ Aside0 (curtilageref21_Close.j1 kq l0 x10_1 x40_15 l1_0 l1_1 = some (r1, r2, r3, r4)) ∧ Aside0 (kq ≤ k1) ∧ Aside0 (Kd.R (Kd.int .i64) 3 wc w0.heap.size (fun k_ => ((P1_0_ k_ ∨ P1_1_ k_) ∨ w.heap.size ≤ k_) ∧ some k_ ≠ ((.slice Ao6 l1_1.length co6) : Value).ownBlock) (.slice Ao5 l1_0.length co5) l1_0) ∧ Aside0 (Kd.R (Kd.int .i64) 3 wc w0.heap.size (fun k_ => ((P1_0_ k_ ∨ P1_1_ k_) ∨ w.heap.size ≤ k_) ∧ some k_ ≠ ((.slice Ao5 l1_0.length co5) : Value).ownBlock) (.slice Ao6 l1_1.length co6) l1_1) ∧ Aside0 (wc.heap[gb797]? = some (.cells #[(.slice Ao5 l1_0.length co5), (.slice Ao6 l1_1.length co6)] 53 (0, 0))) ∧ Aside0 (wc.heap[gb798]? = some (.cells #[(.slice none 0 0), (.slice none 0 0)] 53 (0, 0))) ∧ Aside0 (Kept w wc (fun k_ => P1_0_ k_ ∨ P1_1_ k_)) ∧ Aside0 (Below w0.heap.size w0 wc))
    case first =>
     have H := HC16.out
     clear HC16
     by_cases c19 : t799 < 0
     ·rw [if_pos c19] at H
      have c19b0 : decide (t799 < 0) = true := decide_eq_true c19
      clear c19
      (first | rw [c19b0] | (simp only [i64_w, i32_w]; rw [c19b0]) | skip)
      have H' := am H
      clear H
      go_wp2
      go_meet
      case rel => exact ⟨_, (true), uf, H', ⟨by have := HK1.out; first | omega | exact Nat.le_refl _⟩, ⟨ua HO_798000.out⟩, ⟨ua HO_798001.out⟩, ⟨ub BK797.out⟩, ⟨ub BK798.out⟩, ⟨uk HK.out⟩, ⟨uc HB.out⟩⟩
     ·rw [if_neg c19] at H
      have c19b0 : decide (t799 < 0) = false := decide_eq_false c19
      clear c19
      (first | rw [c19b0] | (simp only [i64_w, i32_w]; rw [c19b0]) | skip)
      have H' := am H
      clear H
      go_wp2
      go_meet
      case rel => exact ⟨_, ((x10_1 == 0)), uf, H', ⟨by have := HK1.out; first | omega | exact Nat.le_refl _⟩, ⟨ua HO_798000.out⟩, ⟨ua HO_798001.out⟩, ⟨ub BK797.out⟩, ⟨ub BK798.out⟩, ⟨uk HK.out⟩, ⟨uc HB.out⟩⟩
    case rest =>
     clear HC16
     try clear c1
     try clear p1
     try clear c2
     try clear p2
     try clear p6
     try clear p8
     try clear q8
     try clear hx8
     try clear c9
     try clear c9b0
     try clear c10
     try clear c10b0
     try clear c11
     try clear c11b0
     try clear c11b1
     try clear c12
     try clear c14
     try clear c17
     try clear c19
     try clear c19b0
     try clear hcz13_0
     try clear hcz13_1
     try clear hcz15_0
     try clear hcz15_1
     try clear hcz18_0
     try clear hcz18_1
     try clear hfz13_0
     try clear hfz13_1
     try clear hfz15_0
     try clear hfz15_1
     try clear hfz18_0
     try clear hfz18_1
     try clear hx800_0
     try clear p1
     try clear p2
     try clear p800
     try clear q800
     obtain ⟨kq, x40_15, rfl, HA, HJ15, HO_798000, HO_798001, BK797, BK798, HK, HB⟩ := hcut
     cases kq with
     | zero => exact absurd HA.out (by simp [curtilageref21_Close.j1])
     | succ kj15 =>
      have H := HA.out
      clear HA
      simp only [curtilageref21_Close.j1] at H
      by_cases c20 : x40_15 = true
      ·subst c20
       have H1 : (some (l1_0, l1_1, ([] : List Int), 210)) = some (r1, r2, r3, r4) := by rw [if_pos rfl] at H; exact H
       clear H
       have H := H1
       clear H1
       simp only [Option.some.injEq, Prod.mk.injEq] at H
       obtain ⟨rfl, rfl, rfl, rfl⟩ := H
       have hnb21 := NB797_798.out
       have hnc21 := NB798_797.out
       have hcz22_0 : wc.cell? ⟨gb797, 0, none⟩ = some (.slice Ao5 l1_0.length co5) := (blk_cell BK797.out 0).trans rfl
       have hcz22_1 : wc.cell? ⟨gb797, 1, none⟩ = some (.slice Ao6 l1_1.length co6) := (blk_cell BK797.out 1).trans rfl
       have hfz22_0 := blk_frozen BK797.out 0
       have hfz22_1 := blk_frozen BK797.out 1
       have hcz23_0 : wc.cell? ⟨gb798, 0, none⟩ = some (.slice none 0 0) := (blk_cell BK798.out 0).trans rfl
       have hcz23_1 : wc.cell? ⟨gb798, 1, none⟩ = some (.slice none 0 0) := (blk_cell BK798.out 1).trans rfl
       have hfz23_0 := blk_frozen BK798.out 0
       have hfz23_1 := blk_frozen BK798.out 1
       go_wp2_with (first | ((with_reducible refine gate_store (t := 53) (p := 6) rfl ?_); refine store_event (t := 53) (p := 6) (v := ?vo_w24) (w1 := ((wc.setCell ⟨gb798, 0, none⟩ (.slice Ao5 l1_0.length co5)).setCell ⟨gb798, 1, none⟩ (.slice Ao6 l1_1.length co6))) ?hg ?ho ?hn ?hr ?_; (case ho => rfl); (case hg => rfl); (case hn => rfl); (case hr => first | (go_simp; done) | (go_simp; rfl)); intro w24 hw; have n0_ := st2 (fun k_ => ((P1_0_ k_ ∨ P1_1_ k_) ∨ w.heap.size ≤ k_) ∧ nw k_ Ao6 l1_1 co6) hw HO_798000 BK798 (fun _ h => ⟨h.1, h.2⟩); have n1_ := st2 (fun k_ => ((P1_0_ k_ ∨ P1_1_ k_) ∨ w.heap.size ≤ k_) ∧ nw k_ Ao5 l1_0 co5) hw HO_798001 BK798 (fun _ h => ⟨h.1, h.2⟩); have n2_ := bf2 hw NB797_798 BK797; have n3_ := bp2 #[.slice Ao5 l1_0.length co5, .slice Ao6 l1_1.length co6] hw BK798; have n4_ : Aside0 (Kept w w24 (fun k_ => P1_0_ k_ ∨ P1_1_ k_)) := ⟨(by rw [hw]; exact (uk HK.out))⟩; have n5_ : Aside0 (Below w0.heap.size w0 w24) := ⟨(by rw [hw]; exact (uc HB.out))⟩; revert n0_ n1_ n2_ n3_ n4_ n5_; clear hw HO_798000 HO_798001 BK797 BK798 HK HB; intro HO_798000 HO_798001 BK797 BK798 HK HB))
       refine bodyPost_ret (results_ctt rfl _ _ gb798 53 #[.slice Ao5 l1_0.length co5, .slice Ao6 l1_1.length co6] (0, 0) _ rfl (ub BK798.out) Try.underlying53 rfl (by kernel_rfl)) rfl ?_
       exact ⟨_, _, _, by first | rfl | (simp [errW_none, errW_some] <;> rfl) | (simp [*, errW_none, errW_some] <;> rfl), by (with_reducible repeat (first | apply Kd.R_alloc | apply Kd.R_drewN | apply Kd.R_drew)); exact Kd.R_mono HO_798000.out (fun _ hk => ⟨hk.1, ⟨hk.2, (by simp [Value.ownBlock])⟩⟩), by (with_reducible repeat (first | apply Kd.R_alloc | apply Kd.R_drewN | apply Kd.R_drew)); exact Kd.R_mono HO_798001.out (fun _ hk => ⟨hk.1, ⟨hk.2, (by simp [Value.ownBlock])⟩⟩), by first | exact Kd.R_nil _ _ _ _ _ | exact Kd.N_nil _ _ _ _ _ | exact Kd.V_nil _ _ _ _ _ | exact Kd.Q_nil _ _ _ _ _ | exact Kd.S_nil _ _ _ _ _, uc HB.out, uk HK.out⟩
      ·replace c20 := Bool.eq_false_iff.mpr c20
       subst c20
       have H1 : (curtilageref21_Close.l1 kj15 l0 x10_1 0 l1_0 l1_1 ([] : List Int)) = some (r1, r2, r3, r4) := by rw [if_neg (show ¬ (false = true) by decide)] at H; exact H
       clear H
       have H := H1
       clear H1
       have H' := am H
       clear H
       go_wp2_with (first | ((with_reducible refine gate_dst (N := 12) rfl ?_); refine box_event ?hg (N := 12) ?hd (cs := #[.slice none 0 0, .slice none 0 0]) (t := 53) ?hr ?_; (case hd => rfl); (case hg => rfl); (case hr => first | (go_simp; done) | (go_simp; rfl)); intro gb801 hg w25 hbox hb; have n0_ := am (Kd.R_below (ua HO_798000.out) hb); have n1_ := am (Kd.R_below (ua HO_798001.out) hb); have n2_ := am (blk_below (g := gb797) (o := .cells #[.slice Ao5 l1_0.length co5, .slice Ao6 l1_1.length co6] 53 (0, 0)) (ub BK797.out) hb); have n3_ := am (blk_below (g := gb798) (o := .cells #[.slice none 0 0, .slice none 0 0] 53 (0, 0)) (ub BK798.out) hb); have n4_ := am (Kept.below (S := (fun k_ => P1_0_ k_ ∨ P1_1_ k_)) (uk HK.out) hb); have n5_ := am (below_step (uc HB.out) hb); have n6_ := am (hbox); have n7_ := am ((by rw [hg]; exact (by first | exact HK.out.1 | exact (show Kept w _ (fun k_ => P1_0_ k_ ∨ P1_1_ k_) from uk HK.out).1) : w.heap.size ≤ gb801)); have n8_ := am ((by rw [hg]; exact (below_size (uc HB.out)) : w0.heap.size ≤ gb801)); have n9_ := am ((by rw [hg]; exact Nat.ne_of_lt (blk_lt (g := gb797) (o := .cells #[.slice Ao5 l1_0.length co5, .slice Ao6 l1_1.length co6] 53 (0, 0)) (ub BK797.out)) : gb797 ≠ gb801)); have n10_ := am ((by rw [hg]; exact Nat.ne_of_gt (blk_lt (g := gb797) (o := .cells #[.slice Ao5 l1_0.length co5, .slice Ao6 l1_1.length co6] 53 (0, 0)) (ub BK797.out)) : gb801 ≠ gb797)); have n11_ := am ((by rw [hg]; exact Nat.ne_of_lt (blk_lt (g := gb798) (o := .cells #[.slice none 0 0, .slice none 0 0] 53 (0, 0)) (ub BK798.out)) : gb798 ≠ gb801)); have n12_ := am ((by rw [hg]; exact Nat.ne_of_gt (blk_lt (g := gb798) (o := .cells #[.slice none 0 0, .slice none 0 0] 53 (0, 0)) (ub BK798.out)) : gb801 ≠ gb798)); revert n0_ n1_ n2_ n3_ n4_ n5_ n6_ n7_ n8_ n9_ n10_ n11_ n12_; clear HO_798000 HO_798001 BK797 BK798 HK HB; intro HO_798000 HO_798001 BK797 BK798 HK HB BK801 GW801 GE801 NB797_801 NB801_797 NB798_801 NB801_798; clear hb hbox hg; have hnb26 := NB801_797.out; have hnc26 := NB797_801.out; have hnb27 := NB801_798.out; have hnc27 := NB798_801.out; obtain ⟨hcz28_0, hcz28_1, hfz28_0, hfz28_1⟩ := cells2 BK801.out) | ((with_reducible refine gate_store (t := 53) (p := 12) rfl ?_); refine store_event (t := 53) (p := 12) (v := ?vo_w29) (w1 := ((w25.setCell ⟨gb801, 0, none⟩ (.slice none 0 0)).setCell ⟨gb801, 1, none⟩ (.slice none 0 0))) ?hg ?ho ?hn ?hr ?_; (case ho => rfl); (case hg => rfl); (case hn => rfl); (case hr => first | (go_simp; done) | (go_simp; rfl)); intro w29 hw; have n0_ := st2 (fun k_ => ((P1_0_ k_ ∨ P1_1_ k_) ∨ w.heap.size ≤ k_) ∧ nw k_ Ao6 l1_1 co6) hw HO_798000 BK801 (fun _ h => ⟨h.1, h.2⟩); have n1_ := st2 (fun k_ => ((P1_0_ k_ ∨ P1_1_ k_) ∨ w.heap.size ≤ k_) ∧ nw k_ Ao5 l1_0 co5) hw HO_798001 BK801 (fun _ h => ⟨h.1, h.2⟩); have n2_ := bf2 hw NB797_801 BK797; have n3_ := bf2 hw NB798_801 BK798; have n4_ := bp2 #[.slice none 0 0, .slice none 0 0] hw BK801; have n5_ : Aside0 (Kept w w29 (fun k_ => P1_0_ k_ ∨ P1_1_ k_)) := ⟨(by rw [hw]; exact (uk HK.out))⟩; have n6_ : Aside0 (Below w0.heap.size w0 w29) := ⟨(by rw [hw]; exact (uc HB.out))⟩; revert n0_ n1_ n2_ n3_ n4_ n5_ n6_; clear hw HO_798000 HO_798001 BK797 BK798 BK801 HK HB; intro HO_798000 HO_798001 BK797 BK798 BK801 HK HB))
       go_loopg [13] kj15 (fun kq v13 w' => ∃ (x13_3 : Int) (x802001_3 : List Int) (u802001 : Value), v13 = .int .i64 x13_3 ∧ Aside0 (curtilageref21_Close.l1 kq l0 x10_1 x13_3 l1_0 l1_1 x802001_3 = some (r1, r2, r3, r4)) ∧ Aside0 (kq ≤ kj15) ∧ Aside0 (Kd.R (Kd.int .i64) 3 w' w0.heap.size (fun k_ => ((P1_0_ k_ ∨ P1_1_ k_) ∨ w.heap.size ≤ k_) ∧ some k_ ≠ ((.slice Ao6 l1_1.length co6) : Value).ownBlock ∧ nv k_ u802001) (.slice Ao5 l1_0.length co5) l1_0) ∧ Aside0 (Kd.R (Kd.int .i64) 3 w' w0.heap.size (fun k_ => ((P1_0_ k_ ∨ P1_1_ k_) ∨ w.heap.size ≤ k_) ∧ some k_ ≠ ((.slice Ao5 l1_0.length co5) : Value).ownBlock ∧ nv k_ u802001) (.slice Ao6 l1_1.length co6) l1_1) ∧ Aside0 (Kd.R (Kd.int .i64) 3 w' w0.heap.size (fun k_ => ((P1_0_ k_ ∨ P1_1_ k_) ∨ w.heap.size ≤ k_) ∧ some k_ ≠ ((.slice Ao5 l1_0.length co5) : Value).ownBlock ∧ some k_ ≠ ((.slice Ao6 l1_1.length co6) : Value).ownBlock) u802001 x802001_3) ∧ Aside0 (w'.heap[gb797]? = some (.cells #[(.slice Ao5 l1_0.length co5), (.slice Ao6 l1_1.length co6)] 53 (0, 0))) ∧ Aside0 (w'.heap[gb798]? = some (.cells #[(.slice none 0 0), (.slice none 0 0)] 53 (0, 0))) ∧ Aside0 (w'.heap[gb801]? = some (.cells #[(.slice none 0 0), u802001] 53 (0, 0))) ∧ Aside0 (Kept w w' (fun k_ => P1_0_ k_ ∨ P1_1_ k_)) ∧ Aside0 (Below w0.heap.size w0 w'))
       case atStart => exact ⟨(0), (([] : List Int)), (.slice none 0 0), uf, H', ⟨Nat.le_refl _⟩, ⟨by (with_reducible repeat (first | apply Kd.R_alloc | apply Kd.R_drewN | apply Kd.R_drew)); exact Kd.R_mono HO_798000.out (fun _ hk => ⟨hk.1, ⟨hk.2, (by simp [Value.ownBlock])⟩⟩)⟩, ⟨by (with_reducible repeat (first | apply Kd.R_alloc | apply Kd.R_drewN | apply Kd.R_drew)); exact Kd.R_mono HO_798001.out (fun _ hk => ⟨hk.1, ⟨hk.2, (by simp [Value.ownBlock])⟩⟩)⟩, ⟨by first | exact Kd.R_nil _ _ _ _ _ | exact Kd.N_nil _ _ _ _ _ | exact Kd.V_nil _ _ _ _ _ | exact Kd.Q_nil _ _ _ _ _ | exact Kd.S_nil _ _ _ _ _⟩, ⟨ub BK797.out⟩, ⟨ub BK798.out⟩, ⟨ub BK801.out⟩, ⟨uk HK.out⟩, ⟨uc HB.out⟩⟩
       case round =>
        clear H'
        try clear c1
        try clear p1
        try clear c2
        try clear p2
        try clear p6
        try clear p8
        try clear q8
        try clear hx8
        try clear c9
        try clear c9b0
        try clear c10
        try clear c10b0
        try clear c11
        try clear c11b0
        try clear c11b1
        try clear c12
        try clear c14
        try clear c17
        try clear c19
        try clear c19b0
        try clear c20
        try clear c21
        try clear c25
        try clear c26
        try clear c27
        try clear hcz13_0
        try clear hcz13_1
        try clear hcz15_0
        try clear hcz15_1
        try clear hcz18_0
        try clear hcz18_1
        try clear hcz22_0
        try clear hcz22_1
        try clear hcz23_0
        try clear hcz23_1
        try clear hcz28_0
        try clear hcz28_1
        try clear hfz13_0
        try clear hfz13_1
        try clear hfz15_0
        try clear hfz15_1
        try clear hfz18_0
        try clear hfz18_1
        try clear hfz22_0
        try clear hfz22_1
        try clear hfz23_0
        try clear hfz23_1
        try clear hfz28_0
        try clear hfz28_1
        try clear hx800_0
        try clear p1
        try clear p2
        try clear p6
        try clear p8
        try clear p800
        try clear q8
        try clear q800
        obtain ⟨x13_3, x802001_3, u802001, rfl, HA, HK3, HO_798000, HO_798001, HO_802001, BK797, BK798, BK801, HK, HB⟩ := hrel
        cases gk with
        | zero => exact absurd HA.out (by simp [curtilageref21_Close.l1])
        | succ k3 =>
         have H := HA.out
         clear HA
         simp only [curtilageref21_Close.l1] at H
         by_cases c30 : x13_3 < (l1_1.length : Int)
         ·rw [if_pos c30] at H
          have c30b0 : decide (x13_3 < (l1_1.length : Int)) = true := decide_eq_true c30
          clear c30
          by_cases c31 : x13_3 = x10_1
          ·rw [if_pos c31] at H
           have c31b0 : (x13_3 == x10_1) = true := beq_iff_eq.mpr c31
           have c31b1 : (x13_3 != x10_1) = false := bne_eq_false_iff_eq.mpr c31
           clear c31
           have H' := am H
           clear H
           have hnb32 := NB797_798.out
           have hnc32 := NB798_797.out
           have hnb33 := NB797_801.out
           have hnc33 := NB801_797.out
           have hcz34_0 : wr.cell? ⟨gb797, 0, none⟩ = some (.slice Ao5 l1_0.length co5) := (blk_cell BK797.out 0).trans rfl
           have hcz34_1 : wr.cell? ⟨gb797, 1, none⟩ = some (.slice Ao6 l1_1.length co6) := (blk_cell BK797.out 1).trans rfl
           have hfz34_0 := blk_frozen BK797.out 0
           have hfz34_1 := blk_frozen BK797.out 1
           go_wp2
           go_roundg k3
           case measure => have := HK1.out; have := HJ15.out; have := HK3.out; omega
           case rel => exact ⟨(wrap64 (x13_3 + 1)), (x802001_3), (u802001), uf, H', ⟨by have := HK1.out; have := HJ15.out; have := HK3.out; omega⟩, ⟨ua HO_798000.out⟩, ⟨ua HO_798001.out⟩, ⟨ua HO_802001.out⟩, ⟨ub BK797.out⟩, ⟨ub BK798.out⟩, ⟨ub BK801.out⟩, ⟨uk HK.out⟩, ⟨uc HB.out⟩⟩
          ·rw [if_neg c31] at H
           have c31b0 : (x13_3 == x10_1) = false := beq_eq_false_iff_ne.mpr c31
           have c31b1 : (x13_3 != x10_1) = true := bne_iff_ne.mpr c31
           by_cases c35 : 0 ≤ x13_3
           ·rw [if_pos c35] at H
            have c35b0 : decide (0 ≤ x13_3) = true := decide_eq_true c35
            clear c35
            by_cases c36 : x802001_3.length < 17592186044416
            ·rw [if_pos c36] at H
             have LMc36 := am c36
             clear c36
             obtain ⟨y803, hy803⟩ : ∃ y_ : List Int, y_ = (x802001_3 ++ [rd l1_1 x13_3]) := ⟨_, rfl⟩
             replace H : (curtilageref21_Close.l1 k3 l0 x10_1 (wrap64 (x13_3 + 1)) l1_0 l1_1 y803) = some (r1, r2, r3, r4) := by first | (rw [hy803]; with_reducible exact H) | (have H2_ := (Option.bind_some _ _).symm.trans H; rw [hy803]; with_reducible exact H2_) | (have H2_ := (Option.bind_some _ _).symm.trans H; with_reducible exact H2_) | with_reducible exact H | (rw [hy803]; exact H) | exact H
             have Ny803 := am hy803
             clear hy803
             have H' := am H
             clear H
             have hnb37 := NB797_798.out
             have hnc37 := NB798_797.out
             have hnb38 := NB797_801.out
             have hnc38 := NB801_797.out
             have hcz39_0 : wr.cell? ⟨gb797, 0, none⟩ = some (.slice Ao5 l1_0.length co5) := (blk_cell BK797.out 0).trans rfl
             have hcz39_1 : wr.cell? ⟨gb797, 1, none⟩ = some (.slice Ao6 l1_1.length co6) := (blk_cell BK797.out 1).trans rfl
             have hfz39_0 := blk_frozen BK797.out 0
             have hfz39_1 := blk_frozen BK797.out 1
             try go_wp2
             have n0_ := am (Kd.R_drew HO_798000.out)
             have n1_ := am (Kd.R_drew HO_798001.out)
             have n2_ := am (Kd.R_drew HO_802001.out)
             have n3_ := am (blk_drew BK797.out)
             have n4_ := am (blk_drew BK798.out)
             have n5_ := am (blk_drew BK801.out)
             have n6_ := am (Kept.drew HK.out)
             have n7_ := am (below_drew1 HB.out)
             revert n0_ n1_ n2_ n3_ n4_ n5_ n6_ n7_
             clear HO_798000 HO_798001 HO_802001 BK797 BK798 BK801 HK HB
             intro HO_798000 HO_798001 HO_802001 BK797 BK798 BK801 HK HB
             have p802 : 0 ≤ (x13_3 : Int) := ud
             have q802 : x13_3 < (l1_1.length : Int) := ud
             obtain ⟨ad802, e802, hx802_0⟩ := Kd.at_int (Kd.R_reads' HO_798001.out).2.2 x13_3 p802 q802
             cases e802
             replace p802 := eq_true p802
             replace q802 := eq_true q802
             refine start_ (n := 11) (S := fun w' => w'.cell? ⟨gb801, 0, none⟩ = some (.slice none 0 0) ∧ w'.cell? ⟨gb801, 1, none⟩ = some (u802001) ∧ w'.cell? ⟨gb797, 0, none⟩ = some (.slice Ao5 l1_0.length co5) ∧ w'.cell? ⟨gb797, 1, none⟩ = some (.slice (some ad802) l1_1.length co6) ∧ w'.cell? (ad802.add (x13_3).toNat) = some (.int .i64 (rd l1_1 x13_3))) (ds := [8, 10]) #[false, false, false, false, false, false, false, false, false, false, false] (by kernel_rfl) rfl rfl ⟨(blk_cell BK801.out 0).trans rfl, (blk_cell BK801.out 1).trans rfl, (blk_cell BK797.out 0).trans rfl, (blk_cell BK797.out 1).trans rfl, hx802_0⟩ (fun hHeld => ?_); refine with_tabW curtilageref21_Close.tab15 curtilageref21_Close.bits15 (fun HT_ HW_ => ?_)
             generalize wr.drew = w40 at HO_798000 HO_798001 HO_802001 BK797 BK798 BK801 HK HB hx802_0 hHeld ⊢
             refine pv 0 53 (bA 11 1) HT_ ?_
             refine pv 2 55 (bA 11 5) HT_ ?_
             refine pv 4 57 (bA 11 21) HT_ ?_
             refine tv 1 54 (bA 11 23) HT_ HW_ hHeld ?_ (hy := by rintro w' ⟨s0, s1, s2, s3, s4⟩; go_simp; with_reducible rfl)
             refine tv 3 56 (bA 11 31) HT_ HW_ hHeld ?_ (hy := by rintro w' ⟨s0, s1, s2, s3, s4⟩; go_simp; with_reducible rfl)
             refine pv 5 58 (bA 11 63) HT_ ?_
             refine tv 6 59 (bA 11 127) HT_ HW_ hHeld ?_ (hy := by rintro w' ⟨s0, s1, s2, s3, s4⟩; go_simp; with_reducible rfl)
             refine one_ (i := 7) (N := some 60) #[true, true, true, true, true, true, true, true, false, false, false] rfl rfl (one_of HT_.out (by kernel_rfl)) (by decide) (fun K hK => ?_)
             refine value_ (w1 := ?_) (v := ?_) (by rfl) rfl ?_ ?_
             rotate_left 2
             ·go_simp
              constructor
              ·rfl
              ·rfl
             refine hK.out _ _ ⟨(blk_cell (blk_alloc BK801.out _) 0).trans rfl, (blk_cell (blk_alloc BK801.out _) 1).trans rfl, (blk_cell (blk_alloc BK797.out _) 0).trans rfl, (blk_cell (blk_alloc BK797.out _) 1).trans rfl, (World.cell?_alloc_lt _ _ _ (World.block_lt_of_cell? _ _ (hHeld.2.2.2.2))).trans (hHeld.2.2.2.2)⟩ (fun hHeld => ?_)
             clear hK K
             refine norm_ (a' := ?_) ?_ ?_
             rotate_left
             ·show Act.put _ (some 60) _ = _
              simp only [Act.put, List.setIfInBounds_toArray, List.set_cons_zero, List.set_cons_succ, i64_w, i32_w]
              rfl
             refine last_ (i := 8) (N := some 61) #[true, true, true, true, true, true, true, true, true, false, false] rfl rfl (one_of HT_.out (by kernel_rfl)) (by decide) (fun K hK => ?_)
             refine Kd.R_append_step (Kd.int .i64) (w0 := w0) w0.heap.size (by rfl) (.tmp 54) (.tmp 60) 26 3 (.int .i64 0) 8 rfl Try.underlying26 info3 rfl (by decide) (by omega) u802001 x802001_3 (rd l1_1 x13_3) [.int .i64 (rd l1_1 x13_3)] (fun k_ => ((P1_0_ k_ ∨ P1_1_ k_) ∨ w.heap.size ≤ k_) ∧ nw k_ Ao5 l1_0 co5 ∧ some k_ ≠ (.slice (some ad802) l1_1.length co6 : Value).ownBlock) (fun _ => False) rfl rfl ?aP (fun _ hk => hk.elim) ?aF ?aO ?aB ?aS ?aL ?_
             (case aP => exact rfl)
             (case aB => exact (uc HB.out))
             (case aF => exact (fun k_ hk => ⟨(.inr (Nat.le_trans (by first | exact HK.out.1 | exact (show Kept w _ (fun k_ => P1_0_ k_ ∨ P1_1_ k_) from uk HK.out).1) hk)), Kd.fresh' (Kd.R_lt (ua HO_798000.out)) k_ hk, Kd.fresh' (Kd.R_lt (ua HO_798001.out)) k_ hk⟩))
             (case aO => exact (ua HO_802001.out))
             (case aS => exact (below_size (uc HB.out)))
             (case aL => have := LMc36.out; omega)
             intro v804 w41 ho hb hg hat
             rw [← Ny803.out] at ho
             have n0_ := am (Kd.R_after (ok := (fun k_ => ((P1_0_ k_ ∨ P1_1_ k_) ∨ w.heap.size ≤ k_) ∧ some k_ ≠ (.slice (some ad802) l1_1.length co6 : Value).ownBlock)) (by (with_reducible repeat (first | apply Kd.R_alloc | apply Kd.R_drewN | apply Kd.R_drew)); exact Kd.R_mono HO_798000.out (fun _ hk => ⟨⟨hk.1, hk.2.1⟩, hk.2.2⟩)) hg hat)
             have n1_ := am (Kd.R_after (ok := (fun k_ => ((P1_0_ k_ ∨ P1_1_ k_) ∨ w.heap.size ≤ k_) ∧ nw k_ Ao5 l1_0 co5)) (by (with_reducible repeat (first | apply Kd.R_alloc | apply Kd.R_drewN | apply Kd.R_drew)); exact Kd.R_mono HO_798001.out (fun _ hk => ⟨⟨hk.1, hk.2.1⟩, hk.2.2⟩)) hg hat)
             have n2_ := am (blk_grown (g := gb797) (o := .cells #[.slice Ao5 l1_0.length co5, .slice (some ad802) l1_1.length co6] 53 (0, 0)) (ub BK797.out) hg (Kd.R_ne HO_802001.out BK797.out (by decide)))
             have n3_ := am (blk_grown (g := gb798) (o := .cells #[.slice none 0 0, .slice none 0 0] 53 (0, 0)) (ub BK798.out) hg (Kd.R_ne HO_802001.out BK798.out (by decide)))
             have n4_ := am (blk_grown (g := gb801) (o := .cells #[.slice none 0 0, u802001] 53 (0, 0)) (ub BK801.out) hg (Kd.R_ne HO_802001.out BK801.out (by decide)))
             have n5_ := am (hb)
             have n6_ := am (Kept.of_grown (S := (fun k_ => P1_0_ k_ ∨ P1_1_ k_)) hg (uk HK.out) (fun k_ e_ => (HO_802001.out.1 k_ e_).1))
             have n7_ := am (ho)
             revert n0_ n1_ n2_ n3_ n4_ n5_ n6_ n7_
             clear HO_798000 HO_798001 BK797 BK798 BK801 HB HK HO_802001
             intro HO_798000 HO_798001 BK797 BK798 BK801 HB HK HO805
             clear ho hb hg hat
             obtain ⟨Ao42, co42, eo42⟩ := Kd.R_slice HO805.out
             (first | subst eo42 | (injection eo42 with f1_ f2_ f3_; have f4_ := f1_.symm; have f5_ := f3_.symm; clear f1_ f2_ f3_; subst f4_; subst f5_))
             refine hK.out _ _ ?_
             clear hK K
             refine norm_ (a' := ?_) ?_ ?_
             rotate_left
             ·show Act.put _ (some 61) _ = _
              simp only [Act.put, List.setIfInBounds_toArray, List.set_cons_zero, List.set_cons_succ, i64_w, i32_w]
              rfl
             refine pv 9 62 (bA 11 1023) HT_ ?_
             refine last_ (i := 10) (N := none) #[true, true, true, true, true, true, true, true, true, true, true] rfl rfl (one_of HT_.out (by kernel_rfl)) (by decide) (fun K hK => ?_)
             have hs43 : w41.cell? ⟨gb801, 1, none⟩ = some (u802001) := (blk_cell BK801.out 1).trans rfl
             have hfs43 := blk_frozen BK801.out 1
             have hns43_0 := NB797_801.out
             have hns43_1 := NB798_801.out
             have hms43_0 := NB801_797.out
             have hms43_1 := NB801_798.out
             refine skip_ (w1 := ?_) (by rfl) rfl ?_ ?_
             rotate_left
             ·go_simp
              rfl
             refine hK.out _ _ ?_
             clear hK K
             refine done_ (done_of HT_.out (by kernel_rfl)) ?_
             try go_wp2
             go_roundg k3
             case measure => have := HK1.out; have := HJ15.out; have := HK3.out; omega
             case rel => exact ⟨(wrap64 (x13_3 + 1)), (y803), (.slice Ao42 y803.length co42), uf, H', ⟨by have := HK1.out; have := HJ15.out; have := HK3.out; omega⟩, ⟨by (with_reducible repeat (first | apply Kd.R_alloc | apply Kd.R_drewN | apply Kd.R_drew)); exact Kd.R_mono (Kd.R_far (p := ⟨gb801, 1, none⟩) (Kd.R_types HO_798000.out BK801.out (by decide)) (fun _ hk => hk.2) (.slice Ao42 y803.length co42)) (fun _ hk => ⟨hk.1.1.1, ⟨hk.1.1.2, hk.1.2⟩⟩)⟩, ⟨by (with_reducible repeat (first | apply Kd.R_alloc | apply Kd.R_drewN | apply Kd.R_drew)); exact Kd.R_mono (Kd.R_far (p := ⟨gb801, 1, none⟩) (Kd.R_types HO_798001.out BK801.out (by decide)) (fun _ hk => hk.2) (.slice Ao42 y803.length co42)) (fun _ hk => ⟨hk.1.1.1, ⟨hk.1.1.2, hk.1.2⟩⟩)⟩, ⟨by (with_reducible repeat (first | apply Kd.R_alloc | apply Kd.R_drewN | apply Kd.R_drew)); exact Kd.R_mono (Kd.R_far (p := ⟨gb801, 1, none⟩) (Kd.R_types HO805.out BK801.out (by decide)) (fun _ hk => hk.2) (.slice Ao42 y803.length co42)) (fun _ hk => ⟨hk.1.1, ⟨hk.1.2.1, hk.1.2.2⟩⟩)⟩, ⟨by (with_reducible repeat (first | refine blk_drewN ?_ _ | refine blk_drew ?_ | refine blk_alloc ?_ _)); refine blk_far ?_ NB797_801.out _; (with_reducible repeat (first | refine blk_drewN ?_ _ | refine blk_drew ?_ | refine blk_alloc ?_ _)); exact BK797.out⟩, ⟨by (with_reducible repeat (first | refine blk_drewN ?_ _ | refine blk_drew ?_ | refine blk_alloc ?_ _)); refine blk_far ?_ NB798_801.out _; (with_reducible repeat (first | refine blk_drewN ?_ _ | refine blk_drew ?_ | refine blk_alloc ?_ _)); exact BK798.out⟩, ⟨by (with_reducible repeat (first | refine blk_drewN ?_ _ | refine blk_drew ?_ | refine blk_alloc ?_ _)); refine blk_put (cs := #[.slice none 0 0, u802001]) ?_ 1 _ rfl; (with_reducible repeat (first | refine blk_drewN ?_ _ | refine blk_drew ?_ | refine blk_alloc ?_ _)); exact BK801.out⟩, ⟨uk HK.out⟩, ⟨uc HB.out⟩⟩
            ·rw [if_neg c36] at H
             exact absurd H (by simp)
           ·rw [if_neg c35] at H
            exact absurd H (by simp)
         ·rw [if_neg c30] at H
          have c30b0 : decide (x13_3 < (l1_1.length : Int)) = false := decide_eq_false c30
          clear c30
          have H' := am H
          clear H
          have hnb44 := NB797_798.out
          have hnc44 := NB798_797.out
          have hnb45 := NB797_801.out
          have hnc45 := NB801_797.out
          have hcz46_0 : wr.cell? ⟨gb797, 0, none⟩ = some (.slice Ao5 l1_0.length co5) := (blk_cell BK797.out 0).trans rfl
          have hcz46_1 : wr.cell? ⟨gb797, 1, none⟩ = some (.slice Ao6 l1_1.length co6) := (blk_cell BK797.out 1).trans rfl
          have hfz46_0 := blk_frozen BK797.out 0
          have hfz46_1 := blk_frozen BK797.out 1
          go_wp2
          go_loopg [14, 15] k3 (fun kq v14 v15 w' => ∃ (x14_4 : List Int) (x15_4 : Int) (x802000_4 : List Int) (u802000 : Value), v15 = .int .i64 x15_4 ∧ Aside0 (curtilageref21_Close.l2 kq l0 x14_4 x15_4 l1_0 l1_1 x802000_4 x802001_3 = some (r1, r2, r3, r4)) ∧ Aside0 (kq ≤ k3) ∧ Aside0 (Kd.R (Kd.int .i64) 3 w' w0.heap.size (fun k_ => ((P1_0_ k_ ∨ P1_1_ k_) ∨ w.heap.size ≤ k_) ∧ some k_ ≠ ((.slice Ao5 l1_0.length co5) : Value).ownBlock ∧ some k_ ≠ ((.slice Ao6 l1_1.length co6) : Value).ownBlock ∧ nv k_ u802000 ∧ nv k_ u802001) v14 x14_4) ∧ Aside0 (Kd.R (Kd.int .i64) 3 w' w0.heap.size (fun k_ => ((P1_0_ k_ ∨ P1_1_ k_) ∨ w.heap.size ≤ k_) ∧ nv k_ v14 ∧ some k_ ≠ ((.slice Ao6 l1_1.length co6) : Value).ownBlock ∧ nv k_ u802000 ∧ nv k_ u802001) (.slice Ao5 l1_0.length co5) l1_0) ∧ Aside0 (Kd.R (Kd.int .i64) 3 w' w0.heap.size (fun k_ => ((P1_0_ k_ ∨ P1_1_ k_) ∨ w.heap.size ≤ k_) ∧ nv k_ v14 ∧ some k_ ≠ ((.slice Ao5 l1_0.length co5) : Value).ownBlock ∧ nv k_ u802000 ∧ nv k_ u802001) (.slice Ao6 l1_1.length co6) l1_1) ∧ Aside0 (Kd.R (Kd.int .i64) 3 w' w0.heap.size (fun k_ => ((P1_0_ k_ ∨ P1_1_ k_) ∨ w.heap.size ≤ k_) ∧ nv k_ v14 ∧ some k_ ≠ ((.slice Ao5 l1_0.length co5) : Value).ownBlock ∧ some k_ ≠ ((.slice Ao6 l1_1.length co6) : Value).ownBlock ∧ nv k_ u802001) u802000 x802000_4) ∧ Aside0 (Kd.R (Kd.int .i64) 3 w' w0.heap.size (fun k_ => ((P1_0_ k_ ∨ P1_1_ k_) ∨ w.heap.size ≤ k_) ∧ nv k_ v14 ∧ some k_ ≠ ((.slice Ao5 l1_0.length co5) : Value).ownBlock ∧ some k_ ≠ ((.slice Ao6 l1_1.length co6) : Value).ownBlock ∧ nv k_ u802000) u802001 x802001_3) ∧ Aside0 (w'.heap[gb797]? = some (.cells #[(.slice Ao5 l1_0.length co5), (.slice Ao6 l1_1.length co6)] 53 (0, 0))) ∧ Aside0 (w'.heap[gb798]? = some (.cells #[(.slice none 0 0), (.slice none 0 0)] 53 (0, 0))) ∧ Aside0 (w'.heap[gb801]? = some (.cells #[u802000, u802001] 53 (0, 0))) ∧ Aside0 (Kept w w' (fun k_ => P1_0_ k_ ∨ P1_1_ k_)) ∧ Aside0 (Below w0.heap.size w0 w'))
          case atStart => exact ⟨(([] : List Int)), (0), (([] : List Int)), (.slice none 0 0), uf, H', ⟨Nat.le_refl _⟩, ⟨by first | exact Kd.R_nil _ _ _ _ _ | exact Kd.N_nil _ _ _ _ _ | exact Kd.V_nil _ _ _ _ _ | exact Kd.Q_nil _ _ _ _ _ | exact Kd.S_nil _ _ _ _ _⟩, ⟨by (with_reducible repeat (first | apply Kd.R_alloc | apply Kd.R_drewN | apply Kd.R_drew)); exact Kd.R_mono HO_798000.out (fun _ hk => ⟨hk.1, ⟨(by simp [Value.ownBlock]), ⟨hk.2.1, ⟨(by simp [Value.ownBlock]), hk.2.2⟩⟩⟩⟩)⟩, ⟨by (with_reducible repeat (first | apply Kd.R_alloc | apply Kd.R_drewN | apply Kd.R_drew)); exact Kd.R_mono HO_798001.out (fun _ hk => ⟨hk.1, ⟨(by simp [Value.ownBlock]), ⟨hk.2.1, ⟨(by simp [Value.ownBlock]), hk.2.2⟩⟩⟩⟩)⟩, ⟨by first | exact Kd.R_nil _ _ _ _ _ | exact Kd.N_nil _ _ _ _ _ | exact Kd.V_nil _ _ _ _ _ | exact Kd.Q_nil _ _ _ _ _ | exact Kd.S_nil _ _ _ _ _⟩, ⟨by (with_reducible repeat (first | apply Kd.R_alloc | apply Kd.R_drewN | apply Kd.R_drew)); exact Kd.R_mono HO_802001.out (fun _ hk => ⟨hk.1, ⟨(by simp [Value.ownBlock]), ⟨hk.2.1, ⟨hk.2.2, (by simp [Value.ownBlock])⟩⟩⟩⟩)⟩, ⟨ub BK797.out⟩, ⟨ub BK798.out⟩, ⟨ub BK801.out⟩, ⟨uk HK.out⟩, ⟨uc HB.out⟩⟩
          case round =>
           clear H'
           try clear c1
           try clear p1
           try clear c2
           try clear p2
           try clear c3
           try clear c4
           try clear p6
           try clear p8
           try clear q8
           try clear hx8
           try clear c9
           try clear c9b0
           try clear c10
           try clear c10b0
           try clear c11
           try clear c11b0
           try clear c11b1
           try clear c12
           try clear c14
           try clear c17
           try clear c19
           try clear c19b0
           try clear c20
           try clear c21
           try clear c25
           try clear c26
           try clear c27
           try clear c30
           try clear c30b0
           try clear c31
           try clear c31b0
           try clear c31b1
           try clear c32
           try clear c33
           try clear c35
           try clear c35b0
           try clear c36
           try clear c37
           try clear c38
           try clear c44
           try clear c45
           try clear hcz13_0
           try clear hcz13_1
           try clear hcz15_0
           try clear hcz15_1
           try clear hcz18_0
           try clear hcz18_1
           try clear hcz22_0
           try clear hcz22_1
           try clear hcz23_0
           try clear hcz23_1
           try clear hcz28_0
           try clear hcz28_1
           try clear hcz34_0
           try clear hcz34_1
           try clear hcz39_0
           try clear hcz39_1
           try clear hcz46_0
           try clear hcz46_1
           try clear hfz13_0
           try clear hfz13_1
           try clear hfz15_0
           try clear hfz15_1
           try clear hfz18_0
           try clear hfz18_1
           try clear hfz22_0
           try clear hfz22_1
           try clear hfz23_0
           try clear hfz23_1
           try clear hfz28_0
           try clear hfz28_1
           try clear hfz34_0
           try clear hfz34_1
           try clear hfz39_0
           try clear hfz39_1
           try clear hfz46_0
           try clear hfz46_1
           try clear hx800_0
           try clear hx802_0
           try clear p1
           try clear p2
           try clear p6
           try clear p8
           try clear p800
           try clear p802
           try clear q8
           try clear q800
           try clear q802
           obtain ⟨x14_4, x15_4, x802000_4, u802000, rfl, HA, HK4, HO_14, HO_798000, HO_798001, HO_802000, HO_802001, BK797, BK798, BK801, HK, HB⟩ := hrel
           cases gk with
           | zero => exact absurd HA.out (by simp [curtilageref21_Close.l2])
           | succ k4 =>
            have H := HA.out
            clear HA
            simp only [curtilageref21_Close.l2] at H
            by_cases c47 : x15_4 < (l1_0.length : Int)
            ·rw [if_pos c47] at H
             have c47b0 : decide (x15_4 < (l1_0.length : Int)) = true := decide_eq_true c47
             clear c47
             by_cases c48 : 0 ≤ x15_4
             ·rw [if_pos c48] at H
              have c48b0 : decide (0 ≤ x15_4) = true := decide_eq_true c48
              clear c48
              replace H := Option.bind_eq_some_iff.mp H
              obtain ⟨t807, A490, H⟩ := H
              replace H : (if t807 = true then (if x802000_4.length < 17592186044416 then (curtilageref21_Close.l2 k4 l0 x14_4 (wrap64 (x15_4 + 1)) l1_0 l1_1 (x802000_4 ++ [rd l1_0 x15_4]) x802001_3) else (none)) else ((some (([rd l1_0 x15_4] : List Int) : List Int)).bind fun y813 => (if y813.length + x14_4.length < 17592186044416 then (curtilageref21_Close.l2 k4 l0 (y813 ++ x14_4) (wrap64 (x15_4 + 1)) l1_0 l1_1 x802000_4 x802001_3) else (none)))) = some (r1, r2, r3, r4) := H
              have A49 := am A490
              clear A490
              by_cases c50 : t807 = true
              ·subst c50
               have H1 : (if x802000_4.length < 17592186044416 then (curtilageref21_Close.l2 k4 l0 x14_4 (wrap64 (x15_4 + 1)) l1_0 l1_1 (x802000_4 ++ [rd l1_0 x15_4]) x802001_3) else (none)) = some (r1, r2, r3, r4) := by rw [if_pos rfl] at H; exact H
               clear H
               have H := H1
               clear H1
               by_cases c51 : x802000_4.length < 17592186044416
               ·rw [if_pos c51] at H
                have LMc51 := am c51
                clear c51
                obtain ⟨y809, hy809⟩ : ∃ y_ : List Int, y_ = (x802000_4 ++ [rd l1_0 x15_4]) := ⟨_, rfl⟩
                replace H : (curtilageref21_Close.l2 k4 l0 x14_4 (wrap64 (x15_4 + 1)) l1_0 l1_1 y809 x802001_3) = some (r1, r2, r3, r4) := by first | (rw [hy809]; with_reducible exact H) | (have H2_ := (Option.bind_some _ _).symm.trans H; rw [hy809]; with_reducible exact H2_) | (have H2_ := (Option.bind_some _ _).symm.trans H; with_reducible exact H2_) | with_reducible exact H | (rw [hy809]; exact H) | exact H
                have Ny809 := am hy809
                clear hy809
                have H' := am H
                clear H
                have hnb52 := NB797_798.out
                have hnc52 := NB798_797.out
                have hnb53 := NB797_801.out
                have hnc53 := NB801_797.out
                have hcz54_0 : wr.cell? ⟨gb797, 0, none⟩ = some (.slice Ao5 l1_0.length co5) := (blk_cell BK797.out 0).trans rfl
                have hcz54_1 : wr.cell? ⟨gb797, 1, none⟩ = some (.slice Ao6 l1_1.length co6) := (blk_cell BK797.out 1).trans rfl
                have hfz54_0 := blk_frozen BK797.out 0
                have hfz54_1 := blk_frozen BK797.out 1
                try go_wp2
                have n0_ := am (Kd.R_drew HO_14.out)
                have n1_ := am (Kd.R_drew HO_798000.out)
                have n2_ := am (Kd.R_drew HO_798001.out)
                have n3_ := am (Kd.R_drew HO_802000.out)
                have n4_ := am (Kd.R_drew HO_802001.out)
                have n5_ := am (blk_drew BK797.out)
                have n6_ := am (blk_drew BK798.out)
                have n7_ := am (blk_drew BK801.out)
                have n8_ := am (Kept.drew HK.out)
                have n9_ := am (below_drew1 HB.out)
                revert n0_ n1_ n2_ n3_ n4_ n5_ n6_ n7_ n8_ n9_
                clear HO_14 HO_798000 HO_798001 HO_802000 HO_802001 BK797 BK798 BK801 HK HB
                intro HO_14 HO_798000 HO_798001 HO_802000 HO_802001 BK797 BK798 BK801 HK HB
                have p806 : 0 ≤ (x15_4 : Int) := ud
                have q806 : x15_4 < (l1_0.length : Int) := ud
                obtain ⟨ad806, e806, hx806_0⟩ := Kd.at_int (Kd.R_reads' HO_798000.out).2.2 x15_4 p806 q806
                cases e806
                replace p806 := eq_true p806
                replace q806 := eq_true q806
                obtain ⟨Ao56, co56, eo56⟩ := Kd.R_slice HO_802001.out
                (first | subst eo56 | (injection eo56 with f1_ f2_ f3_; have f4_ := f1_.symm; have f5_ := f3_.symm; clear f1_ f2_ f3_; subst f4_; subst f5_))
                refine start_ (n := 10) (S := fun w' => w'.cell? ⟨gb801, 0, none⟩ = some (u802000) ∧ w'.cell? ⟨gb801, 1, none⟩ = some (.slice Ao56 x802001_3.length co56) ∧ w'.cell? ⟨gb797, 0, none⟩ = some (.slice (some ad806) l1_0.length co5) ∧ w'.cell? ⟨gb797, 1, none⟩ = some (.slice Ao6 l1_1.length co6) ∧ w'.cell? (ad806.add (x15_4).toNat) = some (.int .i64 (rd l1_0 x15_4))) (ds := []) #[false, false, false, false, false, false, false, false, false, false] (by kernel_rfl) rfl rfl ⟨(blk_cell BK801.out 0).trans rfl, (blk_cell BK801.out 1).trans rfl, (blk_cell BK797.out 0).trans rfl, (blk_cell BK797.out 1).trans rfl, hx806_0⟩ (fun hHeld => ?_); refine with_tabW curtilageref21_Close.tab20 curtilageref21_Close.bits20 (fun HT_ HW_ => ?_)
                generalize wr.drew = w55 at HO_14 HO_798000 HO_798001 HO_802000 HO_802001 BK797 BK798 BK801 HK HB hx806_0 hHeld ⊢
                refine pv 0 70 (bA 10 1) HT_ ?_
                refine pv 1 71 (bA 10 3) HT_ ?_
                refine pv 3 73 (bA 10 11) HT_ ?_
                refine pv 5 75 (bA 10 43) HT_ ?_
                refine tv 2 72 (bA 10 47) HT_ HW_ hHeld ?_ (hy := by rintro w' ⟨s0, s1, s2, s3, s4⟩; go_simp; with_reducible rfl)
                refine tv 4 74 (bA 10 63) HT_ HW_ hHeld ?_ (hy := by rintro w' ⟨s0, s1, s2, s3, s4⟩; go_simp; with_reducible rfl)
                refine pv 6 76 (bA 10 127) HT_ ?_
                refine tv 7 77 (bA 10 255) HT_ HW_ hHeld ?_ (hy := by rintro w' ⟨s0, s1, s2, s3, s4⟩; go_simp; with_reducible rfl)
                refine one_ (i := 8) (N := some 78) #[true, true, true, true, true, true, true, true, true, false] rfl rfl (one_of HT_.out (by kernel_rfl)) (by decide) (fun K hK => ?_)
                refine goes_ Try.func14 (by kernel_rfl) rfl #[.slice A0 l0.length c0, .slice Ao56 x802001_3.length co56, .int .i64 (rd l1_0 x15_4)] (by rfl) rfl rfl (by (try simp only [List.map_toArray, List.map_cons, List.map_nil]); first | done | rfl | (simp only [List.length_drop, List.length_take]; rfl)) ?_
                with_reducible refine (curtilageref21_Needed.calls k4 _ _ l0 _ _ x802001_3 (rd l1_0 x15_4) true _ ?side1 ?side2 ?side3 ?side4 A49.out).mono ?_
                (case side1 => exact Kd.C_kept_now HR0.out (uk HK.out))
                (case side2 => exact HC0.out)
                (case side3 => exact us (Kd.R_reads' HO_802001.out).2.2)
                (case side4 => exact (Kd.R_reads' HO_802001.out).2.1)
                rintro e w57 ⟨rfl, hb⟩
                have HS4_ := (hb.cell (World.block_lt_of_cell? _ _ (hHeld.2.2.2.2))).trans (hHeld.2.2.2.2)
                refine ⟨_, rfl, ?_⟩
                have n0_ := am (Kd.R_below (ua HO_14.out) hb)
                have n1_ := am (Kd.R_below (ua HO_798000.out) hb)
                have n2_ := am (Kd.R_below (ua HO_798001.out) hb)
                have n3_ := am (Kd.R_below (ua HO_802000.out) hb)
                have n4_ := am (Kd.R_below (ua HO_802001.out) hb)
                have n5_ := am (blk_below (g := gb797) (o := .cells #[.slice (some ad806) l1_0.length co5, .slice Ao6 l1_1.length co6] 53 (0, 0)) (ub BK797.out) hb)
                have n6_ := am (blk_below (g := gb798) (o := .cells #[.slice none 0 0, .slice none 0 0] 53 (0, 0)) (ub BK798.out) hb)
                have n7_ := am (blk_below (g := gb801) (o := .cells #[u802000, .slice Ao56 x802001_3.length co56] 53 (0, 0)) (ub BK801.out) hb)
                have n8_ := am (Kept.below (S := (fun k_ => P1_0_ k_ ∨ P1_1_ k_)) (uk HK.out) hb)
                have n9_ := am (below_step (uc HB.out) hb)
                revert n0_ n1_ n2_ n3_ n4_ n5_ n6_ n7_ n8_ n9_
                clear HO_14 HO_798000 HO_798001 HO_802000 HO_802001 BK797 BK798 BK801 HK HB
                intro HO_14 HO_798000 HO_798001 HO_802000 HO_802001 BK797 BK798 BK801 HK HB
                (try clear hb)
                (try clear hb2)
                (try clear hk)
                (try clear hi)
                refine hK.out _ _ ⟨(blk_cell BK801.out 0).trans rfl, (blk_cell BK801.out 1).trans rfl, (blk_cell BK797.out 0).trans rfl, (blk_cell BK797.out 1).trans rfl, HS4_⟩ (fun hHeld => ?_)
                clear hK K
                refine norm_ (a' := ?_) ?_ ?_
                rotate_left
                ·show Act.put _ (some 78) _ = _
                 simp only [Act.put, List.setIfInBounds_toArray, List.set_cons_zero, List.set_cons_succ, i64_w, i32_w]
                 rfl
                refine pv 9 16 (bA 10 1023) HT_ ?_
                refine done_ (done_of HT_.out (by kernel_rfl)) ?_
                try go_wp2
                have n0_ := am (Kd.R_drew HO_14.out)
                have n1_ := am (Kd.R_drew HO_798000.out)
                have n2_ := am (Kd.R_drew HO_798001.out)
                have n3_ := am (Kd.R_drew HO_802000.out)
                have n4_ := am (Kd.R_drew HO_802001.out)
                have n5_ := am (blk_drew BK797.out)
                have n6_ := am (blk_drew BK798.out)
                have n7_ := am (blk_drew BK801.out)
                have n8_ := am (Kept.drew HK.out)
                have n9_ := am (below_drew1 HB.out)
                revert n0_ n1_ n2_ n3_ n4_ n5_ n6_ n7_ n8_ n9_
                clear HO_14 HO_798000 HO_798001 HO_802000 HO_802001 BK797 BK798 BK801 HK HB
                intro HO_14 HO_798000 HO_798001 HO_802000 HO_802001 BK797 BK798 BK801 HK HB
                have p808 : 0 ≤ (x15_4 : Int) := ud
                have q808 : x15_4 < (l1_0.length : Int) := ud
                obtain ⟨ad808, e808, hx808_0⟩ := Kd.at_int (Kd.R_reads' HO_798000.out).2.2 x15_4 p808 q808
                obtain rfl : ad806 = ad808 := (by injection e808)
                replace p808 := eq_true p808
                replace q808 := eq_true q808
                refine start_ (n := 11) (S := fun w' => w'.cell? ⟨gb801, 0, none⟩ = some (u802000) ∧ w'.cell? ⟨gb801, 1, none⟩ = some (.slice Ao56 x802001_3.length co56) ∧ w'.cell? ⟨gb797, 0, none⟩ = some (.slice (some ad806) l1_0.length co5) ∧ w'.cell? ⟨gb797, 1, none⟩ = some (.slice Ao6 l1_1.length co6) ∧ w'.cell? (ad806.add (x15_4).toNat) = some (.int .i64 (rd l1_0 x15_4))) (ds := [8, 10]) #[false, false, false, false, false, false, false, false, false, false, false] (by kernel_rfl) rfl rfl ⟨(blk_cell BK801.out 0).trans rfl, (blk_cell BK801.out 1).trans rfl, (blk_cell BK797.out 0).trans rfl, (blk_cell BK797.out 1).trans rfl, hx808_0⟩ (fun hHeld => ?_); refine with_tabW curtilageref21_Close.tab22 curtilageref21_Close.bits22 (fun HT_ HW_ => ?_)
                generalize w57.drew = w58 at HO_14 HO_798000 HO_798001 HO_802000 HO_802001 BK797 BK798 BK801 HK HB hx808_0 hHeld ⊢
                refine pv 0 80 (bA 11 1) HT_ ?_
                refine pv 2 82 (bA 11 5) HT_ ?_
                refine pv 4 84 (bA 11 21) HT_ ?_
                refine tv 1 81 (bA 11 23) HT_ HW_ hHeld ?_ (hy := by rintro w' ⟨s0, s1, s2, s3, s4⟩; go_simp; with_reducible rfl)
                refine tv 3 83 (bA 11 31) HT_ HW_ hHeld ?_ (hy := by rintro w' ⟨s0, s1, s2, s3, s4⟩; go_simp; with_reducible rfl)
                refine pv 5 85 (bA 11 63) HT_ ?_
                refine tv 6 86 (bA 11 127) HT_ HW_ hHeld ?_ (hy := by rintro w' ⟨s0, s1, s2, s3, s4⟩; go_simp; with_reducible rfl)
                refine one_ (i := 7) (N := some 87) #[true, true, true, true, true, true, true, true, false, false, false] rfl rfl (one_of HT_.out (by kernel_rfl)) (by decide) (fun K hK => ?_)
                refine value_ (w1 := ?_) (v := ?_) (by rfl) rfl ?_ ?_
                rotate_left 2
                ·go_simp
                 constructor
                 ·rfl
                 ·rfl
                refine hK.out _ _ ⟨(blk_cell (blk_alloc BK801.out _) 0).trans rfl, (blk_cell (blk_alloc BK801.out _) 1).trans rfl, (blk_cell (blk_alloc BK797.out _) 0).trans rfl, (blk_cell (blk_alloc BK797.out _) 1).trans rfl, (World.cell?_alloc_lt _ _ _ (World.block_lt_of_cell? _ _ (hHeld.2.2.2.2))).trans (hHeld.2.2.2.2)⟩ (fun hHeld => ?_)
                clear hK K
                refine norm_ (a' := ?_) ?_ ?_
                rotate_left
                ·show Act.put _ (some 87) _ = _
                 simp only [Act.put, List.setIfInBounds_toArray, List.set_cons_zero, List.set_cons_succ, i64_w, i32_w]
                 rfl
                refine last_ (i := 8) (N := some 88) #[true, true, true, true, true, true, true, true, true, false, false] rfl rfl (one_of HT_.out (by kernel_rfl)) (by decide) (fun K hK => ?_)
                refine Kd.R_append_step (Kd.int .i64) (w0 := w0) w0.heap.size (by rfl) (.tmp 81) (.tmp 87) 26 3 (.int .i64 0) 8 rfl Try.underlying26 info3 rfl (by decide) (by omega) u802000 x802000_4 (rd l1_0 x15_4) [.int .i64 (rd l1_0 x15_4)] (fun k_ => ((P1_0_ k_ ∨ P1_1_ k_) ∨ w.heap.size ≤ k_) ∧ nv k_ u14 ∧ some k_ ≠ (.slice (some ad806) l1_0.length co5 : Value).ownBlock ∧ nw k_ Ao6 l1_1 co6 ∧ nw k_ Ao56 x802001_3 co56) (fun _ => False) rfl rfl ?aP (fun _ hk => hk.elim) ?aF ?aO ?aB ?aS ?aL ?_
                (case aP => exact rfl)
                (case aB => exact (uc HB.out))
                (case aF => exact (fun k_ hk => ⟨(.inr (Nat.le_trans (by first | exact HK.out.1 | exact (show Kept w _ (fun k_ => P1_0_ k_ ∨ P1_1_ k_) from uk HK.out).1) hk)), Kd.fresh' (Kd.R_lt (ua HO_14.out)) k_ hk, Kd.fresh' (Kd.R_lt (ua HO_798000.out)) k_ hk, Kd.fresh' (Kd.R_lt (ua HO_798001.out)) k_ hk, Kd.fresh' (Kd.R_lt (ua HO_802001.out)) k_ hk⟩))
                (case aO => exact (ua HO_802000.out))
                (case aS => exact (below_size (uc HB.out)))
                (case aL => have := LMc51.out; omega)
                intro v810 w59 ho hb hg hat
                rw [← Ny809.out] at ho
                have n0_ := am (Kd.R_after (ok := (fun k_ => ((P1_0_ k_ ∨ P1_1_ k_) ∨ w.heap.size ≤ k_) ∧ some k_ ≠ (.slice (some ad806) l1_0.length co5 : Value).ownBlock ∧ nw k_ Ao6 l1_1 co6 ∧ nw k_ Ao56 x802001_3 co56)) (by (with_reducible repeat (first | apply Kd.R_alloc | apply Kd.R_drewN | apply Kd.R_drew)); exact Kd.R_mono HO_14.out (fun _ hk => ⟨⟨hk.1, ⟨hk.2.1, ⟨hk.2.2.1, hk.2.2.2.2⟩⟩⟩, hk.2.2.2.1⟩)) hg hat)
                have n1_ := am (Kd.R_after (ok := (fun k_ => ((P1_0_ k_ ∨ P1_1_ k_) ∨ w.heap.size ≤ k_) ∧ nv k_ u14 ∧ nw k_ Ao6 l1_1 co6 ∧ nw k_ Ao56 x802001_3 co56)) (by (with_reducible repeat (first | apply Kd.R_alloc | apply Kd.R_drewN | apply Kd.R_drew)); exact Kd.R_mono HO_798000.out (fun _ hk => ⟨⟨hk.1, ⟨hk.2.1, ⟨hk.2.2.1, hk.2.2.2.2⟩⟩⟩, hk.2.2.2.1⟩)) hg hat)
                have n2_ := am (Kd.R_after (ok := (fun k_ => ((P1_0_ k_ ∨ P1_1_ k_) ∨ w.heap.size ≤ k_) ∧ nv k_ u14 ∧ some k_ ≠ (.slice (some ad806) l1_0.length co5 : Value).ownBlock ∧ nw k_ Ao56 x802001_3 co56)) (by (with_reducible repeat (first | apply Kd.R_alloc | apply Kd.R_drewN | apply Kd.R_drew)); exact Kd.R_mono HO_798001.out (fun _ hk => ⟨⟨hk.1, ⟨hk.2.1, ⟨hk.2.2.1, hk.2.2.2.2⟩⟩⟩, hk.2.2.2.1⟩)) hg hat)
                have n3_ := am (Kd.R_after (ok := (fun k_ => ((P1_0_ k_ ∨ P1_1_ k_) ∨ w.heap.size ≤ k_) ∧ nv k_ u14 ∧ some k_ ≠ (.slice (some ad806) l1_0.length co5 : Value).ownBlock ∧ nw k_ Ao6 l1_1 co6)) (by (with_reducible repeat (first | apply Kd.R_alloc | apply Kd.R_drewN | apply Kd.R_drew)); exact Kd.R_mono HO_802001.out (fun _ hk => ⟨⟨hk.1, ⟨hk.2.1, ⟨hk.2.2.1, hk.2.2.2.1⟩⟩⟩, hk.2.2.2.2⟩)) hg hat)
                have n4_ := am (blk_grown (g := gb797) (o := .cells #[.slice (some ad806) l1_0.length co5, .slice Ao6 l1_1.length co6] 53 (0, 0)) (ub BK797.out) hg (Kd.R_ne HO_802000.out BK797.out (by decide)))
                have n5_ := am (blk_grown (g := gb798) (o := .cells #[.slice none 0 0, .slice none 0 0] 53 (0, 0)) (ub BK798.out) hg (Kd.R_ne HO_802000.out BK798.out (by decide)))
                have n6_ := am (blk_grown (g := gb801) (o := .cells #[u802000, .slice Ao56 x802001_3.length co56] 53 (0, 0)) (ub BK801.out) hg (Kd.R_ne HO_802000.out BK801.out (by decide)))
                have n7_ := am (hb)
                have n8_ := am (Kept.of_grown (S := (fun k_ => P1_0_ k_ ∨ P1_1_ k_)) hg (uk HK.out) (fun k_ e_ => (HO_802000.out.1 k_ e_).1))
                have n9_ := am (ho)
                revert n0_ n1_ n2_ n3_ n4_ n5_ n6_ n7_ n8_ n9_
                clear HO_14 HO_798000 HO_798001 HO_802001 BK797 BK798 BK801 HB HK HO_802000
                intro HO_14 HO_798000 HO_798001 HO_802001 BK797 BK798 BK801 HB HK HO811
                clear ho hb hg hat
                obtain ⟨Ao60, co60, eo60⟩ := Kd.R_slice HO811.out
                (first | subst eo60 | (injection eo60 with f1_ f2_ f3_; have f4_ := f1_.symm; have f5_ := f3_.symm; clear f1_ f2_ f3_; subst f4_; subst f5_))
                refine hK.out _ _ ?_
                clear hK K
                refine norm_ (a' := ?_) ?_ ?_
                rotate_left
                ·show Act.put _ (some 88) _ = _
                 simp only [Act.put, List.setIfInBounds_toArray, List.set_cons_zero, List.set_cons_succ, i64_w, i32_w]
                 rfl
                refine pv 9 89 (bA 11 1023) HT_ ?_
                refine last_ (i := 10) (N := none) #[true, true, true, true, true, true, true, true, true, true, true] rfl rfl (one_of HT_.out (by kernel_rfl)) (by decide) (fun K hK => ?_)
                have hs61 : w59.cell? ⟨gb801, 0, none⟩ = some (u802000) := (blk_cell BK801.out 0).trans rfl
                have hfs61 := blk_frozen BK801.out 0
                have hns61_0 := NB797_801.out
                have hns61_1 := NB798_801.out
                have hms61_0 := NB801_797.out
                have hms61_1 := NB801_798.out
                refine skip_ (w1 := ?_) (by rfl) rfl ?_ ?_
                rotate_left
                ·go_simp
                 rfl
                refine hK.out _ _ ?_
                clear hK K
                refine done_ (done_of HT_.out (by kernel_rfl)) ?_
                try go_wp2
                go_roundg k4
                case measure => have := HK1.out; have := HJ15.out; have := HK3.out; have := HK4.out; omega
                case rel => exact ⟨(x14_4), (wrap64 (x15_4 + 1)), (y809), (.slice Ao60 y809.length co60), uf, H', ⟨by have := HK1.out; have := HJ15.out; have := HK3.out; have := HK4.out; omega⟩, ⟨by (with_reducible repeat (first | apply Kd.R_alloc | apply Kd.R_drewN | apply Kd.R_drew)); exact Kd.R_mono (Kd.R_far (p := ⟨gb801, 0, none⟩) (Kd.R_types HO_14.out BK801.out (by decide)) (fun _ hk => hk.2) (.slice Ao60 y809.length co60)) (fun _ hk => ⟨hk.1.1.1, ⟨hk.1.1.2.1, ⟨hk.1.1.2.2.1, ⟨hk.1.2, hk.1.1.2.2.2⟩⟩⟩⟩)⟩, ⟨by (with_reducible repeat (first | apply Kd.R_alloc | apply Kd.R_drewN | apply Kd.R_drew)); exact Kd.R_mono (Kd.R_far (p := ⟨gb801, 0, none⟩) (Kd.R_types HO_798000.out BK801.out (by decide)) (fun _ hk => hk.2) (.slice Ao60 y809.length co60)) (fun _ hk => ⟨hk.1.1.1, ⟨hk.1.1.2.1, ⟨hk.1.1.2.2.1, ⟨hk.1.2, hk.1.1.2.2.2⟩⟩⟩⟩)⟩, ⟨by (with_reducible repeat (first | apply Kd.R_alloc | apply Kd.R_drewN | apply Kd.R_drew)); exact Kd.R_mono (Kd.R_far (p := ⟨gb801, 0, none⟩) (Kd.R_types HO_798001.out BK801.out (by decide)) (fun _ hk => hk.2) (.slice Ao60 y809.length co60)) (fun _ hk => ⟨hk.1.1.1, ⟨hk.1.1.2.1, ⟨hk.1.1.2.2.1, ⟨hk.1.2, hk.1.1.2.2.2⟩⟩⟩⟩)⟩, ⟨by (with_reducible repeat (first | apply Kd.R_alloc | apply Kd.R_drewN | apply Kd.R_drew)); exact Kd.R_mono (Kd.R_far (p := ⟨gb801, 0, none⟩) (Kd.R_types HO811.out BK801.out (by decide)) (fun _ hk => hk.2) (.slice Ao60 y809.length co60)) (fun _ hk => ⟨hk.1.1, ⟨hk.1.2.1, ⟨hk.1.2.2.1, ⟨hk.1.2.2.2.1, hk.1.2.2.2.2⟩⟩⟩⟩)⟩, ⟨by (with_reducible repeat (first | apply Kd.R_alloc | apply Kd.R_drewN | apply Kd.R_drew)); exact Kd.R_mono (Kd.R_far (p := ⟨gb801, 0, none⟩) (Kd.R_types HO_802001.out BK801.out (by decide)) (fun _ hk => hk.2) (.slice Ao60 y809.length co60)) (fun _ hk => ⟨hk.1.1.1, ⟨hk.1.1.2.1, ⟨hk.1.1.2.2.1, ⟨hk.1.1.2.2.2, hk.1.2⟩⟩⟩⟩)⟩, ⟨by (with_reducible repeat (first | refine blk_drewN ?_ _ | refine blk_drew ?_ | refine blk_alloc ?_ _)); refine blk_far ?_ NB797_801.out _; (with_reducible repeat (first | refine blk_drewN ?_ _ | refine blk_drew ?_ | refine blk_alloc ?_ _)); exact BK797.out⟩, ⟨by (with_reducible repeat (first | refine blk_drewN ?_ _ | refine blk_drew ?_ | refine blk_alloc ?_ _)); refine blk_far ?_ NB798_801.out _; (with_reducible repeat (first | refine blk_drewN ?_ _ | refine blk_drew ?_ | refine blk_alloc ?_ _)); exact BK798.out⟩, ⟨by (with_reducible repeat (first | refine blk_drewN ?_ _ | refine blk_drew ?_ | refine blk_alloc ?_ _)); refine blk_put (cs := #[u802000, .slice Ao56 x802001_3.length co56]) ?_ 0 _ rfl; (with_reducible repeat (first | refine blk_drewN ?_ _ | refine blk_drew ?_ | refine blk_alloc ?_ _)); exact BK801.out⟩, ⟨uk HK.out⟩, ⟨uc HB.out⟩⟩
               ·rw [if_neg c51] at H
                exact absurd H (by simp)
              ·replace c50 := Bool.eq_false_iff.mpr c50
               subst c50
               have H1 : ((some (([rd l1_0 x15_4] : List Int) : List Int)).bind fun y813 => (if y813.length + x14_4.length < 17592186044416 then (curtilageref21_Close.l2 k4 l0 (y813 ++ x14_4) (wrap64 (x15_4 + 1)) l1_0 l1_1 x802000_4 x802001_3) else (none))) = some (r1, r2, r3, r4) := by rw [if_neg (show ¬ (false = true) by decide)] at H; exact H
               clear H
               have H := H1
               clear H1
               obtain ⟨y813, hy813⟩ : ∃ y_ : List Int, y_ = (([rd l1_0 x15_4] : List Int)) := ⟨_, rfl⟩
               replace H : (if y813.length + x14_4.length < 17592186044416 then (curtilageref21_Close.l2 k4 l0 (y813 ++ x14_4) (wrap64 (x15_4 + 1)) l1_0 l1_1 x802000_4 x802001_3) else (none)) = some (r1, r2, r3, r4) := by first | (rw [hy813]; with_reducible exact H) | (have H2_ := (Option.bind_some _ _).symm.trans H; rw [hy813]; with_reducible exact H2_) | (have H2_ := (Option.bind_some _ _).symm.trans H; with_reducible exact H2_) | with_reducible exact H | (rw [hy813]; exact H) | exact H
               have Ny813 := am hy813
               clear hy813
               by_cases c62 : y813.length + x14_4.length < 17592186044416
               ·rw [if_pos c62] at H
                have LMc62 := am c62
                clear c62
                obtain ⟨y816, hy816⟩ : ∃ y_ : List Int, y_ = (y813 ++ x14_4) := ⟨_, rfl⟩
                replace H : (curtilageref21_Close.l2 k4 l0 y816 (wrap64 (x15_4 + 1)) l1_0 l1_1 x802000_4 x802001_3) = some (r1, r2, r3, r4) := by first | (rw [hy816]; with_reducible exact H) | (have H2_ := (Option.bind_some _ _).symm.trans H; rw [hy816]; with_reducible exact H2_) | (have H2_ := (Option.bind_some _ _).symm.trans H; with_reducible exact H2_) | with_reducible exact H | (rw [hy816]; exact H) | exact H
                have Ny816 := am hy816
                clear hy816
                have H' := am H
                clear H
                have hnb63 := NB797_798.out
                have hnc63 := NB798_797.out
                have hnb64 := NB797_801.out
                have hnc64 := NB801_797.out
                have hcz65_0 : wr.cell? ⟨gb797, 0, none⟩ = some (.slice Ao5 l1_0.length co5) := (blk_cell BK797.out 0).trans rfl
                have hcz65_1 : wr.cell? ⟨gb797, 1, none⟩ = some (.slice Ao6 l1_1.length co6) := (blk_cell BK797.out 1).trans rfl
                have hfz65_0 := blk_frozen BK797.out 0
                have hfz65_1 := blk_frozen BK797.out 1
                try go_wp2
                have n0_ := am (Kd.R_drew HO_14.out)
                have n1_ := am (Kd.R_drew HO_798000.out)
                have n2_ := am (Kd.R_drew HO_798001.out)
                have n3_ := am (Kd.R_drew HO_802000.out)
                have n4_ := am (Kd.R_drew HO_802001.out)
                have n5_ := am (blk_drew BK797.out)
                have n6_ := am (blk_drew BK798.out)
                have n7_ := am (blk_drew BK801.out)
                have n8_ := am (Kept.drew HK.out)
                have n9_ := am (below_drew1 HB.out)
                revert n0_ n1_ n2_ n3_ n4_ n5_ n6_ n7_ n8_ n9_
                clear HO_14 HO_798000 HO_798001 HO_802000 HO_802001 BK797 BK798 BK801 HK HB
                intro HO_14 HO_798000 HO_798001 HO_802000 HO_802001 BK797 BK798 BK801 HK HB
                have p806 : 0 ≤ (x15_4 : Int) := ud
                have q806 : x15_4 < (l1_0.length : Int) := ud
                obtain ⟨ad806, e806, hx806_0⟩ := Kd.at_int (Kd.R_reads' HO_798000.out).2.2 x15_4 p806 q806
                cases e806
                replace p806 := eq_true p806
                replace q806 := eq_true q806
                obtain ⟨Ao67, co67, eo67⟩ := Kd.R_slice HO_802001.out
                (first | subst eo67 | (injection eo67 with f1_ f2_ f3_; have f4_ := f1_.symm; have f5_ := f3_.symm; clear f1_ f2_ f3_; subst f4_; subst f5_))
                refine start_ (n := 10) (S := fun w' => w'.cell? ⟨gb801, 0, none⟩ = some (u802000) ∧ w'.cell? ⟨gb801, 1, none⟩ = some (.slice Ao67 x802001_3.length co67) ∧ w'.cell? ⟨gb797, 0, none⟩ = some (.slice (some ad806) l1_0.length co5) ∧ w'.cell? ⟨gb797, 1, none⟩ = some (.slice Ao6 l1_1.length co6) ∧ w'.cell? (ad806.add (x15_4).toNat) = some (.int .i64 (rd l1_0 x15_4))) (ds := []) #[false, false, false, false, false, false, false, false, false, false] (by kernel_rfl) rfl rfl ⟨(blk_cell BK801.out 0).trans rfl, (blk_cell BK801.out 1).trans rfl, (blk_cell BK797.out 0).trans rfl, (blk_cell BK797.out 1).trans rfl, hx806_0⟩ (fun hHeld => ?_); refine with_tabW curtilageref21_Close.tab20 curtilageref21_Close.bits20 (fun HT_ HW_ => ?_)
                generalize wr.drew = w66 at HO_14 HO_798000 HO_798001 HO_802000 HO_802001 BK797 BK798 BK801 HK HB hx806_0 hHeld ⊢
                refine pv 0 70 (bA 10 1) HT_ ?_
                refine pv 1 71 (bA 10 3) HT_ ?_
                refine pv 3 73 (bA 10 11) HT_ ?_
                refine pv 5 75 (bA 10 43) HT_ ?_
                refine tv 2 72 (bA 10 47) HT_ HW_ hHeld ?_ (hy := by rintro w' ⟨s0, s1, s2, s3, s4⟩; go_simp; with_reducible rfl)
                refine tv 4 74 (bA 10 63) HT_ HW_ hHeld ?_ (hy := by rintro w' ⟨s0, s1, s2, s3, s4⟩; go_simp; with_reducible rfl)
                refine pv 6 76 (bA 10 127) HT_ ?_
                refine tv 7 77 (bA 10 255) HT_ HW_ hHeld ?_ (hy := by rintro w' ⟨s0, s1, s2, s3, s4⟩; go_simp; with_reducible rfl)
                refine one_ (i := 8) (N := some 78) #[true, true, true, true, true, true, true, true, true, false] rfl rfl (one_of HT_.out (by kernel_rfl)) (by decide) (fun K hK => ?_)
                refine goes_ Try.func14 (by kernel_rfl) rfl #[.slice A0 l0.length c0, .slice Ao67 x802001_3.length co67, .int .i64 (rd l1_0 x15_4)] (by rfl) rfl rfl (by (try simp only [List.map_toArray, List.map_cons, List.map_nil]); first | done | rfl | (simp only [List.length_drop, List.length_take]; rfl)) ?_
                with_reducible refine (curtilageref21_Needed.calls k4 _ _ l0 _ _ x802001_3 (rd l1_0 x15_4) false _ ?side1 ?side2 ?side3 ?side4 A49.out).mono ?_
                (case side1 => exact Kd.C_kept_now HR0.out (uk HK.out))
                (case side2 => exact HC0.out)
                (case side3 => exact us (Kd.R_reads' HO_802001.out).2.2)
                (case side4 => exact (Kd.R_reads' HO_802001.out).2.1)
                rintro e w68 ⟨rfl, hb⟩
                have HS4_ := (hb.cell (World.block_lt_of_cell? _ _ (hHeld.2.2.2.2))).trans (hHeld.2.2.2.2)
                refine ⟨_, rfl, ?_⟩
                have n0_ := am (Kd.R_below (ua HO_14.out) hb)
                have n1_ := am (Kd.R_below (ua HO_798000.out) hb)
                have n2_ := am (Kd.R_below (ua HO_798001.out) hb)
                have n3_ := am (Kd.R_below (ua HO_802000.out) hb)
                have n4_ := am (Kd.R_below (ua HO_802001.out) hb)
                have n5_ := am (blk_below (g := gb797) (o := .cells #[.slice (some ad806) l1_0.length co5, .slice Ao6 l1_1.length co6] 53 (0, 0)) (ub BK797.out) hb)
                have n6_ := am (blk_below (g := gb798) (o := .cells #[.slice none 0 0, .slice none 0 0] 53 (0, 0)) (ub BK798.out) hb)
                have n7_ := am (blk_below (g := gb801) (o := .cells #[u802000, .slice Ao67 x802001_3.length co67] 53 (0, 0)) (ub BK801.out) hb)
                have n8_ := am (Kept.below (S := (fun k_ => P1_0_ k_ ∨ P1_1_ k_)) (uk HK.out) hb)
                have n9_ := am (below_step (uc HB.out) hb)
                revert n0_ n1_ n2_ n3_ n4_ n5_ n6_ n7_ n8_ n9_
                clear HO_14 HO_798000 HO_798001 HO_802000 HO_802001 BK797 BK798 BK801 HK HB
                intro HO_14 HO_798000 HO_798001 HO_802000 HO_802001 BK797 BK798 BK801 HK HB
                (try clear hb)
                (try clear hb2)
                (try clear hk)
                (try clear hi)
                refine hK.out _ _ ⟨(blk_cell BK801.out 0).trans rfl, (blk_cell BK801.out 1).trans rfl, (blk_cell BK797.out 0).trans rfl, (blk_cell BK797.out 1).trans rfl, HS4_⟩ (fun hHeld => ?_)
                clear hK K
                refine norm_ (a' := ?_) ?_ ?_
                rotate_left
                ·show Act.put _ (some 78) _ = _
                 simp only [Act.put, List.setIfInBounds_toArray, List.set_cons_zero, List.set_cons_succ, i64_w, i32_w]
                 rfl
                refine pv 9 16 (bA 10 1023) HT_ ?_
                refine done_ (done_of HT_.out (by kernel_rfl)) ?_
                have hcz69_0 : w68.cell? ⟨gb797, 0, none⟩ = some (.slice (some ad806) l1_0.length co5) := (blk_cell BK797.out 0).trans rfl
                have hcz69_1 : w68.cell? ⟨gb797, 1, none⟩ = some (.slice Ao6 l1_1.length co6) := (blk_cell BK797.out 1).trans rfl
                have hfz69_0 := blk_frozen BK797.out 0
                have hfz69_1 := blk_frozen BK797.out 1
                have p812 : 0 ≤ (x15_4 : Int) := ud
                have q812 : x15_4 < (l1_0.length : Int) := ud
                obtain ⟨ad812, e812, hx812_0⟩ := Kd.at_int (Kd.R_reads' HO_798000.out).2.2 x15_4 p812 q812
                obtain rfl : ad806 = ad812 := (by injection e812)
                replace p812 := eq_true p812
                replace q812 := eq_true q812
                try go_wp2_with (first | ((with_reducible refine gate_dst (N := 95) rfl ?_); refine Kd.R_lit (Kd.int .i64) _ 3 ?hg (N := 95) ?hd (xs := ([rd l1_0 x15_4] : List Int)) (inner := [.int .i64 (rd l1_0 x15_4)]) (ok := fun _ => True) (okp := fun _ => True) ?hr ?hp (fun _ hk => hk) trivial (Below.refl _ _) (Nat.le_refl _) (by simp) ?_; (case hd => rfl); (case hg => rfl); (case hr => first | (go_simp; done) | (go_simp; rfl)); (case hp => exact (Reps.one (show Kd.M (Kd.int .i64) _ _ _ (rd l1_0 x15_4) [.int .i64 (rd l1_0 x15_4)] from rfl) (Reps.none _ _))); intro v814 w70 ho71 hb hg_ hnew_; clear hg_ hnew_; (first | rw [← Ny813.out] at ho71 | (simp only [Int.reduceToNat] at ho71; rw [← Ny813.out] at ho71)); have n0_ := am (Kd.R_elder' (ua HO_14.out) (Kd.R_base ho71) hb); have n1_ := am (Kd.R_elder' (ua HO_798000.out) (Kd.R_base ho71) hb); have n2_ := am (Kd.R_elder' (ua HO_798001.out) (Kd.R_base ho71) hb); have n3_ := am (Kd.R_elder' (ua HO_802000.out) (Kd.R_base ho71) hb); have n4_ := am (Kd.R_elder' (ua HO_802001.out) (Kd.R_base ho71) hb); have n5_ := am (Kd.R_lower (Kd.R_new' (Kd.R_new' (Kd.R_new' (Kd.R_new' (Kd.R_new' (Kd.R_newM (M := fun k_ => ((P1_0_ k_ ∨ P1_1_ k_) ∨ w.heap.size ≤ k_)) ho71 (by first | exact HK.out.1 | exact (show Kept w _ (fun k_ => P1_0_ k_ ∨ P1_1_ k_) from uk HK.out).1) (fun k_ h_ => .inr h_)) (Kd.R_lt (ua HO_14.out))) (Kd.R_lt (ua HO_798000.out))) (Kd.R_lt (ua HO_798001.out))) (Kd.R_lt (ua HO_802000.out))) (Kd.R_lt (ua HO_802001.out))) (below_size (uc HB.out))); have n6_ := am (blk_below (g := gb797) (o := .cells #[.slice (some ad806) l1_0.length co5, .slice Ao6 l1_1.length co6] 53 (0, 0)) (ub BK797.out) hb); have n7_ := am (blk_below (g := gb798) (o := .cells #[.slice none 0 0, .slice none 0 0] 53 (0, 0)) (ub BK798.out) hb); have n8_ := am (blk_below (g := gb801) (o := .cells #[u802000, .slice Ao67 x802001_3.length co67] 53 (0, 0)) (ub BK801.out) hb); have n9_ := am (Kept.below (S := (fun k_ => P1_0_ k_ ∨ P1_1_ k_)) (uk HK.out) hb); have n10_ := am (below_step (uc HB.out) hb); revert n0_ n1_ n2_ n3_ n4_ n5_ n6_ n7_ n8_ n9_ n10_; clear HO_14 HO_798000 HO_798001 HO_802000 HO_802001 BK797 BK798 BK801 HK HB; intro HO_14 HO_798000 HO_798001 HO_802000 HO_802001 HO815 BK797 BK798 BK801 HK HB; clear hb ho71; obtain ⟨Ao73, co73, eo73⟩ := Kd.R_slice HO_14.out; subst eo73) | ((with_reducible refine gate_builtin (b := .append) (xs := #[.tmp 95, .tmp 96]) rfl ?_); at_builtin; refine Kd.R_append_rows (Kd.int .i64) (w0 := w0) w0.heap.size rfl (.tmp 95) (.tmp 96) 26 3 (.int .i64 0) 8 rfl Try.underlying26 info3 rfl (by decide) (by omega) v814 y813 x14_4 _ _ _ (fun k_ => ((P1_0_ k_ ∨ P1_1_ k_) ∨ w.heap.size ≤ k_) ∧ nw k_ Ao73 x14_4 co73 ∧ some k_ ≠ (.slice (some ad806) l1_0.length co5 : Value).ownBlock ∧ nw k_ Ao6 l1_1 co6 ∧ nv k_ u802000 ∧ nw k_ Ao67 x802001_3 co67) (fun _ => False) rfl rfl ?aO ?aR (fun _ _ h => h) (fun _ h => h.elim) ?aF ?aB ?aS ?aL ?_; (case aR => exact us (Kd.R_reads' HO_14.out).2.2); (case aB => exact (uc HB.out)); (case aF => exact (fun k_ hk => ⟨(.inr (Nat.le_trans (by first | exact HK.out.1 | exact (show Kept w _ (fun k_ => P1_0_ k_ ∨ P1_1_ k_) from uk HK.out).1) hk)), Kd.fresh' (Kd.R_lt (ua HO_14.out)) k_ hk, Kd.fresh' (Kd.R_lt (ua HO_798000.out)) k_ hk, Kd.fresh' (Kd.R_lt (ua HO_798001.out)) k_ hk, Kd.fresh' (Kd.R_lt (ua HO_802000.out)) k_ hk, Kd.fresh' (Kd.R_lt (ua HO_802001.out)) k_ hk⟩)); (case aO => exact (by (with_reducible repeat (first | apply Kd.R_alloc | apply Kd.R_drewN | apply Kd.R_drew)); exact Kd.R_mono HO815.out (fun _ hk => ⟨hk.1.1.1.1.1.1, ⟨hk.1.1.1.1.2, ⟨hk.1.1.1.2, ⟨hk.1.1.2, ⟨hk.1.2, hk.2⟩⟩⟩⟩⟩))); (case aS => exact (below_size (uc HB.out))); (case aL => have := LMc62.out; omega); intro v817 w72 ho hb hg hat; rw [← Ny816.out] at ho; have n0_ := am (Kd.R_after (ok := (fun k_ => ((P1_0_ k_ ∨ P1_1_ k_) ∨ w.heap.size ≤ k_) ∧ some k_ ≠ (.slice (some ad806) l1_0.length co5 : Value).ownBlock ∧ nw k_ Ao6 l1_1 co6 ∧ nv k_ u802000 ∧ nw k_ Ao67 x802001_3 co67)) (ua HO_14.out) hg hat); have n1_ := am (Kd.R_after (ok := (fun k_ => ((P1_0_ k_ ∨ P1_1_ k_) ∨ w.heap.size ≤ k_) ∧ nw k_ Ao73 x14_4 co73 ∧ nw k_ Ao6 l1_1 co6 ∧ nv k_ u802000 ∧ nw k_ Ao67 x802001_3 co67)) (ua HO_798000.out) hg hat); have n2_ := am (Kd.R_after (ok := (fun k_ => ((P1_0_ k_ ∨ P1_1_ k_) ∨ w.heap.size ≤ k_) ∧ nw k_ Ao73 x14_4 co73 ∧ some k_ ≠ (.slice (some ad806) l1_0.length co5 : Value).ownBlock ∧ nv k_ u802000 ∧ nw k_ Ao67 x802001_3 co67)) (ua HO_798001.out) hg hat); have n3_ := am (Kd.R_after (ok := (fun k_ => ((P1_0_ k_ ∨ P1_1_ k_) ∨ w.heap.size ≤ k_) ∧ nw k_ Ao73 x14_4 co73 ∧ some k_ ≠ (.slice (some ad806) l1_0.length co5 : Value).ownBlock ∧ nw k_ Ao6 l1_1 co6 ∧ nw k_ Ao67 x802001_3 co67)) (ua HO_802000.out) hg hat); have n4_ := am (Kd.R_after (ok := (fun k_ => ((P1_0_ k_ ∨ P1_1_ k_) ∨ w.heap.size ≤ k_) ∧ nw k_ Ao73 x14_4 co73 ∧ some k_ ≠ (.slice (some ad806) l1_0.length co5 : Value).ownBlock ∧ nw k_ Ao6 l1_1 co6 ∧ nv k_ u802000)) (ua HO_802001.out) hg hat); have n5_ := am (blk_grown (g := gb797) (o := .cells #[.slice (some ad806) l1_0.length co5, .slice Ao6 l1_1.length co6] 53 (0, 0)) (ub BK797.out) hg (Kd.R_ne HO815.out BK797.out (by decide))); have n6_ := am (blk_grown (g := gb798) (o := .cells #[.slice none 0 0, .slice none 0 0] 53 (0, 0)) (ub BK798.out) hg (Kd.R_ne HO815.out BK798.out (by decide))); have n7_ := am (blk_grown (g := gb801) (o := .cells #[u802000, .slice Ao67 x802001_3.length co67] 53 (0, 0)) (ub BK801.out) hg (Kd.R_ne HO815.out BK801.out (by decide))); have n8_ := am (hb); have n9_ := am (Kept.of_grown (S := (fun k_ => P1_0_ k_ ∨ P1_1_ k_)) hg (uk HK.out) (fun k_ e_ => (HO815.out.1 k_ e_).1.1.1.1.1.1)); have n10_ := am (ho); revert n0_ n1_ n2_ n3_ n4_ n5_ n6_ n7_ n8_ n9_ n10_; clear HO_14 HO_798000 HO_798001 HO_802000 HO_802001 BK797 BK798 BK801 HB HK HO815; intro HO_14 HO_798000 HO_798001 HO_802000 HO_802001 BK797 BK798 BK801 HB HK HO818; clear ho hb hg hat))
                go_roundg k4
                case measure => have := HK1.out; have := HJ15.out; have := HK3.out; have := HK4.out; omega
                case rel => exact ⟨(y816), (wrap64 (x15_4 + 1)), (x802000_4), (u802000), uf, H', ⟨by have := HK1.out; have := HJ15.out; have := HK3.out; have := HK4.out; omega⟩, ⟨by (with_reducible repeat (first | apply Kd.R_alloc | apply Kd.R_drewN | apply Kd.R_drew)); exact Kd.R_mono HO818.out (fun _ hk => ⟨hk.1, ⟨hk.2.2.1, ⟨hk.2.2.2.1, ⟨hk.2.2.2.2.1, hk.2.2.2.2.2⟩⟩⟩⟩)⟩, ⟨by (with_reducible repeat (first | apply Kd.R_alloc | apply Kd.R_drewN | apply Kd.R_drew)); exact Kd.R_mono HO_798000.out (fun _ hk => ⟨hk.1.1, ⟨hk.2, ⟨hk.1.2.2.1, ⟨hk.1.2.2.2.1, hk.1.2.2.2.2⟩⟩⟩⟩)⟩, ⟨by (with_reducible repeat (first | apply Kd.R_alloc | apply Kd.R_drewN | apply Kd.R_drew)); exact Kd.R_mono HO_798001.out (fun _ hk => ⟨hk.1.1, ⟨hk.2, ⟨hk.1.2.2.1, ⟨hk.1.2.2.2.1, hk.1.2.2.2.2⟩⟩⟩⟩)⟩, ⟨by (with_reducible repeat (first | apply Kd.R_alloc | apply Kd.R_drewN | apply Kd.R_drew)); exact Kd.R_mono HO_802000.out (fun _ hk => ⟨hk.1.1, ⟨hk.2, ⟨hk.1.2.2.1, ⟨hk.1.2.2.2.1, hk.1.2.2.2.2⟩⟩⟩⟩)⟩, ⟨by (with_reducible repeat (first | apply Kd.R_alloc | apply Kd.R_drewN | apply Kd.R_drew)); exact Kd.R_mono HO_802001.out (fun _ hk => ⟨hk.1.1, ⟨hk.2, ⟨hk.1.2.2.1, ⟨hk.1.2.2.2.1, hk.1.2.2.2.2⟩⟩⟩⟩)⟩, ⟨ub BK797.out⟩, ⟨ub BK798.out⟩, ⟨ub BK801.out⟩, ⟨uk HK.out⟩, ⟨uc HB.out⟩⟩
               ·rw [if_neg c62] at H
                exact absurd H (by simp)
             ·rw [if_neg c48] at H
              exact absurd H (by simp)
            ·rw [if_neg c47] at H
             have c47b0 : decide (x15_4 < (l1_0.length : Int)) = false := decide_eq_false c47
             clear c47
             simp only [Option.some.injEq, Prod.mk.injEq] at H
             obtain ⟨rfl, rfl, rfl, rfl⟩ := H
             have hnb74 := NB797_798.out
             have hnc74 := NB798_797.out
             have hnb75 := NB797_801.out
             have hnc75 := NB801_797.out
             have hcz76_0 : wr.cell? ⟨gb797, 0, none⟩ = some (.slice Ao5 l1_0.length co5) := (blk_cell BK797.out 0).trans rfl
             have hcz76_1 : wr.cell? ⟨gb797, 1, none⟩ = some (.slice Ao6 l1_1.length co6) := (blk_cell BK797.out 1).trans rfl
             have hfz76_0 := blk_frozen BK797.out 0
             have hfz76_1 := blk_frozen BK797.out 1
             have hnb77 := NB801_798.out
             have hnc77 := NB798_801.out
             have hcz78_0 : wr.cell? ⟨gb801, 0, none⟩ = some (u802000) := (blk_cell BK801.out 0).trans rfl
             have hcz78_1 : wr.cell? ⟨gb801, 1, none⟩ = some (u802001) := (blk_cell BK801.out 1).trans rfl
             have hfz78_0 := blk_frozen BK801.out 0
             have hfz78_1 := blk_frozen BK801.out 1
             obtain ⟨Ao79, co79, eo79⟩ := Kd.R_slice HO_802000.out
             subst eo79
             have hcz80_0 : wr.cell? ⟨gb798, 0, none⟩ = some (.slice none 0 0) := (blk_cell BK798.out 0).trans rfl
             have hcz80_1 : wr.cell? ⟨gb798, 1, none⟩ = some (.slice none 0 0) := (blk_cell BK798.out 1).trans rfl
             have hfz80_0 := blk_frozen BK798.out 0
             have hfz80_1 := blk_frozen BK798.out 1
             obtain ⟨Ao81, co81, eo81⟩ := Kd.R_slice HO_802001.out
             subst eo81
             go_wp2_with (first | ((with_reducible refine gate_store (t := 53) (p := 6) rfl ?_); refine store_event (t := 53) (p := 6) (v := ?vo_w82) (w1 := ((wr.setCell ⟨gb798, 0, none⟩ (.slice Ao79 x802000_4.length co79)).setCell ⟨gb798, 1, none⟩ (.slice Ao81 x802001_3.length co81))) ?hg ?ho ?hn ?hr ?_; (case ho => rfl); (case hg => rfl); (case hn => rfl); (case hr => first | (go_simp; done) | (go_simp; rfl)); intro w82 hw; have n0_ := st2 (fun k_ => ((P1_0_ k_ ∨ P1_1_ k_) ∨ w.heap.size ≤ k_) ∧ nw k_ Ao5 l1_0 co5 ∧ nw k_ Ao6 l1_1 co6 ∧ nw k_ Ao79 x802000_4 co79 ∧ nw k_ Ao81 x802001_3 co81) hw HO_14 BK798 (fun _ h => ⟨h.1, h.2.1, h.2.2.1, h.2.2.2.1, h.2.2.2.2⟩); have n1_ := st2 (fun k_ => ((P1_0_ k_ ∨ P1_1_ k_) ∨ w.heap.size ≤ k_) ∧ nv k_ u14 ∧ nw k_ Ao6 l1_1 co6 ∧ nw k_ Ao79 x802000_4 co79 ∧ nw k_ Ao81 x802001_3 co81) hw HO_798000 BK798 (fun _ h => ⟨h.1, h.2.1, h.2.2.1, h.2.2.2.1, h.2.2.2.2⟩); have n2_ := st2 (fun k_ => ((P1_0_ k_ ∨ P1_1_ k_) ∨ w.heap.size ≤ k_) ∧ nv k_ u14 ∧ nw k_ Ao5 l1_0 co5 ∧ nw k_ Ao79 x802000_4 co79 ∧ nw k_ Ao81 x802001_3 co81) hw HO_798001 BK798 (fun _ h => ⟨h.1, h.2.1, h.2.2.1, h.2.2.2.1, h.2.2.2.2⟩); have n3_ := st2 (fun k_ => ((P1_0_ k_ ∨ P1_1_ k_) ∨ w.heap.size ≤ k_) ∧ nv k_ u14 ∧ nw k_ Ao5 l1_0 co5 ∧ nw k_ Ao6 l1_1 co6 ∧ nw k_ Ao81 x802001_3 co81) hw HO_802000 BK798 (fun _ h => ⟨h.1, h.2.1, h.2.2.1, h.2.2.2.1, h.2.2.2.2⟩); have n4_ := st2 (fun k_ => ((P1_0_ k_ ∨ P1_1_ k_) ∨ w.heap.size ≤ k_) ∧ nv k_ u14 ∧ nw k_ Ao5 l1_0 co5 ∧ nw k_ Ao6 l1_1 co6 ∧ nw k_ Ao79 x802000_4 co79) hw HO_802001 BK798 (fun _ h => ⟨h.1, h.2.1, h.2.2.1, h.2.2.2.1, h.2.2.2.2⟩); have n5_ := bf2 hw NB797_798 BK797; have n6_ := bp2 #[.slice Ao79 x802000_4.length co79, .slice Ao81 x802001_3.length co81] hw BK798; have n7_ := bf2 hw NB801_798 BK801; have n8_ : Aside0 (Kept w w82 (fun k_ => P1_0_ k_ ∨ P1_1_ k_)) := ⟨(by rw [hw]; exact (uk HK.out))⟩; have n9_ : Aside0 (Below w0.heap.size w0 w82) := ⟨(by rw [hw]; exact (uc HB.out))⟩; revert n0_ n1_ n2_ n3_ n4_ n5_ n6_ n7_ n8_ n9_; clear hw HO_14 HO_798000 HO_798001 HO_802000 HO_802001 BK797 BK798 BK801 HK HB; intro HO_14 HO_798000 HO_798001 HO_802000 HO_802001 BK797 BK798 BK801 HK HB))
             refine bodyPost_ret (results_ctt rfl _ _ gb798 53 #[.slice Ao79 x802000_4.length co79, .slice Ao81 x802001_3.length co81] (0, 0) _ rfl (ub BK798.out) Try.underlying53 rfl (by kernel_rfl)) rfl ?_
             exact ⟨_, _, _, by first | rfl | (simp [errW_none, errW_some] <;> rfl) | (simp [*, errW_none, errW_some] <;> rfl), by (with_reducible repeat (first | apply Kd.R_alloc | apply Kd.R_drewN | apply Kd.R_drew)); exact Kd.R_mono HO_802000.out (fun _ hk => ⟨hk.1, ⟨hk.2.2.2.2, hk.2.1⟩⟩), by (with_reducible repeat (first | apply Kd.R_alloc | apply Kd.R_drewN | apply Kd.R_drew)); exact Kd.R_mono HO_802001.out (fun _ hk => ⟨hk.1, ⟨hk.2.2.2.2, hk.2.1⟩⟩), by (with_reducible repeat (first | apply Kd.R_alloc | apply Kd.R_drewN | apply Kd.R_drew)); exact Kd.R_mono HO_14.out (fun _ hk => ⟨hk.1, ⟨hk.2.2.2.1, hk.2.2.2.2⟩⟩), uc HB.out, uk HK.out⟩

end Go.Proofs.Ytociaidhgefpiaa.P
