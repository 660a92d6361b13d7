/- What functions of the program, and of its laws, give, each proved of its code by a walk; no condition. -/
import Derived.Test.YtociaidhgefpiaaKDlPlaysPx0
import Derived.Test.YtociaidhgefpiaaKDlPlaysPx1
import Derived.Test.YtociaidhgefpiaaKDlPlaysPx2
import Derived.Test.YtociaidhgefpiaaKDlPlaysPx19
import Derived.Test.YtociaidhgefpiaaKDlPlaysSq
import Derived.Test.YtociaidhgefpiaaKDlPlaysUsh
namespace Go.Proofs.Ytociaidhgefpiaa.P
open Go.RowKit Go.Proofs.YtociaidhgefpiaaW.PrintWords Go.Proofs.YtociaidhgefpiaaW.PrintLast Go.Proofs.YtociaidhgefpiaaW.PrintMore
attribute [local go_sem] max2_int min2_int max_two min_two max_three min_three max_four min_four   -- for this text's walks alone
set_option linter.unusedVariables false
set_option linter.unusedSimpArgs false

theorem own_cell0 {W : World} {base : Nat} {ok : Nat → Prop} {ad : Addr} {n c : Nat} {xs : List Int} (h : Kd.R (Kd.int .i64) 3 W base ok (.slice (some ad) n c) xs) (hp : 0 < xs.length) : W.cell? ad = some (.int .i64 (rd xs 0)) := by
  have hn := (Kd.R_reads' h).1
  obtain ⟨ad', e, hx⟩ := Kd.at_int (Kd.R_reads' h).2.2 0 (by omega) (by omega)
  cases e
  rw [show ((0 : Int)).toNat = 0 from rfl, Addr.add_zero'] at hx
  exact hx
def curtilageref21_Open.l0 : Nat → List Int → List Int → List Int → Int → List Int → List Int → Option (List Int × List Int × List Int × Int)
  | 0, _, _, _, _, _, _ => none
  | k + 1, x9, x12, x13, x14, x752000, x752001 => if x14 < (x12.length : Int) then (if 0 ≤ x14 then ((curtilageref13_Has.f k x752000 (rd x12 x14)).bind fun t762 => (if t762 = true then (curtilageref21_Open.l0 k x9 x12 x13 (wrap64 (x14 + 1)) x752000 x752001) else ((some (([rd x12 x14] : List Int) : List Int)).bind fun y764 => (if x13.length + y764.length < 17592186044416 then (curtilageref21_Open.l0 k x9 x12 (x13 ++ y764) (wrap64 (x14 + 1)) x752000 x752001) else (none))))) else (none)) else ((some (([] : List Int) : List Int)).bind fun y771 => (if y771.length + x752000.length < 17592186044416 then ((some (y771 ++ x752000 : List Int)).bind fun y774 => (if y774.length + x13.length < 17592186044416 then (if 0 < (x9.length : Int) then ((some (([] : List Int) : List Int)).bind fun y781 => (if y781.length + x752001.length < 17592186044416 then ((some (y781 ++ x752001 : List Int)).bind fun y784 => ((some (([rd x9 0] : List Int) : List Int)).bind fun y787 => (if y784.length + y787.length < 17592186044416 then (some ((y774 ++ x13), (y784 ++ y787), x13, 0)) else (none)))) else (none))) else (none)) else (none))) else (none)))
def curtilageref21_Open.f (k : Nat) (l0 : List (S38)) (l1_0 : List Int) (l1_1 : List Int) (a2 : ByteArray) : Option (List Int × List Int × List Int × Int) := (curtilageref13_Closure.f k l0 a2).bind fun bt753 => (if bt753.2.2 = 0 then ((curtilageref13_Begin.f l0 bt753.1).bind fun t758 => (curtilageref21_Open.l0 k bt753.1 t758 ([] : List Int) 0 l1_0 l1_1)) else (some (l1_0, l1_1, ([] : List Int), bt753.2.2)))
theorem curtilageref21_Open.mono_l : ∀ k, (∀ y0 y1 y2 y3 y4 y5, LeO (curtilageref21_Open.l0 k y0 y1 y2 y3 y4 y5) (curtilageref21_Open.l0 (k + 1) y0 y1 y2 y3 y4 y5))
  | 0 => fun _ _ _ _ _ _ r h => by simp [curtilageref21_Open.l0] at h
  | k + 1 => by
    have ih0 := curtilageref21_Open.mono_l k
    · intro y0 y1 y2 y3 y4 y5
      unfold curtilageref21_Open.l0
      repeat' first
      | (with_reducible exact ih0 _ _ _ _ _ _)
      | (with_reducible exact curtilageref13_Closure.mono _ _ _)
      | (with_reducible exact curtilageref13_Has.mono _ _ _)
      | (with_reducible exact LeO.refl _)
      | (with_reducible exact LeO.none _)
      | (with_reducible refine LeO.ite ?_ ?_)
      | (with_reducible refine LeO.bind ?_ (fun _ => ?_))
      | exact ih0 _ _ _ _ _ _
      | exact curtilageref13_Closure.mono _ _ _
      | exact curtilageref13_Has.mono _ _ _
      | exact LeO.none _
      | refine LeO.ite ?_ ?_
      | refine LeO.bind ?_ (fun _ => ?_)
theorem curtilageref21_Open.mono : ∀ a0 a1 a2 a3 k, LeO (curtilageref21_Open.f k a0 a1 a2 a3) (curtilageref21_Open.f (k + 1) a0 a1 a2 a3) := by
  intro a0 a1 a2 a3 k
  have ih0 := curtilageref21_Open.mono_l k
  unfold curtilageref21_Open.f
  repeat' first
      | (with_reducible exact ih0 _ _ _ _ _ _)
      | (with_reducible exact curtilageref13_Closure.mono _ _ _)
      | (with_reducible exact curtilageref13_Has.mono _ _ _)
      | (with_reducible exact LeO.refl _)
      | (with_reducible exact LeO.none _)
      | (with_reducible refine LeO.ite ?_ ?_)
      | (with_reducible refine LeO.bind ?_ (fun _ => ?_))
      | exact ih0 _ _ _ _ _ _
      | exact curtilageref13_Closure.mono _ _ _
      | exact curtilageref13_Has.mono _ _ _
      | exact LeO.none _
      | refine LeO.ite ?_ ?_
      | refine LeO.bind ?_ (fun _ => ?_)
def curtilageref21_Open.T9 : Bool × List (List Nat × List Nat) := (true, [([], []), ([0], [0]), ([], []), ([], []), ([2, 3], [2, 3]), ([4], [4]), ([1, 5], [1, 5]), ([6, 6, 0, 1, 2, 3, 4, 5, 6], [6])])
def curtilageref21_Open.B9 : List Nat := [0, 1, 0, 0, 12, 28, 63, 127]
theorem curtilageref21_Open.tab9 : rtab .any (opsOf Try.f23 9) = curtilageref21_Open.T9 := by kernel_rfl
theorem curtilageref21_Open.bits9 : waitsOk curtilageref21_Open.T9.2 curtilageref21_Open.B9 = true := by kernel_rfl
def curtilageref21_Open.T14 : Bool × List (List Nat × List Nat) := (true, [([], []), ([], []), ([1], [1]), ([0, 2], [0, 2]), ([], []), ([4], [4]), ([5], [5]), ([6], [6]), ([3, 7, 3], [3, 7]), ([0, 1, 2, 3, 4, 5, 6, 7, 8], []), ([9, 8, 8, 0, 1, 2, 3, 4, 5, 6, 7, 8], [8, 9])])
def curtilageref21_Open.B14 : List Nat := [0, 0, 2, 7, 0, 16, 48, 112, 255, 511, 1023]
theorem curtilageref21_Open.tab14 : rtab .any (opsOf Try.f23 14) = curtilageref21_Open.T14 := by kernel_rfl
theorem curtilageref21_Open.bits14 : waitsOk curtilageref21_Open.T14.2 curtilageref21_Open.B14 = true := by kernel_rfl
set_option maxHeartbeats 8000000 in
set_option maxRecDepth 100000 in
theorem curtilageref21_Open.calls (k : Nat) (A0 : Option Addr) (c0 : Nat) (l0 : List (S38)) (P1_0_ : Nat → Prop) (u9000_ : Value) (l1_0 : List Int) (P1_1_ : Nat → Prop) (u9001_ : Value) (l1_1 : List Int) (a2 : ByteArray) (r1 : List Int) (r2 : List Int) (r3 : List Int) (r4 : Int) (w0 w : World) (hB : Below w0.heap.size w0 w) (hr0 : ∀ W_, Kept w W_ (fun k_ => P1_0_ k_ ∨ P1_1_ k_) → Kd.C k38 W_ A0 l0.length l0) (hc0 : l0.length ≤ c0) (ho1_0 : Kd.R (Kd.int .i64) 3 w w0.heap.size P1_0_ u9000_ l1_0) (hp1_0_1_1 : ∀ k_, P1_0_ k_ → ¬ P1_1_ k_) (ho1_1 : Kd.R (Kd.int .i64) 3 w w0.heap.size P1_1_ u9001_ l1_1) (hp1_1_1_0 : ∀ k_, P1_1_ k_ → ¬ P1_0_ k_) (h : curtilageref21_Open.f k l0 l1_0 l1_1 a2 = some (r1, r2, r3, r4)) :
  Calls Try.prog 23 #[.slice A0 l0.length c0, .agg #[u9000_, u9001_], .string a2] w fun e w' => ∃ v0_ v1_ v2_ : Value, e = .returned (.tuple #[.agg #[v0_, v1_], v2_, .int .i64 r4]) ∧ Kd.R (Kd.int .i64) 3 w' w0.heap.size (fun k_ => ((P1_0_ k_ ∨ P1_1_ k_) ∨ w.heap.size ≤ k_) ∧ nv k_ v1_ ∧ nv k_ v2_) v0_ r1 ∧ Kd.R (Kd.int .i64) 3 w' w0.heap.size (fun k_ => ((P1_0_ k_ ∨ P1_1_ k_) ∨ w.heap.size ≤ k_) ∧ nv k_ v0_ ∧ nv k_ v2_) v1_ r2 ∧ Kd.R (Kd.int .i64) 3 w' w0.heap.size (fun k_ => ((P1_0_ k_ ∨ P1_1_ k_) ∨ w.heap.size ≤ k_) ∧ nv k_ v0_ ∧ nv k_ v1_) v2_ r3 ∧ Below w0.heap.size w0 w' ∧ Kept w w' (fun k_ => P1_0_ k_ ∨ P1_1_ k_) := by
 have hu53 := Try.underlying53
 have HR0 := am hr0
 have HC0 := am hc0
 clear hr0 hc0
 have HO1_0 := am (show Kd.R (Kd.int .i64) 3 w w0.heap.size (fun k_ => ((P1_0_ k_ ∨ P1_1_ k_) ∨ w.heap.size ≤ k_) ∧ nv k_ u9001_) u9000_ l1_0 from Kd.R_mono ho1_0 (fun k_ hk => ⟨(.inl (.inl hk)), fun e_ => hp1_0_1_1 k_ hk (ho1_1.1 k_ e_.symm)⟩))
 have HO1_1 := am (show Kd.R (Kd.int .i64) 3 w w0.heap.size (fun k_ => ((P1_0_ k_ ∨ P1_1_ k_) ∨ w.heap.size ≤ k_) ∧ nv k_ u9000_) u9001_ l1_1 from Kd.R_mono ho1_1 (fun k_ hk => ⟨(.inl (.inr hk)), fun e_ => hp1_1_1_0 k_ hk (ho1_0.1 k_ e_.symm)⟩))
 have HK := am (Kept.refl w (fun k_ => P1_0_ k_ ∨ P1_1_ k_))
 have HW0 := am hB.size
 have HB := am hB
 clear hB
 have H : ((curtilageref13_Closure.f k l0 a2).bind fun bt753 => (if bt753.2.2 = 0 then ((curtilageref13_Begin.f l0 bt753.1).bind fun t758 => (curtilageref21_Open.l0 k bt753.1 t758 ([] : List Int) 0 l1_0 l1_1)) else (some (l1_0, l1_1, ([] : List Int), bt753.2.2)))) = some (r1, r2, r3, r4) := h
 clear h
 replace H := Option.bind_eq_some_iff.mp H
 obtain ⟨⟨t753, t754, t755⟩, A40, H⟩ := H
 replace H : (if t755 = 0 then ((curtilageref13_Begin.f l0 t753).bind fun t758 => (curtilageref21_Open.l0 k t753 t758 ([] : List Int) 0 l1_0 l1_1)) else (some (l1_0, l1_1, ([] : List Int), t755))) = some (r1, r2, r3, r4) := H
 have A4 := am A40
 clear A40
 by_cases c5 : t755 = 0
 ·rw [if_pos c5] at H
  have c5b0 : (t755 == 0) = true := beq_iff_eq.mpr c5
  have c5b1 : (t755 != 0) = false := bne_eq_false_iff_eq.mpr c5
  clear c5
  replace H := Option.bind_eq_some_iff.mp H
  obtain ⟨t758, A60, H⟩ := H
  replace H : (curtilageref21_Open.l0 k t753 t758 ([] : List Int) 0 l1_0 l1_1) = some (r1, r2, r3, r4) := H
  have A6 := am A60
  clear A60
  have H' := am H
  clear H
  obtain ⟨Ao7, co7, eo7⟩ := Kd.R_slice HO1_0.out
  subst eo7
  obtain ⟨Ao8, co8, eo8⟩ := Kd.R_slice HO1_1.out
  subst eo8
  go_enter Try.func23, Try.ntmps23
  go_wp2_with (first | ((with_reducible refine gate_dst (N := 4) rfl ?_); refine box_event ?hg (N := 4) ?hd (cs := #[.slice Ao7 l1_0.length co7, .slice Ao8 l1_1.length co8]) (t := 53) ?hr ?_; (case hd => rfl); (case hg => rfl); (case hr => first | (go_simp; done) | (go_simp; rfl)); intro gb751 hg w9 hbox hb; have n0_ := am (Kd.R_below (ua HO1_0.out) hb); have n1_ := am (Kd.R_below (ua HO1_1.out) hb); have n2_ := am (Kept.below (S := (fun k_ => P1_0_ k_ ∨ P1_1_ k_)) (uk HK.out) hb); have n3_ := am (below_step (uc HB.out) hb); have n4_ := am (hbox); have n5_ := am ((by rw [hg]; exact (by first | exact HK.out.1 | exact (show Kept w _ (fun k_ => P1_0_ k_ ∨ P1_1_ k_) from uk HK.out).1) : w.heap.size ≤ gb751)); have n6_ := am ((by rw [hg]; exact (below_size (uc HB.out)) : w0.heap.size ≤ gb751)); revert n0_ n1_ n2_ n3_ n4_ n5_ n6_; clear HO1_0 HO1_1 HK HB; intro HO1_0 HO1_1 HK HB BK751 GW751 GE751; clear hb hbox hg) | ((with_reducible refine gate_dst (N := 6) rfl ?_); refine box_event ?hg (N := 6) ?hd (cs := #[.slice none 0 0, .slice none 0 0]) (t := 53) ?hr ?_; (case hd => rfl); (case hg => rfl); (case hr => first | (go_simp; done) | (go_simp; rfl)); intro gb752 hg w10 hbox hb; have n0_ := am (Kd.R_below (ua HO1_0.out) hb); have n1_ := am (Kd.R_below (ua HO1_1.out) hb); have n2_ := am (blk_below (g := gb751) (o := .cells #[.slice Ao7 l1_0.length co7, .slice Ao8 l1_1.length co8] 53 (0, 0)) (ub BK751.out) hb); have n3_ := am (Kept.below (S := (fun k_ => P1_0_ k_ ∨ P1_1_ k_)) (uk HK.out) hb); have n4_ := am (below_step (uc HB.out) hb); have n5_ := am (hbox); have n6_ := am ((by rw [hg]; exact (by first | exact HK.out.1 | exact (show Kept w _ (fun k_ => P1_0_ k_ ∨ P1_1_ k_) from uk HK.out).1) : w.heap.size ≤ gb752)); have n7_ := am ((by rw [hg]; exact (below_size (uc HB.out)) : w0.heap.size ≤ gb752)); have n8_ := am ((by rw [hg]; exact Nat.ne_of_lt (blk_lt (g := gb751) (o := .cells #[.slice Ao7 l1_0.length co7, .slice Ao8 l1_1.length co8] 53 (0, 0)) (ub BK751.out)) : gb751 ≠ gb752)); have n9_ := am ((by rw [hg]; exact Nat.ne_of_gt (blk_lt (g := gb751) (o := .cells #[.slice Ao7 l1_0.length co7, .slice Ao8 l1_1.length co8] 53 (0, 0)) (ub BK751.out)) : gb752 ≠ gb751)); revert n0_ n1_ n2_ n3_ n4_ n5_ n6_ n7_ n8_ n9_; clear HO1_0 HO1_1 BK751 HK HB; intro HO1_0 HO1_1 BK751 HK HB BK752 GW752 GE752 NB751_752 NB752_751; clear hb hbox hg) | ((with_reducible refine gate_dst (N := 20) rfl ?_); (with_reducible refine gate_callee (f := 37) rfl ?_); refine gl (some 20) Try.func37 #[.slice A0 l0.length c0, .string a2] ?_; (with_reducible refine (curtilageref13_Closure.calls k _ _ l0 a2 t753 t754 t755 _ ?side1 ?side2 A4.out).mono ?_); (case side1 => exact Kd.C_kept_now HR0.out (uk HK.out)); (case side2 => exact HC0.out); rintro e w11 ⟨v756, rfl, ho0, hb⟩; refine ⟨_, rfl, ?_⟩; have n0_ := am (Kd.R_elder' (ua HO1_0.out) (Kd.R_base ho0) hb); have n1_ := am (Kd.R_elder' (ua HO1_1.out) (Kd.R_base ho0) hb); have n2_ := am (Kd.R_lower (Kd.R_new' (Kd.R_new' (Kd.R_newM (M := fun k_ => ((P1_0_ k_ ∨ P1_1_ k_) ∨ w.heap.size ≤ k_)) ho0 (by first | exact HK.out.1 | exact (show Kept w _ (fun k_ => P1_0_ k_ ∨ P1_1_ k_) from uk HK.out).1) (fun k_ h_ => .inr h_)) (Kd.R_lt (ua HO1_0.out))) (Kd.R_lt (ua HO1_1.out))) (below_size (uc HB.out))); have n3_ := am (blk_below (g := gb751) (o := .cells #[.slice Ao7 l1_0.length co7, .slice Ao8 l1_1.length co8] 53 (0, 0)) (ub BK751.out) hb); have n4_ := am (blk_below (g := gb752) (o := .cells #[.slice none 0 0, .slice none 0 0] 53 (0, 0)) (ub BK752.out) hb); have n5_ := am (Kept.below (S := (fun k_ => P1_0_ k_ ∨ P1_1_ k_)) (uk HK.out) hb); have n6_ := am (below_step (uc HB.out) hb); revert n0_ n1_ n2_ n3_ n4_ n5_ n6_; clear HO1_0 HO1_1 BK751 BK752 HK HB; intro HO1_0 HO1_1 HO757 BK751 BK752 HK HB; (try clear hb); (try clear hb2); (try clear hk); (try clear hi); (try clear ho0); obtain ⟨Ao12, co12, eo12⟩ := Kd.R_slice HO757.out; subst eo12) | ((with_reducible refine gate_dst (N := 30) rfl ?_); (with_reducible refine gate_callee (f := 38) rfl ?_); refine gl (some 30) Try.func38 #[.slice A0 l0.length c0, .slice Ao12 t753.length co12] ?_; (with_reducible refine (curtilageref13_Begin.calls _ _ l0 _ _ t753 t758 _ ?side1 ?side2 ?side3 ?side4 A6.out).mono ?_); (case side1 => exact Kd.C_kept_now HR0.out (uk HK.out)); (case side2 => exact HC0.out); (case side3 => exact us (Kd.R_reads' HO757.out).2.2); (case side4 => exact (Kd.R_reads' HO757.out).2.1); rintro e w13 ⟨v759, rfl, ho0, hb⟩; refine ⟨_, rfl, ?_⟩; have n0_ := am (Kd.R_elder' (ua HO1_0.out) (Kd.R_base ho0) hb); have n1_ := am (Kd.R_elder' (ua HO1_1.out) (Kd.R_base ho0) hb); have n2_ := am (Kd.R_elder' (ua HO757.out) (Kd.R_base ho0) hb); have n3_ := am (Kd.R_lower (Kd.R_new' (Kd.R_new' (Kd.R_new' (Kd.R_newM (M := fun k_ => ((P1_0_ k_ ∨ P1_1_ k_) ∨ w.heap.size ≤ k_)) ho0 (by first | exact HK.out.1 | exact (show Kept w _ (fun k_ => P1_0_ k_ ∨ P1_1_ k_) from uk HK.out).1) (fun k_ h_ => .inr h_)) (Kd.R_lt (ua HO1_0.out))) (Kd.R_lt (ua HO1_1.out))) (Kd.R_lt (ua HO757.out))) (below_size (uc HB.out))); have n4_ := am (blk_below (g := gb751) (o := .cells #[.slice Ao7 l1_0.length co7, .slice Ao8 l1_1.length co8] 53 (0, 0)) (ub BK751.out) hb); have n5_ := am (blk_below (g := gb752) (o := .cells #[.slice none 0 0, .slice none 0 0] 53 (0, 0)) (ub BK752.out) hb); have n6_ := am (Kept.below (S := (fun k_ => P1_0_ k_ ∨ P1_1_ k_)) (uk HK.out) hb); have n7_ := am (below_step (uc HB.out) hb); revert n0_ n1_ n2_ n3_ n4_ n5_ n6_ n7_; clear HO1_0 HO1_1 HO757 BK751 BK752 HK HB; intro HO1_0 HO1_1 HO757 HO760 BK751 BK752 HK HB; (try clear hb); (try clear hb2); (try clear hk); (try clear hi); (try clear ho0)))
  go_loopg [13, 14] k (fun kq v13 v14 w' => ∃ (x13_1 : List Int) (x14_1 : Int), v14 = .int .i64 x14_1 ∧ Aside0 (curtilageref21_Open.l0 kq t753 t758 x13_1 x14_1 l1_0 l1_1 = some (r1, r2, r3, r4)) ∧ Aside0 (kq ≤ k) ∧ Aside0 (Kd.R (Kd.int .i64) 3 w' w0.heap.size (fun k_ => ((P1_0_ k_ ∨ P1_1_ k_) ∨ w.heap.size ≤ k_) ∧ nv k_ v759 ∧ nv k_ v13 ∧ some k_ ≠ ((.slice Ao7 l1_0.length co7) : Value).ownBlock ∧ some k_ ≠ ((.slice Ao8 l1_1.length co8) : Value).ownBlock) (.slice Ao12 t753.length co12) t753) ∧ Aside0 (Kd.R (Kd.int .i64) 3 w' w0.heap.size (fun k_ => ((P1_0_ k_ ∨ P1_1_ k_) ∨ w.heap.size ≤ k_) ∧ some k_ ≠ ((.slice Ao12 t753.length co12) : Value).ownBlock ∧ nv k_ v13 ∧ some k_ ≠ ((.slice Ao7 l1_0.length co7) : Value).ownBlock ∧ some k_ ≠ ((.slice Ao8 l1_1.length co8) : Value).ownBlock) v759 t758) ∧ Aside0 (Kd.R (Kd.int .i64) 3 w' w0.heap.size (fun k_ => ((P1_0_ k_ ∨ P1_1_ k_) ∨ w.heap.size ≤ k_) ∧ some k_ ≠ ((.slice Ao12 t753.length co12) : Value).ownBlock ∧ nv k_ v759 ∧ some k_ ≠ ((.slice Ao7 l1_0.length co7) : Value).ownBlock ∧ some k_ ≠ ((.slice Ao8 l1_1.length co8) : Value).ownBlock) v13 x13_1) ∧ Aside0 (Kd.R (Kd.int .i64) 3 w' w0.heap.size (fun k_ => ((P1_0_ k_ ∨ P1_1_ k_) ∨ w.heap.size ≤ k_) ∧ some k_ ≠ ((.slice Ao12 t753.length co12) : Value).ownBlock ∧ nv k_ v759 ∧ nv k_ v13 ∧ some k_ ≠ ((.slice Ao8 l1_1.length co8) : Value).ownBlock) (.slice Ao7 l1_0.length co7) l1_0) ∧ Aside0 (Kd.R (Kd.int .i64) 3 w' w0.heap.size (fun k_ => ((P1_0_ k_ ∨ P1_1_ k_) ∨ w.heap.size ≤ k_) ∧ some k_ ≠ ((.slice Ao12 t753.length co12) : Value).ownBlock ∧ nv k_ v759 ∧ nv k_ v13 ∧ some k_ ≠ ((.slice Ao7 l1_0.length co7) : Value).ownBlock) (.slice Ao8 l1_1.length co8) l1_1) ∧ Aside0 (w'.heap[gb751]? = some (.cells #[(.slice Ao7 l1_0.length co7), (.slice Ao8 l1_1.length co8)] 53 (0, 0))) ∧ Aside0 (w'.heap[gb752]? = some (.cells #[(.slice none 0 0), (.slice none 0 0)] 53 (0, 0))) ∧ Aside0 (Kept w w' (fun k_ => P1_0_ k_ ∨ P1_1_ k_)) ∧ Aside0 (Below w0.heap.size w0 w'))
  case atStart => exact ⟨(([] : List Int)), (0), uf, H', ⟨Nat.le_refl _⟩, ⟨by (with_reducible repeat (first | apply Kd.R_alloc | apply Kd.R_drewN | apply Kd.R_drew)); exact Kd.R_mono HO757.out (fun _ hk => ⟨hk.1.1.1.1, ⟨hk.2, ⟨(by simp [Value.ownBlock]), ⟨hk.1.1.2, hk.1.2⟩⟩⟩⟩)⟩, ⟨by (with_reducible repeat (first | apply Kd.R_alloc | apply Kd.R_drewN | apply Kd.R_drew)); exact Kd.R_mono HO760.out (fun _ hk => ⟨hk.1.1.1.1, ⟨hk.2, ⟨(by simp [Value.ownBlock]), ⟨hk.1.1.2, hk.1.2⟩⟩⟩⟩)⟩, ⟨by first | exact Kd.R_nil _ _ _ _ _ | exact Kd.N_nil _ _ _ _ _ | exact Kd.V_nil _ _ _ _ _ | exact Kd.Q_nil _ _ _ _ _ | exact Kd.S_nil _ _ _ _ _⟩, ⟨by (with_reducible repeat (first | apply Kd.R_alloc | apply Kd.R_drewN | apply Kd.R_drew)); exact Kd.R_mono HO1_0.out (fun _ hk => ⟨hk.1.1.1, ⟨hk.1.2, ⟨hk.2, ⟨(by simp [Value.ownBlock]), hk.1.1.2⟩⟩⟩⟩)⟩, ⟨by (with_reducible repeat (first | apply Kd.R_alloc | apply Kd.R_drewN | apply Kd.R_drew)); exact Kd.R_mono HO1_1.out (fun _ hk => ⟨hk.1.1.1, ⟨hk.1.2, ⟨hk.2, ⟨(by simp [Value.ownBlock]), hk.1.1.2⟩⟩⟩⟩)⟩, ⟨ub BK751.out⟩, ⟨ub BK752.out⟩, ⟨uk HK.out⟩, ⟨uc HB.out⟩⟩
  case round =>
   clear H'
   try clear p1
   try clear c2
   try clear p2
   try clear c3
   try clear c5
   try clear c5b0
   try clear c5b1
   obtain ⟨x13_1, x14_1, rfl, HA, HK1, HO_9, HO_12, HO_13, HO_752000, HO_752001, BK751, BK752, HK, HB⟩ := hrel
   cases gk with
   | zero => exact absurd HA.out (by simp [curtilageref21_Open.l0])
   | succ k1 =>
    have H := HA.out
    clear HA
    simp only [curtilageref21_Open.l0] at H
    by_cases c14 : x14_1 < (t758.length : Int)
    ·rw [if_pos c14] at H
     have c14b0 : decide (x14_1 < (t758.length : Int)) = true := decide_eq_true c14
     clear c14
     by_cases c15 : 0 ≤ x14_1
     ·rw [if_pos c15] at H
      have c15b0 : decide (0 ≤ x14_1) = true := decide_eq_true c15
      clear c15
      replace H := Option.bind_eq_some_iff.mp H
      obtain ⟨t762, A160, H⟩ := H
      replace H : (if t762 = true then (curtilageref21_Open.l0 k1 t753 t758 x13_1 (wrap64 (x14_1 + 1)) l1_0 l1_1) else ((some (([rd t758 x14_1] : List Int) : List Int)).bind fun y764 => (if x13_1.length + y764.length < 17592186044416 then (curtilageref21_Open.l0 k1 t753 t758 (x13_1 ++ y764) (wrap64 (x14_1 + 1)) l1_0 l1_1) else (none)))) = some (r1, r2, r3, r4) := H
      have A16 := am A160
      clear A160
      by_cases c17 : t762 = true
      ·subst c17
       have H1 : (curtilageref21_Open.l0 k1 t753 t758 x13_1 (wrap64 (x14_1 + 1)) l1_0 l1_1) = some (r1, r2, r3, r4) := by rw [if_pos rfl] at H; exact H
       clear H
       have H := H1
       clear H1
       have H' := am H
       clear H
       obtain ⟨Ao18, co18, eo18⟩ := Kd.R_slice HO_12.out
       subst eo18
       try go_wp2
       have n0_ := am (Kd.R_drew HO_9.out)
       have n1_ := am (Kd.R_drew HO_12.out)
       have n2_ := am (Kd.R_drew HO_13.out)
       have n3_ := am (Kd.R_drew HO_752000.out)
       have n4_ := am (Kd.R_drew HO_752001.out)
       have n5_ := am (blk_drew BK751.out)
       have n6_ := am (blk_drew BK752.out)
       have n7_ := am (Kept.drew HK.out)
       have n8_ := am (below_drew1 HB.out)
       revert n0_ n1_ n2_ n3_ n4_ n5_ n6_ n7_ n8_
       clear HO_9 HO_12 HO_13 HO_752000 HO_752001 BK751 BK752 HK HB
       intro HO_9 HO_12 HO_13 HO_752000 HO_752001 BK751 BK752 HK HB
       have p761 : 0 ≤ (x14_1 : Int) := ud
       have q761 : x14_1 < (t758.length : Int) := ud
       obtain ⟨ad761, e761, hx761_0⟩ := Kd.at_int (Kd.R_reads' HO_12.out).2.2 x14_1 p761 q761
       cases e761
       replace p761 := eq_true p761
       replace q761 := eq_true q761
       refine start_ (n := 8) (S := fun w' => w'.cell? ⟨gb751, 0, none⟩ = some (.slice Ao7 l1_0.length co7) ∧ w'.cell? ⟨gb751, 1, none⟩ = some (.slice Ao8 l1_1.length co8) ∧ w'.cell? (ad761.add (x14_1).toNat) = some (.int .i64 (rd t758 x14_1))) (ds := []) #[false, false, false, false, false, false, false, false] (by kernel_rfl) rfl rfl ⟨(blk_cell BK751.out 0).trans rfl, (blk_cell BK751.out 1).trans rfl, hx761_0⟩ (fun hHeld => ?_); refine with_tabW curtilageref21_Open.tab9 curtilageref21_Open.bits9 (fun HT_ HW_ => ?_)
       generalize wr.drew = w19 at HO_9 HO_12 HO_13 HO_752000 HO_752001 BK751 BK752 HK HB hx761_0 hHeld ⊢
       refine pv 0 37 (bA 8 1) HT_ ?_
       refine pv 2 39 (bA 8 5) HT_ ?_
       refine pv 3 40 (bA 8 13) HT_ ?_
       refine pv 4 41 (bA 8 29) HT_ ?_
       refine tv 1 38 (bA 8 31) HT_ HW_ hHeld ?_ (hy := by rintro w' ⟨s0, s1, s2⟩; go_simp; with_reducible rfl)
       refine tv 5 42 (bA 8 63) HT_ HW_ hHeld ?_ (hy := by rintro w' ⟨s0, s1, s2⟩; go_simp; with_reducible rfl)
       refine one_ (i := 6) (N := some 43) #[true, true, true, true, true, true, true, false] rfl rfl (one_of HT_.out (by kernel_rfl)) (by decide) (fun K hK => ?_)
       refine goes_ Try.func13 (by kernel_rfl) rfl #[.slice Ao7 l1_0.length co7, .int .i64 (rd t758 x14_1)] (by rfl) rfl rfl (by (try simp only [List.map_toArray, List.map_cons, List.map_nil]); first | done | rfl | (simp only [List.length_drop, List.length_take]; rfl)) ?_
       with_reducible refine (curtilageref13_Has.calls k1 _ _ l1_0 (rd t758 x14_1) true _ ?side1 ?side2 A16.out).mono ?_
       (case side1 => exact us (Kd.R_reads' HO_752000.out).2.2)
       (case side2 => exact (Kd.R_reads' HO_752000.out).2.1)
       rintro e w' ⟨rfl, ⟨nd, rfl⟩⟩
       refine ⟨_, rfl, ?_⟩
       refine hK.out _ _ ⟨(blk_cell BK751.out 0).trans rfl, (blk_cell BK751.out 1).trans rfl, hHeld.2.2⟩ (fun hHeld => ?_)
       clear hK K
       refine norm_ (a' := ?_) ?_ ?_
       rotate_left
       ·show Act.put _ (some 43) _ = _
        simp only [Act.put, List.setIfInBounds_toArray, List.set_cons_zero, List.set_cons_succ, i64_w, i32_w]
        rfl
       refine pv 7 15 (bA 8 255) HT_ ?_
       refine done_ (done_of HT_.out (by kernel_rfl)) ?_
       try go_wp2
       go_roundg k1
       case measure => have := HK1.out; omega
       case rel => exact ⟨(x13_1), (wrap64 (x14_1 + 1)), uf, H', ⟨by have := HK1.out; omega⟩, ⟨ua HO_9.out⟩, ⟨ua HO_12.out⟩, ⟨ua HO_13.out⟩, ⟨ua HO_752000.out⟩, ⟨ua HO_752001.out⟩, ⟨ub BK751.out⟩, ⟨ub BK752.out⟩, ⟨uk HK.out⟩, ⟨uc HB.out⟩⟩
      ·replace c17 := Bool.eq_false_iff.mpr c17
       subst c17
       have H1 : ((some (([rd t758 x14_1] : List Int) : List Int)).bind fun y764 => (if x13_1.length + y764.length < 17592186044416 then (curtilageref21_Open.l0 k1 t753 t758 (x13_1 ++ y764) (wrap64 (x14_1 + 1)) l1_0 l1_1) else (none))) = some (r1, r2, r3, r4) := by rw [if_neg (show ¬ (false = true) by decide)] at H; exact H
       clear H
       have H := H1
       clear H1
       obtain ⟨y764, hy764⟩ : ∃ y_ : List Int, y_ = (([rd t758 x14_1] : List Int)) := ⟨_, rfl⟩
       replace H : (if x13_1.length + y764.length < 17592186044416 then (curtilageref21_Open.l0 k1 t753 t758 (x13_1 ++ y764) (wrap64 (x14_1 + 1)) l1_0 l1_1) else (none)) = some (r1, r2, r3, r4) := by first | (rw [hy764]; with_reducible exact H) | (have H2_ := (Option.bind_some _ _).symm.trans H; rw [hy764]; with_reducible exact H2_) | (have H2_ := (Option.bind_some _ _).symm.trans H; with_reducible exact H2_) | with_reducible exact H | (rw [hy764]; exact H) | exact H
       have Ny764 := am hy764
       clear hy764
       by_cases c20 : x13_1.length + y764.length < 17592186044416
       ·rw [if_pos c20] at H
        have LMc20 := am c20
        clear c20
        obtain ⟨y767, hy767⟩ : ∃ y_ : List Int, y_ = (x13_1 ++ y764) := ⟨_, rfl⟩
        replace H : (curtilageref21_Open.l0 k1 t753 t758 y767 (wrap64 (x14_1 + 1)) l1_0 l1_1) = some (r1, r2, r3, r4) := by first | (rw [hy767]; with_reducible exact H) | (have H2_ := (Option.bind_some _ _).symm.trans H; rw [hy767]; with_reducible exact H2_) | (have H2_ := (Option.bind_some _ _).symm.trans H; with_reducible exact H2_) | with_reducible exact H | (rw [hy767]; exact H) | exact H
        have Ny767 := am hy767
        clear hy767
        have H' := am H
        clear H
        obtain ⟨Ao21, co21, eo21⟩ := Kd.R_slice HO_12.out
        subst eo21
        try go_wp2
        have n0_ := am (Kd.R_drew HO_9.out)
        have n1_ := am (Kd.R_drew HO_12.out)
        have n2_ := am (Kd.R_drew HO_13.out)
        have n3_ := am (Kd.R_drew HO_752000.out)
        have n4_ := am (Kd.R_drew HO_752001.out)
        have n5_ := am (blk_drew BK751.out)
        have n6_ := am (blk_drew BK752.out)
        have n7_ := am (Kept.drew HK.out)
        have n8_ := am (below_drew1 HB.out)
        revert n0_ n1_ n2_ n3_ n4_ n5_ n6_ n7_ n8_
        clear HO_9 HO_12 HO_13 HO_752000 HO_752001 BK751 BK752 HK HB
        intro HO_9 HO_12 HO_13 HO_752000 HO_752001 BK751 BK752 HK HB
        have p761 : 0 ≤ (x14_1 : Int) := ud
        have q761 : x14_1 < (t758.length : Int) := ud
        obtain ⟨ad761, e761, hx761_0⟩ := Kd.at_int (Kd.R_reads' HO_12.out).2.2 x14_1 p761 q761
        cases e761
        replace p761 := eq_true p761
        replace q761 := eq_true q761
        refine start_ (n := 8) (S := fun w' => w'.cell? ⟨gb751, 0, none⟩ = some (.slice Ao7 l1_0.length co7) ∧ w'.cell? ⟨gb751, 1, none⟩ = some (.slice Ao8 l1_1.length co8) ∧ w'.cell? (ad761.add (x14_1).toNat) = some (.int .i64 (rd t758 x14_1))) (ds := []) #[false, false, false, false, false, false, false, false] (by kernel_rfl) rfl rfl ⟨(blk_cell BK751.out 0).trans rfl, (blk_cell BK751.out 1).trans rfl, hx761_0⟩ (fun hHeld => ?_); refine with_tabW curtilageref21_Open.tab9 curtilageref21_Open.bits9 (fun HT_ HW_ => ?_)
        generalize wr.drew = w22 at HO_9 HO_12 HO_13 HO_752000 HO_752001 BK751 BK752 HK HB hx761_0 hHeld ⊢
        refine pv 0 37 (bA 8 1) HT_ ?_
        refine pv 2 39 (bA 8 5) HT_ ?_
        refine pv 3 40 (bA 8 13) HT_ ?_
        refine pv 4 41 (bA 8 29) HT_ ?_
        refine tv 1 38 (bA 8 31) HT_ HW_ hHeld ?_ (hy := by rintro w' ⟨s0, s1, s2⟩; go_simp; with_reducible rfl)
        refine tv 5 42 (bA 8 63) HT_ HW_ hHeld ?_ (hy := by rintro w' ⟨s0, s1, s2⟩; go_simp; with_reducible rfl)
        refine one_ (i := 6) (N := some 43) #[true, true, true, true, true, true, true, false] rfl rfl (one_of HT_.out (by kernel_rfl)) (by decide) (fun K hK => ?_)
        refine goes_ Try.func13 (by kernel_rfl) rfl #[.slice Ao7 l1_0.length co7, .int .i64 (rd t758 x14_1)] (by rfl) rfl rfl (by (try simp only [List.map_toArray, List.map_cons, List.map_nil]); first | done | rfl | (simp only [List.length_drop, List.length_take]; rfl)) ?_
        with_reducible refine (curtilageref13_Has.calls k1 _ _ l1_0 (rd t758 x14_1) false _ ?side1 ?side2 A16.out).mono ?_
        (case side1 => exact us (Kd.R_reads' HO_752000.out).2.2)
        (case side2 => exact (Kd.R_reads' HO_752000.out).2.1)
        rintro e w' ⟨rfl, ⟨nd, rfl⟩⟩
        refine ⟨_, rfl, ?_⟩
        refine hK.out _ _ ⟨(blk_cell BK751.out 0).trans rfl, (blk_cell BK751.out 1).trans rfl, hHeld.2.2⟩ (fun hHeld => ?_)
        clear hK K
        refine norm_ (a' := ?_) ?_ ?_
        rotate_left
        ·show Act.put _ (some 43) _ = _
         simp only [Act.put, List.setIfInBounds_toArray, List.set_cons_zero, List.set_cons_succ, i64_w, i32_w]
         rfl
        refine pv 7 15 (bA 8 255) HT_ ?_
        refine done_ (done_of HT_.out (by kernel_rfl)) ?_
        have p763 : 0 ≤ (x14_1 : Int) := ud
        have q763 : x14_1 < (t758.length : Int) := ud
        obtain ⟨ad763, e763, hx763_0⟩ := Kd.at_int (Kd.R_reads' HO_12.out).2.2 x14_1 p763 q763
        obtain rfl : ad761 = ad763 := (by injection e763)
        replace p763 := eq_true p763
        replace q763 := eq_true q763
        try go_wp2_with (first | ((with_reducible refine gate_dst (N := 51) rfl ?_); refine Kd.R_lit (Kd.int .i64) _ 3 ?hg (N := 51) ?hd (xs := ([rd t758 x14_1] : List Int)) (inner := [.int .i64 (rd t758 x14_1)]) (ok := fun _ => True) (okp := fun _ => True) ?hr ?hp (fun _ hk => hk) trivial (Below.refl _ _) (Nat.le_refl _) (by simp) ?_; (case hd => rfl); (case hg => rfl); (case hr => first | (go_simp; done) | (go_simp; rfl)); (case hp => exact (Reps.one (show Kd.M (Kd.int .i64) _ _ _ (rd t758 x14_1) [.int .i64 (rd t758 x14_1)] from rfl) (Reps.none _ _))); intro v765 w23 ho24 hb hg_ hnew_; clear hg_ hnew_; (first | rw [← Ny764.out] at ho24 | (simp only [Int.reduceToNat] at ho24; rw [← Ny764.out] at ho24)); have n0_ := am (Kd.R_elder' (ua HO_9.out) (Kd.R_base ho24) hb); have n1_ := am (Kd.R_elder' (ua HO_12.out) (Kd.R_base ho24) hb); have n2_ := am (Kd.R_elder' (ua HO_13.out) (Kd.R_base ho24) hb); have n3_ := am (Kd.R_elder' (ua HO_752000.out) (Kd.R_base ho24) hb); have n4_ := am (Kd.R_elder' (ua HO_752001.out) (Kd.R_base ho24) hb); have n5_ := am (Kd.R_lower (Kd.R_new' (Kd.R_new' (Kd.R_new' (Kd.R_new' (Kd.R_new' (Kd.R_newM (M := fun k_ => ((P1_0_ k_ ∨ P1_1_ k_) ∨ w.heap.size ≤ k_)) ho24 (by first | exact HK.out.1 | exact (show Kept w _ (fun k_ => P1_0_ k_ ∨ P1_1_ k_) from uk HK.out).1) (fun k_ h_ => .inr h_)) (Kd.R_lt (ua HO_9.out))) (Kd.R_lt (ua HO_12.out))) (Kd.R_lt (ua HO_13.out))) (Kd.R_lt (ua HO_752000.out))) (Kd.R_lt (ua HO_752001.out))) (below_size (uc HB.out))); have n6_ := am (blk_below (g := gb751) (o := .cells #[.slice Ao7 l1_0.length co7, .slice Ao8 l1_1.length co8] 53 (0, 0)) (ub BK751.out) hb); have n7_ := am (blk_below (g := gb752) (o := .cells #[.slice none 0 0, .slice none 0 0] 53 (0, 0)) (ub BK752.out) hb); have n8_ := am (Kept.below (S := (fun k_ => P1_0_ k_ ∨ P1_1_ k_)) (uk HK.out) hb); have n9_ := am (below_step (uc HB.out) hb); revert n0_ n1_ n2_ n3_ n4_ n5_ n6_ n7_ n8_ n9_; clear HO_9 HO_12 HO_13 HO_752000 HO_752001 BK751 BK752 HK HB; intro HO_9 HO_12 HO_13 HO_752000 HO_752001 HO766 BK751 BK752 HK HB; clear hb ho24; obtain ⟨Ao26, co26, eo26⟩ := Kd.R_slice HO766.out; subst eo26) | ((with_reducible refine gate_builtin (b := .append) (xs := #[.tmp 46, .tmp 51]) rfl ?_); at_builtin; refine Kd.R_append_rows (Kd.int .i64) (w0 := w0) w0.heap.size rfl (.tmp 46) (.tmp 51) 26 3 (.int .i64 0) 8 rfl Try.underlying26 info3 rfl (by decide) (by omega) u13 x13_1 y764 _ _ _ (fun k_ => ((P1_0_ k_ ∨ P1_1_ k_) ∨ w.heap.size ≤ k_) ∧ nw k_ Ao12 t753 co12 ∧ some k_ ≠ (.slice (some ad761) t758.length co21 : Value).ownBlock ∧ nw k_ Ao7 l1_0 co7 ∧ nw k_ Ao8 l1_1 co8 ∧ nw k_ Ao26 y764 co26) (fun _ => False) rfl rfl ?aO ?aR (fun _ _ h => h) (fun _ h => h.elim) ?aF ?aB ?aS ?aL ?_; (case aR => exact us (Kd.R_reads' HO766.out).2.2); (case aB => exact (uc HB.out)); (case aF => exact (fun k_ hk => ⟨(.inr (Nat.le_trans (by first | exact HK.out.1 | exact (show Kept w _ (fun k_ => P1_0_ k_ ∨ P1_1_ k_) from uk HK.out).1) hk)), Kd.fresh' (Kd.R_lt (ua HO_9.out)) k_ hk, Kd.fresh' (Kd.R_lt (ua HO_12.out)) k_ hk, Kd.fresh' (Kd.R_lt (ua HO_752000.out)) k_ hk, Kd.fresh' (Kd.R_lt (ua HO_752001.out)) k_ hk, Kd.fresh' (Kd.R_lt (ua HO766.out)) k_ hk⟩)); (case aO => exact (by (with_reducible repeat (first | apply Kd.R_alloc | apply Kd.R_drewN | apply Kd.R_drew)); exact Kd.R_mono HO_13.out (fun _ hk => ⟨hk.1.1, ⟨hk.1.2.1, ⟨hk.1.2.2.1, ⟨hk.1.2.2.2.1, ⟨hk.1.2.2.2.2, hk.2⟩⟩⟩⟩⟩))); (case aS => exact (below_size (uc HB.out))); (case aL => have := LMc20.out; omega); intro v768 w25 ho hb hg hat; rw [← Ny767.out] at ho; have n0_ := am (Kd.R_after (ok := (fun k_ => ((P1_0_ k_ ∨ P1_1_ k_) ∨ w.heap.size ≤ k_) ∧ some k_ ≠ (.slice (some ad761) t758.length co21 : Value).ownBlock ∧ nw k_ Ao7 l1_0 co7 ∧ nw k_ Ao8 l1_1 co8 ∧ nw k_ Ao26 y764 co26)) (by (with_reducible repeat (first | apply Kd.R_alloc | apply Kd.R_drewN | apply Kd.R_drew)); exact Kd.R_mono HO_9.out (fun _ hk => ⟨⟨hk.1.1, ⟨hk.1.2.1, ⟨hk.1.2.2.2.1, ⟨hk.1.2.2.2.2, hk.2⟩⟩⟩⟩, hk.1.2.2.1⟩)) hg hat); have n1_ := am (Kd.R_after (ok := (fun k_ => ((P1_0_ k_ ∨ P1_1_ k_) ∨ w.heap.size ≤ k_) ∧ nw k_ Ao12 t753 co12 ∧ nw k_ Ao7 l1_0 co7 ∧ nw k_ Ao8 l1_1 co8 ∧ nw k_ Ao26 y764 co26)) (by (with_reducible repeat (first | apply Kd.R_alloc | apply Kd.R_drewN | apply Kd.R_drew)); exact Kd.R_mono HO_12.out (fun _ hk => ⟨⟨hk.1.1, ⟨hk.1.2.1, ⟨hk.1.2.2.2.1, ⟨hk.1.2.2.2.2, hk.2⟩⟩⟩⟩, hk.1.2.2.1⟩)) hg hat); have n2_ := am (Kd.R_after (ok := (fun k_ => ((P1_0_ k_ ∨ P1_1_ k_) ∨ w.heap.size ≤ k_) ∧ nw k_ Ao12 t753 co12 ∧ some k_ ≠ (.slice (some ad761) t758.length co21 : Value).ownBlock ∧ nw k_ Ao8 l1_1 co8 ∧ nw k_ Ao26 y764 co26)) (by (with_reducible repeat (first | apply Kd.R_alloc | apply Kd.R_drewN | apply Kd.R_drew)); exact Kd.R_mono HO_752000.out (fun _ hk => ⟨⟨hk.1.1, ⟨hk.1.2.1, ⟨hk.1.2.2.1, ⟨hk.1.2.2.2.2, hk.2⟩⟩⟩⟩, hk.1.2.2.2.1⟩)) hg hat); have n3_ := am (Kd.R_after (ok := (fun k_ => ((P1_0_ k_ ∨ P1_1_ k_) ∨ w.heap.size ≤ k_) ∧ nw k_ Ao12 t753 co12 ∧ some k_ ≠ (.slice (some ad761) t758.length co21 : Value).ownBlock ∧ nw k_ Ao7 l1_0 co7 ∧ nw k_ Ao26 y764 co26)) (by (with_reducible repeat (first | apply Kd.R_alloc | apply Kd.R_drewN | apply Kd.R_drew)); exact Kd.R_mono HO_752001.out (fun _ hk => ⟨⟨hk.1.1, ⟨hk.1.2.1, ⟨hk.1.2.2.1, ⟨hk.1.2.2.2.2, hk.2⟩⟩⟩⟩, hk.1.2.2.2.1⟩)) hg hat); have n4_ := am (blk_grown (g := gb751) (o := .cells #[.slice Ao7 l1_0.length co7, .slice Ao8 l1_1.length co8] 53 (0, 0)) (ub BK751.out) hg (Kd.R_ne HO_13.out BK751.out (by decide))); have n5_ := am (blk_grown (g := gb752) (o := .cells #[.slice none 0 0, .slice none 0 0] 53 (0, 0)) (ub BK752.out) hg (Kd.R_ne HO_13.out BK752.out (by decide))); have n6_ := am (Kd.R_after (ok := (fun k_ => ((P1_0_ k_ ∨ P1_1_ k_) ∨ w.heap.size ≤ k_) ∧ nw k_ Ao12 t753 co12 ∧ some k_ ≠ (.slice (some ad761) t758.length co21 : Value).ownBlock ∧ nw k_ Ao7 l1_0 co7 ∧ nw k_ Ao8 l1_1 co8)) (by (with_reducible repeat (first | apply Kd.R_alloc | apply Kd.R_drewN | apply Kd.R_drew)); exact Kd.R_mono HO766.out (fun _ hk => ⟨⟨hk.1.1.1.1.1.1, ⟨hk.1.1.1.1.2, ⟨hk.1.1.1.2, ⟨hk.1.2, hk.2⟩⟩⟩⟩, hk.1.1.2⟩)) hg hat); have n7_ := am (hb); have n8_ := am (Kept.of_grown (S := (fun k_ => P1_0_ k_ ∨ P1_1_ k_)) hg (uk HK.out) (fun k_ e_ => (HO_13.out.1 k_ e_).1.1)); have n9_ := am (ho); revert n0_ n1_ n2_ n3_ n4_ n5_ n6_ n7_ n8_ n9_; clear HO_9 HO_12 HO_752000 HO_752001 BK751 BK752 HO766 HB HK HO_13; intro HO_9 HO_12 HO_752000 HO_752001 BK751 BK752 HO766 HB HK HO769; clear ho hb hg hat))
        go_roundg k1
        case measure => have := HK1.out; omega
        case rel => exact ⟨(y767), (wrap64 (x14_1 + 1)), uf, H', ⟨by have := HK1.out; omega⟩, ⟨by (with_reducible repeat (first | apply Kd.R_alloc | apply Kd.R_drewN | apply Kd.R_drew)); exact Kd.R_mono HO_9.out (fun _ hk => ⟨hk.1.1, ⟨hk.1.2.1, ⟨hk.2, ⟨hk.1.2.2.1, hk.1.2.2.2.1⟩⟩⟩⟩)⟩, ⟨by (with_reducible repeat (first | apply Kd.R_alloc | apply Kd.R_drewN | apply Kd.R_drew)); exact Kd.R_mono HO_12.out (fun _ hk => ⟨hk.1.1, ⟨hk.1.2.1, ⟨hk.2, ⟨hk.1.2.2.1, hk.1.2.2.2.1⟩⟩⟩⟩)⟩, ⟨by (with_reducible repeat (first | apply Kd.R_alloc | apply Kd.R_drewN | apply Kd.R_drew)); exact Kd.R_mono HO769.out (fun _ hk => ⟨hk.1, ⟨hk.2.1, ⟨hk.2.2.1, ⟨hk.2.2.2.1, hk.2.2.2.2.1⟩⟩⟩⟩)⟩, ⟨by (with_reducible repeat (first | apply Kd.R_alloc | apply Kd.R_drewN | apply Kd.R_drew)); exact Kd.R_mono HO_752000.out (fun _ hk => ⟨hk.1.1, ⟨hk.1.2.1, ⟨hk.1.2.2.1, ⟨hk.2, hk.1.2.2.2.1⟩⟩⟩⟩)⟩, ⟨by (with_reducible repeat (first | apply Kd.R_alloc | apply Kd.R_drewN | apply Kd.R_drew)); exact Kd.R_mono HO_752001.out (fun _ hk => ⟨hk.1.1, ⟨hk.1.2.1, ⟨hk.1.2.2.1, ⟨hk.2, hk.1.2.2.2.1⟩⟩⟩⟩)⟩, ⟨ub BK751.out⟩, ⟨ub BK752.out⟩, ⟨uk HK.out⟩, ⟨uc HB.out⟩⟩
       ·rw [if_neg c20] at H
        exact absurd H (by simp)
     ·rw [if_neg c15] at H
      exact absurd H (by simp)
    ·rw [if_neg c14] at H
     have c14b0 : decide (x14_1 < (t758.length : Int)) = false := decide_eq_false c14
     clear c14
     obtain ⟨y771, hy771⟩ : ∃ y_ : List Int, y_ = (([] : List Int)) := ⟨_, rfl⟩
     replace H : (if y771.length + l1_0.length < 17592186044416 then ((some (y771 ++ l1_0 : List Int)).bind fun y774 => (if y774.length + x13_1.length < 17592186044416 then (if 0 < (t753.length : Int) then ((some (([] : List Int) : List Int)).bind fun y781 => (if y781.length + l1_1.length < 17592186044416 then ((some (y781 ++ l1_1 : List Int)).bind fun y784 => ((some (([rd t753 0] : List Int) : List Int)).bind fun y787 => (if y784.length + y787.length < 17592186044416 then (some ((y774 ++ x13_1), (y784 ++ y787), x13_1, 0)) else (none)))) else (none))) else (none)) else (none))) else (none)) = some (r1, r2, r3, r4) := by first | (rw [hy771]; with_reducible exact H) | (have H2_ := (Option.bind_some _ _).symm.trans H; rw [hy771]; with_reducible exact H2_) | (have H2_ := (Option.bind_some _ _).symm.trans H; with_reducible exact H2_) | with_reducible exact H | (rw [hy771]; exact H) | exact H
     have Ny771 := am hy771
     clear hy771
     by_cases c27 : y771.length + l1_0.length < 17592186044416
     ·rw [if_pos c27] at H
      have LMc27 := am c27
      clear c27
      obtain ⟨y774, hy774⟩ : ∃ y_ : List Int, y_ = (y771 ++ l1_0) := ⟨_, rfl⟩
      replace H : (if y774.length + x13_1.length < 17592186044416 then (if 0 < (t753.length : Int) then ((some (([] : List Int) : List Int)).bind fun y781 => (if y781.length + l1_1.length < 17592186044416 then ((some (y781 ++ l1_1 : List Int)).bind fun y784 => ((some (([rd t753 0] : List Int) : List Int)).bind fun y787 => (if y784.length + y787.length < 17592186044416 then (some ((y774 ++ x13_1), (y784 ++ y787), x13_1, 0)) else (none)))) else (none))) else (none)) else (none)) = some (r1, r2, r3, r4) := by first | (rw [hy774]; with_reducible exact H) | (have H2_ := (Option.bind_some _ _).symm.trans H; rw [hy774]; with_reducible exact H2_) | (have H2_ := (Option.bind_some _ _).symm.trans H; with_reducible exact H2_) | with_reducible exact H | (rw [hy774]; exact H) | exact H
      have Ny774 := am hy774
      clear hy774
      by_cases c28 : y774.length + x13_1.length < 17592186044416
      ·rw [if_pos c28] at H
       have LMc28 := am c28
       clear c28
       obtain ⟨y777, hy777⟩ : ∃ y_ : List Int, y_ = (y774 ++ x13_1) := ⟨_, rfl⟩
       replace H : (if 0 < (t753.length : Int) then ((some (([] : List Int) : List Int)).bind fun y781 => (if y781.length + l1_1.length < 17592186044416 then ((some (y781 ++ l1_1 : List Int)).bind fun y784 => ((some (([rd t753 0] : List Int) : List Int)).bind fun y787 => (if y784.length + y787.length < 17592186044416 then (some (y777, (y784 ++ y787), x13_1, 0)) else (none)))) else (none))) else (none)) = some (r1, r2, r3, r4) := by first | (rw [hy777]; with_reducible exact H) | (have H2_ := (Option.bind_some _ _).symm.trans H; rw [hy777]; with_reducible exact H2_) | (have H2_ := (Option.bind_some _ _).symm.trans H; with_reducible exact H2_) | with_reducible exact H | (rw [hy777]; exact H) | exact H
       have Ny777 := am hy777
       clear hy777
       by_cases c29 : 0 < (t753.length : Int)
       ·rw [if_pos c29] at H
        have c29b0 : decide (0 < (t753.length : Int)) = true := decide_eq_true c29
        have c29b1 : decide (0 < t753.length) = true := decide_eq_true (by omega)
        clear c29
        obtain ⟨y781, hy781⟩ : ∃ y_ : List Int, y_ = (([] : List Int)) := ⟨_, rfl⟩
        replace H : (if y781.length + l1_1.length < 17592186044416 then ((some (y781 ++ l1_1 : List Int)).bind fun y784 => ((some (([rd t753 0] : List Int) : List Int)).bind fun y787 => (if y784.length + y787.length < 17592186044416 then (some (y777, (y784 ++ y787), x13_1, 0)) else (none)))) else (none)) = some (r1, r2, r3, r4) := by first | (rw [hy781]; with_reducible exact H) | (have H2_ := (Option.bind_some _ _).symm.trans H; rw [hy781]; with_reducible exact H2_) | (have H2_ := (Option.bind_some _ _).symm.trans H; with_reducible exact H2_) | with_reducible exact H | (rw [hy781]; exact H) | exact H
        have Ny781 := am hy781
        clear hy781
        by_cases c30 : y781.length + l1_1.length < 17592186044416
        ·rw [if_pos c30] at H
         have LMc30 := am c30
         clear c30
         obtain ⟨y784, hy784⟩ : ∃ y_ : List Int, y_ = (y781 ++ l1_1) := ⟨_, rfl⟩
         replace H : ((some (([rd t753 0] : List Int) : List Int)).bind fun y787 => (if y784.length + y787.length < 17592186044416 then (some (y777, (y784 ++ y787), x13_1, 0)) else (none))) = some (r1, r2, r3, r4) := by first | (rw [hy784]; with_reducible exact H) | (have H2_ := (Option.bind_some _ _).symm.trans H; rw [hy784]; with_reducible exact H2_) | (have H2_ := (Option.bind_some _ _).symm.trans H; with_reducible exact H2_) | with_reducible exact H | (rw [hy784]; exact H) | exact H
         have Ny784 := am hy784
         clear hy784
         obtain ⟨y787, hy787⟩ : ∃ y_ : List Int, y_ = (([rd t753 0] : List Int)) := ⟨_, rfl⟩
         replace H : (if y784.length + y787.length < 17592186044416 then (some (y777, (y784 ++ y787), x13_1, 0)) else (none)) = some (r1, r2, r3, r4) := by first | (rw [hy787]; with_reducible exact H) | (have H2_ := (Option.bind_some _ _).symm.trans H; rw [hy787]; with_reducible exact H2_) | (have H2_ := (Option.bind_some _ _).symm.trans H; with_reducible exact H2_) | with_reducible exact H | (rw [hy787]; exact H) | exact H
         have Ny787 := am hy787
         clear hy787
         by_cases c31 : y784.length + y787.length < 17592186044416
         ·rw [if_pos c31] at H
          have LMc31 := am c31
          clear c31
          obtain ⟨y790, hy790⟩ : ∃ y_ : List Int, y_ = (y784 ++ y787) := ⟨_, rfl⟩
          replace H : (some (y777, y790, x13_1, 0)) = some (r1, r2, r3, r4) := by first | (rw [hy790]; with_reducible exact H) | (have H2_ := (Option.bind_some _ _).symm.trans H; rw [hy790]; with_reducible exact H2_) | (have H2_ := (Option.bind_some _ _).symm.trans H; with_reducible exact H2_) | with_reducible exact H | (rw [hy790]; exact H) | exact H
          have Ny790 := am hy790
          clear hy790
          simp only [Option.some.injEq, Prod.mk.injEq] at H
          obtain ⟨rfl, rfl, rfl, rfl⟩ := H
          obtain ⟨Ao32, co32, eo32⟩ := Kd.R_slice HO_12.out
          subst eo32
          try go_wp2_with (first | ((with_reducible refine gate_dst (N := 16) rfl ?_); refine box_event ?hg (N := 16) ?hd (cs := #[.slice none 0 0, .slice none 0 0]) (t := 53) ?hr ?_; (case hd => rfl); (case hg => rfl); (case hr => first | (go_simp; done) | (go_simp; rfl)); intro gb770 hg w33 hbox hb; have n0_ := am (Kd.R_below (ua HO_9.out) hb); have n1_ := am (Kd.R_below (ua HO_12.out) hb); have n2_ := am (Kd.R_below (ua HO_13.out) hb); have n3_ := am (Kd.R_below (ua HO_752000.out) hb); have n4_ := am (Kd.R_below (ua HO_752001.out) hb); have n5_ := am (blk_below (g := gb751) (o := .cells #[.slice Ao7 l1_0.length co7, .slice Ao8 l1_1.length co8] 53 (0, 0)) (ub BK751.out) hb); have n6_ := am (blk_below (g := gb752) (o := .cells #[.slice none 0 0, .slice none 0 0] 53 (0, 0)) (ub BK752.out) hb); have n7_ := am (Kept.below (S := (fun k_ => P1_0_ k_ ∨ P1_1_ k_)) (uk HK.out) hb); have n8_ := am (below_step (uc HB.out) hb); have n9_ := am (hbox); have n10_ := am ((by rw [hg]; exact (by first | exact HK.out.1 | exact (show Kept w _ (fun k_ => P1_0_ k_ ∨ P1_1_ k_) from uk HK.out).1) : w.heap.size ≤ gb770)); have n11_ := am ((by rw [hg]; exact (below_size (uc HB.out)) : w0.heap.size ≤ gb770)); have n12_ := am ((by rw [hg]; exact Nat.ne_of_lt (blk_lt (g := gb751) (o := .cells #[.slice Ao7 l1_0.length co7, .slice Ao8 l1_1.length co8] 53 (0, 0)) (ub BK751.out)) : gb751 ≠ gb770)); have n13_ := am ((by rw [hg]; exact Nat.ne_of_gt (blk_lt (g := gb751) (o := .cells #[.slice Ao7 l1_0.length co7, .slice Ao8 l1_1.length co8] 53 (0, 0)) (ub BK751.out)) : gb770 ≠ gb751)); have n14_ := am ((by rw [hg]; exact Nat.ne_of_lt (blk_lt (g := gb752) (o := .cells #[.slice none 0 0, .slice none 0 0] 53 (0, 0)) (ub BK752.out)) : gb752 ≠ gb770)); have n15_ := am ((by rw [hg]; exact Nat.ne_of_gt (blk_lt (g := gb752) (o := .cells #[.slice none 0 0, .slice none 0 0] 53 (0, 0)) (ub BK752.out)) : gb770 ≠ gb752)); revert n0_ n1_ n2_ n3_ n4_ n5_ n6_ n7_ n8_ n9_ n10_ n11_ n12_ n13_ n14_ n15_; clear HO_9 HO_12 HO_13 HO_752000 HO_752001 BK751 BK752 HK HB; intro HO_9 HO_12 HO_13 HO_752000 HO_752001 BK751 BK752 HK HB BK770 GW770 GE770 NB751_770 NB770_751 NB752_770 NB770_752; clear hb hbox hg; have hnb34 := NB770_751.out; have hnc34 := NB751_770.out; have hnb35 := NB770_752.out; have hnc35 := NB752_770.out; obtain ⟨hcz36_0, hcz36_1, hfz36_0, hfz36_1⟩ := cells2 BK770.out) | ((with_reducible refine gate_store (t := 53) (p := 16) rfl ?_); refine store_event (t := 53) (p := 16) (v := ?vo_w37) (w1 := ((w33.setCell ⟨gb770, 0, none⟩ (.slice none 0 0)).setCell ⟨gb770, 1, none⟩ (.slice none 0 0))) ?hg ?ho ?hn ?hr ?_; (case ho => rfl); (case hg => rfl); (case hn => rfl); (case hr => first | (go_simp; done) | (go_simp; rfl)); intro w37 hw; have n0_ := st2 (fun k_ => ((P1_0_ k_ ∨ P1_1_ k_) ∨ w.heap.size ≤ k_) ∧ nw k_ Ao32 t758 co32 ∧ nv k_ u13 ∧ nw k_ Ao7 l1_0 co7 ∧ nw k_ Ao8 l1_1 co8) hw HO_9 BK770 (fun _ h => ⟨h.1, h.2.1, h.2.2.1, h.2.2.2.1, h.2.2.2.2⟩); have n1_ := st2 (fun k_ => ((P1_0_ k_ ∨ P1_1_ k_) ∨ w.heap.size ≤ k_) ∧ nw k_ Ao12 t753 co12 ∧ nv k_ u13 ∧ nw k_ Ao7 l1_0 co7 ∧ nw k_ Ao8 l1_1 co8) hw HO_12 BK770 (fun _ h => ⟨h.1, h.2.1, h.2.2.1, h.2.2.2.1, h.2.2.2.2⟩); have n2_ := st2 (fun k_ => ((P1_0_ k_ ∨ P1_1_ k_) ∨ w.heap.size ≤ k_) ∧ nw k_ Ao12 t753 co12 ∧ nw k_ Ao32 t758 co32 ∧ nw k_ Ao7 l1_0 co7 ∧ nw k_ Ao8 l1_1 co8) hw HO_13 BK770 (fun _ h => ⟨h.1, h.2.1, h.2.2.1, h.2.2.2.1, h.2.2.2.2⟩); have n3_ := st2 (fun k_ => ((P1_0_ k_ ∨ P1_1_ k_) ∨ w.heap.size ≤ k_) ∧ nw k_ Ao12 t753 co12 ∧ nw k_ Ao32 t758 co32 ∧ nv k_ u13 ∧ nw k_ Ao8 l1_1 co8) hw HO_752000 BK770 (fun _ h => ⟨h.1, h.2.1, h.2.2.1, h.2.2.2.1, h.2.2.2.2⟩); have n4_ := st2 (fun k_ => ((P1_0_ k_ ∨ P1_1_ k_) ∨ w.heap.size ≤ k_) ∧ nw k_ Ao12 t753 co12 ∧ nw k_ Ao32 t758 co32 ∧ nv k_ u13 ∧ nw k_ Ao7 l1_0 co7) hw HO_752001 BK770 (fun _ h => ⟨h.1, h.2.1, h.2.2.1, h.2.2.2.1, h.2.2.2.2⟩); have n5_ := bf2 hw NB751_770 BK751; have n6_ := bf2 hw NB752_770 BK752; have n7_ := bp2 #[.slice none 0 0, .slice none 0 0] hw BK770; have n8_ : Aside0 (Kept w w37 (fun k_ => P1_0_ k_ ∨ P1_1_ k_)) := ⟨(by rw [hw]; exact (uk HK.out))⟩; have n9_ : Aside0 (Below w0.heap.size w0 w37) := ⟨(by rw [hw]; exact (uc HB.out))⟩; revert n0_ n1_ n2_ n3_ n4_ n5_ n6_ n7_ n8_ n9_; clear hw HO_9 HO_12 HO_13 HO_752000 HO_752001 BK751 BK752 BK770 HK HB; intro HO_9 HO_12 HO_13 HO_752000 HO_752001 BK751 BK752 BK770 HK HB) | ((with_reducible refine gate_dst (N := 54) rfl ?_); refine Kd.R_lit (Kd.int .i64) _ 3 ?hg (N := 54) ?hd (xs := ([] : List Int)) (inner := []) (ok := fun _ => True) (okp := fun _ => True) ?hr ?hp (fun _ hk => hk) trivial (Below.refl _ _) (Nat.le_refl _) (by simp) ?_; (case hd => rfl); (case hg => rfl); (case hr => first | (go_simp; done) | (go_simp; rfl)); (case hp => exact (Reps.none _ _)); intro v772 w38 ho39 hb hg_ hnew_; clear hg_ hnew_; (first | rw [← Ny771.out] at ho39 | (simp only [Int.reduceToNat] at ho39; rw [← Ny771.out] at ho39)); have n0_ := am (Kd.R_elder' (ua HO_9.out) (Kd.R_base ho39) hb); have n1_ := am (Kd.R_elder' (ua HO_12.out) (Kd.R_base ho39) hb); have n2_ := am (Kd.R_elder' (ua HO_13.out) (Kd.R_base ho39) hb); have n3_ := am (Kd.R_elder' (ua HO_752000.out) (Kd.R_base ho39) hb); have n4_ := am (Kd.R_elder' (ua HO_752001.out) (Kd.R_base ho39) hb); have n5_ := am (Kd.R_lower (Kd.R_new' (Kd.R_new' (Kd.R_new' (Kd.R_new' (Kd.R_new' (Kd.R_newM (M := fun k_ => ((P1_0_ k_ ∨ P1_1_ k_) ∨ w.heap.size ≤ k_)) ho39 (by first | exact HK.out.1 | exact (show Kept w _ (fun k_ => P1_0_ k_ ∨ P1_1_ k_) from uk HK.out).1) (fun k_ h_ => .inr h_)) (Kd.R_lt (ua HO_9.out))) (Kd.R_lt (ua HO_12.out))) (Kd.R_lt (ua HO_13.out))) (Kd.R_lt (ua HO_752000.out))) (Kd.R_lt (ua HO_752001.out))) (below_size (uc HB.out))); have n6_ := am (blk_below (g := gb751) (o := .cells #[.slice Ao7 l1_0.length co7, .slice Ao8 l1_1.length co8] 53 (0, 0)) (ub BK751.out) hb); have n7_ := am (blk_below (g := gb752) (o := .cells #[.slice none 0 0, .slice none 0 0] 53 (0, 0)) (ub BK752.out) hb); have n8_ := am (blk_below (g := gb770) (o := .cells #[.slice none 0 0, .slice none 0 0] 53 (0, 0)) (ub BK770.out) hb); have n9_ := am (Kept.below (S := (fun k_ => P1_0_ k_ ∨ P1_1_ k_)) (uk HK.out) hb); have n10_ := am (below_step (uc HB.out) hb); revert n0_ n1_ n2_ n3_ n4_ n5_ n6_ n7_ n8_ n9_ n10_; clear HO_9 HO_12 HO_13 HO_752000 HO_752001 BK751 BK752 BK770 HK HB; intro HO_9 HO_12 HO_13 HO_752000 HO_752001 HO773 BK751 BK752 BK770 HK HB; clear hb ho39; have hnb40 := NB751_752.out; have hnc40 := NB752_751.out; obtain ⟨hcz41_0, hcz41_1, hfz41_0, hfz41_1⟩ := cells2 BK751.out) | ((with_reducible refine gate_builtin (b := .append) (xs := #[.tmp 54, .tmp 56]) rfl ?_); at_builtin; refine Kd.R_append_rows (Kd.int .i64) (w0 := w0) w0.heap.size rfl (.tmp 54) (.tmp 56) 26 3 (.int .i64 0) 8 rfl Try.underlying26 info3 rfl (by decide) (by omega) v772 y771 l1_0 _ _ _ (fun k_ => ((P1_0_ k_ ∨ P1_1_ k_) ∨ w.heap.size ≤ k_) ∧ nw k_ Ao12 t753 co12 ∧ nw k_ Ao32 t758 co32 ∧ nv k_ u13 ∧ nw k_ Ao7 l1_0 co7 ∧ nw k_ Ao8 l1_1 co8) (fun _ => False) rfl rfl ?aO ?aR (fun _ _ h => h) (fun _ h => h.elim) ?aF ?aB ?aS ?aL ?_; (case aR => exact us (Kd.R_reads' HO_752000.out).2.2); (case aB => exact (uc HB.out)); (case aF => exact (fun k_ hk => ⟨(.inr (Nat.le_trans (by first | exact HK.out.1 | exact (show Kept w _ (fun k_ => P1_0_ k_ ∨ P1_1_ k_) from uk HK.out).1) hk)), Kd.fresh' (Kd.R_lt (ua HO_9.out)) k_ hk, Kd.fresh' (Kd.R_lt (ua HO_12.out)) k_ hk, Kd.fresh' (Kd.R_lt (ua HO_13.out)) k_ hk, Kd.fresh' (Kd.R_lt (ua HO_752000.out)) k_ hk, Kd.fresh' (Kd.R_lt (ua HO_752001.out)) k_ hk⟩)); (case aO => exact (by (with_reducible repeat (first | apply Kd.R_alloc | apply Kd.R_drewN | apply Kd.R_drew)); exact Kd.R_mono HO773.out (fun _ hk => ⟨hk.1.1.1.1.1.1, ⟨hk.1.1.1.1.2, ⟨hk.1.1.1.2, ⟨hk.1.1.2, ⟨hk.1.2, hk.2⟩⟩⟩⟩⟩))); (case aS => exact (below_size (uc HB.out))); (case aL => have := LMc27.out; omega); intro v775 w42 ho hb hg hat; rw [← Ny774.out] at ho; have n0_ := am (Kd.R_after (ok := (fun k_ => ((P1_0_ k_ ∨ P1_1_ k_) ∨ w.heap.size ≤ k_) ∧ nw k_ Ao32 t758 co32 ∧ nv k_ u13 ∧ nw k_ Ao7 l1_0 co7 ∧ nw k_ Ao8 l1_1 co8)) (ua HO_9.out) hg hat); have n1_ := am (Kd.R_after (ok := (fun k_ => ((P1_0_ k_ ∨ P1_1_ k_) ∨ w.heap.size ≤ k_) ∧ nw k_ Ao12 t753 co12 ∧ nv k_ u13 ∧ nw k_ Ao7 l1_0 co7 ∧ nw k_ Ao8 l1_1 co8)) (ua HO_12.out) hg hat); have n2_ := am (Kd.R_after (ok := (fun k_ => ((P1_0_ k_ ∨ P1_1_ k_) ∨ w.heap.size ≤ k_) ∧ nw k_ Ao12 t753 co12 ∧ nw k_ Ao32 t758 co32 ∧ nw k_ Ao7 l1_0 co7 ∧ nw k_ Ao8 l1_1 co8)) (ua HO_13.out) hg hat); have n3_ := am (Kd.R_after (ok := (fun k_ => ((P1_0_ k_ ∨ P1_1_ k_) ∨ w.heap.size ≤ k_) ∧ nw k_ Ao12 t753 co12 ∧ nw k_ Ao32 t758 co32 ∧ nv k_ u13 ∧ nw k_ Ao8 l1_1 co8)) (ua HO_752000.out) hg hat); have n4_ := am (Kd.R_after (ok := (fun k_ => ((P1_0_ k_ ∨ P1_1_ k_) ∨ w.heap.size ≤ k_) ∧ nw k_ Ao12 t753 co12 ∧ nw k_ Ao32 t758 co32 ∧ nv k_ u13 ∧ nw k_ Ao7 l1_0 co7)) (ua HO_752001.out) hg hat); have n5_ := am (blk_grown (g := gb751) (o := .cells #[.slice Ao7 l1_0.length co7, .slice Ao8 l1_1.length co8] 53 (0, 0)) (ub BK751.out) hg (Kd.R_ne HO773.out BK751.out (by decide))); have n6_ := am (blk_grown (g := gb752) (o := .cells #[.slice none 0 0, .slice none 0 0] 53 (0, 0)) (ub BK752.out) hg (Kd.R_ne HO773.out BK752.out (by decide))); have n7_ := am (blk_grown (g := gb770) (o := .cells #[.slice none 0 0, .slice none 0 0] 53 (0, 0)) (ub BK770.out) hg (Kd.R_ne HO773.out BK770.out (by decide))); have n8_ := am (hb); have n9_ := am (Kept.of_grown (S := (fun k_ => P1_0_ k_ ∨ P1_1_ k_)) hg (uk HK.out) (fun k_ e_ => (HO773.out.1 k_ e_).1.1.1.1.1.1)); have n10_ := am (ho); revert n0_ n1_ n2_ n3_ n4_ n5_ n6_ n7_ n8_ n9_ n10_; clear HO_9 HO_12 HO_13 HO_752000 HO_752001 BK751 BK752 BK770 HB HK HO773; intro HO_9 HO_12 HO_13 HO_752000 HO_752001 BK751 BK752 BK770 HB HK HO776; clear ho hb hg hat; obtain ⟨Ao44, co44, eo44⟩ := Kd.R_slice HO_13.out; subst eo44) | ((with_reducible refine gate_builtin (b := .append) (xs := #[.tmp 57, .tmp 58]) rfl ?_); at_builtin; refine Kd.R_append_rows (Kd.int .i64) (w0 := w0) w0.heap.size rfl (.tmp 57) (.tmp 58) 26 3 (.int .i64 0) 8 rfl Try.underlying26 info3 rfl (by decide) (by omega) v775 y774 x13_1 _ _ _ (fun k_ => ((P1_0_ k_ ∨ P1_1_ k_) ∨ w.heap.size ≤ k_) ∧ nw k_ Ao12 t753 co12 ∧ nw k_ Ao32 t758 co32 ∧ nw k_ Ao44 x13_1 co44 ∧ nw k_ Ao7 l1_0 co7 ∧ nw k_ Ao8 l1_1 co8) (fun _ => False) rfl rfl ?aO ?aR (fun _ _ h => h) (fun _ h => h.elim) ?aF ?aB ?aS ?aL ?_; (case aR => exact us (Kd.R_reads' HO_13.out).2.2); (case aB => exact (uc HB.out)); (case aF => exact (fun k_ hk => ⟨(.inr (Nat.le_trans (by first | exact HK.out.1 | exact (show Kept w _ (fun k_ => P1_0_ k_ ∨ P1_1_ k_) from uk HK.out).1) hk)), Kd.fresh' (Kd.R_lt (ua HO_9.out)) k_ hk, Kd.fresh' (Kd.R_lt (ua HO_12.out)) k_ hk, Kd.fresh' (Kd.R_lt (ua HO_13.out)) k_ hk, Kd.fresh' (Kd.R_lt (ua HO_752000.out)) k_ hk, Kd.fresh' (Kd.R_lt (ua HO_752001.out)) k_ hk⟩)); (case aO => exact (ua HO776.out)); (case aS => exact (below_size (uc HB.out))); (case aL => have := LMc28.out; omega); intro v778 w43 ho hb hg hat; rw [← Ny777.out] at ho; have n0_ := am (Kd.R_after (ok := (fun k_ => ((P1_0_ k_ ∨ P1_1_ k_) ∨ w.heap.size ≤ k_) ∧ nw k_ Ao32 t758 co32 ∧ nw k_ Ao44 x13_1 co44 ∧ nw k_ Ao7 l1_0 co7 ∧ nw k_ Ao8 l1_1 co8)) (ua HO_9.out) hg hat); have n1_ := am (Kd.R_after (ok := (fun k_ => ((P1_0_ k_ ∨ P1_1_ k_) ∨ w.heap.size ≤ k_) ∧ nw k_ Ao12 t753 co12 ∧ nw k_ Ao44 x13_1 co44 ∧ nw k_ Ao7 l1_0 co7 ∧ nw k_ Ao8 l1_1 co8)) (ua HO_12.out) hg hat); have n2_ := am (Kd.R_after (ok := (fun k_ => ((P1_0_ k_ ∨ P1_1_ k_) ∨ w.heap.size ≤ k_) ∧ nw k_ Ao12 t753 co12 ∧ nw k_ Ao32 t758 co32 ∧ nw k_ Ao7 l1_0 co7 ∧ nw k_ Ao8 l1_1 co8)) (ua HO_13.out) hg hat); have n3_ := am (Kd.R_after (ok := (fun k_ => ((P1_0_ k_ ∨ P1_1_ k_) ∨ w.heap.size ≤ k_) ∧ nw k_ Ao12 t753 co12 ∧ nw k_ Ao32 t758 co32 ∧ nw k_ Ao44 x13_1 co44 ∧ nw k_ Ao8 l1_1 co8)) (ua HO_752000.out) hg hat); have n4_ := am (Kd.R_after (ok := (fun k_ => ((P1_0_ k_ ∨ P1_1_ k_) ∨ w.heap.size ≤ k_) ∧ nw k_ Ao12 t753 co12 ∧ nw k_ Ao32 t758 co32 ∧ nw k_ Ao44 x13_1 co44 ∧ nw k_ Ao7 l1_0 co7)) (ua HO_752001.out) hg hat); have n5_ := am (blk_grown (g := gb751) (o := .cells #[.slice Ao7 l1_0.length co7, .slice Ao8 l1_1.length co8] 53 (0, 0)) (ub BK751.out) hg (Kd.R_ne HO776.out BK751.out (by decide))); have n6_ := am (blk_grown (g := gb752) (o := .cells #[.slice none 0 0, .slice none 0 0] 53 (0, 0)) (ub BK752.out) hg (Kd.R_ne HO776.out BK752.out (by decide))); have n7_ := am (blk_grown (g := gb770) (o := .cells #[.slice none 0 0, .slice none 0 0] 53 (0, 0)) (ub BK770.out) hg (Kd.R_ne HO776.out BK770.out (by decide))); have n8_ := am (hb); have n9_ := am (Kept.of_grown (S := (fun k_ => P1_0_ k_ ∨ P1_1_ k_)) hg (uk HK.out) (fun k_ e_ => (HO776.out.1 k_ e_).1)); have n10_ := am (ho); revert n0_ n1_ n2_ n3_ n4_ n5_ n6_ n7_ n8_ n9_ n10_; clear HO_9 HO_12 HO_13 HO_752000 HO_752001 BK751 BK752 BK770 HB HK HO776; intro HO_9 HO_12 HO_13 HO_752000 HO_752001 BK751 BK752 BK770 HB HK HO779; clear ho hb hg hat; obtain ⟨Ao45, co45, eo45⟩ := Kd.R_slice HO779.out; subst eo45; obtain ⟨hcz46_0, hcz46_1, hfz46_0, hfz46_1⟩ := cells2 BK770.out; have p780 : 0 ≤ (0 : Int) := (by omega); have q780 : 0 < (t753.length : Int) := ud; obtain ⟨ad780, e780, hx780_0⟩ := Kd.at_int (Kd.R_reads' HO_9.out).2.2 0 p780 q780; cases e780; have qi780 : (0 < t753.length) = True := eq_true (by omega); (try rw [show ((0 : Int)).toNat = 0 from rfl] at hx780_0); (try rw [Addr.add_zero'] at hx780_0); have hn780_0 : ad780.block ≠ gb770 := Kd.own_blk (Kd.R_ne HO_9.out BK770.out (by decide)); replace hx780_0 := (cne 0 hn780_0 (.slice Ao45 y777.length co45)).trans hx780_0; clear hn780_0; replace p780 := eq_true p780; replace q780 := eq_true q780))
          have n0_ : Aside0 (Kd.R (Kd.int .i64) 3 (w43.setCell ⟨gb770, 0, none⟩ (.slice Ao45 y777.length co45)) w0.heap.size (fun k_ => ((P1_0_ k_ ∨ P1_1_ k_) ∨ w.heap.size ≤ k_) ∧ nw k_ Ao32 t758 co32 ∧ nw k_ Ao44 x13_1 co44 ∧ nw k_ Ao7 l1_0 co7 ∧ nw k_ Ao8 l1_1 co8 ∧ nw k_ Ao45 y777 co45) (.slice (some ad780) t753.length co12) t753) := ⟨by (with_reducible repeat (first | apply Kd.R_alloc | apply Kd.R_drewN | apply Kd.R_drew)); exact Kd.R_mono (Kd.R_far (p := ⟨gb770, 0, none⟩) (Kd.R_types HO_9.out BK770.out (by decide)) (fun _ hk => hk.2) (.slice Ao45 y777.length co45)) (fun _ hk => ⟨hk.1.1.1, ⟨hk.1.1.2.1, ⟨hk.1.1.2.2.1, ⟨hk.1.1.2.2.2.1, ⟨hk.1.1.2.2.2.2, hk.1.2⟩⟩⟩⟩⟩)⟩
          have n1_ : Aside0 (Kd.R (Kd.int .i64) 3 (w43.setCell ⟨gb770, 0, none⟩ (.slice Ao45 y777.length co45)) w0.heap.size (fun k_ => ((P1_0_ k_ ∨ P1_1_ k_) ∨ w.heap.size ≤ k_) ∧ some k_ ≠ (.slice (some ad780) t753.length co12 : Value).ownBlock ∧ nw k_ Ao44 x13_1 co44 ∧ nw k_ Ao7 l1_0 co7 ∧ nw k_ Ao8 l1_1 co8 ∧ nw k_ Ao45 y777 co45) (.slice Ao32 t758.length co32) t758) := ⟨by (with_reducible repeat (first | apply Kd.R_alloc | apply Kd.R_drewN | apply Kd.R_drew)); exact Kd.R_mono (Kd.R_far (p := ⟨gb770, 0, none⟩) (Kd.R_types HO_12.out BK770.out (by decide)) (fun _ hk => hk.2) (.slice Ao45 y777.length co45)) (fun _ hk => ⟨hk.1.1.1, ⟨hk.1.1.2.1, ⟨hk.1.1.2.2.1, ⟨hk.1.1.2.2.2.1, ⟨hk.1.1.2.2.2.2, hk.1.2⟩⟩⟩⟩⟩)⟩
          have n2_ : Aside0 (Kd.R (Kd.int .i64) 3 (w43.setCell ⟨gb770, 0, none⟩ (.slice Ao45 y777.length co45)) w0.heap.size (fun k_ => ((P1_0_ k_ ∨ P1_1_ k_) ∨ w.heap.size ≤ k_) ∧ some k_ ≠ (.slice (some ad780) t753.length co12 : Value).ownBlock ∧ nw k_ Ao32 t758 co32 ∧ nw k_ Ao7 l1_0 co7 ∧ nw k_ Ao8 l1_1 co8 ∧ nw k_ Ao45 y777 co45) (.slice Ao44 x13_1.length co44) x13_1) := ⟨by (with_reducible repeat (first | apply Kd.R_alloc | apply Kd.R_drewN | apply Kd.R_drew)); exact Kd.R_mono (Kd.R_far (p := ⟨gb770, 0, none⟩) (Kd.R_types HO_13.out BK770.out (by decide)) (fun _ hk => hk.2) (.slice Ao45 y777.length co45)) (fun _ hk => ⟨hk.1.1.1, ⟨hk.1.1.2.1, ⟨hk.1.1.2.2.1, ⟨hk.1.1.2.2.2.1, ⟨hk.1.1.2.2.2.2, hk.1.2⟩⟩⟩⟩⟩)⟩
          have n3_ : Aside0 (Kd.R (Kd.int .i64) 3 (w43.setCell ⟨gb770, 0, none⟩ (.slice Ao45 y777.length co45)) w0.heap.size (fun k_ => ((P1_0_ k_ ∨ P1_1_ k_) ∨ w.heap.size ≤ k_) ∧ some k_ ≠ (.slice (some ad780) t753.length co12 : Value).ownBlock ∧ nw k_ Ao32 t758 co32 ∧ nw k_ Ao44 x13_1 co44 ∧ nw k_ Ao8 l1_1 co8 ∧ nw k_ Ao45 y777 co45) (.slice Ao7 l1_0.length co7) l1_0) := ⟨by (with_reducible repeat (first | apply Kd.R_alloc | apply Kd.R_drewN | apply Kd.R_drew)); exact Kd.R_mono (Kd.R_far (p := ⟨gb770, 0, none⟩) (Kd.R_types HO_752000.out BK770.out (by decide)) (fun _ hk => hk.2) (.slice Ao45 y777.length co45)) (fun _ hk => ⟨hk.1.1.1, ⟨hk.1.1.2.1, ⟨hk.1.1.2.2.1, ⟨hk.1.1.2.2.2.1, ⟨hk.1.1.2.2.2.2, hk.1.2⟩⟩⟩⟩⟩)⟩
          have n4_ : Aside0 (Kd.R (Kd.int .i64) 3 (w43.setCell ⟨gb770, 0, none⟩ (.slice Ao45 y777.length co45)) w0.heap.size (fun k_ => ((P1_0_ k_ ∨ P1_1_ k_) ∨ w.heap.size ≤ k_) ∧ some k_ ≠ (.slice (some ad780) t753.length co12 : Value).ownBlock ∧ nw k_ Ao32 t758 co32 ∧ nw k_ Ao44 x13_1 co44 ∧ nw k_ Ao7 l1_0 co7 ∧ nw k_ Ao45 y777 co45) (.slice Ao8 l1_1.length co8) l1_1) := ⟨by (with_reducible repeat (first | apply Kd.R_alloc | apply Kd.R_drewN | apply Kd.R_drew)); exact Kd.R_mono (Kd.R_far (p := ⟨gb770, 0, none⟩) (Kd.R_types HO_752001.out BK770.out (by decide)) (fun _ hk => hk.2) (.slice Ao45 y777.length co45)) (fun _ hk => ⟨hk.1.1.1, ⟨hk.1.1.2.1, ⟨hk.1.1.2.2.1, ⟨hk.1.1.2.2.2.1, ⟨hk.1.1.2.2.2.2, hk.1.2⟩⟩⟩⟩⟩)⟩
          have n5_ : Aside0 (Kd.R (Kd.int .i64) 3 (w43.setCell ⟨gb770, 0, none⟩ (.slice Ao45 y777.length co45)) w0.heap.size (fun k_ => ((P1_0_ k_ ∨ P1_1_ k_) ∨ w.heap.size ≤ k_) ∧ some k_ ≠ (.slice (some ad780) t753.length co12 : Value).ownBlock ∧ nw k_ Ao32 t758 co32 ∧ nw k_ Ao44 x13_1 co44 ∧ nw k_ Ao7 l1_0 co7 ∧ nw k_ Ao8 l1_1 co8) (.slice Ao45 y777.length co45) y777) := ⟨by (with_reducible repeat (first | apply Kd.R_alloc | apply Kd.R_drewN | apply Kd.R_drew)); exact Kd.R_mono (Kd.R_far (p := ⟨gb770, 0, none⟩) (Kd.R_types HO779.out BK770.out (by decide)) (fun _ hk => hk.2) (.slice Ao45 y777.length co45)) (fun _ hk => ⟨hk.1.1, ⟨hk.1.2.1, ⟨hk.1.2.2.1, ⟨hk.1.2.2.2.1, ⟨hk.1.2.2.2.2.1, hk.1.2.2.2.2.2⟩⟩⟩⟩⟩)⟩
          have n6_ : Aside0 ((w43.setCell ⟨gb770, 0, none⟩ (.slice Ao45 y777.length co45)).heap[gb751]? = some (.cells #[.slice Ao7 l1_0.length co7, .slice Ao8 l1_1.length co8] 53 (0, 0))) := ⟨by (with_reducible repeat (first | refine blk_drewN ?_ _ | refine blk_drew ?_ | refine blk_alloc ?_ _)); refine blk_far ?_ NB751_770.out _; (with_reducible repeat (first | refine blk_drewN ?_ _ | refine blk_drew ?_ | refine blk_alloc ?_ _)); exact BK751.out⟩
          have n7_ : Aside0 ((w43.setCell ⟨gb770, 0, none⟩ (.slice Ao45 y777.length co45)).heap[gb752]? = some (.cells #[.slice none 0 0, .slice none 0 0] 53 (0, 0))) := ⟨by (with_reducible repeat (first | refine blk_drewN ?_ _ | refine blk_drew ?_ | refine blk_alloc ?_ _)); refine blk_far ?_ NB752_770.out _; (with_reducible repeat (first | refine blk_drewN ?_ _ | refine blk_drew ?_ | refine blk_alloc ?_ _)); exact BK752.out⟩
          have n8_ : Aside0 ((w43.setCell ⟨gb770, 0, none⟩ (.slice Ao45 y777.length co45)).heap[gb770]? = some (.cells #[.slice Ao45 y777.length co45, .slice none 0 0] 53 (0, 0))) := ⟨by (with_reducible repeat (first | refine blk_drewN ?_ _ | refine blk_drew ?_ | refine blk_alloc ?_ _)); refine blk_put (cs := #[.slice none 0 0, .slice none 0 0]) ?_ 0 _ rfl; (with_reducible repeat (first | refine blk_drewN ?_ _ | refine blk_drew ?_ | refine blk_alloc ?_ _)); exact BK770.out⟩
          have n9_ : Aside0 (Kept w (w43.setCell ⟨gb770, 0, none⟩ (.slice Ao45 y777.length co45)) (fun k_ => P1_0_ k_ ∨ P1_1_ k_)) := ⟨uk HK.out⟩
          have n10_ : Aside0 (Below w0.heap.size w0 (w43.setCell ⟨gb770, 0, none⟩ (.slice Ao45 y777.length co45))) := ⟨uc HB.out⟩
          (try clear HO_9)
          (try clear HO_12)
          (try clear HO_13)
          (try clear HO_752000)
          (try clear HO_752001)
          (try clear HO779)
          (try clear BK751)
          (try clear BK752)
          (try clear BK770)
          (try clear HK)
          (try clear HB)
          generalize (w43.setCell ⟨gb770, 0, none⟩ (.slice Ao45 y777.length co45)) = w47 at n0_ n1_ n2_ n3_ n4_ n5_ n6_ n7_ n8_ n9_ n10_ ⊢
          revert n0_ n1_ n2_ n3_ n4_ n5_ n6_ n7_ n8_ n9_ n10_
          intro HO_9 HO_12 HO_13 HO_752000 HO_752001 HO779 BK751 BK752 BK770 HK HB
          have n0_ := am (Kd.R_drew HO_9.out)
          have n1_ := am (Kd.R_drew HO_12.out)
          have n2_ := am (Kd.R_drew HO_13.out)
          have n3_ := am (Kd.R_drew HO_752000.out)
          have n4_ := am (Kd.R_drew HO_752001.out)
          have n5_ := am (Kd.R_drew HO779.out)
          have n6_ := am (blk_drew BK751.out)
          have n7_ := am (blk_drew BK752.out)
          have n8_ := am (blk_drew BK770.out)
          have n9_ := am (Kept.drew HK.out)
          have n10_ := am (below_drew1 HB.out)
          revert n0_ n1_ n2_ n3_ n4_ n5_ n6_ n7_ n8_ n9_ n10_
          clear HO_9 HO_12 HO_13 HO_752000 HO_752001 HO779 BK751 BK752 BK770 HK HB
          intro HO_9 HO_12 HO_13 HO_752000 HO_752001 HO779 BK751 BK752 BK770 HK HB
          refine start_ (n := 11) (S := fun w' => w'.cell? ⟨gb751, 0, none⟩ = some (.slice Ao7 l1_0.length co7) ∧ w'.cell? ⟨gb751, 1, none⟩ = some (.slice Ao8 l1_1.length co8) ∧ w'.cell? ad780 = some (.int .i64 (rd t753 0))) (ds := []) #[false, false, false, false, false, false, false, false, false, false, false] (by kernel_rfl) rfl rfl ⟨(blk_cell BK751.out 0).trans rfl, (blk_cell BK751.out 1).trans rfl, own_cell0 HO_9.out (of_eq_true qi780)⟩ (fun hHeld => ?_); refine with_tabW curtilageref21_Open.tab14 curtilageref21_Open.bits14 (fun HT_ HW_ => ?_)
          generalize w47.drew = w48 at HO_9 HO_12 HO_13 HO_752000 HO_752001 HO779 BK751 BK752 BK770 HK HB hHeld ⊢
          refine pv 1 62 (bA 11 2) HT_ ?_
          refine tv 2 63 (bA 11 6) HT_ HW_ hHeld ?_ (hy := by rintro w' ⟨s0, s1, s2⟩; go_simp; with_reducible rfl)
          refine pv 4 65 (bA 11 22) HT_ ?_
          refine pv 5 66 (bA 11 54) HT_ ?_
          refine tv 6 67 (bA 11 118) HT_ HW_ hHeld ?_ (hy := by rintro w' ⟨s0, s1, s2⟩; go_simp; with_reducible rfl)
          refine join_ (σ := Value × Value × Value) 3 #[true, true, true, true, true, true, true, true, false, false, false] (fun s_ => [(61, s_.1), (64, s_.2.1), (68, s_.2.2)]) (fun s_ w' => (w'.cell? ⟨gb751, 0, none⟩ = some (.slice Ao7 l1_0.length co7) ∧ w'.cell? ⟨gb751, 1, none⟩ = some (.slice Ao8 l1_1.length co8) ∧ w'.cell? ad780 = some (.int .i64 (rd t753 0))) ∧ (Kd.R (Kd.int .i64) 3 w' w0.heap.size (fun k_ => ((P1_0_ k_ ∨ P1_1_ k_) ∨ w.heap.size ≤ k_) ∧ some k_ ≠ (s_.2.1 : Value).ownBlock ∧ some k_ ≠ (s_.2.2 : Value).ownBlock ∧ nw k_ Ao32 t758 co32 ∧ nw k_ Ao44 x13_1 co44 ∧ nw k_ Ao7 l1_0 co7 ∧ nw k_ Ao8 l1_1 co8 ∧ some k_ ≠ (.slice (some ad780) t753.length co12 : Value).ownBlock) (.slice Ao45 y777.length co45) y777) ∧ (Kd.R (Kd.int .i64) 3 w' w0.heap.size (fun k_ => ((P1_0_ k_ ∨ P1_1_ k_) ∨ w.heap.size ≤ k_) ∧ nw k_ Ao45 y777 co45 ∧ some k_ ≠ (s_.2.2 : Value).ownBlock ∧ nw k_ Ao32 t758 co32 ∧ nw k_ Ao44 x13_1 co44 ∧ nw k_ Ao7 l1_0 co7 ∧ nw k_ Ao8 l1_1 co8 ∧ some k_ ≠ (.slice (some ad780) t753.length co12 : Value).ownBlock) s_.2.1 y784) ∧ (Kd.R (Kd.int .i64) 3 w' w0.heap.size (fun k_ => ((P1_0_ k_ ∨ P1_1_ k_) ∨ w.heap.size ≤ k_) ∧ nw k_ Ao45 y777 co45 ∧ some k_ ≠ (s_.2.1 : Value).ownBlock ∧ nw k_ Ao32 t758 co32 ∧ nw k_ Ao44 x13_1 co44 ∧ nw k_ Ao7 l1_0 co7 ∧ nw k_ Ao8 l1_1 co8 ∧ some k_ ≠ (.slice (some ad780) t753.length co12 : Value).ownBlock) s_.2.2 y787) ∧ (Kd.R (Kd.int .i64) 3 w' w0.heap.size (fun k_ => ((P1_0_ k_ ∨ P1_1_ k_) ∨ w.heap.size ≤ k_) ∧ nw k_ Ao45 y777 co45 ∧ some k_ ≠ (s_.2.1 : Value).ownBlock ∧ some k_ ≠ (s_.2.2 : Value).ownBlock ∧ nw k_ Ao44 x13_1 co44 ∧ nw k_ Ao7 l1_0 co7 ∧ nw k_ Ao8 l1_1 co8 ∧ some k_ ≠ (.slice (some ad780) t753.length co12 : Value).ownBlock) (.slice Ao32 t758.length co32) t758) ∧ (Kd.R (Kd.int .i64) 3 w' w0.heap.size (fun k_ => ((P1_0_ k_ ∨ P1_1_ k_) ∨ w.heap.size ≤ k_) ∧ nw k_ Ao45 y777 co45 ∧ some k_ ≠ (s_.2.1 : Value).ownBlock ∧ some k_ ≠ (s_.2.2 : Value).ownBlock ∧ nw k_ Ao32 t758 co32 ∧ nw k_ Ao7 l1_0 co7 ∧ nw k_ Ao8 l1_1 co8 ∧ some k_ ≠ (.slice (some ad780) t753.length co12 : Value).ownBlock) (.slice Ao44 x13_1.length co44) x13_1) ∧ (Kd.R (Kd.int .i64) 3 w' w0.heap.size (fun k_ => ((P1_0_ k_ ∨ P1_1_ k_) ∨ w.heap.size ≤ k_) ∧ nw k_ Ao45 y777 co45 ∧ some k_ ≠ (s_.2.1 : Value).ownBlock ∧ some k_ ≠ (s_.2.2 : Value).ownBlock ∧ nw k_ Ao32 t758 co32 ∧ nw k_ Ao44 x13_1 co44 ∧ nw k_ Ao8 l1_1 co8 ∧ some k_ ≠ (.slice (some ad780) t753.length co12 : Value).ownBlock) (.slice Ao7 l1_0.length co7) l1_0) ∧ (Kd.R (Kd.int .i64) 3 w' w0.heap.size (fun k_ => ((P1_0_ k_ ∨ P1_1_ k_) ∨ w.heap.size ≤ k_) ∧ nw k_ Ao45 y777 co45 ∧ some k_ ≠ (s_.2.1 : Value).ownBlock ∧ some k_ ≠ (s_.2.2 : Value).ownBlock ∧ nw k_ Ao32 t758 co32 ∧ nw k_ Ao44 x13_1 co44 ∧ nw k_ Ao7 l1_0 co7 ∧ some k_ ≠ (.slice (some ad780) t753.length co12 : Value).ownBlock) (.slice Ao8 l1_1.length co8) l1_1) ∧ (Kd.R (Kd.int .i64) 3 w' w0.heap.size (fun k_ => ((P1_0_ k_ ∨ P1_1_ k_) ∨ w.heap.size ≤ k_) ∧ nw k_ Ao45 y777 co45 ∧ some k_ ≠ (s_.2.1 : Value).ownBlock ∧ some k_ ≠ (s_.2.2 : Value).ownBlock ∧ nw k_ Ao32 t758 co32 ∧ nw k_ Ao44 x13_1 co44 ∧ nw k_ Ao7 l1_0 co7 ∧ nw k_ Ao8 l1_1 co8) (.slice (some ad780) t753.length co12) t753) ∧ (w'.heap[gb751]? = some (.cells #[.slice Ao7 l1_0.length co7, .slice Ao8 l1_1.length co8] 53 (0, 0))) ∧ (w'.heap[gb752]? = some (.cells #[.slice none 0 0, .slice none 0 0] 53 (0, 0))) ∧ (w'.heap[gb770]? = some (.cells #[.slice Ao45 y777.length co45, .slice none 0 0] 53 (0, 0))) ∧ (Kept w w' (fun k_ => P1_0_ k_ ∨ P1_1_ k_)) ∧ (Below w0.heap.size w0 w')) ?_ ?_
          rotate_left
          ·intro hCont
           refine two_ (i := 0) (j := 7) (Ni := some 61) (Nj := some 68) #[true, true, true, false, true, true, true, false, false, false, false] #[false, true, true, false, true, true, true, true, false, false, false] rfl rfl rfl rfl (two_of HT_.out (by kernel_rfl)) (by decide) (by decide) (fun K hK => ?_) (fun K hK => ?_)
           ·skip
            refine Kd.R_lit_step (Kd.int .i64) _ 3 ?hg (N := 61) ?hd (xs := ([] : List Int)) (inner := []) (ok := fun _ => True) (okp := fun _ => True) ?hr ?hp (fun _ hk => hk) trivial (Below.refl _ _) (Nat.le_refl _) (by simp) ?_; (case hd => rfl); (case hg => rfl); (case hr => first | (go_simp; done) | (go_simp; rfl)); (case hp => exact (Reps.none _ _))
            intro v782 w49 ho50 hb hg_ hnew_
            clear hg_ hnew_
            (first | rw [← Ny781.out] at ho50 | (simp only [Int.reduceToNat] at ho50; rw [← Ny781.out] at ho50))
            have n0_ := am (Kd.R_elder' (ua HO_9.out) (Kd.R_base ho50) hb)
            have n1_ := am (Kd.R_elder' (ua HO_12.out) (Kd.R_base ho50) hb)
            have n2_ := am (Kd.R_elder' (ua HO_13.out) (Kd.R_base ho50) hb)
            have n3_ := am (Kd.R_elder' (ua HO_752000.out) (Kd.R_base ho50) hb)
            have n4_ := am (Kd.R_elder' (ua HO_752001.out) (Kd.R_base ho50) hb)
            have n5_ := am (Kd.R_elder' (ua HO779.out) (Kd.R_base ho50) hb)
            have n6_ := am (Kd.R_lower (Kd.R_new' (Kd.R_new' (Kd.R_new' (Kd.R_new' (Kd.R_new' (Kd.R_new' (Kd.R_newM (M := fun k_ => ((P1_0_ k_ ∨ P1_1_ k_) ∨ w.heap.size ≤ k_)) ho50 (by first | exact HK.out.1 | exact (show Kept w _ (fun k_ => P1_0_ k_ ∨ P1_1_ k_) from uk HK.out).1) (fun k_ h_ => .inr h_)) (Kd.R_lt (ua HO_9.out))) (Kd.R_lt (ua HO_12.out))) (Kd.R_lt (ua HO_13.out))) (Kd.R_lt (ua HO_752000.out))) (Kd.R_lt (ua HO_752001.out))) (Kd.R_lt (ua HO779.out))) (below_size (uc HB.out)))
            have n7_ := am (blk_below (g := gb751) (o := .cells #[.slice Ao7 l1_0.length co7, .slice Ao8 l1_1.length co8] 53 (0, 0)) (ub BK751.out) hb)
            have n8_ := am (blk_below (g := gb752) (o := .cells #[.slice none 0 0, .slice none 0 0] 53 (0, 0)) (ub BK752.out) hb)
            have n9_ := am (blk_below (g := gb770) (o := .cells #[.slice Ao45 y777.length co45, .slice none 0 0] 53 (0, 0)) (ub BK770.out) hb)
            have n10_ := am (Kept.below (S := (fun k_ => P1_0_ k_ ∨ P1_1_ k_)) (uk HK.out) hb)
            have n11_ := am (below_step (uc HB.out) hb)
            revert n0_ n1_ n2_ n3_ n4_ n5_ n6_ n7_ n8_ n9_ n10_ n11_
            clear HO_9 HO_12 HO_13 HO_752000 HO_752001 HO779 BK751 BK752 BK770 HK HB
            intro HO_9 HO_12 HO_13 HO_752000 HO_752001 HO779 HO783 BK751 BK752 BK770 HK HB
            clear hb ho50
            refine hK.out _ _ ⟨(blk_cell BK751.out 0).trans rfl, (blk_cell BK751.out 1).trans rfl, own_cell0 HO_9.out (of_eq_true qi780)⟩ (fun hHeld => ?_)
            clear hK K
            refine norm_ (a' := ?_) ?_ ?_
            rotate_left
            ·show Act.put _ (some 61) _ = _
             simp only [Act.put, List.setIfInBounds_toArray, List.set_cons_zero, List.set_cons_succ, i64_w, i32_w]
             rfl
            refine two_ (i := 3) (j := 7) (Ni := some 64) (Nj := some 68) #[true, true, true, true, true, true, true, false, false, false, false] #[true, true, true, false, true, true, true, true, false, false, false] rfl rfl rfl rfl (two_of HT_.out (by kernel_rfl)) (by decide) (by decide) (fun K hK => ?_) (fun K hK => ?_)
            ·skip
             refine Kd.R_append_rows_step (Kd.int .i64) (w0 := w0) w0.heap.size (by rfl) (.tmp 61) (.tmp 63) 26 3 (.int .i64 0) 8 rfl Try.underlying26 info3 rfl (by decide) (by omega) v782 y781 l1_1 _ _ _ (fun k_ => ((P1_0_ k_ ∨ P1_1_ k_) ∨ w.heap.size ≤ k_) ∧ some k_ ≠ (.slice (some ad780) t753.length co12 : Value).ownBlock ∧ nw k_ Ao32 t758 co32 ∧ nw k_ Ao44 x13_1 co44 ∧ nw k_ Ao7 l1_0 co7 ∧ nw k_ Ao8 l1_1 co8 ∧ nw k_ Ao45 y777 co45) (fun _ => False) rfl rfl ?aO ?aR (fun _ _ h => h) (fun _ h => h.elim) ?aF ?aB ?aS ?aL ?_
             (case aR => exact us (Kd.R_reads' HO_752001.out).2.2)
             (case aB => exact (uc HB.out))
             (case aF => exact (fun k_ hk => ⟨(.inr (Nat.le_trans (by first | exact HK.out.1 | exact (show Kept w _ (fun k_ => P1_0_ k_ ∨ P1_1_ k_) from uk HK.out).1) hk)), Kd.fresh' (Kd.R_lt (ua HO_9.out)) k_ hk, Kd.fresh' (Kd.R_lt (ua HO_12.out)) k_ hk, Kd.fresh' (Kd.R_lt (ua HO_13.out)) k_ hk, Kd.fresh' (Kd.R_lt (ua HO_752000.out)) k_ hk, Kd.fresh' (Kd.R_lt (ua HO_752001.out)) k_ hk, Kd.fresh' (Kd.R_lt (ua HO779.out)) k_ hk⟩))
             (case aO => exact (by (with_reducible repeat (first | apply Kd.R_alloc | apply Kd.R_drewN | apply Kd.R_drew)); exact Kd.R_mono HO783.out (fun _ hk => ⟨hk.1.1.1.1.1.1.1, ⟨hk.1.1.1.1.1.2, ⟨hk.1.1.1.1.2, ⟨hk.1.1.1.2, ⟨hk.1.1.2, ⟨hk.1.2, hk.2⟩⟩⟩⟩⟩⟩)))
             (case aS => exact (below_size (uc HB.out)))
             (case aL => have := LMc30.out; omega)
             intro v785 w51 ho hb hg hat
             rw [← Ny784.out] at ho
             have n0_ := am (Kd.R_after (ok := (fun k_ => ((P1_0_ k_ ∨ P1_1_ k_) ∨ w.heap.size ≤ k_) ∧ nw k_ Ao32 t758 co32 ∧ nw k_ Ao44 x13_1 co44 ∧ nw k_ Ao7 l1_0 co7 ∧ nw k_ Ao8 l1_1 co8 ∧ nw k_ Ao45 y777 co45)) (ua HO_9.out) hg hat)
             have n1_ := am (Kd.R_after (ok := (fun k_ => ((P1_0_ k_ ∨ P1_1_ k_) ∨ w.heap.size ≤ k_) ∧ some k_ ≠ (.slice (some ad780) t753.length co12 : Value).ownBlock ∧ nw k_ Ao44 x13_1 co44 ∧ nw k_ Ao7 l1_0 co7 ∧ nw k_ Ao8 l1_1 co8 ∧ nw k_ Ao45 y777 co45)) (ua HO_12.out) hg hat)
             have n2_ := am (Kd.R_after (ok := (fun k_ => ((P1_0_ k_ ∨ P1_1_ k_) ∨ w.heap.size ≤ k_) ∧ some k_ ≠ (.slice (some ad780) t753.length co12 : Value).ownBlock ∧ nw k_ Ao32 t758 co32 ∧ nw k_ Ao7 l1_0 co7 ∧ nw k_ Ao8 l1_1 co8 ∧ nw k_ Ao45 y777 co45)) (ua HO_13.out) hg hat)
             have n3_ := am (Kd.R_after (ok := (fun k_ => ((P1_0_ k_ ∨ P1_1_ k_) ∨ w.heap.size ≤ k_) ∧ some k_ ≠ (.slice (some ad780) t753.length co12 : Value).ownBlock ∧ nw k_ Ao32 t758 co32 ∧ nw k_ Ao44 x13_1 co44 ∧ nw k_ Ao8 l1_1 co8 ∧ nw k_ Ao45 y777 co45)) (ua HO_752000.out) hg hat)
             have n4_ := am (Kd.R_after (ok := (fun k_ => ((P1_0_ k_ ∨ P1_1_ k_) ∨ w.heap.size ≤ k_) ∧ some k_ ≠ (.slice (some ad780) t753.length co12 : Value).ownBlock ∧ nw k_ Ao32 t758 co32 ∧ nw k_ Ao44 x13_1 co44 ∧ nw k_ Ao7 l1_0 co7 ∧ nw k_ Ao45 y777 co45)) (ua HO_752001.out) hg hat)
             have n5_ := am (blk_grown (g := gb751) (o := .cells #[.slice Ao7 l1_0.length co7, .slice Ao8 l1_1.length co8] 53 (0, 0)) (ub BK751.out) hg (Kd.R_ne HO783.out BK751.out (by decide)))
             have n6_ := am (blk_grown (g := gb752) (o := .cells #[.slice none 0 0, .slice none 0 0] 53 (0, 0)) (ub BK752.out) hg (Kd.R_ne HO783.out BK752.out (by decide)))
             have n7_ := am (blk_grown (g := gb770) (o := .cells #[.slice Ao45 y777.length co45, .slice none 0 0] 53 (0, 0)) (ub BK770.out) hg (Kd.R_ne HO783.out BK770.out (by decide)))
             have n8_ := am (Kd.R_after (ok := (fun k_ => ((P1_0_ k_ ∨ P1_1_ k_) ∨ w.heap.size ≤ k_) ∧ some k_ ≠ (.slice (some ad780) t753.length co12 : Value).ownBlock ∧ nw k_ Ao32 t758 co32 ∧ nw k_ Ao44 x13_1 co44 ∧ nw k_ Ao7 l1_0 co7 ∧ nw k_ Ao8 l1_1 co8)) (ua HO779.out) hg hat)
             have n9_ := am (hb)
             have n10_ := am (Kept.of_grown (S := (fun k_ => P1_0_ k_ ∨ P1_1_ k_)) hg (uk HK.out) (fun k_ e_ => (HO783.out.1 k_ e_).1.1.1.1.1.1.1))
             have n11_ := am (ho)
             revert n0_ n1_ n2_ n3_ n4_ n5_ n6_ n7_ n8_ n9_ n10_ n11_
             clear HO_9 HO_12 HO_13 HO_752000 HO_752001 BK751 BK752 BK770 HO779 HB HK HO783
             intro HO_9 HO_12 HO_13 HO_752000 HO_752001 BK751 BK752 BK770 HO779 HB HK HO786
             clear ho hb hg hat
             refine hK.out _ _ ⟨(blk_cell BK751.out 0).trans rfl, (blk_cell BK751.out 1).trans rfl, own_cell0 HO_9.out (of_eq_true qi780)⟩ (fun hHeld => ?_)
             clear hK K
             refine norm_ (a' := ?_) ?_ ?_
             rotate_left
             ·show Act.put _ (some 64) _ = _
              simp only [Act.put, List.setIfInBounds_toArray, List.set_cons_zero, List.set_cons_succ, i64_w, i32_w]
              rfl
             refine one_ (i := 7) (N := some 68) #[true, true, true, true, true, true, true, true, false, false, false] rfl rfl (one_of HT_.out (by kernel_rfl)) (by decide) (fun K hK => ?_)
             refine Kd.R_lit_step (Kd.int .i64) _ 3 ?hg (N := 68) ?hd (xs := ([rd t753 0] : List Int)) (inner := [.int .i64 (rd t753 0)]) (ok := fun _ => True) (okp := fun _ => True) ?hr ?hp (fun _ hk => hk) trivial (Below.refl _ _) (Nat.le_refl _) (by simp) ?_; (case hd => rfl); (case hg => rfl); (case hr => first | (go_simp; done) | (go_simp; rfl)); (case hp => exact (Reps.one (show Kd.M (Kd.int .i64) _ _ _ (rd t753 0) [.int .i64 (rd t753 0)] from rfl) (Reps.none _ _)))
             intro v788 w52 ho53 hb hg_ hnew_
             clear hg_ hnew_
             (first | rw [← Ny787.out] at ho53 | (simp only [Int.reduceToNat] at ho53; rw [← Ny787.out] at ho53))
             have n0_ := am (Kd.R_elder' (ua HO_9.out) (Kd.R_base ho53) hb)
             have n1_ := am (Kd.R_elder' (ua HO_12.out) (Kd.R_base ho53) hb)
             have n2_ := am (Kd.R_elder' (ua HO_13.out) (Kd.R_base ho53) hb)
             have n3_ := am (Kd.R_elder' (ua HO_752000.out) (Kd.R_base ho53) hb)
             have n4_ := am (Kd.R_elder' (ua HO_752001.out) (Kd.R_base ho53) hb)
             have n5_ := am (Kd.R_elder' (ua HO779.out) (Kd.R_base ho53) hb)
             have n6_ := am (Kd.R_elder' (ua HO786.out) (Kd.R_base ho53) hb)
             have n7_ := am (Kd.R_lower (Kd.R_new' (Kd.R_new' (Kd.R_new' (Kd.R_new' (Kd.R_new' (Kd.R_new' (Kd.R_new' (Kd.R_newM (M := fun k_ => ((P1_0_ k_ ∨ P1_1_ k_) ∨ w.heap.size ≤ k_)) ho53 (by first | exact HK.out.1 | exact (show Kept w _ (fun k_ => P1_0_ k_ ∨ P1_1_ k_) from uk HK.out).1) (fun k_ h_ => .inr h_)) (Kd.R_lt (ua HO_9.out))) (Kd.R_lt (ua HO_12.out))) (Kd.R_lt (ua HO_13.out))) (Kd.R_lt (ua HO_752000.out))) (Kd.R_lt (ua HO_752001.out))) (Kd.R_lt (ua HO779.out))) (Kd.R_lt (ua HO786.out))) (below_size (uc HB.out)))
             have n8_ := am (blk_below (g := gb751) (o := .cells #[.slice Ao7 l1_0.length co7, .slice Ao8 l1_1.length co8] 53 (0, 0)) (ub BK751.out) hb)
             have n9_ := am (blk_below (g := gb752) (o := .cells #[.slice none 0 0, .slice none 0 0] 53 (0, 0)) (ub BK752.out) hb)
             have n10_ := am (blk_below (g := gb770) (o := .cells #[.slice Ao45 y777.length co45, .slice none 0 0] 53 (0, 0)) (ub BK770.out) hb)
             have n11_ := am (Kept.below (S := (fun k_ => P1_0_ k_ ∨ P1_1_ k_)) (uk HK.out) hb)
             have n12_ := am (below_step (uc HB.out) hb)
             revert n0_ n1_ n2_ n3_ n4_ n5_ n6_ n7_ n8_ n9_ n10_ n11_ n12_
             clear HO_9 HO_12 HO_13 HO_752000 HO_752001 HO779 HO786 BK751 BK752 BK770 HK HB
             intro HO_9 HO_12 HO_13 HO_752000 HO_752001 HO779 HO786 HO789 BK751 BK752 BK770 HK HB
             clear hb ho53
             refine hK.out _ _ ⟨(blk_cell BK751.out 0).trans rfl, (blk_cell BK751.out 1).trans rfl, own_cell0 HO_9.out (of_eq_true qi780)⟩ (fun hHeld => ?_)
             clear hK K
             refine norm_ (a' := ?_) ?_ ?_
             rotate_left
             ·show Act.put _ (some 68) _ = _
              simp only [Act.put, List.setIfInBounds_toArray, List.set_cons_zero, List.set_cons_succ, i64_w, i32_w]
              rfl
             exact norm_ (by simp only [putAll, Act.put, List.setIfInBounds_toArray, List.set_cons_zero, List.set_cons_succ]) (hCont (v782, v785, v788) _ ⟨hHeld, (by (with_reducible repeat (first | apply Kd.R_alloc | apply Kd.R_drewN | apply Kd.R_drew)); exact Kd.R_mono HO779.out (fun _ hk => ⟨hk.1.1.1, ⟨hk.1.2, ⟨hk.2, ⟨hk.1.1.2.2.1, ⟨hk.1.1.2.2.2.1, ⟨hk.1.1.2.2.2.2.1, ⟨hk.1.1.2.2.2.2.2, hk.1.1.2.1⟩⟩⟩⟩⟩⟩⟩)), (by (with_reducible repeat (first | apply Kd.R_alloc | apply Kd.R_drewN | apply Kd.R_drew)); exact Kd.R_mono HO786.out (fun _ hk => ⟨hk.1.1, ⟨hk.1.2.2.2.2.2.2, ⟨hk.2, ⟨hk.1.2.2.1, ⟨hk.1.2.2.2.1, ⟨hk.1.2.2.2.2.1, ⟨hk.1.2.2.2.2.2.1, hk.1.2.1⟩⟩⟩⟩⟩⟩⟩)), (by (with_reducible repeat (first | apply Kd.R_alloc | apply Kd.R_drewN | apply Kd.R_drew)); exact Kd.R_mono HO789.out (fun _ hk => ⟨hk.1.1.1.1.1.1.1.1, ⟨hk.1.2, ⟨hk.2, ⟨hk.1.1.1.1.1.2, ⟨hk.1.1.1.1.2, ⟨hk.1.1.1.2, ⟨hk.1.1.2, hk.1.1.1.1.1.1.2⟩⟩⟩⟩⟩⟩⟩)), (by (with_reducible repeat (first | apply Kd.R_alloc | apply Kd.R_drewN | apply Kd.R_drew)); exact Kd.R_mono HO_12.out (fun _ hk => ⟨hk.1.1.1, ⟨hk.1.1.2.2.2.2.2, ⟨hk.1.2, ⟨hk.2, ⟨hk.1.1.2.2.1, ⟨hk.1.1.2.2.2.1, ⟨hk.1.1.2.2.2.2.1, hk.1.1.2.1⟩⟩⟩⟩⟩⟩⟩)), (by (with_reducible repeat (first | apply Kd.R_alloc | apply Kd.R_drewN | apply Kd.R_drew)); exact Kd.R_mono HO_13.out (fun _ hk => ⟨hk.1.1.1, ⟨hk.1.1.2.2.2.2.2, ⟨hk.1.2, ⟨hk.2, ⟨hk.1.1.2.2.1, ⟨hk.1.1.2.2.2.1, ⟨hk.1.1.2.2.2.2.1, hk.1.1.2.1⟩⟩⟩⟩⟩⟩⟩)), (by (with_reducible repeat (first | apply Kd.R_alloc | apply Kd.R_drewN | apply Kd.R_drew)); exact Kd.R_mono HO_752000.out (fun _ hk => ⟨hk.1.1.1, ⟨hk.1.1.2.2.2.2.2, ⟨hk.1.2, ⟨hk.2, ⟨hk.1.1.2.2.1, ⟨hk.1.1.2.2.2.1, ⟨hk.1.1.2.2.2.2.1, hk.1.1.2.1⟩⟩⟩⟩⟩⟩⟩)), (by (with_reducible repeat (first | apply Kd.R_alloc | apply Kd.R_drewN | apply Kd.R_drew)); exact Kd.R_mono HO_752001.out (fun _ hk => ⟨hk.1.1.1, ⟨hk.1.1.2.2.2.2.2, ⟨hk.1.2, ⟨hk.2, ⟨hk.1.1.2.2.1, ⟨hk.1.1.2.2.2.1, ⟨hk.1.1.2.2.2.2.1, hk.1.1.2.1⟩⟩⟩⟩⟩⟩⟩)), (by (with_reducible repeat (first | apply Kd.R_alloc | apply Kd.R_drewN | apply Kd.R_drew)); exact Kd.R_mono HO_9.out (fun _ hk => ⟨hk.1.1.1, ⟨hk.1.1.2.2.2.2.2, ⟨hk.1.2, ⟨hk.2, ⟨hk.1.1.2.1, ⟨hk.1.1.2.2.1, ⟨hk.1.1.2.2.2.1, hk.1.1.2.2.2.2.1⟩⟩⟩⟩⟩⟩⟩)), (ub BK751.out), (ub BK752.out), (ub BK770.out), (uk HK.out), (uc HB.out)⟩)
            ·skip
             refine Kd.R_lit_step (Kd.int .i64) _ 3 ?hg (N := 68) ?hd (xs := ([rd t753 0] : List Int)) (inner := [.int .i64 (rd t753 0)]) (ok := fun _ => True) (okp := fun _ => True) ?hr ?hp (fun _ hk => hk) trivial (Below.refl _ _) (Nat.le_refl _) (by simp) ?_; (case hd => rfl); (case hg => rfl); (case hr => first | (go_simp; done) | (go_simp; rfl)); (case hp => exact (Reps.one (show Kd.M (Kd.int .i64) _ _ _ (rd t753 0) [.int .i64 (rd t753 0)] from rfl) (Reps.none _ _)))
             intro v788 w51 ho52 hb hg_ hnew_
             clear hg_ hnew_
             (first | rw [← Ny787.out] at ho52 | (simp only [Int.reduceToNat] at ho52; rw [← Ny787.out] at ho52))
             have n0_ := am (Kd.R_elder' (ua HO_9.out) (Kd.R_base ho52) hb)
             have n1_ := am (Kd.R_elder' (ua HO_12.out) (Kd.R_base ho52) hb)
             have n2_ := am (Kd.R_elder' (ua HO_13.out) (Kd.R_base ho52) hb)
             have n3_ := am (Kd.R_elder' (ua HO_752000.out) (Kd.R_base ho52) hb)
             have n4_ := am (Kd.R_elder' (ua HO_752001.out) (Kd.R_base ho52) hb)
             have n5_ := am (Kd.R_elder' (ua HO779.out) (Kd.R_base ho52) hb)
             have n6_ := am (Kd.R_elder' (ua HO783.out) (Kd.R_base ho52) hb)
             have n7_ := am (Kd.R_lower (Kd.R_new' (Kd.R_new' (Kd.R_new' (Kd.R_new' (Kd.R_new' (Kd.R_new' (Kd.R_new' (Kd.R_newM (M := fun k_ => ((P1_0_ k_ ∨ P1_1_ k_) ∨ w.heap.size ≤ k_)) ho52 (by first | exact HK.out.1 | exact (show Kept w _ (fun k_ => P1_0_ k_ ∨ P1_1_ k_) from uk HK.out).1) (fun k_ h_ => .inr h_)) (Kd.R_lt (ua HO_9.out))) (Kd.R_lt (ua HO_12.out))) (Kd.R_lt (ua HO_13.out))) (Kd.R_lt (ua HO_752000.out))) (Kd.R_lt (ua HO_752001.out))) (Kd.R_lt (ua HO779.out))) (Kd.R_lt (ua HO783.out))) (below_size (uc HB.out)))
             have n8_ := am (blk_below (g := gb751) (o := .cells #[.slice Ao7 l1_0.length co7, .slice Ao8 l1_1.length co8] 53 (0, 0)) (ub BK751.out) hb)
             have n9_ := am (blk_below (g := gb752) (o := .cells #[.slice none 0 0, .slice none 0 0] 53 (0, 0)) (ub BK752.out) hb)
             have n10_ := am (blk_below (g := gb770) (o := .cells #[.slice Ao45 y777.length co45, .slice none 0 0] 53 (0, 0)) (ub BK770.out) hb)
             have n11_ := am (Kept.below (S := (fun k_ => P1_0_ k_ ∨ P1_1_ k_)) (uk HK.out) hb)
             have n12_ := am (below_step (uc HB.out) hb)
             revert n0_ n1_ n2_ n3_ n4_ n5_ n6_ n7_ n8_ n9_ n10_ n11_ n12_
             clear HO_9 HO_12 HO_13 HO_752000 HO_752001 HO779 HO783 BK751 BK752 BK770 HK HB
             intro HO_9 HO_12 HO_13 HO_752000 HO_752001 HO779 HO783 HO789 BK751 BK752 BK770 HK HB
             clear hb ho52
             refine hK.out _ _ ⟨(blk_cell BK751.out 0).trans rfl, (blk_cell BK751.out 1).trans rfl, own_cell0 HO_9.out (of_eq_true qi780)⟩ (fun hHeld => ?_)
             clear hK K
             refine norm_ (a' := ?_) ?_ ?_
             rotate_left
             ·show Act.put _ (some 68) _ = _
              simp only [Act.put, List.setIfInBounds_toArray, List.set_cons_zero, List.set_cons_succ, i64_w, i32_w]
              rfl
             refine one_ (i := 3) (N := some 64) #[true, true, true, true, true, true, true, true, false, false, false] rfl rfl (one_of HT_.out (by kernel_rfl)) (by decide) (fun K hK => ?_)
             refine Kd.R_append_rows_step (Kd.int .i64) (w0 := w0) w0.heap.size (by rfl) (.tmp 61) (.tmp 63) 26 3 (.int .i64 0) 8 rfl Try.underlying26 info3 rfl (by decide) (by omega) v782 y781 l1_1 _ _ _ (fun k_ => ((P1_0_ k_ ∨ P1_1_ k_) ∨ w.heap.size ≤ k_) ∧ some k_ ≠ (.slice (some ad780) t753.length co12 : Value).ownBlock ∧ nw k_ Ao32 t758 co32 ∧ nw k_ Ao44 x13_1 co44 ∧ nw k_ Ao7 l1_0 co7 ∧ nw k_ Ao8 l1_1 co8 ∧ nw k_ Ao45 y777 co45 ∧ nv k_ v788) (fun _ => False) rfl rfl ?aO ?aR (fun _ _ h => h) (fun _ h => h.elim) ?aF ?aB ?aS ?aL ?_
             (case aR => exact us (Kd.R_reads' HO_752001.out).2.2)
             (case aB => exact (uc HB.out))
             (case aF => exact (fun k_ hk => ⟨(.inr (Nat.le_trans (by first | exact HK.out.1 | exact (show Kept w _ (fun k_ => P1_0_ k_ ∨ P1_1_ k_) from uk HK.out).1) hk)), Kd.fresh' (Kd.R_lt (ua HO_9.out)) k_ hk, Kd.fresh' (Kd.R_lt (ua HO_12.out)) k_ hk, Kd.fresh' (Kd.R_lt (ua HO_13.out)) k_ hk, Kd.fresh' (Kd.R_lt (ua HO_752000.out)) k_ hk, Kd.fresh' (Kd.R_lt (ua HO_752001.out)) k_ hk, Kd.fresh' (Kd.R_lt (ua HO779.out)) k_ hk, Kd.fresh' (Kd.R_lt (ua HO789.out)) k_ hk⟩))
             (case aO => exact (by (with_reducible repeat (first | apply Kd.R_alloc | apply Kd.R_drewN | apply Kd.R_drew)); exact Kd.R_mono HO783.out (fun _ hk => ⟨hk.1.1.1.1.1.1.1.1, ⟨hk.1.1.1.1.1.1.2, ⟨hk.1.1.1.1.1.2, ⟨hk.1.1.1.1.2, ⟨hk.1.1.1.2, ⟨hk.1.1.2, ⟨hk.1.2, hk.2⟩⟩⟩⟩⟩⟩⟩)))
             (case aS => exact (below_size (uc HB.out)))
             (case aL => have := LMc30.out; omega)
             intro v785 w53 ho hb hg hat
             rw [← Ny784.out] at ho
             have n0_ := am (Kd.R_after (ok := (fun k_ => ((P1_0_ k_ ∨ P1_1_ k_) ∨ w.heap.size ≤ k_) ∧ nw k_ Ao32 t758 co32 ∧ nw k_ Ao44 x13_1 co44 ∧ nw k_ Ao7 l1_0 co7 ∧ nw k_ Ao8 l1_1 co8 ∧ nw k_ Ao45 y777 co45 ∧ nv k_ v788)) (by (with_reducible repeat (first | apply Kd.R_alloc | apply Kd.R_drewN | apply Kd.R_drew)); exact Kd.R_mono HO_9.out (fun _ hk => ⟨⟨hk.1.1.1, ⟨hk.1.1.2.1, ⟨hk.1.1.2.2.1, ⟨hk.1.1.2.2.2.1, ⟨hk.1.1.2.2.2.2.1, ⟨hk.1.1.2.2.2.2.2, hk.2⟩⟩⟩⟩⟩⟩, hk.1.2⟩)) hg hat)
             have n1_ := am (Kd.R_after (ok := (fun k_ => ((P1_0_ k_ ∨ P1_1_ k_) ∨ w.heap.size ≤ k_) ∧ some k_ ≠ (.slice (some ad780) t753.length co12 : Value).ownBlock ∧ nw k_ Ao44 x13_1 co44 ∧ nw k_ Ao7 l1_0 co7 ∧ nw k_ Ao8 l1_1 co8 ∧ nw k_ Ao45 y777 co45 ∧ nv k_ v788)) (by (with_reducible repeat (first | apply Kd.R_alloc | apply Kd.R_drewN | apply Kd.R_drew)); exact Kd.R_mono HO_12.out (fun _ hk => ⟨⟨hk.1.1.1, ⟨hk.1.1.2.1, ⟨hk.1.1.2.2.1, ⟨hk.1.1.2.2.2.1, ⟨hk.1.1.2.2.2.2.1, ⟨hk.1.1.2.2.2.2.2, hk.2⟩⟩⟩⟩⟩⟩, hk.1.2⟩)) hg hat)
             have n2_ := am (Kd.R_after (ok := (fun k_ => ((P1_0_ k_ ∨ P1_1_ k_) ∨ w.heap.size ≤ k_) ∧ some k_ ≠ (.slice (some ad780) t753.length co12 : Value).ownBlock ∧ nw k_ Ao32 t758 co32 ∧ nw k_ Ao7 l1_0 co7 ∧ nw k_ Ao8 l1_1 co8 ∧ nw k_ Ao45 y777 co45 ∧ nv k_ v788)) (by (with_reducible repeat (first | apply Kd.R_alloc | apply Kd.R_drewN | apply Kd.R_drew)); exact Kd.R_mono HO_13.out (fun _ hk => ⟨⟨hk.1.1.1, ⟨hk.1.1.2.1, ⟨hk.1.1.2.2.1, ⟨hk.1.1.2.2.2.1, ⟨hk.1.1.2.2.2.2.1, ⟨hk.1.1.2.2.2.2.2, hk.2⟩⟩⟩⟩⟩⟩, hk.1.2⟩)) hg hat)
             have n3_ := am (Kd.R_after (ok := (fun k_ => ((P1_0_ k_ ∨ P1_1_ k_) ∨ w.heap.size ≤ k_) ∧ some k_ ≠ (.slice (some ad780) t753.length co12 : Value).ownBlock ∧ nw k_ Ao32 t758 co32 ∧ nw k_ Ao44 x13_1 co44 ∧ nw k_ Ao8 l1_1 co8 ∧ nw k_ Ao45 y777 co45 ∧ nv k_ v788)) (by (with_reducible repeat (first | apply Kd.R_alloc | apply Kd.R_drewN | apply Kd.R_drew)); exact Kd.R_mono HO_752000.out (fun _ hk => ⟨⟨hk.1.1.1, ⟨hk.1.1.2.1, ⟨hk.1.1.2.2.1, ⟨hk.1.1.2.2.2.1, ⟨hk.1.1.2.2.2.2.1, ⟨hk.1.1.2.2.2.2.2, hk.2⟩⟩⟩⟩⟩⟩, hk.1.2⟩)) hg hat)
             have n4_ := am (Kd.R_after (ok := (fun k_ => ((P1_0_ k_ ∨ P1_1_ k_) ∨ w.heap.size ≤ k_) ∧ some k_ ≠ (.slice (some ad780) t753.length co12 : Value).ownBlock ∧ nw k_ Ao32 t758 co32 ∧ nw k_ Ao44 x13_1 co44 ∧ nw k_ Ao7 l1_0 co7 ∧ nw k_ Ao45 y777 co45 ∧ nv k_ v788)) (by (with_reducible repeat (first | apply Kd.R_alloc | apply Kd.R_drewN | apply Kd.R_drew)); exact Kd.R_mono HO_752001.out (fun _ hk => ⟨⟨hk.1.1.1, ⟨hk.1.1.2.1, ⟨hk.1.1.2.2.1, ⟨hk.1.1.2.2.2.1, ⟨hk.1.1.2.2.2.2.1, ⟨hk.1.1.2.2.2.2.2, hk.2⟩⟩⟩⟩⟩⟩, hk.1.2⟩)) hg hat)
             have n5_ := am (blk_grown (g := gb751) (o := .cells #[.slice Ao7 l1_0.length co7, .slice Ao8 l1_1.length co8] 53 (0, 0)) (ub BK751.out) hg (Kd.R_ne HO783.out BK751.out (by decide)))
             have n6_ := am (blk_grown (g := gb752) (o := .cells #[.slice none 0 0, .slice none 0 0] 53 (0, 0)) (ub BK752.out) hg (Kd.R_ne HO783.out BK752.out (by decide)))
             have n7_ := am (blk_grown (g := gb770) (o := .cells #[.slice Ao45 y777.length co45, .slice none 0 0] 53 (0, 0)) (ub BK770.out) hg (Kd.R_ne HO783.out BK770.out (by decide)))
             have n8_ := am (Kd.R_after (ok := (fun k_ => ((P1_0_ k_ ∨ P1_1_ k_) ∨ w.heap.size ≤ k_) ∧ some k_ ≠ (.slice (some ad780) t753.length co12 : Value).ownBlock ∧ nw k_ Ao32 t758 co32 ∧ nw k_ Ao44 x13_1 co44 ∧ nw k_ Ao7 l1_0 co7 ∧ nw k_ Ao8 l1_1 co8 ∧ nv k_ v788)) (by (with_reducible repeat (first | apply Kd.R_alloc | apply Kd.R_drewN | apply Kd.R_drew)); exact Kd.R_mono HO779.out (fun _ hk => ⟨⟨hk.1.1.1, ⟨hk.1.1.2.1, ⟨hk.1.1.2.2.1, ⟨hk.1.1.2.2.2.1, ⟨hk.1.1.2.2.2.2.1, ⟨hk.1.1.2.2.2.2.2, hk.2⟩⟩⟩⟩⟩⟩, hk.1.2⟩)) hg hat)
             have n9_ := am (Kd.R_after (ok := (fun k_ => ((P1_0_ k_ ∨ P1_1_ k_) ∨ w.heap.size ≤ k_) ∧ some k_ ≠ (.slice (some ad780) t753.length co12 : Value).ownBlock ∧ nw k_ Ao32 t758 co32 ∧ nw k_ Ao44 x13_1 co44 ∧ nw k_ Ao7 l1_0 co7 ∧ nw k_ Ao8 l1_1 co8 ∧ nw k_ Ao45 y777 co45)) (by (with_reducible repeat (first | apply Kd.R_alloc | apply Kd.R_drewN | apply Kd.R_drew)); exact Kd.R_mono HO789.out (fun _ hk => ⟨⟨hk.1.1.1.1.1.1.1.1, ⟨hk.1.1.1.1.1.1.2, ⟨hk.1.1.1.1.1.2, ⟨hk.1.1.1.1.2, ⟨hk.1.1.1.2, ⟨hk.1.1.2, hk.1.2⟩⟩⟩⟩⟩⟩, hk.2⟩)) hg hat)
             have n10_ := am (hb)
             have n11_ := am (Kept.of_grown (S := (fun k_ => P1_0_ k_ ∨ P1_1_ k_)) hg (uk HK.out) (fun k_ e_ => (HO783.out.1 k_ e_).1.1.1.1.1.1.1.1))
             have n12_ := am (ho)
             revert n0_ n1_ n2_ n3_ n4_ n5_ n6_ n7_ n8_ n9_ n10_ n11_ n12_
             clear HO_9 HO_12 HO_13 HO_752000 HO_752001 BK751 BK752 BK770 HO779 HO789 HB HK HO783
             intro HO_9 HO_12 HO_13 HO_752000 HO_752001 BK751 BK752 BK770 HO779 HO789 HB HK HO786
             clear ho hb hg hat
             refine hK.out _ _ ⟨(blk_cell BK751.out 0).trans rfl, (blk_cell BK751.out 1).trans rfl, own_cell0 HO_9.out (of_eq_true qi780)⟩ (fun hHeld => ?_)
             clear hK K
             refine norm_ (a' := ?_) ?_ ?_
             rotate_left
             ·show Act.put _ (some 64) _ = _
              simp only [Act.put, List.setIfInBounds_toArray, List.set_cons_zero, List.set_cons_succ, i64_w, i32_w]
              rfl
             exact norm_ (by simp only [putAll, Act.put, List.setIfInBounds_toArray, List.set_cons_zero, List.set_cons_succ]) (hCont (v782, v785, v788) _ ⟨hHeld, (by (with_reducible repeat (first | apply Kd.R_alloc | apply Kd.R_drewN | apply Kd.R_drew)); exact Kd.R_mono HO779.out (fun _ hk => ⟨hk.1.1, ⟨hk.2, ⟨hk.1.2.2.2.2.2.2, ⟨hk.1.2.2.1, ⟨hk.1.2.2.2.1, ⟨hk.1.2.2.2.2.1, ⟨hk.1.2.2.2.2.2.1, hk.1.2.1⟩⟩⟩⟩⟩⟩⟩)), (by (with_reducible repeat (first | apply Kd.R_alloc | apply Kd.R_drewN | apply Kd.R_drew)); exact Kd.R_mono HO786.out (fun _ hk => ⟨hk.1, ⟨hk.2.2.2.2.2.2.1, ⟨hk.2.2.2.2.2.2.2, ⟨hk.2.2.1, ⟨hk.2.2.2.1, ⟨hk.2.2.2.2.1, ⟨hk.2.2.2.2.2.1, hk.2.1⟩⟩⟩⟩⟩⟩⟩)), (by (with_reducible repeat (first | apply Kd.R_alloc | apply Kd.R_drewN | apply Kd.R_drew)); exact Kd.R_mono HO789.out (fun _ hk => ⟨hk.1.1, ⟨hk.1.2.2.2.2.2.2, ⟨hk.2, ⟨hk.1.2.2.1, ⟨hk.1.2.2.2.1, ⟨hk.1.2.2.2.2.1, ⟨hk.1.2.2.2.2.2.1, hk.1.2.1⟩⟩⟩⟩⟩⟩⟩)), (by (with_reducible repeat (first | apply Kd.R_alloc | apply Kd.R_drewN | apply Kd.R_drew)); exact Kd.R_mono HO_12.out (fun _ hk => ⟨hk.1.1, ⟨hk.1.2.2.2.2.2.1, ⟨hk.2, ⟨hk.1.2.2.2.2.2.2, ⟨hk.1.2.2.1, ⟨hk.1.2.2.2.1, ⟨hk.1.2.2.2.2.1, hk.1.2.1⟩⟩⟩⟩⟩⟩⟩)), (by (with_reducible repeat (first | apply Kd.R_alloc | apply Kd.R_drewN | apply Kd.R_drew)); exact Kd.R_mono HO_13.out (fun _ hk => ⟨hk.1.1, ⟨hk.1.2.2.2.2.2.1, ⟨hk.2, ⟨hk.1.2.2.2.2.2.2, ⟨hk.1.2.2.1, ⟨hk.1.2.2.2.1, ⟨hk.1.2.2.2.2.1, hk.1.2.1⟩⟩⟩⟩⟩⟩⟩)), (by (with_reducible repeat (first | apply Kd.R_alloc | apply Kd.R_drewN | apply Kd.R_drew)); exact Kd.R_mono HO_752000.out (fun _ hk => ⟨hk.1.1, ⟨hk.1.2.2.2.2.2.1, ⟨hk.2, ⟨hk.1.2.2.2.2.2.2, ⟨hk.1.2.2.1, ⟨hk.1.2.2.2.1, ⟨hk.1.2.2.2.2.1, hk.1.2.1⟩⟩⟩⟩⟩⟩⟩)), (by (with_reducible repeat (first | apply Kd.R_alloc | apply Kd.R_drewN | apply Kd.R_drew)); exact Kd.R_mono HO_752001.out (fun _ hk => ⟨hk.1.1, ⟨hk.1.2.2.2.2.2.1, ⟨hk.2, ⟨hk.1.2.2.2.2.2.2, ⟨hk.1.2.2.1, ⟨hk.1.2.2.2.1, ⟨hk.1.2.2.2.2.1, hk.1.2.1⟩⟩⟩⟩⟩⟩⟩)), (by (with_reducible repeat (first | apply Kd.R_alloc | apply Kd.R_drewN | apply Kd.R_drew)); exact Kd.R_mono HO_9.out (fun _ hk => ⟨hk.1.1, ⟨hk.1.2.2.2.2.2.1, ⟨hk.2, ⟨hk.1.2.2.2.2.2.2, ⟨hk.1.2.1, ⟨hk.1.2.2.1, ⟨hk.1.2.2.2.1, hk.1.2.2.2.2.1⟩⟩⟩⟩⟩⟩⟩)), (ub BK751.out), (ub BK752.out), (ub BK770.out), (uk HK.out), (uc HB.out)⟩)
           ·skip
            refine Kd.R_lit_step (Kd.int .i64) _ 3 ?hg (N := 68) ?hd (xs := ([rd t753 0] : List Int)) (inner := [.int .i64 (rd t753 0)]) (ok := fun _ => True) (okp := fun _ => True) ?hr ?hp (fun _ hk => hk) trivial (Below.refl _ _) (Nat.le_refl _) (by simp) ?_; (case hd => rfl); (case hg => rfl); (case hr => first | (go_simp; done) | (go_simp; rfl)); (case hp => exact (Reps.one (show Kd.M (Kd.int .i64) _ _ _ (rd t753 0) [.int .i64 (rd t753 0)] from rfl) (Reps.none _ _)))
            intro v788 w49 ho50 hb hg_ hnew_
            clear hg_ hnew_
            (first | rw [← Ny787.out] at ho50 | (simp only [Int.reduceToNat] at ho50; rw [← Ny787.out] at ho50))
            have n0_ := am (Kd.R_elder' (ua HO_9.out) (Kd.R_base ho50) hb)
            have n1_ := am (Kd.R_elder' (ua HO_12.out) (Kd.R_base ho50) hb)
            have n2_ := am (Kd.R_elder' (ua HO_13.out) (Kd.R_base ho50) hb)
            have n3_ := am (Kd.R_elder' (ua HO_752000.out) (Kd.R_base ho50) hb)
            have n4_ := am (Kd.R_elder' (ua HO_752001.out) (Kd.R_base ho50) hb)
            have n5_ := am (Kd.R_elder' (ua HO779.out) (Kd.R_base ho50) hb)
            have n6_ := am (Kd.R_lower (Kd.R_new' (Kd.R_new' (Kd.R_new' (Kd.R_new' (Kd.R_new' (Kd.R_new' (Kd.R_newM (M := fun k_ => ((P1_0_ k_ ∨ P1_1_ k_) ∨ w.heap.size ≤ k_)) ho50 (by first | exact HK.out.1 | exact (show Kept w _ (fun k_ => P1_0_ k_ ∨ P1_1_ k_) from uk HK.out).1) (fun k_ h_ => .inr h_)) (Kd.R_lt (ua HO_9.out))) (Kd.R_lt (ua HO_12.out))) (Kd.R_lt (ua HO_13.out))) (Kd.R_lt (ua HO_752000.out))) (Kd.R_lt (ua HO_752001.out))) (Kd.R_lt (ua HO779.out))) (below_size (uc HB.out)))
            have n7_ := am (blk_below (g := gb751) (o := .cells #[.slice Ao7 l1_0.length co7, .slice Ao8 l1_1.length co8] 53 (0, 0)) (ub BK751.out) hb)
            have n8_ := am (blk_below (g := gb752) (o := .cells #[.slice none 0 0, .slice none 0 0] 53 (0, 0)) (ub BK752.out) hb)
            have n9_ := am (blk_below (g := gb770) (o := .cells #[.slice Ao45 y777.length co45, .slice none 0 0] 53 (0, 0)) (ub BK770.out) hb)
            have n10_ := am (Kept.below (S := (fun k_ => P1_0_ k_ ∨ P1_1_ k_)) (uk HK.out) hb)
            have n11_ := am (below_step (uc HB.out) hb)
            revert n0_ n1_ n2_ n3_ n4_ n5_ n6_ n7_ n8_ n9_ n10_ n11_
            clear HO_9 HO_12 HO_13 HO_752000 HO_752001 HO779 BK751 BK752 BK770 HK HB
            intro HO_9 HO_12 HO_13 HO_752000 HO_752001 HO779 HO789 BK751 BK752 BK770 HK HB
            clear hb ho50
            refine hK.out _ _ ⟨(blk_cell BK751.out 0).trans rfl, (blk_cell BK751.out 1).trans rfl, own_cell0 HO_9.out (of_eq_true qi780)⟩ (fun hHeld => ?_)
            clear hK K
            refine norm_ (a' := ?_) ?_ ?_
            rotate_left
            ·show Act.put _ (some 68) _ = _
             simp only [Act.put, List.setIfInBounds_toArray, List.set_cons_zero, List.set_cons_succ, i64_w, i32_w]
             rfl
            refine one_ (i := 0) (N := some 61) #[true, true, true, false, true, true, true, true, false, false, false] rfl rfl (one_of HT_.out (by kernel_rfl)) (by decide) (fun K hK => ?_)
            refine Kd.R_lit_step (Kd.int .i64) _ 3 ?hg (N := 61) ?hd (xs := ([] : List Int)) (inner := []) (ok := fun _ => True) (okp := fun _ => True) ?hr ?hp (fun _ hk => hk) trivial (Below.refl _ _) (Nat.le_refl _) (by simp) ?_; (case hd => rfl); (case hg => rfl); (case hr => first | (go_simp; done) | (go_simp; rfl)); (case hp => exact (Reps.none _ _))
            intro v782 w51 ho52 hb hg_ hnew_
            clear hg_ hnew_
            (first | rw [← Ny781.out] at ho52 | (simp only [Int.reduceToNat] at ho52; rw [← Ny781.out] at ho52))
            have n0_ := am (Kd.R_elder' (ua HO_9.out) (Kd.R_base ho52) hb)
            have n1_ := am (Kd.R_elder' (ua HO_12.out) (Kd.R_base ho52) hb)
            have n2_ := am (Kd.R_elder' (ua HO_13.out) (Kd.R_base ho52) hb)
            have n3_ := am (Kd.R_elder' (ua HO_752000.out) (Kd.R_base ho52) hb)
            have n4_ := am (Kd.R_elder' (ua HO_752001.out) (Kd.R_base ho52) hb)
            have n5_ := am (Kd.R_elder' (ua HO779.out) (Kd.R_base ho52) hb)
            have n6_ := am (Kd.R_elder' (ua HO789.out) (Kd.R_base ho52) hb)
            have n7_ := am (Kd.R_lower (Kd.R_new' (Kd.R_new' (Kd.R_new' (Kd.R_new' (Kd.R_new' (Kd.R_new' (Kd.R_new' (Kd.R_newM (M := fun k_ => ((P1_0_ k_ ∨ P1_1_ k_) ∨ w.heap.size ≤ k_)) ho52 (by first | exact HK.out.1 | exact (show Kept w _ (fun k_ => P1_0_ k_ ∨ P1_1_ k_) from uk HK.out).1) (fun k_ h_ => .inr h_)) (Kd.R_lt (ua HO_9.out))) (Kd.R_lt (ua HO_12.out))) (Kd.R_lt (ua HO_13.out))) (Kd.R_lt (ua HO_752000.out))) (Kd.R_lt (ua HO_752001.out))) (Kd.R_lt (ua HO779.out))) (Kd.R_lt (ua HO789.out))) (below_size (uc HB.out)))
            have n8_ := am (blk_below (g := gb751) (o := .cells #[.slice Ao7 l1_0.length co7, .slice Ao8 l1_1.length co8] 53 (0, 0)) (ub BK751.out) hb)
            have n9_ := am (blk_below (g := gb752) (o := .cells #[.slice none 0 0, .slice none 0 0] 53 (0, 0)) (ub BK752.out) hb)
            have n10_ := am (blk_below (g := gb770) (o := .cells #[.slice Ao45 y777.length co45, .slice none 0 0] 53 (0, 0)) (ub BK770.out) hb)
            have n11_ := am (Kept.below (S := (fun k_ => P1_0_ k_ ∨ P1_1_ k_)) (uk HK.out) hb)
            have n12_ := am (below_step (uc HB.out) hb)
            revert n0_ n1_ n2_ n3_ n4_ n5_ n6_ n7_ n8_ n9_ n10_ n11_ n12_
            clear HO_9 HO_12 HO_13 HO_752000 HO_752001 HO779 HO789 BK751 BK752 BK770 HK HB
            intro HO_9 HO_12 HO_13 HO_752000 HO_752001 HO779 HO789 HO783 BK751 BK752 BK770 HK HB
            clear hb ho52
            refine hK.out _ _ ⟨(blk_cell BK751.out 0).trans rfl, (blk_cell BK751.out 1).trans rfl, own_cell0 HO_9.out (of_eq_true qi780)⟩ (fun hHeld => ?_)
            clear hK K
            refine norm_ (a' := ?_) ?_ ?_
            rotate_left
            ·show Act.put _ (some 61) _ = _
             simp only [Act.put, List.setIfInBounds_toArray, List.set_cons_zero, List.set_cons_succ, i64_w, i32_w]
             rfl
            refine one_ (i := 3) (N := some 64) #[true, true, true, true, true, true, true, true, false, false, false] rfl rfl (one_of HT_.out (by kernel_rfl)) (by decide) (fun K hK => ?_)
            refine Kd.R_append_rows_step (Kd.int .i64) (w0 := w0) w0.heap.size (by rfl) (.tmp 61) (.tmp 63) 26 3 (.int .i64 0) 8 rfl Try.underlying26 info3 rfl (by decide) (by omega) v782 y781 l1_1 _ _ _ (fun k_ => ((P1_0_ k_ ∨ P1_1_ k_) ∨ w.heap.size ≤ k_) ∧ some k_ ≠ (.slice (some ad780) t753.length co12 : Value).ownBlock ∧ nw k_ Ao32 t758 co32 ∧ nw k_ Ao44 x13_1 co44 ∧ nw k_ Ao7 l1_0 co7 ∧ nw k_ Ao8 l1_1 co8 ∧ nw k_ Ao45 y777 co45 ∧ nv k_ v788) (fun _ => False) rfl rfl ?aO ?aR (fun _ _ h => h) (fun _ h => h.elim) ?aF ?aB ?aS ?aL ?_
            (case aR => exact us (Kd.R_reads' HO_752001.out).2.2)
            (case aB => exact (uc HB.out))
            (case aF => exact (fun k_ hk => ⟨(.inr (Nat.le_trans (by first | exact HK.out.1 | exact (show Kept w _ (fun k_ => P1_0_ k_ ∨ P1_1_ k_) from uk HK.out).1) hk)), Kd.fresh' (Kd.R_lt (ua HO_9.out)) k_ hk, Kd.fresh' (Kd.R_lt (ua HO_12.out)) k_ hk, Kd.fresh' (Kd.R_lt (ua HO_13.out)) k_ hk, Kd.fresh' (Kd.R_lt (ua HO_752000.out)) k_ hk, Kd.fresh' (Kd.R_lt (ua HO_752001.out)) k_ hk, Kd.fresh' (Kd.R_lt (ua HO779.out)) k_ hk, Kd.fresh' (Kd.R_lt (ua HO789.out)) k_ hk⟩))
            (case aO => exact (by (with_reducible repeat (first | apply Kd.R_alloc | apply Kd.R_drewN | apply Kd.R_drew)); exact Kd.R_mono HO783.out (fun _ hk => ⟨hk.1.1.1.1.1.1.1.1, ⟨hk.1.1.1.1.1.1.2, ⟨hk.1.1.1.1.1.2, ⟨hk.1.1.1.1.2, ⟨hk.1.1.1.2, ⟨hk.1.1.2, ⟨hk.1.2, hk.2⟩⟩⟩⟩⟩⟩⟩)))
            (case aS => exact (below_size (uc HB.out)))
            (case aL => have := LMc30.out; omega)
            intro v785 w53 ho hb hg hat
            rw [← Ny784.out] at ho
            have n0_ := am (Kd.R_after (ok := (fun k_ => ((P1_0_ k_ ∨ P1_1_ k_) ∨ w.heap.size ≤ k_) ∧ nw k_ Ao32 t758 co32 ∧ nw k_ Ao44 x13_1 co44 ∧ nw k_ Ao7 l1_0 co7 ∧ nw k_ Ao8 l1_1 co8 ∧ nw k_ Ao45 y777 co45 ∧ nv k_ v788)) (by (with_reducible repeat (first | apply Kd.R_alloc | apply Kd.R_drewN | apply Kd.R_drew)); exact Kd.R_mono HO_9.out (fun _ hk => ⟨⟨hk.1.1.1, ⟨hk.1.1.2.1, ⟨hk.1.1.2.2.1, ⟨hk.1.1.2.2.2.1, ⟨hk.1.1.2.2.2.2.1, ⟨hk.1.1.2.2.2.2.2, hk.1.2⟩⟩⟩⟩⟩⟩, hk.2⟩)) hg hat)
            have n1_ := am (Kd.R_after (ok := (fun k_ => ((P1_0_ k_ ∨ P1_1_ k_) ∨ w.heap.size ≤ k_) ∧ some k_ ≠ (.slice (some ad780) t753.length co12 : Value).ownBlock ∧ nw k_ Ao44 x13_1 co44 ∧ nw k_ Ao7 l1_0 co7 ∧ nw k_ Ao8 l1_1 co8 ∧ nw k_ Ao45 y777 co45 ∧ nv k_ v788)) (by (with_reducible repeat (first | apply Kd.R_alloc | apply Kd.R_drewN | apply Kd.R_drew)); exact Kd.R_mono HO_12.out (fun _ hk => ⟨⟨hk.1.1.1, ⟨hk.1.1.2.1, ⟨hk.1.1.2.2.1, ⟨hk.1.1.2.2.2.1, ⟨hk.1.1.2.2.2.2.1, ⟨hk.1.1.2.2.2.2.2, hk.1.2⟩⟩⟩⟩⟩⟩, hk.2⟩)) hg hat)
            have n2_ := am (Kd.R_after (ok := (fun k_ => ((P1_0_ k_ ∨ P1_1_ k_) ∨ w.heap.size ≤ k_) ∧ some k_ ≠ (.slice (some ad780) t753.length co12 : Value).ownBlock ∧ nw k_ Ao32 t758 co32 ∧ nw k_ Ao7 l1_0 co7 ∧ nw k_ Ao8 l1_1 co8 ∧ nw k_ Ao45 y777 co45 ∧ nv k_ v788)) (by (with_reducible repeat (first | apply Kd.R_alloc | apply Kd.R_drewN | apply Kd.R_drew)); exact Kd.R_mono HO_13.out (fun _ hk => ⟨⟨hk.1.1.1, ⟨hk.1.1.2.1, ⟨hk.1.1.2.2.1, ⟨hk.1.1.2.2.2.1, ⟨hk.1.1.2.2.2.2.1, ⟨hk.1.1.2.2.2.2.2, hk.1.2⟩⟩⟩⟩⟩⟩, hk.2⟩)) hg hat)
            have n3_ := am (Kd.R_after (ok := (fun k_ => ((P1_0_ k_ ∨ P1_1_ k_) ∨ w.heap.size ≤ k_) ∧ some k_ ≠ (.slice (some ad780) t753.length co12 : Value).ownBlock ∧ nw k_ Ao32 t758 co32 ∧ nw k_ Ao44 x13_1 co44 ∧ nw k_ Ao8 l1_1 co8 ∧ nw k_ Ao45 y777 co45 ∧ nv k_ v788)) (by (with_reducible repeat (first | apply Kd.R_alloc | apply Kd.R_drewN | apply Kd.R_drew)); exact Kd.R_mono HO_752000.out (fun _ hk => ⟨⟨hk.1.1.1, ⟨hk.1.1.2.1, ⟨hk.1.1.2.2.1, ⟨hk.1.1.2.2.2.1, ⟨hk.1.1.2.2.2.2.1, ⟨hk.1.1.2.2.2.2.2, hk.1.2⟩⟩⟩⟩⟩⟩, hk.2⟩)) hg hat)
            have n4_ := am (Kd.R_after (ok := (fun k_ => ((P1_0_ k_ ∨ P1_1_ k_) ∨ w.heap.size ≤ k_) ∧ some k_ ≠ (.slice (some ad780) t753.length co12 : Value).ownBlock ∧ nw k_ Ao32 t758 co32 ∧ nw k_ Ao44 x13_1 co44 ∧ nw k_ Ao7 l1_0 co7 ∧ nw k_ Ao45 y777 co45 ∧ nv k_ v788)) (by (with_reducible repeat (first | apply Kd.R_alloc | apply Kd.R_drewN | apply Kd.R_drew)); exact Kd.R_mono HO_752001.out (fun _ hk => ⟨⟨hk.1.1.1, ⟨hk.1.1.2.1, ⟨hk.1.1.2.2.1, ⟨hk.1.1.2.2.2.1, ⟨hk.1.1.2.2.2.2.1, ⟨hk.1.1.2.2.2.2.2, hk.1.2⟩⟩⟩⟩⟩⟩, hk.2⟩)) hg hat)
            have n5_ := am (blk_grown (g := gb751) (o := .cells #[.slice Ao7 l1_0.length co7, .slice Ao8 l1_1.length co8] 53 (0, 0)) (ub BK751.out) hg (Kd.R_ne HO783.out BK751.out (by decide)))
            have n6_ := am (blk_grown (g := gb752) (o := .cells #[.slice none 0 0, .slice none 0 0] 53 (0, 0)) (ub BK752.out) hg (Kd.R_ne HO783.out BK752.out (by decide)))
            have n7_ := am (blk_grown (g := gb770) (o := .cells #[.slice Ao45 y777.length co45, .slice none 0 0] 53 (0, 0)) (ub BK770.out) hg (Kd.R_ne HO783.out BK770.out (by decide)))
            have n8_ := am (Kd.R_after (ok := (fun k_ => ((P1_0_ k_ ∨ P1_1_ k_) ∨ w.heap.size ≤ k_) ∧ some k_ ≠ (.slice (some ad780) t753.length co12 : Value).ownBlock ∧ nw k_ Ao32 t758 co32 ∧ nw k_ Ao44 x13_1 co44 ∧ nw k_ Ao7 l1_0 co7 ∧ nw k_ Ao8 l1_1 co8 ∧ nv k_ v788)) (by (with_reducible repeat (first | apply Kd.R_alloc | apply Kd.R_drewN | apply Kd.R_drew)); exact Kd.R_mono HO779.out (fun _ hk => ⟨⟨hk.1.1.1, ⟨hk.1.1.2.1, ⟨hk.1.1.2.2.1, ⟨hk.1.1.2.2.2.1, ⟨hk.1.1.2.2.2.2.1, ⟨hk.1.1.2.2.2.2.2, hk.1.2⟩⟩⟩⟩⟩⟩, hk.2⟩)) hg hat)
            have n9_ := am (Kd.R_after (ok := (fun k_ => ((P1_0_ k_ ∨ P1_1_ k_) ∨ w.heap.size ≤ k_) ∧ some k_ ≠ (.slice (some ad780) t753.length co12 : Value).ownBlock ∧ nw k_ Ao32 t758 co32 ∧ nw k_ Ao44 x13_1 co44 ∧ nw k_ Ao7 l1_0 co7 ∧ nw k_ Ao8 l1_1 co8 ∧ nw k_ Ao45 y777 co45)) (by (with_reducible repeat (first | apply Kd.R_alloc | apply Kd.R_drewN | apply Kd.R_drew)); exact Kd.R_mono HO789.out (fun _ hk => ⟨⟨hk.1.1.1.1.1.1.1.1, ⟨hk.1.1.1.1.1.1.2, ⟨hk.1.1.1.1.1.2, ⟨hk.1.1.1.1.2, ⟨hk.1.1.1.2, ⟨hk.1.1.2, hk.1.2⟩⟩⟩⟩⟩⟩, hk.2⟩)) hg hat)
            have n10_ := am (hb)
            have n11_ := am (Kept.of_grown (S := (fun k_ => P1_0_ k_ ∨ P1_1_ k_)) hg (uk HK.out) (fun k_ e_ => (HO783.out.1 k_ e_).1.1.1.1.1.1.1.1))
            have n12_ := am (ho)
            revert n0_ n1_ n2_ n3_ n4_ n5_ n6_ n7_ n8_ n9_ n10_ n11_ n12_
            clear HO_9 HO_12 HO_13 HO_752000 HO_752001 BK751 BK752 BK770 HO779 HO789 HB HK HO783
            intro HO_9 HO_12 HO_13 HO_752000 HO_752001 BK751 BK752 BK770 HO779 HO789 HB HK HO786
            clear ho hb hg hat
            refine hK.out _ _ ⟨(blk_cell BK751.out 0).trans rfl, (blk_cell BK751.out 1).trans rfl, own_cell0 HO_9.out (of_eq_true qi780)⟩ (fun hHeld => ?_)
            clear hK K
            refine norm_ (a' := ?_) ?_ ?_
            rotate_left
            ·show Act.put _ (some 64) _ = _
             simp only [Act.put, List.setIfInBounds_toArray, List.set_cons_zero, List.set_cons_succ, i64_w, i32_w]
             rfl
            exact norm_ (by simp only [putAll, Act.put, List.setIfInBounds_toArray, List.set_cons_zero, List.set_cons_succ]) (hCont (v782, v785, v788) _ ⟨hHeld, (by (with_reducible repeat (first | apply Kd.R_alloc | apply Kd.R_drewN | apply Kd.R_drew)); exact Kd.R_mono HO779.out (fun _ hk => ⟨hk.1.1, ⟨hk.2, ⟨hk.1.2.2.2.2.2.2, ⟨hk.1.2.2.1, ⟨hk.1.2.2.2.1, ⟨hk.1.2.2.2.2.1, ⟨hk.1.2.2.2.2.2.1, hk.1.2.1⟩⟩⟩⟩⟩⟩⟩)), (by (with_reducible repeat (first | apply Kd.R_alloc | apply Kd.R_drewN | apply Kd.R_drew)); exact Kd.R_mono HO786.out (fun _ hk => ⟨hk.1, ⟨hk.2.2.2.2.2.2.1, ⟨hk.2.2.2.2.2.2.2, ⟨hk.2.2.1, ⟨hk.2.2.2.1, ⟨hk.2.2.2.2.1, ⟨hk.2.2.2.2.2.1, hk.2.1⟩⟩⟩⟩⟩⟩⟩)), (by (with_reducible repeat (first | apply Kd.R_alloc | apply Kd.R_drewN | apply Kd.R_drew)); exact Kd.R_mono HO789.out (fun _ hk => ⟨hk.1.1, ⟨hk.1.2.2.2.2.2.2, ⟨hk.2, ⟨hk.1.2.2.1, ⟨hk.1.2.2.2.1, ⟨hk.1.2.2.2.2.1, ⟨hk.1.2.2.2.2.2.1, hk.1.2.1⟩⟩⟩⟩⟩⟩⟩)), (by (with_reducible repeat (first | apply Kd.R_alloc | apply Kd.R_drewN | apply Kd.R_drew)); exact Kd.R_mono HO_12.out (fun _ hk => ⟨hk.1.1, ⟨hk.1.2.2.2.2.2.1, ⟨hk.2, ⟨hk.1.2.2.2.2.2.2, ⟨hk.1.2.2.1, ⟨hk.1.2.2.2.1, ⟨hk.1.2.2.2.2.1, hk.1.2.1⟩⟩⟩⟩⟩⟩⟩)), (by (with_reducible repeat (first | apply Kd.R_alloc | apply Kd.R_drewN | apply Kd.R_drew)); exact Kd.R_mono HO_13.out (fun _ hk => ⟨hk.1.1, ⟨hk.1.2.2.2.2.2.1, ⟨hk.2, ⟨hk.1.2.2.2.2.2.2, ⟨hk.1.2.2.1, ⟨hk.1.2.2.2.1, ⟨hk.1.2.2.2.2.1, hk.1.2.1⟩⟩⟩⟩⟩⟩⟩)), (by (with_reducible repeat (first | apply Kd.R_alloc | apply Kd.R_drewN | apply Kd.R_drew)); exact Kd.R_mono HO_752000.out (fun _ hk => ⟨hk.1.1, ⟨hk.1.2.2.2.2.2.1, ⟨hk.2, ⟨hk.1.2.2.2.2.2.2, ⟨hk.1.2.2.1, ⟨hk.1.2.2.2.1, ⟨hk.1.2.2.2.2.1, hk.1.2.1⟩⟩⟩⟩⟩⟩⟩)), (by (with_reducible repeat (first | apply Kd.R_alloc | apply Kd.R_drewN | apply Kd.R_drew)); exact Kd.R_mono HO_752001.out (fun _ hk => ⟨hk.1.1, ⟨hk.1.2.2.2.2.2.1, ⟨hk.2, ⟨hk.1.2.2.2.2.2.2, ⟨hk.1.2.2.1, ⟨hk.1.2.2.2.1, ⟨hk.1.2.2.2.2.1, hk.1.2.1⟩⟩⟩⟩⟩⟩⟩)), (by (with_reducible repeat (first | apply Kd.R_alloc | apply Kd.R_drewN | apply Kd.R_drew)); exact Kd.R_mono HO_9.out (fun _ hk => ⟨hk.1.1, ⟨hk.1.2.2.2.2.2.1, ⟨hk.2, ⟨hk.1.2.2.2.2.2.2, ⟨hk.1.2.1, ⟨hk.1.2.2.1, ⟨hk.1.2.2.2.1, hk.1.2.2.2.2.1⟩⟩⟩⟩⟩⟩⟩)), (ub BK751.out), (ub BK752.out), (ub BK770.out), (uk HK.out), (uc HB.out)⟩)
          rintro ⟨v782, v785, v788⟩ w54 ⟨hS_, h0_, h1_, h2_, h3_, h4_, h5_, h6_, h7_, h8_, h9_, h10_, h11_, h12_⟩
          have n0_ : Aside0 (Kd.R (Kd.int .i64) 3 w54 w0.heap.size (fun k_ => ((P1_0_ k_ ∨ P1_1_ k_) ∨ w.heap.size ≤ k_) ∧ nv k_ v785 ∧ nv k_ v788 ∧ nw k_ Ao32 t758 co32 ∧ nw k_ Ao44 x13_1 co44 ∧ nw k_ Ao7 l1_0 co7 ∧ nw k_ Ao8 l1_1 co8 ∧ some k_ ≠ (.slice (some ad780) t753.length co12 : Value).ownBlock) (.slice Ao45 y777.length co45) y777) := ⟨h0_⟩
          have n1_ : Aside0 (Kd.R (Kd.int .i64) 3 w54 w0.heap.size (fun k_ => ((P1_0_ k_ ∨ P1_1_ k_) ∨ w.heap.size ≤ k_) ∧ nw k_ Ao45 y777 co45 ∧ nv k_ v788 ∧ nw k_ Ao32 t758 co32 ∧ nw k_ Ao44 x13_1 co44 ∧ nw k_ Ao7 l1_0 co7 ∧ nw k_ Ao8 l1_1 co8 ∧ some k_ ≠ (.slice (some ad780) t753.length co12 : Value).ownBlock) v785 y784) := ⟨h1_⟩
          have n2_ : Aside0 (Kd.R (Kd.int .i64) 3 w54 w0.heap.size (fun k_ => ((P1_0_ k_ ∨ P1_1_ k_) ∨ w.heap.size ≤ k_) ∧ nw k_ Ao45 y777 co45 ∧ nv k_ v785 ∧ nw k_ Ao32 t758 co32 ∧ nw k_ Ao44 x13_1 co44 ∧ nw k_ Ao7 l1_0 co7 ∧ nw k_ Ao8 l1_1 co8 ∧ some k_ ≠ (.slice (some ad780) t753.length co12 : Value).ownBlock) v788 y787) := ⟨h2_⟩
          have n3_ : Aside0 (Kd.R (Kd.int .i64) 3 w54 w0.heap.size (fun k_ => ((P1_0_ k_ ∨ P1_1_ k_) ∨ w.heap.size ≤ k_) ∧ nw k_ Ao45 y777 co45 ∧ nv k_ v785 ∧ nv k_ v788 ∧ nw k_ Ao44 x13_1 co44 ∧ nw k_ Ao7 l1_0 co7 ∧ nw k_ Ao8 l1_1 co8 ∧ some k_ ≠ (.slice (some ad780) t753.length co12 : Value).ownBlock) (.slice Ao32 t758.length co32) t758) := ⟨h3_⟩
          have n4_ : Aside0 (Kd.R (Kd.int .i64) 3 w54 w0.heap.size (fun k_ => ((P1_0_ k_ ∨ P1_1_ k_) ∨ w.heap.size ≤ k_) ∧ nw k_ Ao45 y777 co45 ∧ nv k_ v785 ∧ nv k_ v788 ∧ nw k_ Ao32 t758 co32 ∧ nw k_ Ao7 l1_0 co7 ∧ nw k_ Ao8 l1_1 co8 ∧ some k_ ≠ (.slice (some ad780) t753.length co12 : Value).ownBlock) (.slice Ao44 x13_1.length co44) x13_1) := ⟨h4_⟩
          have n5_ : Aside0 (Kd.R (Kd.int .i64) 3 w54 w0.heap.size (fun k_ => ((P1_0_ k_ ∨ P1_1_ k_) ∨ w.heap.size ≤ k_) ∧ nw k_ Ao45 y777 co45 ∧ nv k_ v785 ∧ nv k_ v788 ∧ nw k_ Ao32 t758 co32 ∧ nw k_ Ao44 x13_1 co44 ∧ nw k_ Ao8 l1_1 co8 ∧ some k_ ≠ (.slice (some ad780) t753.length co12 : Value).ownBlock) (.slice Ao7 l1_0.length co7) l1_0) := ⟨h5_⟩
          have n6_ : Aside0 (Kd.R (Kd.int .i64) 3 w54 w0.heap.size (fun k_ => ((P1_0_ k_ ∨ P1_1_ k_) ∨ w.heap.size ≤ k_) ∧ nw k_ Ao45 y777 co45 ∧ nv k_ v785 ∧ nv k_ v788 ∧ nw k_ Ao32 t758 co32 ∧ nw k_ Ao44 x13_1 co44 ∧ nw k_ Ao7 l1_0 co7 ∧ some k_ ≠ (.slice (some ad780) t753.length co12 : Value).ownBlock) (.slice Ao8 l1_1.length co8) l1_1) := ⟨h6_⟩
          have n7_ : Aside0 (Kd.R (Kd.int .i64) 3 w54 w0.heap.size (fun k_ => ((P1_0_ k_ ∨ P1_1_ k_) ∨ w.heap.size ≤ k_) ∧ nw k_ Ao45 y777 co45 ∧ nv k_ v785 ∧ nv k_ v788 ∧ nw k_ Ao32 t758 co32 ∧ nw k_ Ao44 x13_1 co44 ∧ nw k_ Ao7 l1_0 co7 ∧ nw k_ Ao8 l1_1 co8) (.slice (some ad780) t753.length co12) t753) := ⟨h7_⟩
          have n8_ : Aside0 (w54.heap[gb751]? = some (.cells #[.slice Ao7 l1_0.length co7, .slice Ao8 l1_1.length co8] 53 (0, 0))) := ⟨h8_⟩
          have n9_ : Aside0 (w54.heap[gb752]? = some (.cells #[.slice none 0 0, .slice none 0 0] 53 (0, 0))) := ⟨h9_⟩
          have n10_ : Aside0 (w54.heap[gb770]? = some (.cells #[.slice Ao45 y777.length co45, .slice none 0 0] 53 (0, 0))) := ⟨h10_⟩
          have n11_ : Aside0 (Kept w w54 (fun k_ => P1_0_ k_ ∨ P1_1_ k_)) := ⟨h11_⟩
          have n12_ : Aside0 (Below w0.heap.size w0 w54) := ⟨h12_⟩
          clear HO_9 HO_12 HO_13 HO_752000 HO_752001 HO779 BK751 BK752 BK770 HK HB h0_ h1_ h2_ h3_ h4_ h5_ h6_ h7_ h8_ h9_ h10_ h11_ h12_
          revert n0_ n1_ n2_ n3_ n4_ n5_ n6_ n7_ n8_ n9_ n10_ n11_ n12_
          intro HO779 HO786 HO789 HO_12 HO_13 HO_752000 HO_752001 HO_9 BK751 BK752 BK770 HK HB
          have hHeld : w54.cell? ⟨gb751, 0, none⟩ = some (.slice Ao7 l1_0.length co7) ∧ w54.cell? ⟨gb751, 1, none⟩ = some (.slice Ao8 l1_1.length co8) ∧ w54.cell? ad780 = some (.int .i64 (rd t753 0)) := hS_
          obtain ⟨Ao56, co56, eo56⟩ := Kd.R_slice HO789.out
          (first | subst eo56 | (injection eo56 with f1_ f2_ f3_; have f4_ := f1_.symm; have f5_ := f3_.symm; clear f1_ f2_ f3_; subst f4_; subst f5_))
          refine norm_ (a' := ?_) ?_ ?_
          rotate_left
          ·simp only [putAll, Act.put, List.setIfInBounds_toArray, List.set_cons_zero, List.set_cons_succ]
           rfl
          refine one_ (i := 8) (N := some 69) #[true, true, true, true, true, true, true, true, true, false, false] rfl rfl (one_of HT_.out (by kernel_rfl)) (by decide) (fun K hK => ?_)
          refine Kd.R_append_rows_step (Kd.int .i64) (w0 := w0) w0.heap.size (by rfl) (.tmp 64) (.tmp 68) 26 3 (.int .i64 0) 8 rfl Try.underlying26 info3 rfl (by decide) (by omega) v785 y784 y787 _ _ _ (fun k_ => ((P1_0_ k_ ∨ P1_1_ k_) ∨ w.heap.size ≤ k_) ∧ some k_ ≠ (.slice (some ad780) t753.length co12 : Value).ownBlock ∧ nw k_ Ao32 t758 co32 ∧ nw k_ Ao44 x13_1 co44 ∧ nw k_ Ao7 l1_0 co7 ∧ nw k_ Ao8 l1_1 co8 ∧ nw k_ Ao45 y777 co45 ∧ nw k_ Ao56 y787 co56) (fun _ => False) rfl rfl ?aO ?aR (fun _ _ h => h) (fun _ h => h.elim) ?aF ?aB ?aS ?aL ?_
          (case aR => exact us (Kd.R_reads' HO789.out).2.2)
          (case aB => exact (uc HB.out))
          (case aF => exact (fun k_ hk => ⟨(.inr (Nat.le_trans (by first | exact HK.out.1 | exact (show Kept w _ (fun k_ => P1_0_ k_ ∨ P1_1_ k_) from uk HK.out).1) hk)), Kd.fresh' (Kd.R_lt (ua HO_9.out)) k_ hk, Kd.fresh' (Kd.R_lt (ua HO_12.out)) k_ hk, Kd.fresh' (Kd.R_lt (ua HO_13.out)) k_ hk, Kd.fresh' (Kd.R_lt (ua HO_752000.out)) k_ hk, Kd.fresh' (Kd.R_lt (ua HO_752001.out)) k_ hk, Kd.fresh' (Kd.R_lt (ua HO779.out)) k_ hk, Kd.fresh' (Kd.R_lt (ua HO789.out)) k_ hk⟩))
          (case aO => exact (by (with_reducible repeat (first | apply Kd.R_alloc | apply Kd.R_drewN | apply Kd.R_drew)); exact Kd.R_mono HO786.out (fun _ hk => ⟨hk.1, ⟨hk.2.2.2.2.2.2.2, ⟨hk.2.2.2.1, ⟨hk.2.2.2.2.1, ⟨hk.2.2.2.2.2.1, ⟨hk.2.2.2.2.2.2.1, ⟨hk.2.1, hk.2.2.1⟩⟩⟩⟩⟩⟩⟩)))
          (case aS => exact (below_size (uc HB.out)))
          (case aL => have := LMc31.out; omega)
          intro v791 w55 ho hb hg hat
          rw [← Ny790.out] at ho
          have n0_ := am (Kd.R_after (ok := (fun k_ => ((P1_0_ k_ ∨ P1_1_ k_) ∨ w.heap.size ≤ k_) ∧ nw k_ Ao32 t758 co32 ∧ nw k_ Ao44 x13_1 co44 ∧ nw k_ Ao7 l1_0 co7 ∧ nw k_ Ao8 l1_1 co8 ∧ nw k_ Ao45 y777 co45 ∧ nw k_ Ao56 y787 co56)) (by (with_reducible repeat (first | apply Kd.R_alloc | apply Kd.R_drewN | apply Kd.R_drew)); exact Kd.R_mono HO_9.out (fun _ hk => ⟨⟨hk.1, ⟨hk.2.2.2.2.1, ⟨hk.2.2.2.2.2.1, ⟨hk.2.2.2.2.2.2.1, ⟨hk.2.2.2.2.2.2.2, ⟨hk.2.1, hk.2.2.2.1⟩⟩⟩⟩⟩⟩, hk.2.2.1⟩)) hg hat)
          have n1_ := am (Kd.R_after (ok := (fun k_ => ((P1_0_ k_ ∨ P1_1_ k_) ∨ w.heap.size ≤ k_) ∧ some k_ ≠ (.slice (some ad780) t753.length co12 : Value).ownBlock ∧ nw k_ Ao44 x13_1 co44 ∧ nw k_ Ao7 l1_0 co7 ∧ nw k_ Ao8 l1_1 co8 ∧ nw k_ Ao45 y777 co45 ∧ nw k_ Ao56 y787 co56)) (by (with_reducible repeat (first | apply Kd.R_alloc | apply Kd.R_drewN | apply Kd.R_drew)); exact Kd.R_mono HO_12.out (fun _ hk => ⟨⟨hk.1, ⟨hk.2.2.2.2.2.2.2, ⟨hk.2.2.2.2.1, ⟨hk.2.2.2.2.2.1, ⟨hk.2.2.2.2.2.2.1, ⟨hk.2.1, hk.2.2.2.1⟩⟩⟩⟩⟩⟩, hk.2.2.1⟩)) hg hat)
          have n2_ := am (Kd.R_after (ok := (fun k_ => ((P1_0_ k_ ∨ P1_1_ k_) ∨ w.heap.size ≤ k_) ∧ some k_ ≠ (.slice (some ad780) t753.length co12 : Value).ownBlock ∧ nw k_ Ao32 t758 co32 ∧ nw k_ Ao7 l1_0 co7 ∧ nw k_ Ao8 l1_1 co8 ∧ nw k_ Ao45 y777 co45 ∧ nw k_ Ao56 y787 co56)) (by (with_reducible repeat (first | apply Kd.R_alloc | apply Kd.R_drewN | apply Kd.R_drew)); exact Kd.R_mono HO_13.out (fun _ hk => ⟨⟨hk.1, ⟨hk.2.2.2.2.2.2.2, ⟨hk.2.2.2.2.1, ⟨hk.2.2.2.2.2.1, ⟨hk.2.2.2.2.2.2.1, ⟨hk.2.1, hk.2.2.2.1⟩⟩⟩⟩⟩⟩, hk.2.2.1⟩)) hg hat)
          have n3_ := am (Kd.R_after (ok := (fun k_ => ((P1_0_ k_ ∨ P1_1_ k_) ∨ w.heap.size ≤ k_) ∧ some k_ ≠ (.slice (some ad780) t753.length co12 : Value).ownBlock ∧ nw k_ Ao32 t758 co32 ∧ nw k_ Ao44 x13_1 co44 ∧ nw k_ Ao8 l1_1 co8 ∧ nw k_ Ao45 y777 co45 ∧ nw k_ Ao56 y787 co56)) (by (with_reducible repeat (first | apply Kd.R_alloc | apply Kd.R_drewN | apply Kd.R_drew)); exact Kd.R_mono HO_752000.out (fun _ hk => ⟨⟨hk.1, ⟨hk.2.2.2.2.2.2.2, ⟨hk.2.2.2.2.1, ⟨hk.2.2.2.2.2.1, ⟨hk.2.2.2.2.2.2.1, ⟨hk.2.1, hk.2.2.2.1⟩⟩⟩⟩⟩⟩, hk.2.2.1⟩)) hg hat)
          have n4_ := am (Kd.R_after (ok := (fun k_ => ((P1_0_ k_ ∨ P1_1_ k_) ∨ w.heap.size ≤ k_) ∧ some k_ ≠ (.slice (some ad780) t753.length co12 : Value).ownBlock ∧ nw k_ Ao32 t758 co32 ∧ nw k_ Ao44 x13_1 co44 ∧ nw k_ Ao7 l1_0 co7 ∧ nw k_ Ao45 y777 co45 ∧ nw k_ Ao56 y787 co56)) (by (with_reducible repeat (first | apply Kd.R_alloc | apply Kd.R_drewN | apply Kd.R_drew)); exact Kd.R_mono HO_752001.out (fun _ hk => ⟨⟨hk.1, ⟨hk.2.2.2.2.2.2.2, ⟨hk.2.2.2.2.1, ⟨hk.2.2.2.2.2.1, ⟨hk.2.2.2.2.2.2.1, ⟨hk.2.1, hk.2.2.2.1⟩⟩⟩⟩⟩⟩, hk.2.2.1⟩)) hg hat)
          have n5_ := am (blk_grown (g := gb751) (o := .cells #[.slice Ao7 l1_0.length co7, .slice Ao8 l1_1.length co8] 53 (0, 0)) (ub BK751.out) hg (Kd.R_ne HO786.out BK751.out (by decide)))
          have n6_ := am (blk_grown (g := gb752) (o := .cells #[.slice none 0 0, .slice none 0 0] 53 (0, 0)) (ub BK752.out) hg (Kd.R_ne HO786.out BK752.out (by decide)))
          have n7_ := am (blk_grown (g := gb770) (o := .cells #[.slice Ao45 y777.length co45, .slice none 0 0] 53 (0, 0)) (ub BK770.out) hg (Kd.R_ne HO786.out BK770.out (by decide)))
          have n8_ := am (Kd.R_after (ok := (fun k_ => ((P1_0_ k_ ∨ P1_1_ k_) ∨ w.heap.size ≤ k_) ∧ some k_ ≠ (.slice (some ad780) t753.length co12 : Value).ownBlock ∧ nw k_ Ao32 t758 co32 ∧ nw k_ Ao44 x13_1 co44 ∧ nw k_ Ao7 l1_0 co7 ∧ nw k_ Ao8 l1_1 co8 ∧ nw k_ Ao56 y787 co56)) (by (with_reducible repeat (first | apply Kd.R_alloc | apply Kd.R_drewN | apply Kd.R_drew)); exact Kd.R_mono HO779.out (fun _ hk => ⟨⟨hk.1, ⟨hk.2.2.2.2.2.2.2, ⟨hk.2.2.2.1, ⟨hk.2.2.2.2.1, ⟨hk.2.2.2.2.2.1, ⟨hk.2.2.2.2.2.2.1, hk.2.2.1⟩⟩⟩⟩⟩⟩, hk.2.1⟩)) hg hat)
          have n9_ := am (Kd.R_after (ok := (fun k_ => ((P1_0_ k_ ∨ P1_1_ k_) ∨ w.heap.size ≤ k_) ∧ some k_ ≠ (.slice (some ad780) t753.length co12 : Value).ownBlock ∧ nw k_ Ao32 t758 co32 ∧ nw k_ Ao44 x13_1 co44 ∧ nw k_ Ao7 l1_0 co7 ∧ nw k_ Ao8 l1_1 co8 ∧ nw k_ Ao45 y777 co45)) (by (with_reducible repeat (first | apply Kd.R_alloc | apply Kd.R_drewN | apply Kd.R_drew)); exact Kd.R_mono HO789.out (fun _ hk => ⟨⟨hk.1, ⟨hk.2.2.2.2.2.2.2, ⟨hk.2.2.2.1, ⟨hk.2.2.2.2.1, ⟨hk.2.2.2.2.2.1, ⟨hk.2.2.2.2.2.2.1, hk.2.1⟩⟩⟩⟩⟩⟩, hk.2.2.1⟩)) hg hat)
          have n10_ := am (hb)
          have n11_ := am (Kept.of_grown (S := (fun k_ => P1_0_ k_ ∨ P1_1_ k_)) hg (uk HK.out) (fun k_ e_ => (HO786.out.1 k_ e_).1))
          have n12_ := am (ho)
          revert n0_ n1_ n2_ n3_ n4_ n5_ n6_ n7_ n8_ n9_ n10_ n11_ n12_
          clear HO_9 HO_12 HO_13 HO_752000 HO_752001 BK751 BK752 BK770 HO779 HO789 HB HK HO786
          intro HO_9 HO_12 HO_13 HO_752000 HO_752001 BK751 BK752 BK770 HO779 HO789 HB HK HO792
          clear ho hb hg hat
          obtain ⟨Ao57, co57, eo57⟩ := Kd.R_slice HO792.out
          (first | subst eo57 | (injection eo57 with f1_ f2_ f3_; have f4_ := f1_.symm; have f5_ := f3_.symm; clear f1_ f2_ f3_; subst f4_; subst f5_))
          refine hK.out _ _ ⟨(blk_cell BK751.out 0).trans rfl, (blk_cell BK751.out 1).trans rfl, own_cell0 HO_9.out (of_eq_true qi780)⟩ (fun hHeld => ?_)
          clear hK K
          refine norm_ (a' := ?_) ?_ ?_
          rotate_left
          ·show Act.put _ (some 69) _ = _
           simp only [Act.put, List.setIfInBounds_toArray, List.set_cons_zero, List.set_cons_succ, i64_w, i32_w]
           rfl
          refine pv 9 70 (bA 11 1023) HT_ ?_
          refine one_ (i := 10) (N := none) #[true, true, true, true, true, true, true, true, true, true, true] rfl rfl (one_of HT_.out (by kernel_rfl)) (by decide) (fun K hK => ?_)
          have hs58 : w55.cell? ⟨gb770, 1, none⟩ = some (.slice none 0 0) := (blk_cell BK770.out 1).trans rfl
          have hfs58 := blk_frozen BK770.out 1
          have hns58_0 := NB751_770.out
          have hns58_1 := NB752_770.out
          have hms58_0 := NB770_751.out
          have hms58_1 := NB770_752.out
          refine skip_ (w1 := ?_) (by rfl) rfl ?_ ?_
          rotate_left
          ·go_simp
           rfl
          refine hK.out _ _ ⟨((cell_far (p := ⟨gb770, _, none⟩) NB751_770.out _).trans (hHeld.1)), ((cell_far (p := ⟨gb770, _, none⟩) NB751_770.out _).trans (hHeld.2.1)), ((cell_far (p := ⟨gb770, _, none⟩) (Kd.own_blk (Kd.R_ne HO_9.out BK770.out (by decide))) _).trans (hHeld.2.2))⟩ (fun hHeld => ?_)
          clear hK K
          refine done_ (done_of HT_.out (by kernel_rfl)) ?_
          have hcz59_0 : w55.cell? ⟨gb770, 0, none⟩ = some (.slice Ao45 y777.length co45) := (blk_cell BK770.out 0).trans rfl
          have hcz59_1 : w55.cell? ⟨gb770, 1, none⟩ = some (.slice none 0 0) := (blk_cell BK770.out 1).trans rfl
          have hfz59_0 := blk_frozen BK770.out 0
          have hfz59_1 := blk_frozen BK770.out 1
          have hcz60_0 : w55.cell? ⟨gb752, 0, none⟩ = some (.slice none 0 0) := (blk_cell BK752.out 0).trans rfl
          have hcz60_1 : w55.cell? ⟨gb752, 1, none⟩ = some (.slice none 0 0) := (blk_cell BK752.out 1).trans rfl
          have hfz60_0 := blk_frozen BK752.out 0
          have hfz60_1 := blk_frozen BK752.out 1
          try go_wp2_with (first | ((with_reducible refine gate_store (t := 53) (p := 6) rfl ?_); refine store_event (t := 53) (p := 6) (v := ?vo_w61) (w1 := (((w55.setCell ⟨gb770, 1, none⟩ (.slice Ao57 y790.length co57)).setCell ⟨gb752, 0, none⟩ (.slice Ao45 y777.length co45)).setCell ⟨gb752, 1, none⟩ (.slice Ao57 y790.length co57))) ?hg ?ho ?hn ?hr ?_; (case ho => rfl); (case hg => rfl); (case hn => rfl); (case hr => first | (go_simp; done) | (go_simp; rfl)); intro w61 hw; have n0_ : Aside0 (Kd.R (Kd.int .i64) 3 w61 w0.heap.size (fun k_ => ((P1_0_ k_ ∨ P1_1_ k_) ∨ w.heap.size ≤ k_) ∧ nw k_ Ao32 t758 co32 ∧ nw k_ Ao44 x13_1 co44 ∧ nw k_ Ao7 l1_0 co7 ∧ nw k_ Ao8 l1_1 co8 ∧ nw k_ Ao45 y777 co45 ∧ nw k_ Ao56 y787 co56 ∧ nw k_ Ao57 y790 co57) (.slice (some ad780) t753.length co12) t753) := ⟨(by rw [hw]; exact (by (with_reducible repeat (first | apply Kd.R_alloc | apply Kd.R_drewN | apply Kd.R_drew)); exact Kd.R_mono (Kd.R_far (p := ⟨gb752, 1, none⟩) (Kd.R_far (p := ⟨gb752, 0, none⟩) (Kd.R_far (p := ⟨gb770, 1, none⟩) (Kd.R_types (Kd.R_types HO_9.out BK770.out (by decide)) BK752.out (by decide)) (fun _ hk => hk.1.2) (.slice Ao57 y790.length co57)) (fun _ hk => hk.2) (.slice Ao45 y777.length co45)) (fun _ hk => hk.2) (.slice Ao57 y790.length co57)) (fun _ hk => ⟨hk.1.1.1.1, ⟨hk.1.1.1.2.1, ⟨hk.1.1.1.2.2.1, ⟨hk.1.1.1.2.2.2.1, ⟨hk.1.1.1.2.2.2.2.1, ⟨hk.1.1.1.2.2.2.2.2.1, ⟨hk.1.1.1.2.2.2.2.2.2, hk.1.1.2⟩⟩⟩⟩⟩⟩⟩)))⟩; have n1_ : Aside0 (Kd.R (Kd.int .i64) 3 w61 w0.heap.size (fun k_ => ((P1_0_ k_ ∨ P1_1_ k_) ∨ w.heap.size ≤ k_) ∧ some k_ ≠ (.slice (some ad780) t753.length co12 : Value).ownBlock ∧ nw k_ Ao44 x13_1 co44 ∧ nw k_ Ao7 l1_0 co7 ∧ nw k_ Ao8 l1_1 co8 ∧ nw k_ Ao45 y777 co45 ∧ nw k_ Ao56 y787 co56 ∧ nw k_ Ao57 y790 co57) (.slice Ao32 t758.length co32) t758) := ⟨(by rw [hw]; exact (by (with_reducible repeat (first | apply Kd.R_alloc | apply Kd.R_drewN | apply Kd.R_drew)); exact Kd.R_mono (Kd.R_far (p := ⟨gb752, 1, none⟩) (Kd.R_far (p := ⟨gb752, 0, none⟩) (Kd.R_far (p := ⟨gb770, 1, none⟩) (Kd.R_types (Kd.R_types HO_12.out BK770.out (by decide)) BK752.out (by decide)) (fun _ hk => hk.1.2) (.slice Ao57 y790.length co57)) (fun _ hk => hk.2) (.slice Ao45 y777.length co45)) (fun _ hk => hk.2) (.slice Ao57 y790.length co57)) (fun _ hk => ⟨hk.1.1.1.1, ⟨hk.1.1.1.2.1, ⟨hk.1.1.1.2.2.1, ⟨hk.1.1.1.2.2.2.1, ⟨hk.1.1.1.2.2.2.2.1, ⟨hk.1.1.1.2.2.2.2.2.1, ⟨hk.1.1.1.2.2.2.2.2.2, hk.1.1.2⟩⟩⟩⟩⟩⟩⟩)))⟩; have n2_ : Aside0 (Kd.R (Kd.int .i64) 3 w61 w0.heap.size (fun k_ => ((P1_0_ k_ ∨ P1_1_ k_) ∨ w.heap.size ≤ k_) ∧ some k_ ≠ (.slice (some ad780) t753.length co12 : Value).ownBlock ∧ nw k_ Ao32 t758 co32 ∧ nw k_ Ao7 l1_0 co7 ∧ nw k_ Ao8 l1_1 co8 ∧ nw k_ Ao45 y777 co45 ∧ nw k_ Ao56 y787 co56 ∧ nw k_ Ao57 y790 co57) (.slice Ao44 x13_1.length co44) x13_1) := ⟨(by rw [hw]; exact (by (with_reducible repeat (first | apply Kd.R_alloc | apply Kd.R_drewN | apply Kd.R_drew)); exact Kd.R_mono (Kd.R_far (p := ⟨gb752, 1, none⟩) (Kd.R_far (p := ⟨gb752, 0, none⟩) (Kd.R_far (p := ⟨gb770, 1, none⟩) (Kd.R_types (Kd.R_types HO_13.out BK770.out (by decide)) BK752.out (by decide)) (fun _ hk => hk.1.2) (.slice Ao57 y790.length co57)) (fun _ hk => hk.2) (.slice Ao45 y777.length co45)) (fun _ hk => hk.2) (.slice Ao57 y790.length co57)) (fun _ hk => ⟨hk.1.1.1.1, ⟨hk.1.1.1.2.1, ⟨hk.1.1.1.2.2.1, ⟨hk.1.1.1.2.2.2.1, ⟨hk.1.1.1.2.2.2.2.1, ⟨hk.1.1.1.2.2.2.2.2.1, ⟨hk.1.1.1.2.2.2.2.2.2, hk.1.1.2⟩⟩⟩⟩⟩⟩⟩)))⟩; have n3_ : Aside0 (Kd.R (Kd.int .i64) 3 w61 w0.heap.size (fun k_ => ((P1_0_ k_ ∨ P1_1_ k_) ∨ w.heap.size ≤ k_) ∧ some k_ ≠ (.slice (some ad780) t753.length co12 : Value).ownBlock ∧ nw k_ Ao32 t758 co32 ∧ nw k_ Ao44 x13_1 co44 ∧ nw k_ Ao8 l1_1 co8 ∧ nw k_ Ao45 y777 co45 ∧ nw k_ Ao56 y787 co56 ∧ nw k_ Ao57 y790 co57) (.slice Ao7 l1_0.length co7) l1_0) := ⟨(by rw [hw]; exact (by (with_reducible repeat (first | apply Kd.R_alloc | apply Kd.R_drewN | apply Kd.R_drew)); exact Kd.R_mono (Kd.R_far (p := ⟨gb752, 1, none⟩) (Kd.R_far (p := ⟨gb752, 0, none⟩) (Kd.R_far (p := ⟨gb770, 1, none⟩) (Kd.R_types (Kd.R_types HO_752000.out BK770.out (by decide)) BK752.out (by decide)) (fun _ hk => hk.1.2) (.slice Ao57 y790.length co57)) (fun _ hk => hk.2) (.slice Ao45 y777.length co45)) (fun _ hk => hk.2) (.slice Ao57 y790.length co57)) (fun _ hk => ⟨hk.1.1.1.1, ⟨hk.1.1.1.2.1, ⟨hk.1.1.1.2.2.1, ⟨hk.1.1.1.2.2.2.1, ⟨hk.1.1.1.2.2.2.2.1, ⟨hk.1.1.1.2.2.2.2.2.1, ⟨hk.1.1.1.2.2.2.2.2.2, hk.1.1.2⟩⟩⟩⟩⟩⟩⟩)))⟩; have n4_ : Aside0 (Kd.R (Kd.int .i64) 3 w61 w0.heap.size (fun k_ => ((P1_0_ k_ ∨ P1_1_ k_) ∨ w.heap.size ≤ k_) ∧ some k_ ≠ (.slice (some ad780) t753.length co12 : Value).ownBlock ∧ nw k_ Ao32 t758 co32 ∧ nw k_ Ao44 x13_1 co44 ∧ nw k_ Ao7 l1_0 co7 ∧ nw k_ Ao45 y777 co45 ∧ nw k_ Ao56 y787 co56 ∧ nw k_ Ao57 y790 co57) (.slice Ao8 l1_1.length co8) l1_1) := ⟨(by rw [hw]; exact (by (with_reducible repeat (first | apply Kd.R_alloc | apply Kd.R_drewN | apply Kd.R_drew)); exact Kd.R_mono (Kd.R_far (p := ⟨gb752, 1, none⟩) (Kd.R_far (p := ⟨gb752, 0, none⟩) (Kd.R_far (p := ⟨gb770, 1, none⟩) (Kd.R_types (Kd.R_types HO_752001.out BK770.out (by decide)) BK752.out (by decide)) (fun _ hk => hk.1.2) (.slice Ao57 y790.length co57)) (fun _ hk => hk.2) (.slice Ao45 y777.length co45)) (fun _ hk => hk.2) (.slice Ao57 y790.length co57)) (fun _ hk => ⟨hk.1.1.1.1, ⟨hk.1.1.1.2.1, ⟨hk.1.1.1.2.2.1, ⟨hk.1.1.1.2.2.2.1, ⟨hk.1.1.1.2.2.2.2.1, ⟨hk.1.1.1.2.2.2.2.2.1, ⟨hk.1.1.1.2.2.2.2.2.2, hk.1.1.2⟩⟩⟩⟩⟩⟩⟩)))⟩; have n5_ : Aside0 (Kd.R (Kd.int .i64) 3 w61 w0.heap.size (fun k_ => ((P1_0_ k_ ∨ P1_1_ k_) ∨ w.heap.size ≤ k_) ∧ some k_ ≠ (.slice (some ad780) t753.length co12 : Value).ownBlock ∧ nw k_ Ao32 t758 co32 ∧ nw k_ Ao44 x13_1 co44 ∧ nw k_ Ao7 l1_0 co7 ∧ nw k_ Ao8 l1_1 co8 ∧ nw k_ Ao56 y787 co56 ∧ nw k_ Ao57 y790 co57) (.slice Ao45 y777.length co45) y777) := ⟨(by rw [hw]; exact (by (with_reducible repeat (first | apply Kd.R_alloc | apply Kd.R_drewN | apply Kd.R_drew)); exact Kd.R_mono (Kd.R_far (p := ⟨gb752, 1, none⟩) (Kd.R_far (p := ⟨gb752, 0, none⟩) (Kd.R_far (p := ⟨gb770, 1, none⟩) (Kd.R_types (Kd.R_types HO779.out BK770.out (by decide)) BK752.out (by decide)) (fun _ hk => hk.1.2) (.slice Ao57 y790.length co57)) (fun _ hk => hk.2) (.slice Ao45 y777.length co45)) (fun _ hk => hk.2) (.slice Ao57 y790.length co57)) (fun _ hk => ⟨hk.1.1.1.1, ⟨hk.1.1.1.2.1, ⟨hk.1.1.1.2.2.1, ⟨hk.1.1.1.2.2.2.1, ⟨hk.1.1.1.2.2.2.2.1, ⟨hk.1.1.1.2.2.2.2.2.1, ⟨hk.1.1.1.2.2.2.2.2.2, hk.1.1.2⟩⟩⟩⟩⟩⟩⟩)))⟩; have n6_ : Aside0 (Kd.R (Kd.int .i64) 3 w61 w0.heap.size (fun k_ => ((P1_0_ k_ ∨ P1_1_ k_) ∨ w.heap.size ≤ k_) ∧ some k_ ≠ (.slice (some ad780) t753.length co12 : Value).ownBlock ∧ nw k_ Ao32 t758 co32 ∧ nw k_ Ao44 x13_1 co44 ∧ nw k_ Ao7 l1_0 co7 ∧ nw k_ Ao8 l1_1 co8 ∧ nw k_ Ao45 y777 co45 ∧ nw k_ Ao57 y790 co57) (.slice Ao56 y787.length co56) y787) := ⟨(by rw [hw]; exact (by (with_reducible repeat (first | apply Kd.R_alloc | apply Kd.R_drewN | apply Kd.R_drew)); exact Kd.R_mono (Kd.R_far (p := ⟨gb752, 1, none⟩) (Kd.R_far (p := ⟨gb752, 0, none⟩) (Kd.R_far (p := ⟨gb770, 1, none⟩) (Kd.R_types (Kd.R_types HO789.out BK770.out (by decide)) BK752.out (by decide)) (fun _ hk => hk.1.2) (.slice Ao57 y790.length co57)) (fun _ hk => hk.2) (.slice Ao45 y777.length co45)) (fun _ hk => hk.2) (.slice Ao57 y790.length co57)) (fun _ hk => ⟨hk.1.1.1.1, ⟨hk.1.1.1.2.1, ⟨hk.1.1.1.2.2.1, ⟨hk.1.1.1.2.2.2.1, ⟨hk.1.1.1.2.2.2.2.1, ⟨hk.1.1.1.2.2.2.2.2.1, ⟨hk.1.1.1.2.2.2.2.2.2, hk.1.1.2⟩⟩⟩⟩⟩⟩⟩)))⟩; have n7_ : Aside0 (Kd.R (Kd.int .i64) 3 w61 w0.heap.size (fun k_ => ((P1_0_ k_ ∨ P1_1_ k_) ∨ w.heap.size ≤ k_) ∧ some k_ ≠ (.slice (some ad780) t753.length co12 : Value).ownBlock ∧ nw k_ Ao32 t758 co32 ∧ nw k_ Ao44 x13_1 co44 ∧ nw k_ Ao7 l1_0 co7 ∧ nw k_ Ao8 l1_1 co8 ∧ nw k_ Ao45 y777 co45 ∧ nw k_ Ao56 y787 co56) (.slice Ao57 y790.length co57) y790) := ⟨(by rw [hw]; exact (by (with_reducible repeat (first | apply Kd.R_alloc | apply Kd.R_drewN | apply Kd.R_drew)); exact Kd.R_mono (Kd.R_far (p := ⟨gb752, 1, none⟩) (Kd.R_far (p := ⟨gb752, 0, none⟩) (Kd.R_far (p := ⟨gb770, 1, none⟩) (Kd.R_types (Kd.R_types HO792.out BK770.out (by decide)) BK752.out (by decide)) (fun _ hk => hk.1.2) (.slice Ao57 y790.length co57)) (fun _ hk => hk.2) (.slice Ao45 y777.length co45)) (fun _ hk => hk.2) (.slice Ao57 y790.length co57)) (fun _ hk => ⟨hk.1.1.1, ⟨hk.1.1.2.1, ⟨hk.1.1.2.2.1, ⟨hk.1.1.2.2.2.1, ⟨hk.1.1.2.2.2.2.1, ⟨hk.1.1.2.2.2.2.2.1, ⟨hk.1.1.2.2.2.2.2.2.1, hk.1.1.2.2.2.2.2.2.2⟩⟩⟩⟩⟩⟩⟩)))⟩; have n8_ : Aside0 (w61.heap[gb751]? = some (.cells #[.slice Ao7 l1_0.length co7, .slice Ao8 l1_1.length co8] 53 (0, 0))) := ⟨(by rw [hw]; exact (by (iterate 2 ((with_reducible repeat (first | refine blk_drewN ?_ _ | refine blk_drew ?_ | refine blk_alloc ?_ _)); refine blk_far ?_ NB751_752.out _)); (with_reducible repeat (first | refine blk_drewN ?_ _ | refine blk_drew ?_ | refine blk_alloc ?_ _)); refine blk_far ?_ NB751_770.out _; (with_reducible repeat (first | refine blk_drewN ?_ _ | refine blk_drew ?_ | refine blk_alloc ?_ _)); exact BK751.out))⟩; have n9_ : Aside0 (w61.heap[gb752]? = some (.cells #[.slice Ao45 y777.length co45, .slice Ao57 y790.length co57] 53 (0, 0))) := ⟨(by rw [hw]; exact (by (with_reducible repeat (first | refine blk_drewN ?_ _ | refine blk_drew ?_ | refine blk_alloc ?_ _)); refine blk_put (cs := #[.slice Ao45 y777.length co45, .slice none 0 0]) ?_ 1 _ rfl; (with_reducible repeat (first | refine blk_drewN ?_ _ | refine blk_drew ?_ | refine blk_alloc ?_ _)); refine blk_put (cs := #[.slice none 0 0, .slice none 0 0]) ?_ 0 _ rfl; (with_reducible repeat (first | refine blk_drewN ?_ _ | refine blk_drew ?_ | refine blk_alloc ?_ _)); refine blk_far ?_ NB752_770.out _; (with_reducible repeat (first | refine blk_drewN ?_ _ | refine blk_drew ?_ | refine blk_alloc ?_ _)); exact BK752.out))⟩; have n10_ : Aside0 (w61.heap[gb770]? = some (.cells #[.slice Ao45 y777.length co45, .slice Ao57 y790.length co57] 53 (0, 0))) := ⟨(by rw [hw]; exact (by (iterate 2 ((with_reducible repeat (first | refine blk_drewN ?_ _ | refine blk_drew ?_ | refine blk_alloc ?_ _)); refine blk_far ?_ NB770_752.out _)); (with_reducible repeat (first | refine blk_drewN ?_ _ | refine blk_drew ?_ | refine blk_alloc ?_ _)); refine blk_put (cs := #[.slice Ao45 y777.length co45, .slice none 0 0]) ?_ 1 _ rfl; (with_reducible repeat (first | refine blk_drewN ?_ _ | refine blk_drew ?_ | refine blk_alloc ?_ _)); exact BK770.out))⟩; have n11_ : Aside0 (Kept w w61 (fun k_ => P1_0_ k_ ∨ P1_1_ k_)) := ⟨(by rw [hw]; exact (uk HK.out))⟩; have n12_ : Aside0 (Below w0.heap.size w0 w61) := ⟨(by rw [hw]; exact (uc HB.out))⟩; revert n0_ n1_ n2_ n3_ n4_ n5_ n6_ n7_ n8_ n9_ n10_ n11_ n12_; clear hw HO_9 HO_12 HO_13 HO_752000 HO_752001 HO779 HO789 HO792 BK751 BK752 BK770 HK HB; intro HO_9 HO_12 HO_13 HO_752000 HO_752001 HO779 HO789 HO792 BK751 BK752 BK770 HK HB))
          refine bodyPost_ret (results_ctt rfl _ _ gb752 53 #[.slice Ao45 y777.length co45, .slice Ao57 y790.length co57] (0, 0) _ rfl (ub BK752.out) Try.underlying53 rfl (by kernel_rfl)) rfl ?_
          exact ⟨_, _, _, by first | rfl | (simp [errW_none, errW_some] <;> rfl) | (simp [*, errW_none, errW_some] <;> rfl), by (with_reducible repeat (first | apply Kd.R_alloc | apply Kd.R_drewN | apply Kd.R_drew)); exact Kd.R_mono HO779.out (fun _ hk => ⟨hk.1, ⟨hk.2.2.2.2.2.2.2, hk.2.2.2.1⟩⟩), by (with_reducible repeat (first | apply Kd.R_alloc | apply Kd.R_drewN | apply Kd.R_drew)); exact Kd.R_mono HO792.out (fun _ hk => ⟨hk.1, ⟨hk.2.2.2.2.2.2.1, hk.2.2.2.1⟩⟩), by (with_reducible repeat (first | apply Kd.R_alloc | apply Kd.R_drewN | apply Kd.R_drew)); exact Kd.R_mono HO_13.out (fun _ hk => ⟨hk.1, ⟨hk.2.2.2.2.2.1, hk.2.2.2.2.2.2.2⟩⟩), uc HB.out, uk HK.out⟩
         ·rw [if_neg c31] at H
          exact absurd H (by simp)
        ·rw [if_neg c30] at H
         exact absurd H (by simp)
       ·rw [if_neg c29] at H
        exact absurd H (by simp)
      ·rw [if_neg c28] at H
       exact absurd H (by simp)
     ·rw [if_neg c27] at H
      exact absurd H (by simp)
 ·rw [if_neg c5] at H
  have c5b0 : (t755 == 0) = false := beq_eq_false_iff_ne.mpr c5
  have c5b1 : (t755 != 0) = true := bne_iff_ne.mpr c5
  simp only [Option.some.injEq, Prod.mk.injEq] at H
  obtain ⟨rfl, rfl, rfl, rfl⟩ := H
  obtain ⟨Ao62, co62, eo62⟩ := Kd.R_slice HO1_0.out
  subst eo62
  obtain ⟨Ao63, co63, eo63⟩ := Kd.R_slice HO1_1.out
  subst eo63
  go_enter Try.func23, Try.ntmps23
  go_wp2_with (first | ((with_reducible refine gate_dst (N := 4) rfl ?_); refine box_event ?hg (N := 4) ?hd (cs := #[.slice Ao62 l1_0.length co62, .slice Ao63 l1_1.length co63]) (t := 53) ?hr ?_; (case hd => rfl); (case hg => rfl); (case hr => first | (go_simp; done) | (go_simp; rfl)); intro gb751 hg w64 hbox hb; have n0_ := am (Kd.R_below (ua HO1_0.out) hb); have n1_ := am (Kd.R_below (ua HO1_1.out) hb); have n2_ := am (Kept.below (S := (fun k_ => P1_0_ k_ ∨ P1_1_ k_)) (uk HK.out) hb); have n3_ := am (below_step (uc HB.out) hb); have n4_ := am (hbox); have n5_ := am ((by rw [hg]; exact (by first | exact HK.out.1 | exact (show Kept w _ (fun k_ => P1_0_ k_ ∨ P1_1_ k_) from uk HK.out).1) : w.heap.size ≤ gb751)); have n6_ := am ((by rw [hg]; exact (below_size (uc HB.out)) : w0.heap.size ≤ gb751)); revert n0_ n1_ n2_ n3_ n4_ n5_ n6_; clear HO1_0 HO1_1 HK HB; intro HO1_0 HO1_1 HK HB BK751 GW751 GE751; clear hb hbox hg) | ((with_reducible refine gate_dst (N := 6) rfl ?_); refine box_event ?hg (N := 6) ?hd (cs := #[.slice none 0 0, .slice none 0 0]) (t := 53) ?hr ?_; (case hd => rfl); (case hg => rfl); (case hr => first | (go_simp; done) | (go_simp; rfl)); intro gb752 hg w65 hbox hb; have n0_ := am (Kd.R_below (ua HO1_0.out) hb); have n1_ := am (Kd.R_below (ua HO1_1.out) hb); have n2_ := am (blk_below (g := gb751) (o := .cells #[.slice Ao62 l1_0.length co62, .slice Ao63 l1_1.length co63] 53 (0, 0)) (ub BK751.out) hb); have n3_ := am (Kept.below (S := (fun k_ => P1_0_ k_ ∨ P1_1_ k_)) (uk HK.out) hb); have n4_ := am (below_step (uc HB.out) hb); have n5_ := am (hbox); have n6_ := am ((by rw [hg]; exact (by first | exact HK.out.1 | exact (show Kept w _ (fun k_ => P1_0_ k_ ∨ P1_1_ k_) from uk HK.out).1) : w.heap.size ≤ gb752)); have n7_ := am ((by rw [hg]; exact (below_size (uc HB.out)) : w0.heap.size ≤ gb752)); have n8_ := am ((by rw [hg]; exact Nat.ne_of_lt (blk_lt (g := gb751) (o := .cells #[.slice Ao62 l1_0.length co62, .slice Ao63 l1_1.length co63] 53 (0, 0)) (ub BK751.out)) : gb751 ≠ gb752)); have n9_ := am ((by rw [hg]; exact Nat.ne_of_gt (blk_lt (g := gb751) (o := .cells #[.slice Ao62 l1_0.length co62, .slice Ao63 l1_1.length co63] 53 (0, 0)) (ub BK751.out)) : gb752 ≠ gb751)); revert n0_ n1_ n2_ n3_ n4_ n5_ n6_ n7_ n8_ n9_; clear HO1_0 HO1_1 BK751 HK HB; intro HO1_0 HO1_1 BK751 HK HB BK752 GW752 GE752 NB751_752 NB752_751; clear hb hbox hg) | ((with_reducible refine gate_dst (N := 20) rfl ?_); (with_reducible refine gate_callee (f := 37) rfl ?_); refine gl (some 20) Try.func37 #[.slice A0 l0.length c0, .string a2] ?_; (with_reducible refine (curtilageref13_Closure.calls k _ _ l0 a2 t753 t754 t755 _ ?side1 ?side2 A4.out).mono ?_); (case side1 => exact Kd.C_kept_now HR0.out (uk HK.out)); (case side2 => exact HC0.out); rintro e w66 ⟨v756, rfl, ho0, hb⟩; refine ⟨_, rfl, ?_⟩; have n0_ := am (Kd.R_elder' (ua HO1_0.out) (Kd.R_base ho0) hb); have n1_ := am (Kd.R_elder' (ua HO1_1.out) (Kd.R_base ho0) hb); have n2_ := am (Kd.R_lower (Kd.R_new' (Kd.R_new' (Kd.R_newM (M := fun k_ => ((P1_0_ k_ ∨ P1_1_ k_) ∨ w.heap.size ≤ k_)) ho0 (by first | exact HK.out.1 | exact (show Kept w _ (fun k_ => P1_0_ k_ ∨ P1_1_ k_) from uk HK.out).1) (fun k_ h_ => .inr h_)) (Kd.R_lt (ua HO1_0.out))) (Kd.R_lt (ua HO1_1.out))) (below_size (uc HB.out))); have n3_ := am (blk_below (g := gb751) (o := .cells #[.slice Ao62 l1_0.length co62, .slice Ao63 l1_1.length co63] 53 (0, 0)) (ub BK751.out) hb); have n4_ := am (blk_below (g := gb752) (o := .cells #[.slice none 0 0, .slice none 0 0] 53 (0, 0)) (ub BK752.out) hb); have n5_ := am (Kept.below (S := (fun k_ => P1_0_ k_ ∨ P1_1_ k_)) (uk HK.out) hb); have n6_ := am (below_step (uc HB.out) hb); revert n0_ n1_ n2_ n3_ n4_ n5_ n6_; clear HO1_0 HO1_1 BK751 BK752 HK HB; intro HO1_0 HO1_1 HO757 BK751 BK752 HK HB; (try clear hb); (try clear hb2); (try clear hk); (try clear hi); (try clear ho0); have hnb67 := NB751_752.out; have hnc67 := NB752_751.out; obtain ⟨hcz68_0, hcz68_1, hfz68_0, hfz68_1⟩ := cells2 BK751.out; obtain ⟨hcz69_0, hcz69_1, hfz69_0, hfz69_1⟩ := cells2 BK752.out) | ((with_reducible refine gate_store (t := 53) (p := 6) rfl ?_); refine store_event (t := 53) (p := 6) (v := ?vo_w70) (w1 := ((w66.setCell ⟨gb752, 0, none⟩ (.slice Ao62 l1_0.length co62)).setCell ⟨gb752, 1, none⟩ (.slice Ao63 l1_1.length co63))) ?hg ?ho ?hn ?hr ?_; (case ho => rfl); (case hg => rfl); (case hn => rfl); (case hr => first | (go_simp; done) | (go_simp; rfl)); intro w70 hw; have n0_ := st2 (fun k_ => ((P1_0_ k_ ∨ P1_1_ k_) ∨ w.heap.size ≤ k_) ∧ nw k_ Ao63 l1_1 co63 ∧ nv k_ v756) hw HO1_0 BK752 (fun _ h => ⟨h.1.1, h.1.2, h.2⟩); have n1_ := st2 (fun k_ => ((P1_0_ k_ ∨ P1_1_ k_) ∨ w.heap.size ≤ k_) ∧ nw k_ Ao62 l1_0 co62 ∧ nv k_ v756) hw HO1_1 BK752 (fun _ h => ⟨h.1.1, h.1.2, h.2⟩); have n2_ := st2 (fun k_ => ((P1_0_ k_ ∨ P1_1_ k_) ∨ w.heap.size ≤ k_) ∧ nw k_ Ao62 l1_0 co62 ∧ nw k_ Ao63 l1_1 co63) hw HO757 BK752 (fun _ h => ⟨h.1.1.1, h.1.2, h.2⟩); have n3_ := bf2 hw NB751_752 BK751; have n4_ := bp2 #[.slice Ao62 l1_0.length co62, .slice Ao63 l1_1.length co63] hw BK752; have n5_ : Aside0 (Kept w w70 (fun k_ => P1_0_ k_ ∨ P1_1_ k_)) := ⟨(by rw [hw]; exact (uk HK.out))⟩; have n6_ : Aside0 (Below w0.heap.size w0 w70) := ⟨(by rw [hw]; exact (uc HB.out))⟩; revert n0_ n1_ n2_ n3_ n4_ n5_ n6_; clear hw HO1_0 HO1_1 HO757 BK751 BK752 HK HB; intro HO1_0 HO1_1 HO757 BK751 BK752 HK HB))
  refine bodyPost_ret (results_ctt rfl _ _ gb752 53 #[.slice Ao62 l1_0.length co62, .slice Ao63 l1_1.length co63] (0, 0) _ rfl (ub BK752.out) Try.underlying53 rfl (by kernel_rfl)) rfl ?_
  exact ⟨_, _, _, by first | rfl | (simp [errW_none, errW_some] <;> rfl) | (simp [*, errW_none, errW_some] <;> rfl), by (with_reducible repeat (first | apply Kd.R_alloc | apply Kd.R_drewN | apply Kd.R_drew)); exact Kd.R_mono HO1_0.out (fun _ hk => ⟨hk.1, ⟨hk.2.1, (by simp [Value.ownBlock])⟩⟩), by (with_reducible repeat (first | apply Kd.R_alloc | apply Kd.R_drewN | apply Kd.R_drew)); exact Kd.R_mono HO1_1.out (fun _ hk => ⟨hk.1, ⟨hk.2.1, (by simp [Value.ownBlock])⟩⟩), by first | exact Kd.R_nil _ _ _ _ _ | exact Kd.N_nil _ _ _ _ _ | exact Kd.V_nil _ _ _ _ _ | exact Kd.Q_nil _ _ _ _ _ | exact Kd.S_nil _ _ _ _ _, uc HB.out, uk HK.out⟩

end Go.Proofs.Ytociaidhgefpiaa.P
