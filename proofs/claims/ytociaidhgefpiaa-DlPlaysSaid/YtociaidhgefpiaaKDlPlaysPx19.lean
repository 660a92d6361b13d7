/- What functions of the program, and of its laws, give, each proved of its code by a walk; no condition. -/
import Derived.Test.YtociaidhgefpiaaKDlPlaysPx0
import Derived.Test.YtociaidhgefpiaaKDlPlaysPx1
import Derived.Test.YtociaidhgefpiaaKDlPlaysSq
import Derived.Test.YtociaidhgefpiaaKDlPlaysUsh
namespace Go.Proofs.Ytociaidhgefpiaa.P
open Go.RowKit Go.Proofs.YtociaidhgefpiaaW.PrintWords Go.Proofs.YtociaidhgefpiaaW.PrintLast Go.Proofs.YtociaidhgefpiaaW.PrintMore
attribute [local go_sem] max2_int min2_int max_two min_two max_three min_three max_four min_four   -- for this text's walks alone
set_option linter.unusedVariables false
set_option linter.unusedSimpArgs false

mutual
def curtilageref13_Closure.l0 : Nat → List (S38) → List Int → Int → Option (List Int × ByteArray × Int)
  | 0, _, _, _ => none
  | k + 1, x0, x8, x9 => if x9 < (x8.length : Int) then (if 0 ≤ x9 then (if 0 ≤ (rd x8 x9) then (if (rd x8 x9) < (x0.length : Int) then (curtilageref13_Closure.l1 k x0 x8 x9 0 ((rd_T38 x0 (rd x8 x9)).f0) ((rd_T38 x0 (rd x8 x9)).f1) ((rd_T38 x0 (rd x8 x9)).f2) ((rd_T38 x0 (rd x8 x9)).f3) ((rd_T38 x0 (rd x8 x9)).f4) ((rd_T38 x0 (rd x8 x9)).f5) ((rd_T38 x0 (rd x8 x9)).f6)) else (none)) else (none)) else (none)) else (some (x8, (⟨#[]⟩ : ByteArray), 0))
def curtilageref13_Closure.l1 : Nat → List (S38) → List Int → Int → Int → ByteArray → List ByteArray → List (S121) → List (S123) → List (S125) → List Int → List Int → Option (List Int × ByteArray × Int)
  | 0, _, _, _, _, _, _, _, _, _, _, _ => none
  | k + 1, x0, x8, x9, x11, x622000, x622001, x622002, x622003, x622004, x622005, x622006 => if x11 < (x622001.length : Int) then (if 0 ≤ x11 then ((curtilageref13_Find.f k x0 (rdOf ByteArray.empty x622001 x11)).bind fun t623 => (if t623 < 0 then (some (([] : List Int), rdOf ByteArray.empty x622001 x11, 130)) else ((curtilageref13_Has.f k x8 t623).bind fun t625 => (if t625 = true then (curtilageref13_Closure.l1 k x0 x8 x9 (wrap64 (x11 + 1)) x622000 x622001 x622002 x622003 x622004 x622005 x622006) else (if x8.length < 17592186044416 then (curtilageref13_Closure.l1 k x0 (x8 ++ [t623]) x9 (wrap64 (x11 + 1)) x622000 x622001 x622002 x622003 x622004 x622005 x622006) else (none)))))) else (none)) else (curtilageref13_Closure.l0 k x0 x8 (wrap64 (x9 + 1)))
end
def curtilageref13_Closure.f (k : Nat) (l0 : List (S38)) (a1 : ByteArray) : Option (List Int × ByteArray × Int) := (curtilageref13_Find.f k l0 a1).bind fun t615 => (if t615 < 0 then (some (([] : List Int), a1, 130)) else (curtilageref13_Closure.l0 k l0 (([t615] : List Int)) 0))
theorem curtilageref13_Closure.mono_l : ∀ k, (∀ y0 y1 y2, LeO (curtilageref13_Closure.l0 k y0 y1 y2) (curtilageref13_Closure.l0 (k + 1) y0 y1 y2)) ∧ (∀ y0 y1 y2 y3 y4 y5 y6 y7 y8 y9 y10, LeO (curtilageref13_Closure.l1 k y0 y1 y2 y3 y4 y5 y6 y7 y8 y9 y10) (curtilageref13_Closure.l1 (k + 1) y0 y1 y2 y3 y4 y5 y6 y7 y8 y9 y10))
  | 0 => ⟨fun _ _ _ r h => by simp [curtilageref13_Closure.l0] at h, fun _ _ _ _ _ _ _ _ _ _ _ r h => by simp [curtilageref13_Closure.l1] at h⟩
  | k + 1 => by
    obtain ⟨ih0, ih1⟩ := curtilageref13_Closure.mono_l k
    refine ⟨?_, ?_⟩
    · intro y0 y1 y2
      unfold curtilageref13_Closure.l0
      repeat' first
      | (with_reducible exact ih0 _ _ _)
      | (with_reducible exact ih1 _ _ _ _ _ _ _ _ _ _ _)
      | (with_reducible exact curtilageref13_Find.mono _ _ _)
      | (with_reducible exact curtilageref13_Has.mono _ _ _)
      | (with_reducible exact LeO.refl _)
      | (with_reducible exact LeO.none _)
      | (with_reducible refine LeO.ite ?_ ?_)
      | (with_reducible refine LeO.bind ?_ (fun _ => ?_))
      | exact ih0 _ _ _
      | exact ih1 _ _ _ _ _ _ _ _ _ _ _
      | exact curtilageref13_Find.mono _ _ _
      | exact curtilageref13_Has.mono _ _ _
      | exact LeO.none _
      | refine LeO.ite ?_ ?_
      | refine LeO.bind ?_ (fun _ => ?_)
    · intro y0 y1 y2 y3 y4 y5 y6 y7 y8 y9 y10
      unfold curtilageref13_Closure.l1
      repeat' first
      | (with_reducible exact ih0 _ _ _)
      | (with_reducible exact ih1 _ _ _ _ _ _ _ _ _ _ _)
      | (with_reducible exact curtilageref13_Find.mono _ _ _)
      | (with_reducible exact curtilageref13_Has.mono _ _ _)
      | (with_reducible exact LeO.refl _)
      | (with_reducible exact LeO.none _)
      | (with_reducible refine LeO.ite ?_ ?_)
      | (with_reducible refine LeO.bind ?_ (fun _ => ?_))
      | exact ih0 _ _ _
      | exact ih1 _ _ _ _ _ _ _ _ _ _ _
      | exact curtilageref13_Find.mono _ _ _
      | exact curtilageref13_Has.mono _ _ _
      | exact LeO.none _
      | refine LeO.ite ?_ ?_
      | refine LeO.bind ?_ (fun _ => ?_)
theorem curtilageref13_Closure.mono : ∀ a0 a1 k, LeO (curtilageref13_Closure.f k a0 a1) (curtilageref13_Closure.f (k + 1) a0 a1) := by
  intro a0 a1 k
  obtain ⟨ih0, ih1⟩ := curtilageref13_Closure.mono_l k
  unfold curtilageref13_Closure.f
  repeat' first
      | (with_reducible exact ih0 _ _ _)
      | (with_reducible exact ih1 _ _ _ _ _ _ _ _ _ _ _)
      | (with_reducible exact curtilageref13_Find.mono _ _ _)
      | (with_reducible exact curtilageref13_Has.mono _ _ _)
      | (with_reducible exact LeO.refl _)
      | (with_reducible exact LeO.none _)
      | (with_reducible refine LeO.ite ?_ ?_)
      | (with_reducible refine LeO.bind ?_ (fun _ => ?_))
      | exact ih0 _ _ _
      | exact ih1 _ _ _ _ _ _ _ _ _ _ _
      | exact curtilageref13_Find.mono _ _ _
      | exact curtilageref13_Has.mono _ _ _
      | exact LeO.none _
      | refine LeO.ite ?_ ?_
      | refine LeO.bind ?_ (fun _ => ?_)
set_option maxHeartbeats 8000000 in
set_option maxRecDepth 100000 in
theorem curtilageref13_Closure.calls (k : Nat) (A0 : Option Addr) (c0 : Nat) (l0 : List (S38)) (a1 : ByteArray) (r1 : List Int) (r2 : ByteArray) (r3 : Int) (w : World) (hr0 : Kd.C k38 w A0 l0.length l0) (hc0 : l0.length ≤ c0) (h : curtilageref13_Closure.f k l0 a1 = some (r1, r2, r3)) :
  Calls Try.prog 37 #[.slice A0 l0.length c0, .string a1] w fun e w' => ∃ v0_ : Value, e = .returned (.tuple #[v0_, .string r2, .int .i64 r3]) ∧ Kd.R (Kd.int .i64) 3 w' w.heap.size (fun _ => True) v0_ r1 ∧ Below w.heap.size w w' := by
 have hu38 := Try.underlying38
 have HR0 := am hr0
 have HC0 := am hc0
 clear hr0 hc0
 have HB := am (Below.refl w.heap.size w)
 have H : ((curtilageref13_Find.f k l0 a1).bind fun t615 => (if t615 < 0 then (some (([] : List Int), a1, 130)) else (curtilageref13_Closure.l0 k l0 (([t615] : List Int)) 0))) = some (r1, r2, r3) := h
 clear h
 replace H := Option.bind_eq_some_iff.mp H
 obtain ⟨t615, A30, H⟩ := H
 replace H : (if t615 < 0 then (some (([] : List Int), a1, 130)) else (curtilageref13_Closure.l0 k l0 (([t615] : List Int)) 0)) = some (r1, r2, r3) := H
 have A3 := am A30
 clear A30
 by_cases c4 : t615 < 0
 ·rw [if_pos c4] at H
  have c4b0 : decide (t615 < 0) = true := decide_eq_true c4
  clear c4
  simp only [Option.some.injEq, Prod.mk.injEq] at H
  obtain ⟨rfl, rfl, rfl⟩ := H
  go_enter Try.func37, Try.ntmps37
  go_wp2_with (first | (go_at_call 21; (with_reducible refine (curtilageref13_Find.calls k _ _ l0 a1 t615 _ ?side1 ?side2 A3.out).mono ?_); (case side1 => exact us HR0.out); (case side2 => exact HC0.out); rintro e w' ⟨rfl, ⟨nd, rfl⟩⟩; (try first | exact ⟨rfl, _, World.drewN_drewN _ _ _⟩ | exact ⟨rfl, _, Eq.trans (World.drewN_drewN _ _ _) (congrArg (World.drewN _) (Nat.add_assoc _ _ _))⟩)))
  repeat (go_quiet (first | (go_at_call 21; (with_reducible refine (curtilageref13_Find.calls k _ _ l0 a1 t615 _ ?side1 ?side2 A3.out).mono ?_); (case side1 => exact us HR0.out); (case side2 => exact HC0.out); rintro e w' ⟨rfl, ⟨nd, rfl⟩⟩; (try first | exact ⟨rfl, _, World.drewN_drewN _ _ _⟩ | exact ⟨rfl, _, Eq.trans (World.drewN_drewN _ _ _) (congrArg (World.drewN _) (Nat.add_assoc _ _ _))⟩))); try go_wp2_with (first | (go_at_call 21; (with_reducible refine (curtilageref13_Find.calls k _ _ l0 a1 t615 _ ?side1 ?side2 A3.out).mono ?_); (case side1 => exact us HR0.out); (case side2 => exact HC0.out); rintro e w' ⟨rfl, ⟨nd, rfl⟩⟩; (try first | exact ⟨rfl, _, World.drewN_drewN _ _ _⟩ | exact ⟨rfl, _, Eq.trans (World.drewN_drewN _ _ _) (congrArg (World.drewN _) (Nat.add_assoc _ _ _))⟩))))
  go_ret3
  exact ⟨_, by first | rfl | (simp [errW_none, errW_some] <;> rfl) | (simp [*, errW_none, errW_some] <;> rfl), by first | exact Kd.R_nil _ _ _ _ _ | exact Kd.N_nil _ _ _ _ _ | exact Kd.V_nil _ _ _ _ _ | exact Kd.Q_nil _ _ _ _ _ | exact Kd.S_nil _ _ _ _ _, uc HB.out⟩
 ·rw [if_neg c4] at H
  have c4b0 : decide (t615 < 0) = false := decide_eq_false c4
  clear c4
  obtain ⟨y616, hy616⟩ : ∃ y_ : List Int, y_ = (([t615] : List Int)) := ⟨_, rfl⟩
  replace H : (curtilageref13_Closure.l0 k l0 y616 0) = some (r1, r2, r3) := by first | (rw [hy616]; with_reducible exact H) | (have H2_ := (Option.bind_some _ _).symm.trans H; rw [hy616]; with_reducible exact H2_) | (have H2_ := (Option.bind_some _ _).symm.trans H; with_reducible exact H2_) | with_reducible exact H | (rw [hy616]; exact H) | exact H
  have Ny616 := am hy616
  clear hy616
  have H' := am H
  clear H
  go_enter Try.func37, Try.ntmps37
  go_wp2_with (first | (go_at_call 21; (with_reducible refine (curtilageref13_Find.calls k _ _ l0 a1 t615 _ ?side1 ?side2 A3.out).mono ?_); (case side1 => exact us HR0.out); (case side2 => exact HC0.out); rintro e w' ⟨rfl, ⟨nd, rfl⟩⟩; (try first | exact ⟨rfl, _, World.drewN_drewN _ _ _⟩ | exact ⟨rfl, _, Eq.trans (World.drewN_drewN _ _ _) (congrArg (World.drewN _) (Nat.add_assoc _ _ _))⟩)) | ((with_reducible refine gate_dst (N := 21) rfl ?_); refine Kd.R_lit (Kd.int .i64) _ 3 ?hg (N := 21) ?hd (xs := ([t615] : List Int)) (inner := [.int .i64 t615]) (ok := fun _ => True) (okp := fun _ => True) ?hr ?hp (fun _ hk => hk) trivial (Below.refl _ _) (Nat.le_refl _) (by simp) ?_; (case hd => rfl); (case hg => rfl); (case hr => first | (go_simp; done) | (go_simp; rfl)); (case hp => exact (Reps.one (show Kd.M (Kd.int .i64) _ _ _ t615 [.int .i64 t615] from rfl) (Reps.none _ _))); intro v617 w5 ho6 hb hg_ hnew_; clear hg_ hnew_; (first | rw [← Ny616.out] at ho6 | (simp only [Int.reduceToNat] at ho6; rw [← Ny616.out] at ho6)); have n0_ := am (Kd.R_lower ho6 (below_size (uc HB.out))); have n1_ := am (below_step (uc HB.out) hb); revert n0_ n1_; clear HB; intro HO618 HB; clear hb ho6))
  repeat (go_quiet (first | (go_at_call 21; (with_reducible refine (curtilageref13_Find.calls k _ _ l0 a1 t615 _ ?side1 ?side2 A3.out).mono ?_); (case side1 => exact us HR0.out); (case side2 => exact HC0.out); rintro e w' ⟨rfl, ⟨nd, rfl⟩⟩; (try first | exact ⟨rfl, _, World.drewN_drewN _ _ _⟩ | exact ⟨rfl, _, Eq.trans (World.drewN_drewN _ _ _) (congrArg (World.drewN _) (Nat.add_assoc _ _ _))⟩)) | ((with_reducible refine gate_dst (N := 21) rfl ?_); refine Kd.R_lit (Kd.int .i64) _ 3 ?hg (N := 21) ?hd (xs := ([t615] : List Int)) (inner := [.int .i64 t615]) (ok := fun _ => True) (okp := fun _ => True) ?hr ?hp (fun _ hk => hk) trivial (Below.refl _ _) (Nat.le_refl _) (by simp) ?_; (case hd => rfl); (case hg => rfl); (case hr => first | (go_simp; done) | (go_simp; rfl)); (case hp => exact (Reps.one (show Kd.M (Kd.int .i64) _ _ _ t615 [.int .i64 t615] from rfl) (Reps.none _ _))); intro v617 w5 ho6 hb hg_ hnew_; clear hg_ hnew_; (first | rw [← Ny616.out] at ho6 | (simp only [Int.reduceToNat] at ho6; rw [← Ny616.out] at ho6)); have n0_ := am (Kd.R_lower ho6 (below_size (uc HB.out))); have n1_ := am (below_step (uc HB.out) hb); revert n0_ n1_; clear HB; intro HO618 HB; clear hb ho6)); try go_wp2_with (first | (go_at_call 21; (with_reducible refine (curtilageref13_Find.calls k _ _ l0 a1 t615 _ ?side1 ?side2 A3.out).mono ?_); (case side1 => exact us HR0.out); (case side2 => exact HC0.out); rintro e w' ⟨rfl, ⟨nd, rfl⟩⟩; (try first | exact ⟨rfl, _, World.drewN_drewN _ _ _⟩ | exact ⟨rfl, _, Eq.trans (World.drewN_drewN _ _ _) (congrArg (World.drewN _) (Nat.add_assoc _ _ _))⟩)) | ((with_reducible refine gate_dst (N := 21) rfl ?_); refine Kd.R_lit (Kd.int .i64) _ 3 ?hg (N := 21) ?hd (xs := ([t615] : List Int)) (inner := [.int .i64 t615]) (ok := fun _ => True) (okp := fun _ => True) ?hr ?hp (fun _ hk => hk) trivial (Below.refl _ _) (Nat.le_refl _) (by simp) ?_; (case hd => rfl); (case hg => rfl); (case hr => first | (go_simp; done) | (go_simp; rfl)); (case hp => exact (Reps.one (show Kd.M (Kd.int .i64) _ _ _ t615 [.int .i64 t615] from rfl) (Reps.none _ _))); intro v617 w5 ho6 hb hg_ hnew_; clear hg_ hnew_; (first | rw [← Ny616.out] at ho6 | (simp only [Int.reduceToNat] at ho6; rw [← Ny616.out] at ho6)); have n0_ := am (Kd.R_lower ho6 (below_size (uc HB.out))); have n1_ := am (below_step (uc HB.out) hb); revert n0_ n1_; clear HB; intro HO618 HB; clear hb ho6)))
  go_loopg [8, 9] k (fun kq v8 v9 w' => ∃ (x8_1 : List Int) (x9_1 : Int), v9 = .int .i64 x9_1 ∧ Aside0 (curtilageref13_Closure.l0 kq l0 x8_1 x9_1 = some (r1, r2, r3)) ∧ Aside0 (kq ≤ k) ∧ Aside0 (Kd.R (Kd.int .i64) 3 w' w.heap.size (fun _ => True) v8 x8_1) ∧ Aside0 (Below w.heap.size w w'))
  case atStart => exact ⟨(y616), (0), uf, H', ⟨Nat.le_refl _⟩, ⟨ua HO618.out⟩, ⟨uc HB.out⟩⟩
  case round =>
   clear H'
   try clear p2
   try clear c3
   try clear c4
   try clear c4b0
   obtain ⟨x8_1, x9_1, rfl, HA, HK1, HO_8, HB⟩ := hrel
   cases gk with
   | zero => exact absurd HA.out (by simp [curtilageref13_Closure.l0])
   | succ k1 =>
    have H := HA.out
    clear HA
    simp only [curtilageref13_Closure.l0] at H
    by_cases c7 : x9_1 < (x8_1.length : Int)
    ·rw [if_pos c7] at H
     have c7b0 : decide (x9_1 < (x8_1.length : Int)) = true := decide_eq_true c7
     clear c7
     by_cases c8 : 0 ≤ x9_1
     ·rw [if_pos c8] at H
      have c8b0 : decide (0 ≤ x9_1) = true := decide_eq_true c8
      clear c8
      by_cases c9 : 0 ≤ (rd x8_1 x9_1)
      ·rw [if_pos c9] at H
       have c9b0 : decide (0 ≤ (rd x8_1 x9_1)) = true := decide_eq_true c9
       clear c9
       by_cases c10 : (rd x8_1 x9_1) < (l0.length : Int)
       ·rw [if_pos c10] at H
        have c10b0 : decide ((rd x8_1 x9_1) < (l0.length : Int)) = true := decide_eq_true c10
        clear c10
        have H' := am H
        clear H
        obtain ⟨Ao11, co11, eo11⟩ := Kd.R_slice HO_8.out
        subst eo11
        have p619 : 0 ≤ (x9_1 : Int) := ud
        have q619 : x9_1 < (x8_1.length : Int) := ud
        obtain ⟨ad619, e619, hx619_0⟩ := Kd.at_int (Kd.R_reads' HO_8.out).2.2 x9_1 p619 q619
        cases e619
        replace p619 := eq_true p619
        replace q619 := eq_true q619
        have p620 : 0 ≤ ((rd x8_1 x9_1) : Int) := ud
        have q620 : (rd x8_1 x9_1) < (l0.length : Int) := ud
        obtain ⟨ad620, A620_1, c620_1, A620_2, c620_2, A620_3, c620_3, A620_4, c620_4, A620_5, c620_5, A620_6, c620_6, e620, hx620_0, hx620_1, hx620_2, hx620_3, hx620_4, hx620_5, hx620_6, hl620_1, hi620_1, hl620_2, hi620_2, hl620_3, hi620_3, hl620_4, hi620_4, hl620_5, hi620_5, hl620_6, hi620_6⟩ := at_T38 HR0.out (rd x8_1 x9_1) p620 q620
        cases e620
        replace hx620_0 := bcel HB hx620_0
        replace hx620_1 := bcel HB hx620_1
        replace hx620_2 := bcel HB hx620_2
        replace hx620_3 := bcel HB hx620_3
        replace hx620_4 := bcel HB hx620_4
        replace hx620_5 := bcel HB hx620_5
        replace hx620_6 := bcel HB hx620_6
        have HR620_1 := am hi620_1
        have HC620_1 := am hl620_1
        clear hi620_1 hl620_1
        have HR620_2 := am hi620_2
        have HC620_2 := am hl620_2
        clear hi620_2 hl620_2
        have HR620_3 := am hi620_3
        have HC620_3 := am hl620_3
        clear hi620_3 hl620_3
        have HR620_4 := am hi620_4
        have HC620_4 := am hl620_4
        clear hi620_4 hl620_4
        have HR620_5 := am hi620_5
        have HC620_5 := am hl620_5
        clear hi620_5 hl620_5
        have HR620_6 := am hi620_6
        have HC620_6 := am hl620_6
        clear hi620_6 hl620_6
        replace p620 := eq_true p620
        replace q620 := eq_true q620
        go_wp2_with (first | ((with_reducible refine gate_dst (N := 10) rfl ?_); refine box_event ?hg (N := 10) ?hd (cs := #[.string (⟨#[]⟩ : ByteArray), .slice none 0 0, .slice none 0 0, .slice none 0 0, .slice none 0 0, .slice none 0 0, .slice none 0 0]) (t := 38) ?hr ?_; (case hd => rfl); (case hg => rfl); (case hr => first | (go_simp; done) | (go_simp; rfl)); intro gb621 hg w12 hbox hb; have n0_ := am (Kd.R_below (ua HO_8.out) hb); have n1_ := am (below_step (uc HB.out) hb); have n2_ := am (hbox); have n3_ := am ((by rw [hg]; exact (below_size (uc HB.out)) : w.heap.size ≤ gb621)); have n4_ := am ((by rw [hg]; exact (below_size (uc HB.out)) : w.heap.size ≤ gb621)); revert n0_ n1_ n2_ n3_ n4_; clear HO_8 HB; intro HO_8 HB BK621 GW621 GE621; clear hb hbox hg; obtain ⟨hcz13_0, hcz13_1, hcz13_2, hcz13_3, hcz13_4, hcz13_5, hcz13_6, hfz13_0, hfz13_1, hfz13_2, hfz13_3, hfz13_4, hfz13_5, hfz13_6⟩ := cells7 BK621.out) | ((with_reducible refine gate_store (t := 38) (p := 10) rfl ?_); (try (rw [drewN_self w12]; generalize hq_ : World.drewN w12 _ = w12; have n0_ := am (Kd.R_at hq_ HO_8.out); have n1_ := am (blk_at hq_ BK621.out); have n2_ := am (below_at hq_ HB.out); clear hq_ HO_8 BK621 HB; revert n0_ n1_ n2_; intro HO_8 BK621 HB)); refine store_event (t := 38) (p := 10) (v := ?vo_w14) (w1 := (((((((w12.setCell ⟨gb621, 0, none⟩ (.string ((rd_T38 l0 (rd x8_1 x9_1)).f0))).setCell ⟨gb621, 1, none⟩ (.slice A620_1 ((rd_T38 l0 (rd x8_1 x9_1)).f1).length c620_1)).setCell ⟨gb621, 2, none⟩ (.slice A620_2 ((rd_T38 l0 (rd x8_1 x9_1)).f2).length c620_2)).setCell ⟨gb621, 3, none⟩ (.slice A620_3 ((rd_T38 l0 (rd x8_1 x9_1)).f3).length c620_3)).setCell ⟨gb621, 4, none⟩ (.slice A620_4 ((rd_T38 l0 (rd x8_1 x9_1)).f4).length c620_4)).setCell ⟨gb621, 5, none⟩ (.slice A620_5 ((rd_T38 l0 (rd x8_1 x9_1)).f5).length c620_5)).setCell ⟨gb621, 6, none⟩ (.slice A620_6 ((rd_T38 l0 (rd x8_1 x9_1)).f6).length c620_6))) ?hg ?ho ?hn ?hr ?_; (case ho => rfl); (case hg => rfl); (case hn => rfl); (case hr => first | (go_simp; done) | (go_simp; rfl)); intro w14 hw; have n0_ : Aside0 (Kd.R (Kd.int .i64) 3 w14 w.heap.size (fun _ => True) (.slice (some ad619) x8_1.length co11) x8_1) := ⟨(by rw [hw]; exact (by (with_reducible repeat (first | apply Kd.R_alloc | apply Kd.R_drewN | apply Kd.R_drew)); exact Kd.R_mono (Kd.R_far (p := ⟨gb621, 6, none⟩) (Kd.R_far (p := ⟨gb621, 5, none⟩) (Kd.R_far (p := ⟨gb621, 4, none⟩) (Kd.R_far (p := ⟨gb621, 3, none⟩) (Kd.R_far (p := ⟨gb621, 2, none⟩) (Kd.R_far (p := ⟨gb621, 1, none⟩) (Kd.R_far (p := ⟨gb621, 0, none⟩) (Kd.R_types HO_8.out BK621.out (by decide)) (fun _ hk => hk.2) (.string ((rd_T38 l0 (rd x8_1 x9_1)).f0))) (fun _ hk => hk.2) (.slice A620_1 ((rd_T38 l0 (rd x8_1 x9_1)).f1).length c620_1)) (fun _ hk => hk.2) (.slice A620_2 ((rd_T38 l0 (rd x8_1 x9_1)).f2).length c620_2)) (fun _ hk => hk.2) (.slice A620_3 ((rd_T38 l0 (rd x8_1 x9_1)).f3).length c620_3)) (fun _ hk => hk.2) (.slice A620_4 ((rd_T38 l0 (rd x8_1 x9_1)).f4).length c620_4)) (fun _ hk => hk.2) (.slice A620_5 ((rd_T38 l0 (rd x8_1 x9_1)).f5).length c620_5)) (fun _ hk => hk.2) (.slice A620_6 ((rd_T38 l0 (rd x8_1 x9_1)).f6).length c620_6)) (fun _ hk => trivial)))⟩; have n1_ := bp7 #[.string ((rd_T38 l0 (rd x8_1 x9_1)).f0), .slice A620_1 ((rd_T38 l0 (rd x8_1 x9_1)).f1).length c620_1, .slice A620_2 ((rd_T38 l0 (rd x8_1 x9_1)).f2).length c620_2, .slice A620_3 ((rd_T38 l0 (rd x8_1 x9_1)).f3).length c620_3, .slice A620_4 ((rd_T38 l0 (rd x8_1 x9_1)).f4).length c620_4, .slice A620_5 ((rd_T38 l0 (rd x8_1 x9_1)).f5).length c620_5, .slice A620_6 ((rd_T38 l0 (rd x8_1 x9_1)).f6).length c620_6] hw BK621; have n2_ : Aside0 (Below w.heap.size w w14) := ⟨(by rw [hw]; exact (uc HB.out))⟩; revert n0_ n1_ n2_; clear hw HO_8 BK621 HB; intro HO_8 BK621 HB))
        repeat (go_quiet (first | ((with_reducible refine gate_dst (N := 10) rfl ?_); refine box_event ?hg (N := 10) ?hd (cs := #[.string (⟨#[]⟩ : ByteArray), .slice none 0 0, .slice none 0 0, .slice none 0 0, .slice none 0 0, .slice none 0 0, .slice none 0 0]) (t := 38) ?hr ?_; (case hd => rfl); (case hg => rfl); (case hr => first | (go_simp; done) | (go_simp; rfl)); intro gb621 hg w12 hbox hb; have n0_ := am (Kd.R_below (ua HO_8.out) hb); have n1_ := am (below_step (uc HB.out) hb); have n2_ := am (hbox); have n3_ := am ((by rw [hg]; exact (below_size (uc HB.out)) : w.heap.size ≤ gb621)); have n4_ := am ((by rw [hg]; exact (below_size (uc HB.out)) : w.heap.size ≤ gb621)); revert n0_ n1_ n2_ n3_ n4_; clear HO_8 HB; intro HO_8 HB BK621 GW621 GE621; clear hb hbox hg; obtain ⟨hcz13_0, hcz13_1, hcz13_2, hcz13_3, hcz13_4, hcz13_5, hcz13_6, hfz13_0, hfz13_1, hfz13_2, hfz13_3, hfz13_4, hfz13_5, hfz13_6⟩ := cells7 BK621.out) | ((with_reducible refine gate_store (t := 38) (p := 10) rfl ?_); (try (rw [drewN_self w12]; generalize hq_ : World.drewN w12 _ = w12; have n0_ := am (Kd.R_at hq_ HO_8.out); have n1_ := am (blk_at hq_ BK621.out); have n2_ := am (below_at hq_ HB.out); clear hq_ HO_8 BK621 HB; revert n0_ n1_ n2_; intro HO_8 BK621 HB)); refine store_event (t := 38) (p := 10) (v := ?vo_w14) (w1 := (((((((w12.setCell ⟨gb621, 0, none⟩ (.string ((rd_T38 l0 (rd x8_1 x9_1)).f0))).setCell ⟨gb621, 1, none⟩ (.slice A620_1 ((rd_T38 l0 (rd x8_1 x9_1)).f1).length c620_1)).setCell ⟨gb621, 2, none⟩ (.slice A620_2 ((rd_T38 l0 (rd x8_1 x9_1)).f2).length c620_2)).setCell ⟨gb621, 3, none⟩ (.slice A620_3 ((rd_T38 l0 (rd x8_1 x9_1)).f3).length c620_3)).setCell ⟨gb621, 4, none⟩ (.slice A620_4 ((rd_T38 l0 (rd x8_1 x9_1)).f4).length c620_4)).setCell ⟨gb621, 5, none⟩ (.slice A620_5 ((rd_T38 l0 (rd x8_1 x9_1)).f5).length c620_5)).setCell ⟨gb621, 6, none⟩ (.slice A620_6 ((rd_T38 l0 (rd x8_1 x9_1)).f6).length c620_6))) ?hg ?ho ?hn ?hr ?_; (case ho => rfl); (case hg => rfl); (case hn => rfl); (case hr => first | (go_simp; done) | (go_simp; rfl)); intro w14 hw; have n0_ : Aside0 (Kd.R (Kd.int .i64) 3 w14 w.heap.size (fun _ => True) (.slice (some ad619) x8_1.length co11) x8_1) := ⟨(by rw [hw]; exact (by (with_reducible repeat (first | apply Kd.R_alloc | apply Kd.R_drewN | apply Kd.R_drew)); exact Kd.R_mono (Kd.R_far (p := ⟨gb621, 6, none⟩) (Kd.R_far (p := ⟨gb621, 5, none⟩) (Kd.R_far (p := ⟨gb621, 4, none⟩) (Kd.R_far (p := ⟨gb621, 3, none⟩) (Kd.R_far (p := ⟨gb621, 2, none⟩) (Kd.R_far (p := ⟨gb621, 1, none⟩) (Kd.R_far (p := ⟨gb621, 0, none⟩) (Kd.R_types HO_8.out BK621.out (by decide)) (fun _ hk => hk.2) (.string ((rd_T38 l0 (rd x8_1 x9_1)).f0))) (fun _ hk => hk.2) (.slice A620_1 ((rd_T38 l0 (rd x8_1 x9_1)).f1).length c620_1)) (fun _ hk => hk.2) (.slice A620_2 ((rd_T38 l0 (rd x8_1 x9_1)).f2).length c620_2)) (fun _ hk => hk.2) (.slice A620_3 ((rd_T38 l0 (rd x8_1 x9_1)).f3).length c620_3)) (fun _ hk => hk.2) (.slice A620_4 ((rd_T38 l0 (rd x8_1 x9_1)).f4).length c620_4)) (fun _ hk => hk.2) (.slice A620_5 ((rd_T38 l0 (rd x8_1 x9_1)).f5).length c620_5)) (fun _ hk => hk.2) (.slice A620_6 ((rd_T38 l0 (rd x8_1 x9_1)).f6).length c620_6)) (fun _ hk => trivial)))⟩; have n1_ := bp7 #[.string ((rd_T38 l0 (rd x8_1 x9_1)).f0), .slice A620_1 ((rd_T38 l0 (rd x8_1 x9_1)).f1).length c620_1, .slice A620_2 ((rd_T38 l0 (rd x8_1 x9_1)).f2).length c620_2, .slice A620_3 ((rd_T38 l0 (rd x8_1 x9_1)).f3).length c620_3, .slice A620_4 ((rd_T38 l0 (rd x8_1 x9_1)).f4).length c620_4, .slice A620_5 ((rd_T38 l0 (rd x8_1 x9_1)).f5).length c620_5, .slice A620_6 ((rd_T38 l0 (rd x8_1 x9_1)).f6).length c620_6] hw BK621; have n2_ : Aside0 (Below w.heap.size w w14) := ⟨(by rw [hw]; exact (uc HB.out))⟩; revert n0_ n1_ n2_; clear hw HO_8 BK621 HB; intro HO_8 BK621 HB)); try go_wp2_with (first | ((with_reducible refine gate_dst (N := 10) rfl ?_); refine box_event ?hg (N := 10) ?hd (cs := #[.string (⟨#[]⟩ : ByteArray), .slice none 0 0, .slice none 0 0, .slice none 0 0, .slice none 0 0, .slice none 0 0, .slice none 0 0]) (t := 38) ?hr ?_; (case hd => rfl); (case hg => rfl); (case hr => first | (go_simp; done) | (go_simp; rfl)); intro gb621 hg w12 hbox hb; have n0_ := am (Kd.R_below (ua HO_8.out) hb); have n1_ := am (below_step (uc HB.out) hb); have n2_ := am (hbox); have n3_ := am ((by rw [hg]; exact (below_size (uc HB.out)) : w.heap.size ≤ gb621)); have n4_ := am ((by rw [hg]; exact (below_size (uc HB.out)) : w.heap.size ≤ gb621)); revert n0_ n1_ n2_ n3_ n4_; clear HO_8 HB; intro HO_8 HB BK621 GW621 GE621; clear hb hbox hg; obtain ⟨hcz13_0, hcz13_1, hcz13_2, hcz13_3, hcz13_4, hcz13_5, hcz13_6, hfz13_0, hfz13_1, hfz13_2, hfz13_3, hfz13_4, hfz13_5, hfz13_6⟩ := cells7 BK621.out) | ((with_reducible refine gate_store (t := 38) (p := 10) rfl ?_); (try (rw [drewN_self w12]; generalize hq_ : World.drewN w12 _ = w12; have n0_ := am (Kd.R_at hq_ HO_8.out); have n1_ := am (blk_at hq_ BK621.out); have n2_ := am (below_at hq_ HB.out); clear hq_ HO_8 BK621 HB; revert n0_ n1_ n2_; intro HO_8 BK621 HB)); refine store_event (t := 38) (p := 10) (v := ?vo_w14) (w1 := (((((((w12.setCell ⟨gb621, 0, none⟩ (.string ((rd_T38 l0 (rd x8_1 x9_1)).f0))).setCell ⟨gb621, 1, none⟩ (.slice A620_1 ((rd_T38 l0 (rd x8_1 x9_1)).f1).length c620_1)).setCell ⟨gb621, 2, none⟩ (.slice A620_2 ((rd_T38 l0 (rd x8_1 x9_1)).f2).length c620_2)).setCell ⟨gb621, 3, none⟩ (.slice A620_3 ((rd_T38 l0 (rd x8_1 x9_1)).f3).length c620_3)).setCell ⟨gb621, 4, none⟩ (.slice A620_4 ((rd_T38 l0 (rd x8_1 x9_1)).f4).length c620_4)).setCell ⟨gb621, 5, none⟩ (.slice A620_5 ((rd_T38 l0 (rd x8_1 x9_1)).f5).length c620_5)).setCell ⟨gb621, 6, none⟩ (.slice A620_6 ((rd_T38 l0 (rd x8_1 x9_1)).f6).length c620_6))) ?hg ?ho ?hn ?hr ?_; (case ho => rfl); (case hg => rfl); (case hn => rfl); (case hr => first | (go_simp; done) | (go_simp; rfl)); intro w14 hw; have n0_ : Aside0 (Kd.R (Kd.int .i64) 3 w14 w.heap.size (fun _ => True) (.slice (some ad619) x8_1.length co11) x8_1) := ⟨(by rw [hw]; exact (by (with_reducible repeat (first | apply Kd.R_alloc | apply Kd.R_drewN | apply Kd.R_drew)); exact Kd.R_mono (Kd.R_far (p := ⟨gb621, 6, none⟩) (Kd.R_far (p := ⟨gb621, 5, none⟩) (Kd.R_far (p := ⟨gb621, 4, none⟩) (Kd.R_far (p := ⟨gb621, 3, none⟩) (Kd.R_far (p := ⟨gb621, 2, none⟩) (Kd.R_far (p := ⟨gb621, 1, none⟩) (Kd.R_far (p := ⟨gb621, 0, none⟩) (Kd.R_types HO_8.out BK621.out (by decide)) (fun _ hk => hk.2) (.string ((rd_T38 l0 (rd x8_1 x9_1)).f0))) (fun _ hk => hk.2) (.slice A620_1 ((rd_T38 l0 (rd x8_1 x9_1)).f1).length c620_1)) (fun _ hk => hk.2) (.slice A620_2 ((rd_T38 l0 (rd x8_1 x9_1)).f2).length c620_2)) (fun _ hk => hk.2) (.slice A620_3 ((rd_T38 l0 (rd x8_1 x9_1)).f3).length c620_3)) (fun _ hk => hk.2) (.slice A620_4 ((rd_T38 l0 (rd x8_1 x9_1)).f4).length c620_4)) (fun _ hk => hk.2) (.slice A620_5 ((rd_T38 l0 (rd x8_1 x9_1)).f5).length c620_5)) (fun _ hk => hk.2) (.slice A620_6 ((rd_T38 l0 (rd x8_1 x9_1)).f6).length c620_6)) (fun _ hk => trivial)))⟩; have n1_ := bp7 #[.string ((rd_T38 l0 (rd x8_1 x9_1)).f0), .slice A620_1 ((rd_T38 l0 (rd x8_1 x9_1)).f1).length c620_1, .slice A620_2 ((rd_T38 l0 (rd x8_1 x9_1)).f2).length c620_2, .slice A620_3 ((rd_T38 l0 (rd x8_1 x9_1)).f3).length c620_3, .slice A620_4 ((rd_T38 l0 (rd x8_1 x9_1)).f4).length c620_4, .slice A620_5 ((rd_T38 l0 (rd x8_1 x9_1)).f5).length c620_5, .slice A620_6 ((rd_T38 l0 (rd x8_1 x9_1)).f6).length c620_6] hw BK621; have n2_ : Aside0 (Below w.heap.size w w14) := ⟨(by rw [hw]; exact (uc HB.out))⟩; revert n0_ n1_ n2_; clear hw HO_8 BK621 HB; intro HO_8 BK621 HB)))
        go_loopg [8, 11] k1 (fun kq v8 v11 w' => ∃ (x8_2 : List Int) (x11_2 : Int), v11 = .int .i64 x11_2 ∧ Aside0 (curtilageref13_Closure.l1 kq l0 x8_2 x9_1 x11_2 ((rd_T38 l0 (rd x8_1 x9_1)).f0) ((rd_T38 l0 (rd x8_1 x9_1)).f1) ((rd_T38 l0 (rd x8_1 x9_1)).f2) ((rd_T38 l0 (rd x8_1 x9_1)).f3) ((rd_T38 l0 (rd x8_1 x9_1)).f4) ((rd_T38 l0 (rd x8_1 x9_1)).f5) ((rd_T38 l0 (rd x8_1 x9_1)).f6) = some (r1, r2, r3)) ∧ Aside0 (kq ≤ k1) ∧ Aside0 (Kd.R (Kd.int .i64) 3 w' w.heap.size (fun _ => True) v8 x8_2) ∧ Aside0 (w'.heap[gb621]? = some (.cells #[.string ((rd_T38 l0 (rd x8_1 x9_1)).f0), (.slice A620_1 ((rd_T38 l0 (rd x8_1 x9_1)).f1).length c620_1), (.slice A620_2 ((rd_T38 l0 (rd x8_1 x9_1)).f2).length c620_2), (.slice A620_3 ((rd_T38 l0 (rd x8_1 x9_1)).f3).length c620_3), (.slice A620_4 ((rd_T38 l0 (rd x8_1 x9_1)).f4).length c620_4), (.slice A620_5 ((rd_T38 l0 (rd x8_1 x9_1)).f5).length c620_5), (.slice A620_6 ((rd_T38 l0 (rd x8_1 x9_1)).f6).length c620_6)] 38 (0, 0))) ∧ Aside0 (Below w.heap.size w w'))
        case atStart => exact ⟨(x8_1), (0), uf, H', ⟨Nat.le_refl _⟩, ⟨ua HO_8.out⟩, ⟨ub BK621.out⟩, ⟨uc HB.out⟩⟩
        case round =>
         clear H'
         try clear c1
         try clear p2
         try clear c3
         try clear c4
         try clear c4b0
         try clear c6
         try clear p6
         try clear q6
         try clear hx6
         try clear c7
         try clear c7b0
         try clear c8
         try clear c8b0
         try clear c9
         try clear c9b0
         try clear c10
         try clear c10b0
         try clear hcz13_0
         try clear hcz13_1
         try clear hcz13_2
         try clear hcz13_3
         try clear hcz13_4
         try clear hcz13_5
         try clear hcz13_6
         try clear hfz13_0
         try clear hfz13_1
         try clear hfz13_2
         try clear hfz13_3
         try clear hfz13_4
         try clear hfz13_5
         try clear hfz13_6
         try clear hx619_0
         try clear hx620_0
         try clear hx620_1
         try clear hx620_2
         try clear hx620_3
         try clear hx620_4
         try clear hx620_5
         try clear hx620_6
         try clear p2
         try clear p619
         try clear p620
         try clear q619
         try clear q620
         obtain ⟨x8_2, x11_2, rfl, HA, HK2, HO_8, BK621, HB⟩ := hrel
         cases gk with
         | zero => exact absurd HA.out (by simp [curtilageref13_Closure.l1])
         | succ k2 =>
          have H := HA.out
          clear HA
          simp only [curtilageref13_Closure.l1] at H
          by_cases c15 : x11_2 < (((rd_T38 l0 (rd x8_1 x9_1)).f1).length : Int)
          ·rw [if_pos c15] at H
           have c15b0 : decide (x11_2 < (((rd_T38 l0 (rd x8_1 x9_1)).f1).length : Int)) = true := decide_eq_true c15
           clear c15
           by_cases c16 : 0 ≤ x11_2
           ·rw [if_pos c16] at H
            have c16b0 : decide (0 ≤ x11_2) = true := decide_eq_true c16
            clear c16
            replace H := Option.bind_eq_some_iff.mp H
            obtain ⟨t623, A170, H⟩ := H
            replace H : (if t623 < 0 then (some (([] : List Int), rdOf ByteArray.empty ((rd_T38 l0 (rd x8_1 x9_1)).f1) x11_2, 130)) else ((curtilageref13_Has.f k2 x8_2 t623).bind fun t625 => (if t625 = true then (curtilageref13_Closure.l1 k2 l0 x8_2 x9_1 (wrap64 (x11_2 + 1)) ((rd_T38 l0 (rd x8_1 x9_1)).f0) ((rd_T38 l0 (rd x8_1 x9_1)).f1) ((rd_T38 l0 (rd x8_1 x9_1)).f2) ((rd_T38 l0 (rd x8_1 x9_1)).f3) ((rd_T38 l0 (rd x8_1 x9_1)).f4) ((rd_T38 l0 (rd x8_1 x9_1)).f5) ((rd_T38 l0 (rd x8_1 x9_1)).f6)) else (if x8_2.length < 17592186044416 then (curtilageref13_Closure.l1 k2 l0 (x8_2 ++ [t623]) x9_1 (wrap64 (x11_2 + 1)) ((rd_T38 l0 (rd x8_1 x9_1)).f0) ((rd_T38 l0 (rd x8_1 x9_1)).f1) ((rd_T38 l0 (rd x8_1 x9_1)).f2) ((rd_T38 l0 (rd x8_1 x9_1)).f3) ((rd_T38 l0 (rd x8_1 x9_1)).f4) ((rd_T38 l0 (rd x8_1 x9_1)).f5) ((rd_T38 l0 (rd x8_1 x9_1)).f6)) else (none))))) = some (r1, r2, r3) := H
            have A17 := am A170
            clear A170
            by_cases c18 : t623 < 0
            ·rw [if_pos c18] at H
             have c18b0 : decide (t623 < 0) = true := decide_eq_true c18
             clear c18
             simp only [Option.some.injEq, Prod.mk.injEq] at H
             obtain ⟨rfl, rfl, rfl⟩ := H
             have hcz19_0 : wr.cell? ⟨gb621, 0, none⟩ = some (.string ((rd_T38 l0 (rd x8_1 x9_1)).f0)) := (blk_cell BK621.out 0).trans rfl
             have hcz19_1 : wr.cell? ⟨gb621, 1, none⟩ = some (.slice A620_1 ((rd_T38 l0 (rd x8_1 x9_1)).f1).length c620_1) := (blk_cell BK621.out 1).trans rfl
             have hcz19_2 : wr.cell? ⟨gb621, 2, none⟩ = some (.slice A620_2 ((rd_T38 l0 (rd x8_1 x9_1)).f2).length c620_2) := (blk_cell BK621.out 2).trans rfl
             have hcz19_3 : wr.cell? ⟨gb621, 3, none⟩ = some (.slice A620_3 ((rd_T38 l0 (rd x8_1 x9_1)).f3).length c620_3) := (blk_cell BK621.out 3).trans rfl
             have hcz19_4 : wr.cell? ⟨gb621, 4, none⟩ = some (.slice A620_4 ((rd_T38 l0 (rd x8_1 x9_1)).f4).length c620_4) := (blk_cell BK621.out 4).trans rfl
             have hcz19_5 : wr.cell? ⟨gb621, 5, none⟩ = some (.slice A620_5 ((rd_T38 l0 (rd x8_1 x9_1)).f5).length c620_5) := (blk_cell BK621.out 5).trans rfl
             have hcz19_6 : wr.cell? ⟨gb621, 6, none⟩ = some (.slice A620_6 ((rd_T38 l0 (rd x8_1 x9_1)).f6).length c620_6) := (blk_cell BK621.out 6).trans rfl
             have hfz19_0 := blk_frozen BK621.out 0
             have hfz19_1 := blk_frozen BK621.out 1
             have hfz19_2 := blk_frozen BK621.out 2
             have hfz19_3 := blk_frozen BK621.out 3
             have hfz19_4 := blk_frozen BK621.out 4
             have hfz19_5 := blk_frozen BK621.out 5
             have hfz19_6 := blk_frozen BK621.out 6
             have p622 : 0 ≤ (x11_2 : Int) := ud
             have q622 : x11_2 < (((rd_T38 l0 (rd x8_1 x9_1)).f1).length : Int) := ud
             obtain ⟨ad622, e622, hx622_0⟩ := Kd.at_string HR620_1.out x11_2 p622 q622
             cases e622
             replace hx622_0 := bcel HB hx622_0
             replace p622 := eq_true p622
             replace q622 := eq_true q622
             go_wp2_with (first | (go_at_call 21; (with_reducible refine (curtilageref13_Find.calls k2 _ _ l0 (rdOf ByteArray.empty ((rd_T38 l0 (rd x8_1 x9_1)).f1) x11_2) t623 _ ?side1 ?side2 A17.out).mono ?_); (case side1 => exact us (Kd.C_below HR0.out HB.out)); (case side2 => exact HC0.out); rintro e w' ⟨rfl, ⟨nd, rfl⟩⟩; (try first | exact ⟨rfl, _, World.drewN_drewN _ _ _⟩ | exact ⟨rfl, _, Eq.trans (World.drewN_drewN _ _ _) (congrArg (World.drewN _) (Nat.add_assoc _ _ _))⟩); have p624 : 0 ≤ (x11_2 : Int) := ud; have q624 : x11_2 < (((rd_T38 l0 (rd x8_1 x9_1)).f1).length : Int) := ud; obtain ⟨ad624, e624, hx624_0⟩ := Kd.at_string HR620_1.out x11_2 p624 q624; obtain rfl : ad622 = ad624 := (by injection e624); replace hx624_0 := bcel HB hx624_0; replace p624 := eq_true p624; replace q624 := eq_true q624))
             repeat (go_quiet (first | (go_at_call 21; (with_reducible refine (curtilageref13_Find.calls k2 _ _ l0 (rdOf ByteArray.empty ((rd_T38 l0 (rd x8_1 x9_1)).f1) x11_2) t623 _ ?side1 ?side2 A17.out).mono ?_); (case side1 => exact us (Kd.C_below HR0.out HB.out)); (case side2 => exact HC0.out); rintro e w' ⟨rfl, ⟨nd, rfl⟩⟩; (try first | exact ⟨rfl, _, World.drewN_drewN _ _ _⟩ | exact ⟨rfl, _, Eq.trans (World.drewN_drewN _ _ _) (congrArg (World.drewN _) (Nat.add_assoc _ _ _))⟩); have p624 : 0 ≤ (x11_2 : Int) := ud; have q624 : x11_2 < (((rd_T38 l0 (rd x8_1 x9_1)).f1).length : Int) := ud; obtain ⟨ad624, e624, hx624_0⟩ := Kd.at_string HR620_1.out x11_2 p624 q624; obtain rfl : ad622 = ad624 := (by injection e624); replace hx624_0 := bcel HB hx624_0; replace p624 := eq_true p624; replace q624 := eq_true q624)); try go_wp2_with (first | (go_at_call 21; (with_reducible refine (curtilageref13_Find.calls k2 _ _ l0 (rdOf ByteArray.empty ((rd_T38 l0 (rd x8_1 x9_1)).f1) x11_2) t623 _ ?side1 ?side2 A17.out).mono ?_); (case side1 => exact us (Kd.C_below HR0.out HB.out)); (case side2 => exact HC0.out); rintro e w' ⟨rfl, ⟨nd, rfl⟩⟩; (try first | exact ⟨rfl, _, World.drewN_drewN _ _ _⟩ | exact ⟨rfl, _, Eq.trans (World.drewN_drewN _ _ _) (congrArg (World.drewN _) (Nat.add_assoc _ _ _))⟩); have p624 : 0 ≤ (x11_2 : Int) := ud; have q624 : x11_2 < (((rd_T38 l0 (rd x8_1 x9_1)).f1).length : Int) := ud; obtain ⟨ad624, e624, hx624_0⟩ := Kd.at_string HR620_1.out x11_2 p624 q624; obtain rfl : ad622 = ad624 := (by injection e624); replace hx624_0 := bcel HB hx624_0; replace p624 := eq_true p624; replace q624 := eq_true q624)))
             go_ret3
             exact ⟨_, by first | rfl | (simp [errW_none, errW_some] <;> rfl) | (simp [*, errW_none, errW_some] <;> rfl), by first | exact Kd.R_nil _ _ _ _ _ | exact Kd.N_nil _ _ _ _ _ | exact Kd.V_nil _ _ _ _ _ | exact Kd.Q_nil _ _ _ _ _ | exact Kd.S_nil _ _ _ _ _, uc HB.out⟩
            ·rw [if_neg c18] at H
             have c18b0 : decide (t623 < 0) = false := decide_eq_false c18
             clear c18
             replace H := Option.bind_eq_some_iff.mp H
             obtain ⟨t625, A200, H⟩ := H
             replace H : (if t625 = true then (curtilageref13_Closure.l1 k2 l0 x8_2 x9_1 (wrap64 (x11_2 + 1)) ((rd_T38 l0 (rd x8_1 x9_1)).f0) ((rd_T38 l0 (rd x8_1 x9_1)).f1) ((rd_T38 l0 (rd x8_1 x9_1)).f2) ((rd_T38 l0 (rd x8_1 x9_1)).f3) ((rd_T38 l0 (rd x8_1 x9_1)).f4) ((rd_T38 l0 (rd x8_1 x9_1)).f5) ((rd_T38 l0 (rd x8_1 x9_1)).f6)) else (if x8_2.length < 17592186044416 then (curtilageref13_Closure.l1 k2 l0 (x8_2 ++ [t623]) x9_1 (wrap64 (x11_2 + 1)) ((rd_T38 l0 (rd x8_1 x9_1)).f0) ((rd_T38 l0 (rd x8_1 x9_1)).f1) ((rd_T38 l0 (rd x8_1 x9_1)).f2) ((rd_T38 l0 (rd x8_1 x9_1)).f3) ((rd_T38 l0 (rd x8_1 x9_1)).f4) ((rd_T38 l0 (rd x8_1 x9_1)).f5) ((rd_T38 l0 (rd x8_1 x9_1)).f6)) else (none))) = some (r1, r2, r3) := H
             have A20 := am A200
             clear A200
             by_cases c21 : t625 = true
             ·subst c21
              have H1 : (curtilageref13_Closure.l1 k2 l0 x8_2 x9_1 (wrap64 (x11_2 + 1)) ((rd_T38 l0 (rd x8_1 x9_1)).f0) ((rd_T38 l0 (rd x8_1 x9_1)).f1) ((rd_T38 l0 (rd x8_1 x9_1)).f2) ((rd_T38 l0 (rd x8_1 x9_1)).f3) ((rd_T38 l0 (rd x8_1 x9_1)).f4) ((rd_T38 l0 (rd x8_1 x9_1)).f5) ((rd_T38 l0 (rd x8_1 x9_1)).f6)) = some (r1, r2, r3) := by rw [if_pos rfl] at H; exact H
              clear H
              have H := H1
              clear H1
              have H' := am H
              clear H
              have hcz22_0 : wr.cell? ⟨gb621, 0, none⟩ = some (.string ((rd_T38 l0 (rd x8_1 x9_1)).f0)) := (blk_cell BK621.out 0).trans rfl
              have hcz22_1 : wr.cell? ⟨gb621, 1, none⟩ = some (.slice A620_1 ((rd_T38 l0 (rd x8_1 x9_1)).f1).length c620_1) := (blk_cell BK621.out 1).trans rfl
              have hcz22_2 : wr.cell? ⟨gb621, 2, none⟩ = some (.slice A620_2 ((rd_T38 l0 (rd x8_1 x9_1)).f2).length c620_2) := (blk_cell BK621.out 2).trans rfl
              have hcz22_3 : wr.cell? ⟨gb621, 3, none⟩ = some (.slice A620_3 ((rd_T38 l0 (rd x8_1 x9_1)).f3).length c620_3) := (blk_cell BK621.out 3).trans rfl
              have hcz22_4 : wr.cell? ⟨gb621, 4, none⟩ = some (.slice A620_4 ((rd_T38 l0 (rd x8_1 x9_1)).f4).length c620_4) := (blk_cell BK621.out 4).trans rfl
              have hcz22_5 : wr.cell? ⟨gb621, 5, none⟩ = some (.slice A620_5 ((rd_T38 l0 (rd x8_1 x9_1)).f5).length c620_5) := (blk_cell BK621.out 5).trans rfl
              have hcz22_6 : wr.cell? ⟨gb621, 6, none⟩ = some (.slice A620_6 ((rd_T38 l0 (rd x8_1 x9_1)).f6).length c620_6) := (blk_cell BK621.out 6).trans rfl
              have hfz22_0 := blk_frozen BK621.out 0
              have hfz22_1 := blk_frozen BK621.out 1
              have hfz22_2 := blk_frozen BK621.out 2
              have hfz22_3 := blk_frozen BK621.out 3
              have hfz22_4 := blk_frozen BK621.out 4
              have hfz22_5 := blk_frozen BK621.out 5
              have hfz22_6 := blk_frozen BK621.out 6
              have p622 : 0 ≤ (x11_2 : Int) := ud
              have q622 : x11_2 < (((rd_T38 l0 (rd x8_1 x9_1)).f1).length : Int) := ud
              obtain ⟨ad622, e622, hx622_0⟩ := Kd.at_string HR620_1.out x11_2 p622 q622
              cases e622
              replace hx622_0 := bcel HB hx622_0
              replace p622 := eq_true p622
              replace q622 := eq_true q622
              go_wp2_with (first | (go_at_call 21; (with_reducible refine (curtilageref13_Find.calls k2 _ _ l0 (rdOf ByteArray.empty ((rd_T38 l0 (rd x8_1 x9_1)).f1) x11_2) t623 _ ?side1 ?side2 A17.out).mono ?_); (case side1 => exact us (Kd.C_below HR0.out HB.out)); (case side2 => exact HC0.out); rintro e w' ⟨rfl, ⟨nd, rfl⟩⟩; (try first | exact ⟨rfl, _, World.drewN_drewN _ _ _⟩ | exact ⟨rfl, _, Eq.trans (World.drewN_drewN _ _ _) (congrArg (World.drewN _) (Nat.add_assoc _ _ _))⟩); obtain ⟨Ao23, co23, eo23⟩ := Kd.R_slice HO_8.out; subst eo23) | (go_at_call 13; (with_reducible refine (curtilageref13_Has.calls k2 _ _ x8_2 t623 true _ ?side1 ?side2 A20.out).mono ?_); (case side1 => exact us (Kd.R_reads' HO_8.out).2.2); (case side2 => exact (Kd.R_reads' HO_8.out).2.1); rintro e w' ⟨rfl, ⟨nd, rfl⟩⟩; (try first | exact ⟨rfl, _, World.drewN_drewN _ _ _⟩ | exact ⟨rfl, _, Eq.trans (World.drewN_drewN _ _ _) (congrArg (World.drewN _) (Nat.add_assoc _ _ _))⟩)))
              repeat (go_quiet (first | (go_at_call 21; (with_reducible refine (curtilageref13_Find.calls k2 _ _ l0 (rdOf ByteArray.empty ((rd_T38 l0 (rd x8_1 x9_1)).f1) x11_2) t623 _ ?side1 ?side2 A17.out).mono ?_); (case side1 => exact us (Kd.C_below HR0.out HB.out)); (case side2 => exact HC0.out); rintro e w' ⟨rfl, ⟨nd, rfl⟩⟩; (try first | exact ⟨rfl, _, World.drewN_drewN _ _ _⟩ | exact ⟨rfl, _, Eq.trans (World.drewN_drewN _ _ _) (congrArg (World.drewN _) (Nat.add_assoc _ _ _))⟩); obtain ⟨Ao23, co23, eo23⟩ := Kd.R_slice HO_8.out; subst eo23) | (go_at_call 13; (with_reducible refine (curtilageref13_Has.calls k2 _ _ x8_2 t623 true _ ?side1 ?side2 A20.out).mono ?_); (case side1 => exact us (Kd.R_reads' HO_8.out).2.2); (case side2 => exact (Kd.R_reads' HO_8.out).2.1); rintro e w' ⟨rfl, ⟨nd, rfl⟩⟩; (try first | exact ⟨rfl, _, World.drewN_drewN _ _ _⟩ | exact ⟨rfl, _, Eq.trans (World.drewN_drewN _ _ _) (congrArg (World.drewN _) (Nat.add_assoc _ _ _))⟩))); try go_wp2_with (first | (go_at_call 21; (with_reducible refine (curtilageref13_Find.calls k2 _ _ l0 (rdOf ByteArray.empty ((rd_T38 l0 (rd x8_1 x9_1)).f1) x11_2) t623 _ ?side1 ?side2 A17.out).mono ?_); (case side1 => exact us (Kd.C_below HR0.out HB.out)); (case side2 => exact HC0.out); rintro e w' ⟨rfl, ⟨nd, rfl⟩⟩; (try first | exact ⟨rfl, _, World.drewN_drewN _ _ _⟩ | exact ⟨rfl, _, Eq.trans (World.drewN_drewN _ _ _) (congrArg (World.drewN _) (Nat.add_assoc _ _ _))⟩); obtain ⟨Ao23, co23, eo23⟩ := Kd.R_slice HO_8.out; subst eo23) | (go_at_call 13; (with_reducible refine (curtilageref13_Has.calls k2 _ _ x8_2 t623 true _ ?side1 ?side2 A20.out).mono ?_); (case side1 => exact us (Kd.R_reads' HO_8.out).2.2); (case side2 => exact (Kd.R_reads' HO_8.out).2.1); rintro e w' ⟨rfl, ⟨nd, rfl⟩⟩; (try first | exact ⟨rfl, _, World.drewN_drewN _ _ _⟩ | exact ⟨rfl, _, Eq.trans (World.drewN_drewN _ _ _) (congrArg (World.drewN _) (Nat.add_assoc _ _ _))⟩))))
              go_roundg k2
              case measure => have := HK1.out; have := HK2.out; omega
              case rel => exact ⟨(x8_2), (wrap64 (x11_2 + 1)), uf, H', ⟨by have := HK1.out; have := HK2.out; omega⟩, ⟨ua HO_8.out⟩, ⟨ub BK621.out⟩, ⟨uc HB.out⟩⟩
             ·replace c21 := Bool.eq_false_iff.mpr c21
              subst c21
              have H1 : (if x8_2.length < 17592186044416 then (curtilageref13_Closure.l1 k2 l0 (x8_2 ++ [t623]) x9_1 (wrap64 (x11_2 + 1)) ((rd_T38 l0 (rd x8_1 x9_1)).f0) ((rd_T38 l0 (rd x8_1 x9_1)).f1) ((rd_T38 l0 (rd x8_1 x9_1)).f2) ((rd_T38 l0 (rd x8_1 x9_1)).f3) ((rd_T38 l0 (rd x8_1 x9_1)).f4) ((rd_T38 l0 (rd x8_1 x9_1)).f5) ((rd_T38 l0 (rd x8_1 x9_1)).f6)) else (none)) = some (r1, r2, r3) := by rw [if_neg (show ¬ (false = true) by decide)] at H; exact H
              clear H
              have H := H1
              clear H1
              by_cases c24 : x8_2.length < 17592186044416
              ·rw [if_pos c24] at H
               have LMc24 := am c24
               clear c24
               obtain ⟨y626, hy626⟩ : ∃ y_ : List Int, y_ = (x8_2 ++ [t623]) := ⟨_, rfl⟩
               replace H : (curtilageref13_Closure.l1 k2 l0 y626 x9_1 (wrap64 (x11_2 + 1)) ((rd_T38 l0 (rd x8_1 x9_1)).f0) ((rd_T38 l0 (rd x8_1 x9_1)).f1) ((rd_T38 l0 (rd x8_1 x9_1)).f2) ((rd_T38 l0 (rd x8_1 x9_1)).f3) ((rd_T38 l0 (rd x8_1 x9_1)).f4) ((rd_T38 l0 (rd x8_1 x9_1)).f5) ((rd_T38 l0 (rd x8_1 x9_1)).f6)) = some (r1, r2, r3) := by first | (rw [hy626]; with_reducible exact H) | (have H2_ := (Option.bind_some _ _).symm.trans H; rw [hy626]; with_reducible exact H2_) | (have H2_ := (Option.bind_some _ _).symm.trans H; with_reducible exact H2_) | with_reducible exact H | (rw [hy626]; exact H) | exact H
               have Ny626 := am hy626
               clear hy626
               have H' := am H
               clear H
               have hcz25_0 : wr.cell? ⟨gb621, 0, none⟩ = some (.string ((rd_T38 l0 (rd x8_1 x9_1)).f0)) := (blk_cell BK621.out 0).trans rfl
               have hcz25_1 : wr.cell? ⟨gb621, 1, none⟩ = some (.slice A620_1 ((rd_T38 l0 (rd x8_1 x9_1)).f1).length c620_1) := (blk_cell BK621.out 1).trans rfl
               have hcz25_2 : wr.cell? ⟨gb621, 2, none⟩ = some (.slice A620_2 ((rd_T38 l0 (rd x8_1 x9_1)).f2).length c620_2) := (blk_cell BK621.out 2).trans rfl
               have hcz25_3 : wr.cell? ⟨gb621, 3, none⟩ = some (.slice A620_3 ((rd_T38 l0 (rd x8_1 x9_1)).f3).length c620_3) := (blk_cell BK621.out 3).trans rfl
               have hcz25_4 : wr.cell? ⟨gb621, 4, none⟩ = some (.slice A620_4 ((rd_T38 l0 (rd x8_1 x9_1)).f4).length c620_4) := (blk_cell BK621.out 4).trans rfl
               have hcz25_5 : wr.cell? ⟨gb621, 5, none⟩ = some (.slice A620_5 ((rd_T38 l0 (rd x8_1 x9_1)).f5).length c620_5) := (blk_cell BK621.out 5).trans rfl
               have hcz25_6 : wr.cell? ⟨gb621, 6, none⟩ = some (.slice A620_6 ((rd_T38 l0 (rd x8_1 x9_1)).f6).length c620_6) := (blk_cell BK621.out 6).trans rfl
               have hfz25_0 := blk_frozen BK621.out 0
               have hfz25_1 := blk_frozen BK621.out 1
               have hfz25_2 := blk_frozen BK621.out 2
               have hfz25_3 := blk_frozen BK621.out 3
               have hfz25_4 := blk_frozen BK621.out 4
               have hfz25_5 := blk_frozen BK621.out 5
               have hfz25_6 := blk_frozen BK621.out 6
               have p622 : 0 ≤ (x11_2 : Int) := ud
               have q622 : x11_2 < (((rd_T38 l0 (rd x8_1 x9_1)).f1).length : Int) := ud
               obtain ⟨ad622, e622, hx622_0⟩ := Kd.at_string HR620_1.out x11_2 p622 q622
               cases e622
               replace hx622_0 := bcel HB hx622_0
               replace p622 := eq_true p622
               replace q622 := eq_true q622
               go_wp2_with (first | (go_at_call 21; (with_reducible refine (curtilageref13_Find.calls k2 _ _ l0 (rdOf ByteArray.empty ((rd_T38 l0 (rd x8_1 x9_1)).f1) x11_2) t623 _ ?side1 ?side2 A17.out).mono ?_); (case side1 => exact us (Kd.C_below HR0.out HB.out)); (case side2 => exact HC0.out); rintro e w' ⟨rfl, ⟨nd, rfl⟩⟩; (try first | exact ⟨rfl, _, World.drewN_drewN _ _ _⟩ | exact ⟨rfl, _, Eq.trans (World.drewN_drewN _ _ _) (congrArg (World.drewN _) (Nat.add_assoc _ _ _))⟩); obtain ⟨Ao26, co26, eo26⟩ := Kd.R_slice HO_8.out; subst eo26) | (go_at_call 13; (with_reducible refine (curtilageref13_Has.calls k2 _ _ x8_2 t623 false _ ?side1 ?side2 A20.out).mono ?_); (case side1 => exact us (Kd.R_reads' HO_8.out).2.2); (case side2 => exact (Kd.R_reads' HO_8.out).2.1); rintro e w' ⟨rfl, ⟨nd, rfl⟩⟩; (try first | exact ⟨rfl, _, World.drewN_drewN _ _ _⟩ | exact ⟨rfl, _, Eq.trans (World.drewN_drewN _ _ _) (congrArg (World.drewN _) (Nat.add_assoc _ _ _))⟩)) | ((with_reducible refine gate_builtin (b := .append) (xs := #[.tmp 61, .tmp 63]) rfl ?_); at_builtin; refine Kd.R_append (Kd.int .i64) (w0 := w) w.heap.size rfl (.tmp 61) (.tmp 63) 26 3 (.int .i64 0) 8 rfl Try.underlying26 info3 rfl (by decide) (by omega) (.slice Ao26 x8_2.length co26) x8_2 t623 [.int .i64 t623] (fun _ => True) (fun _ => False) rfl rfl ?aP (fun _ hk => hk.elim) ?aF ?aO ?aB ?aS ?aL ?_; (case aP => exact rfl); (case aB => exact (uc HB.out)); (case aF => exact (fun _ _ => trivial)); (case aO => exact (ua HO_8.out)); (case aS => exact (below_size (uc HB.out))); (case aL => have := LMc24.out; omega); intro v627 w27 ho hb hg hat; rw [← Ny626.out] at ho; have n0_ := am (blk_grown (g := gb621) (o := .cells #[.string ((rd_T38 l0 (rd x8_1 x9_1)).f0), .slice (some ad622) ((rd_T38 l0 (rd x8_1 x9_1)).f1).length c620_1, .slice A620_2 ((rd_T38 l0 (rd x8_1 x9_1)).f2).length c620_2, .slice A620_3 ((rd_T38 l0 (rd x8_1 x9_1)).f3).length c620_3, .slice A620_4 ((rd_T38 l0 (rd x8_1 x9_1)).f4).length c620_4, .slice A620_5 ((rd_T38 l0 (rd x8_1 x9_1)).f5).length c620_5, .slice A620_6 ((rd_T38 l0 (rd x8_1 x9_1)).f6).length c620_6] 38 (0, 0)) (ub BK621.out) hg (Kd.R_ne HO_8.out BK621.out (by decide))); have n1_ := am (hb); have n2_ := am (ho); revert n0_ n1_ n2_; clear BK621 HB HO_8; intro BK621 HB HO628; clear ho hb hg hat))
               repeat (go_quiet (first | (go_at_call 21; (with_reducible refine (curtilageref13_Find.calls k2 _ _ l0 (rdOf ByteArray.empty ((rd_T38 l0 (rd x8_1 x9_1)).f1) x11_2) t623 _ ?side1 ?side2 A17.out).mono ?_); (case side1 => exact us (Kd.C_below HR0.out HB.out)); (case side2 => exact HC0.out); rintro e w' ⟨rfl, ⟨nd, rfl⟩⟩; (try first | exact ⟨rfl, _, World.drewN_drewN _ _ _⟩ | exact ⟨rfl, _, Eq.trans (World.drewN_drewN _ _ _) (congrArg (World.drewN _) (Nat.add_assoc _ _ _))⟩); obtain ⟨Ao26, co26, eo26⟩ := Kd.R_slice HO_8.out; subst eo26) | (go_at_call 13; (with_reducible refine (curtilageref13_Has.calls k2 _ _ x8_2 t623 false _ ?side1 ?side2 A20.out).mono ?_); (case side1 => exact us (Kd.R_reads' HO_8.out).2.2); (case side2 => exact (Kd.R_reads' HO_8.out).2.1); rintro e w' ⟨rfl, ⟨nd, rfl⟩⟩; (try first | exact ⟨rfl, _, World.drewN_drewN _ _ _⟩ | exact ⟨rfl, _, Eq.trans (World.drewN_drewN _ _ _) (congrArg (World.drewN _) (Nat.add_assoc _ _ _))⟩)) | ((with_reducible refine gate_builtin (b := .append) (xs := #[.tmp 61, .tmp 63]) rfl ?_); at_builtin; refine Kd.R_append (Kd.int .i64) (w0 := w) w.heap.size rfl (.tmp 61) (.tmp 63) 26 3 (.int .i64 0) 8 rfl Try.underlying26 info3 rfl (by decide) (by omega) (.slice Ao26 x8_2.length co26) x8_2 t623 [.int .i64 t623] (fun _ => True) (fun _ => False) rfl rfl ?aP (fun _ hk => hk.elim) ?aF ?aO ?aB ?aS ?aL ?_; (case aP => exact rfl); (case aB => exact (uc HB.out)); (case aF => exact (fun _ _ => trivial)); (case aO => exact (ua HO_8.out)); (case aS => exact (below_size (uc HB.out))); (case aL => have := LMc24.out; omega); intro v627 w27 ho hb hg hat; rw [← Ny626.out] at ho; have n0_ := am (blk_grown (g := gb621) (o := .cells #[.string ((rd_T38 l0 (rd x8_1 x9_1)).f0), .slice (some ad622) ((rd_T38 l0 (rd x8_1 x9_1)).f1).length c620_1, .slice A620_2 ((rd_T38 l0 (rd x8_1 x9_1)).f2).length c620_2, .slice A620_3 ((rd_T38 l0 (rd x8_1 x9_1)).f3).length c620_3, .slice A620_4 ((rd_T38 l0 (rd x8_1 x9_1)).f4).length c620_4, .slice A620_5 ((rd_T38 l0 (rd x8_1 x9_1)).f5).length c620_5, .slice A620_6 ((rd_T38 l0 (rd x8_1 x9_1)).f6).length c620_6] 38 (0, 0)) (ub BK621.out) hg (Kd.R_ne HO_8.out BK621.out (by decide))); have n1_ := am (hb); have n2_ := am (ho); revert n0_ n1_ n2_; clear BK621 HB HO_8; intro BK621 HB HO628; clear ho hb hg hat)); try go_wp2_with (first | (go_at_call 21; (with_reducible refine (curtilageref13_Find.calls k2 _ _ l0 (rdOf ByteArray.empty ((rd_T38 l0 (rd x8_1 x9_1)).f1) x11_2) t623 _ ?side1 ?side2 A17.out).mono ?_); (case side1 => exact us (Kd.C_below HR0.out HB.out)); (case side2 => exact HC0.out); rintro e w' ⟨rfl, ⟨nd, rfl⟩⟩; (try first | exact ⟨rfl, _, World.drewN_drewN _ _ _⟩ | exact ⟨rfl, _, Eq.trans (World.drewN_drewN _ _ _) (congrArg (World.drewN _) (Nat.add_assoc _ _ _))⟩); obtain ⟨Ao26, co26, eo26⟩ := Kd.R_slice HO_8.out; subst eo26) | (go_at_call 13; (with_reducible refine (curtilageref13_Has.calls k2 _ _ x8_2 t623 false _ ?side1 ?side2 A20.out).mono ?_); (case side1 => exact us (Kd.R_reads' HO_8.out).2.2); (case side2 => exact (Kd.R_reads' HO_8.out).2.1); rintro e w' ⟨rfl, ⟨nd, rfl⟩⟩; (try first | exact ⟨rfl, _, World.drewN_drewN _ _ _⟩ | exact ⟨rfl, _, Eq.trans (World.drewN_drewN _ _ _) (congrArg (World.drewN _) (Nat.add_assoc _ _ _))⟩)) | ((with_reducible refine gate_builtin (b := .append) (xs := #[.tmp 61, .tmp 63]) rfl ?_); at_builtin; refine Kd.R_append (Kd.int .i64) (w0 := w) w.heap.size rfl (.tmp 61) (.tmp 63) 26 3 (.int .i64 0) 8 rfl Try.underlying26 info3 rfl (by decide) (by omega) (.slice Ao26 x8_2.length co26) x8_2 t623 [.int .i64 t623] (fun _ => True) (fun _ => False) rfl rfl ?aP (fun _ hk => hk.elim) ?aF ?aO ?aB ?aS ?aL ?_; (case aP => exact rfl); (case aB => exact (uc HB.out)); (case aF => exact (fun _ _ => trivial)); (case aO => exact (ua HO_8.out)); (case aS => exact (below_size (uc HB.out))); (case aL => have := LMc24.out; omega); intro v627 w27 ho hb hg hat; rw [← Ny626.out] at ho; have n0_ := am (blk_grown (g := gb621) (o := .cells #[.string ((rd_T38 l0 (rd x8_1 x9_1)).f0), .slice (some ad622) ((rd_T38 l0 (rd x8_1 x9_1)).f1).length c620_1, .slice A620_2 ((rd_T38 l0 (rd x8_1 x9_1)).f2).length c620_2, .slice A620_3 ((rd_T38 l0 (rd x8_1 x9_1)).f3).length c620_3, .slice A620_4 ((rd_T38 l0 (rd x8_1 x9_1)).f4).length c620_4, .slice A620_5 ((rd_T38 l0 (rd x8_1 x9_1)).f5).length c620_5, .slice A620_6 ((rd_T38 l0 (rd x8_1 x9_1)).f6).length c620_6] 38 (0, 0)) (ub BK621.out) hg (Kd.R_ne HO_8.out BK621.out (by decide))); have n1_ := am (hb); have n2_ := am (ho); revert n0_ n1_ n2_; clear BK621 HB HO_8; intro BK621 HB HO628; clear ho hb hg hat)))
               go_roundg k2
               case measure => have := HK1.out; have := HK2.out; omega
               case rel => exact ⟨(y626), (wrap64 (x11_2 + 1)), uf, H', ⟨by have := HK1.out; have := HK2.out; omega⟩, ⟨ua HO628.out⟩, ⟨ub BK621.out⟩, ⟨uc HB.out⟩⟩
              ·rw [if_neg c24] at H
               exact absurd H (by simp)
           ·rw [if_neg c16] at H
            exact absurd H (by simp)
          ·rw [if_neg c15] at H
           have c15b0 : decide (x11_2 < (((rd_T38 l0 (rd x8_1 x9_1)).f1).length : Int)) = false := decide_eq_false c15
           clear c15
           have H' := am H
           clear H
           have hcz28_0 : wr.cell? ⟨gb621, 0, none⟩ = some (.string ((rd_T38 l0 (rd x8_1 x9_1)).f0)) := (blk_cell BK621.out 0).trans rfl
           have hcz28_1 : wr.cell? ⟨gb621, 1, none⟩ = some (.slice A620_1 ((rd_T38 l0 (rd x8_1 x9_1)).f1).length c620_1) := (blk_cell BK621.out 1).trans rfl
           have hcz28_2 : wr.cell? ⟨gb621, 2, none⟩ = some (.slice A620_2 ((rd_T38 l0 (rd x8_1 x9_1)).f2).length c620_2) := (blk_cell BK621.out 2).trans rfl
           have hcz28_3 : wr.cell? ⟨gb621, 3, none⟩ = some (.slice A620_3 ((rd_T38 l0 (rd x8_1 x9_1)).f3).length c620_3) := (blk_cell BK621.out 3).trans rfl
           have hcz28_4 : wr.cell? ⟨gb621, 4, none⟩ = some (.slice A620_4 ((rd_T38 l0 (rd x8_1 x9_1)).f4).length c620_4) := (blk_cell BK621.out 4).trans rfl
           have hcz28_5 : wr.cell? ⟨gb621, 5, none⟩ = some (.slice A620_5 ((rd_T38 l0 (rd x8_1 x9_1)).f5).length c620_5) := (blk_cell BK621.out 5).trans rfl
           have hcz28_6 : wr.cell? ⟨gb621, 6, none⟩ = some (.slice A620_6 ((rd_T38 l0 (rd x8_1 x9_1)).f6).length c620_6) := (blk_cell BK621.out 6).trans rfl
           have hfz28_0 := blk_frozen BK621.out 0
           have hfz28_1 := blk_frozen BK621.out 1
           have hfz28_2 := blk_frozen BK621.out 2
           have hfz28_3 := blk_frozen BK621.out 3
           have hfz28_4 := blk_frozen BK621.out 4
           have hfz28_5 := blk_frozen BK621.out 5
           have hfz28_6 := blk_frozen BK621.out 6
           go_wp2
           repeat (go_quiet (fail); try go_wp2)
           go_roundg k2
           case measure => have := HK1.out; have := HK2.out; omega
           case rel => exact ⟨(x8_2), (wrap64 (x9_1 + 1)), uf, H', ⟨by have := HK1.out; have := HK2.out; omega⟩, ⟨ua HO_8.out⟩, ⟨uc HB.out⟩⟩
       ·rw [if_neg c10] at H
        exact absurd H (by simp)
      ·rw [if_neg c9] at H
       exact absurd H (by simp)
     ·rw [if_neg c8] at H
      exact absurd H (by simp)
    ·rw [if_neg c7] at H
     have c7b0 : decide (x9_1 < (x8_1.length : Int)) = false := decide_eq_false c7
     clear c7
     simp only [Option.some.injEq, Prod.mk.injEq] at H
     obtain ⟨rfl, rfl, rfl⟩ := H
     obtain ⟨Ao29, co29, eo29⟩ := Kd.R_slice HO_8.out
     subst eo29
     go_wp2
     repeat (go_quiet (fail); try go_wp2)
     go_ret3
     exact ⟨_, by first | rfl | (simp [errW_none, errW_some] <;> rfl) | (simp [*, errW_none, errW_some] <;> rfl), ua HO_8.out, uc HB.out⟩

end Go.Proofs.Ytociaidhgefpiaa.P
