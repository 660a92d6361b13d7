/- What functions of the program, and of its laws, give, each proved of its code by a walk; no condition. -/
import Derived.Test.YtndmfjdoekdleaaKGraphAllPx0
import Derived.Test.YtndmfjdoekdleaaKGraphAllPx1
import Derived.Test.YtndmfjdoekdleaaKGraphAllPx5
namespace Go.Proofs.Ytndmfjdoekdleaa.P
open Go.RowKit Go.Proofs.YtndmfjdoekdleaaW.PrintWords Go.Proofs.YtndmfjdoekdleaaW.PrintLast Go.Proofs.YtndmfjdoekdleaaW.PrintMore
attribute [local go_sem] max2_int min2_int max_two min_two max_three min_three max_four min_four   -- for this text's walks alone
set_option linter.unusedVariables false
set_option linter.unusedSimpArgs false

mutual
def curtilageref13_Closure.l0 : Nat → List (S29) → List Int → Int → Option (List Int × ByteArray × Int)
  | 0, _, _, _ => none
  | k + 1, x0, x8, x9 => if x9 < (x8.length : Int) then (if 0 ≤ x9 then (if 0 ≤ (rd x8 x9) then (if (rd x8 x9) < (x0.length : Int) then (curtilageref13_Closure.l1 k x0 x8 x9 0 ((rd_T29 x0 (rd x8 x9)).f0) ((rd_T29 x0 (rd x8 x9)).f1) ((rd_T29 x0 (rd x8 x9)).f2) ((rd_T29 x0 (rd x8 x9)).f3) ((rd_T29 x0 (rd x8 x9)).f4) ((rd_T29 x0 (rd x8 x9)).f5) ((rd_T29 x0 (rd x8 x9)).f6)) else (none)) else (none)) else (none)) else (some (x8, (⟨#[]⟩ : ByteArray), 0))
def curtilageref13_Closure.l1 : Nat → List (S29) → List Int → Int → Int → ByteArray → List ByteArray → List (S99) → List (S101) → List (S103) → List Int → List Int → Option (List Int × ByteArray × Int)
  | 0, _, _, _, _, _, _, _, _, _, _, _ => none
  | k + 1, x0, x8, x9, x11, x391000, x391001, x391002, x391003, x391004, x391005, x391006 => if x11 < (x391001.length : Int) then (if 0 ≤ x11 then ((curtilageref13_Find.f k x0 (rdOf ByteArray.empty x391001 x11)).bind fun t392 => (if t392 < 0 then (some (([] : List Int), rdOf ByteArray.empty x391001 x11, 130)) else ((curtilageref13_Has.f k x8 t392).bind fun t394 => (if t394 = true then (curtilageref13_Closure.l1 k x0 x8 x9 (wrap64 (x11 + 1)) x391000 x391001 x391002 x391003 x391004 x391005 x391006) else (if x8.length < 17592186044416 then (curtilageref13_Closure.l1 k x0 (x8 ++ [t392]) x9 (wrap64 (x11 + 1)) x391000 x391001 x391002 x391003 x391004 x391005 x391006) else (none)))))) else (none)) else (curtilageref13_Closure.l0 k x0 x8 (wrap64 (x9 + 1)))
end
def curtilageref13_Closure.f (k : Nat) (l0 : List (S29)) (a1 : ByteArray) : Option (List Int × ByteArray × Int) := (curtilageref13_Find.f k l0 a1).bind fun t384 => (if t384 < 0 then (some (([] : List Int), a1, 130)) else (curtilageref13_Closure.l0 k l0 (([t384] : List Int)) 0))
theorem curtilageref13_Closure.mono_l : ∀ k, (∀ y0 y1 y2, LeO (curtilageref13_Closure.l0 k y0 y1 y2) (curtilageref13_Closure.l0 (k + 1) y0 y1 y2)) ∧ (∀ y0 y1 y2 y3 y4 y5 y6 y7 y8 y9 y10, LeO (curtilageref13_Closure.l1 k y0 y1 y2 y3 y4 y5 y6 y7 y8 y9 y10) (curtilageref13_Closure.l1 (k + 1) y0 y1 y2 y3 y4 y5 y6 y7 y8 y9 y10))
  | 0 => ⟨fun _ _ _ r h => by simp [curtilageref13_Closure.l0] at h, fun _ _ _ _ _ _ _ _ _ _ _ r h => by simp [curtilageref13_Closure.l1] at h⟩
  | k + 1 => by
    obtain ⟨ih0, ih1⟩ := curtilageref13_Closure.mono_l k
    refine ⟨?_, ?_⟩
    · intro y0 y1 y2
      unfold curtilageref13_Closure.l0
      repeat' first
      | (with_reducible exact ih0 _ _ _)
      | (with_reducible exact ih1 _ _ _ _ _ _ _ _ _ _ _)
      | (with_reducible exact curtilageref13_Find.mono _ _ _)
      | (with_reducible exact curtilageref13_Has.mono _ _ _)
      | (with_reducible exact LeO.refl _)
      | (with_reducible exact LeO.none _)
      | (with_reducible refine LeO.ite ?_ ?_)
      | (with_reducible refine LeO.bind ?_ (fun _ => ?_))
      | exact ih0 _ _ _
      | exact ih1 _ _ _ _ _ _ _ _ _ _ _
      | exact curtilageref13_Find.mono _ _ _
      | exact curtilageref13_Has.mono _ _ _
      | exact LeO.none _
      | refine LeO.ite ?_ ?_
      | refine LeO.bind ?_ (fun _ => ?_)
    · intro y0 y1 y2 y3 y4 y5 y6 y7 y8 y9 y10
      unfold curtilageref13_Closure.l1
      repeat' first
      | (with_reducible exact ih0 _ _ _)
      | (with_reducible exact ih1 _ _ _ _ _ _ _ _ _ _ _)
      | (with_reducible exact curtilageref13_Find.mono _ _ _)
      | (with_reducible exact curtilageref13_Has.mono _ _ _)
      | (with_reducible exact LeO.refl _)
      | (with_reducible exact LeO.none _)
      | (with_reducible refine LeO.ite ?_ ?_)
      | (with_reducible refine LeO.bind ?_ (fun _ => ?_))
      | exact ih0 _ _ _
      | exact ih1 _ _ _ _ _ _ _ _ _ _ _
      | exact curtilageref13_Find.mono _ _ _
      | exact curtilageref13_Has.mono _ _ _
      | exact LeO.none _
      | refine LeO.ite ?_ ?_
      | refine LeO.bind ?_ (fun _ => ?_)
theorem curtilageref13_Closure.mono : ∀ a0 a1 k, LeO (curtilageref13_Closure.f k a0 a1) (curtilageref13_Closure.f (k + 1) a0 a1) := by
  intro a0 a1 k
  obtain ⟨ih0, ih1⟩ := curtilageref13_Closure.mono_l k
  unfold curtilageref13_Closure.f
  repeat' first
      | (with_reducible exact ih0 _ _ _)
      | (with_reducible exact ih1 _ _ _ _ _ _ _ _ _ _ _)
      | (with_reducible exact curtilageref13_Find.mono _ _ _)
      | (with_reducible exact curtilageref13_Has.mono _ _ _)
      | (with_reducible exact LeO.refl _)
      | (with_reducible exact LeO.none _)
      | (with_reducible refine LeO.ite ?_ ?_)
      | (with_reducible refine LeO.bind ?_ (fun _ => ?_))
      | exact ih0 _ _ _
      | exact ih1 _ _ _ _ _ _ _ _ _ _ _
      | exact curtilageref13_Find.mono _ _ _
      | exact curtilageref13_Has.mono _ _ _
      | exact LeO.none _
      | refine LeO.ite ?_ ?_
      | refine LeO.bind ?_ (fun _ => ?_)
set_option maxHeartbeats 8000000 in
set_option maxRecDepth 100000 in
theorem curtilageref13_Closure.calls (k : Nat) (A0 : Option Addr) (c0 : Nat) (l0 : List (S29)) (a1 : ByteArray) (r1 : List Int) (r2 : ByteArray) (r3 : Int) (w : World) (hr0 : Kd.C k29 w A0 l0.length l0) (hc0 : l0.length ≤ c0) (h : curtilageref13_Closure.f k l0 a1 = some (r1, r2, r3)) :
    Calls Try.prog 19 #[.slice A0 l0.length c0, .string a1] w fun e w' => ∃ v0_ : Value, e = .returned (.tuple #[v0_, .string r2, .int .i64 r3]) ∧ Kd.R (Kd.int .i64) 3 w' w.heap.size (fun _ => True) v0_ r1 ∧ Below w.heap.size w w' := by
  have hu29 := Try.underlying29
  have HR0 := Aside0.mk hr0
  have HC0 := Aside0.mk hc0
  clear hr0 hc0
  have HB := Aside0.mk (Below.refl w.heap.size w)
  have H : ((curtilageref13_Find.f k l0 a1).bind fun t384 => (if t384 < 0 then (some (([] : List Int), a1, 130)) else (curtilageref13_Closure.l0 k l0 (([t384] : List Int)) 0))) = some (r1, r2, r3) := h
  clear h
  replace H := Option.bind_eq_some_iff.mp H
  obtain ⟨t384, A30, H⟩ := H
  replace H : (if t384 < 0 then (some (([] : List Int), a1, 130)) else (curtilageref13_Closure.l0 k l0 (([t384] : List Int)) 0)) = some (r1, r2, r3) := H
  have A3 := Aside0.mk A30
  clear A30
  by_cases c4 : t384 < 0
  · rw [if_pos c4] at H
    have c4b0 : decide (t384 < 0) = true := decide_eq_true c4
    clear c4
    simp only [Option.some.injEq, Prod.mk.injEq] at H
    obtain ⟨rfl, rfl, rfl⟩ := H
    go_enter Try.func19, Try.ntmps19
    go_wp2_with (first | (go_at_call 22; (with_reducible refine (curtilageref13_Find.calls k _ _ l0 a1 t384 _ ?side1 ?side2 A3.out).mono ?_); (case side1 => repeat (first | exact HR0.out | (with_reducible refine Kd.C_alloc ?_ _) | (with_reducible refine Kd.C_drewN ?_ _) | (with_reducible refine Kd.C_drew ?_))); (case side2 => exact HC0.out); rintro e w' ⟨rfl, ⟨nd, rfl⟩⟩; (try first | exact ⟨rfl, _, World.drewN_drewN _ _ _⟩ | exact ⟨rfl, _, Eq.trans (World.drewN_drewN _ _ _) (congrArg (World.drewN _) (Nat.add_assoc _ _ _))⟩)))
    repeat (go_quiet (first | (go_at_call 22; (with_reducible refine (curtilageref13_Find.calls k _ _ l0 a1 t384 _ ?side1 ?side2 A3.out).mono ?_); (case side1 => repeat (first | exact HR0.out | (with_reducible refine Kd.C_alloc ?_ _) | (with_reducible refine Kd.C_drewN ?_ _) | (with_reducible refine Kd.C_drew ?_))); (case side2 => exact HC0.out); rintro e w' ⟨rfl, ⟨nd, rfl⟩⟩; (try first | exact ⟨rfl, _, World.drewN_drewN _ _ _⟩ | exact ⟨rfl, _, Eq.trans (World.drewN_drewN _ _ _) (congrArg (World.drewN _) (Nat.add_assoc _ _ _))⟩))); try go_wp2_with (first | (go_at_call 22; (with_reducible refine (curtilageref13_Find.calls k _ _ l0 a1 t384 _ ?side1 ?side2 A3.out).mono ?_); (case side1 => repeat (first | exact HR0.out | (with_reducible refine Kd.C_alloc ?_ _) | (with_reducible refine Kd.C_drewN ?_ _) | (with_reducible refine Kd.C_drew ?_))); (case side2 => exact HC0.out); rintro e w' ⟨rfl, ⟨nd, rfl⟩⟩; (try first | exact ⟨rfl, _, World.drewN_drewN _ _ _⟩ | exact ⟨rfl, _, Eq.trans (World.drewN_drewN _ _ _) (congrArg (World.drewN _) (Nat.add_assoc _ _ _))⟩))))
    go_ret3
    exact ⟨_, by first | rfl | (simp [errW_none, errW_some] <;> rfl) | (simp [*, errW_none, errW_some] <;> rfl), by first | exact Kd.R_nil _ _ _ _ _ | exact Kd.N_nil _ _ _ _ _ | exact Kd.V_nil _ _ _ _ _ | exact Kd.Q_nil _ _ _ _ _ | exact Kd.S_nil _ _ _ _ _, by repeat (first | (with_reducible first | exact HB.out | apply below_alloc | apply pw_below_drewN | apply below_drew1) | exact HB.out)⟩
  · rw [if_neg c4] at H
    have c4b0 : decide (t384 < 0) = false := decide_eq_false c4
    clear c4
    obtain ⟨y385, hy385⟩ : ∃ y_ : List Int, y_ = (([t384] : List Int)) := ⟨_, rfl⟩
    replace H : (curtilageref13_Closure.l0 k l0 y385 0) = some (r1, r2, r3) := by first | (rw [hy385]; with_reducible exact H) | (have H2_ := (Option.bind_some _ _).symm.trans H; rw [hy385]; with_reducible exact H2_) | (have H2_ := (Option.bind_some _ _).symm.trans H; with_reducible exact H2_) | with_reducible exact H | (rw [hy385]; exact H) | exact H
    have Ny385 := Aside0.mk hy385
    clear hy385
    have H' := Aside0.mk H
    clear H
    go_enter Try.func19, Try.ntmps19
    go_wp2_with (first | (go_at_call 22; (with_reducible refine (curtilageref13_Find.calls k _ _ l0 a1 t384 _ ?side1 ?side2 A3.out).mono ?_); (case side1 => repeat (first | exact HR0.out | (with_reducible refine Kd.C_alloc ?_ _) | (with_reducible refine Kd.C_drewN ?_ _) | (with_reducible refine Kd.C_drew ?_))); (case side2 => exact HC0.out); rintro e w' ⟨rfl, ⟨nd, rfl⟩⟩; (try first | exact ⟨rfl, _, World.drewN_drewN _ _ _⟩ | exact ⟨rfl, _, Eq.trans (World.drewN_drewN _ _ _) (congrArg (World.drewN _) (Nat.add_assoc _ _ _))⟩)) | ((with_reducible refine gate_dst (N := 21) rfl ?_); refine Kd.R_lit (Kd.int .i64) _ 3 ?hg (N := 21) ?hd (xs := ([t384] : List Int)) (inner := [.int .i64 t384]) (ok := fun _ => True) (okp := fun _ => True) ?hr ?hp (fun _ hk => hk) trivial (Below.refl _ _) (Nat.le_refl _) (by simp) ?_; (case hd => rfl); (case hg => rfl); (case hr => first | (go_simp; done) | (go_simp; rfl)); (case hp => exact (Reps.one (show Kd.M (Kd.int .i64) _ _ _ t384 [.int .i64 t384] from rfl) (Reps.none _ _))); intro v386 w5 ho6 hb hg_ hnew_; clear hg_ hnew_; (first | rw [← Ny385.out] at ho6 | (simp only [Int.reduceToNat] at ho6; rw [← Ny385.out] at ho6)); have n0_ := Aside0.mk (Kd.R_lower ho6 (below_size (by repeat (first | (with_reducible first | exact HB.out | apply below_alloc | apply pw_below_drewN | apply below_drew1) | exact HB.out)))); have n1_ := Aside0.mk (below_step (by repeat (first | (with_reducible first | exact HB.out | apply below_alloc | apply pw_below_drewN | apply below_drew1) | exact HB.out)) hb); clear HB; have HO387 := n0_; have HB := n1_; clear n0_ n1_; clear hb ho6))
    repeat (go_quiet (first | (go_at_call 22; (with_reducible refine (curtilageref13_Find.calls k _ _ l0 a1 t384 _ ?side1 ?side2 A3.out).mono ?_); (case side1 => repeat (first | exact HR0.out | (with_reducible refine Kd.C_alloc ?_ _) | (with_reducible refine Kd.C_drewN ?_ _) | (with_reducible refine Kd.C_drew ?_))); (case side2 => exact HC0.out); rintro e w' ⟨rfl, ⟨nd, rfl⟩⟩; (try first | exact ⟨rfl, _, World.drewN_drewN _ _ _⟩ | exact ⟨rfl, _, Eq.trans (World.drewN_drewN _ _ _) (congrArg (World.drewN _) (Nat.add_assoc _ _ _))⟩)) | ((with_reducible refine gate_dst (N := 21) rfl ?_); refine Kd.R_lit (Kd.int .i64) _ 3 ?hg (N := 21) ?hd (xs := ([t384] : List Int)) (inner := [.int .i64 t384]) (ok := fun _ => True) (okp := fun _ => True) ?hr ?hp (fun _ hk => hk) trivial (Below.refl _ _) (Nat.le_refl _) (by simp) ?_; (case hd => rfl); (case hg => rfl); (case hr => first | (go_simp; done) | (go_simp; rfl)); (case hp => exact (Reps.one (show Kd.M (Kd.int .i64) _ _ _ t384 [.int .i64 t384] from rfl) (Reps.none _ _))); intro v386 w5 ho6 hb hg_ hnew_; clear hg_ hnew_; (first | rw [← Ny385.out] at ho6 | (simp only [Int.reduceToNat] at ho6; rw [← Ny385.out] at ho6)); have n0_ := Aside0.mk (Kd.R_lower ho6 (below_size (by repeat (first | (with_reducible first | exact HB.out | apply below_alloc | apply pw_below_drewN | apply below_drew1) | exact HB.out)))); have n1_ := Aside0.mk (below_step (by repeat (first | (with_reducible first | exact HB.out | apply below_alloc | apply pw_below_drewN | apply below_drew1) | exact HB.out)) hb); clear HB; have HO387 := n0_; have HB := n1_; clear n0_ n1_; clear hb ho6)); try go_wp2_with (first | (go_at_call 22; (with_reducible refine (curtilageref13_Find.calls k _ _ l0 a1 t384 _ ?side1 ?side2 A3.out).mono ?_); (case side1 => repeat (first | exact HR0.out | (with_reducible refine Kd.C_alloc ?_ _) | (with_reducible refine Kd.C_drewN ?_ _) | (with_reducible refine Kd.C_drew ?_))); (case side2 => exact HC0.out); rintro e w' ⟨rfl, ⟨nd, rfl⟩⟩; (try first | exact ⟨rfl, _, World.drewN_drewN _ _ _⟩ | exact ⟨rfl, _, Eq.trans (World.drewN_drewN _ _ _) (congrArg (World.drewN _) (Nat.add_assoc _ _ _))⟩)) | ((with_reducible refine gate_dst (N := 21) rfl ?_); refine Kd.R_lit (Kd.int .i64) _ 3 ?hg (N := 21) ?hd (xs := ([t384] : List Int)) (inner := [.int .i64 t384]) (ok := fun _ => True) (okp := fun _ => True) ?hr ?hp (fun _ hk => hk) trivial (Below.refl _ _) (Nat.le_refl _) (by simp) ?_; (case hd => rfl); (case hg => rfl); (case hr => first | (go_simp; done) | (go_simp; rfl)); (case hp => exact (Reps.one (show Kd.M (Kd.int .i64) _ _ _ t384 [.int .i64 t384] from rfl) (Reps.none _ _))); intro v386 w5 ho6 hb hg_ hnew_; clear hg_ hnew_; (first | rw [← Ny385.out] at ho6 | (simp only [Int.reduceToNat] at ho6; rw [← Ny385.out] at ho6)); have n0_ := Aside0.mk (Kd.R_lower ho6 (below_size (by repeat (first | (with_reducible first | exact HB.out | apply below_alloc | apply pw_below_drewN | apply below_drew1) | exact HB.out)))); have n1_ := Aside0.mk (below_step (by repeat (first | (with_reducible first | exact HB.out | apply below_alloc | apply pw_below_drewN | apply below_drew1) | exact HB.out)) hb); clear HB; have HO387 := n0_; have HB := n1_; clear n0_ n1_; clear hb ho6)))
    go_loopg [8, 9] k (fun kq v8 v9 w' => ∃ (x8_1 : List Int) (x9_1 : Int), v9 = .int .i64 x9_1 ∧ Aside0 (curtilageref13_Closure.l0 kq l0 x8_1 x9_1 = some (r1, r2, r3)) ∧ Aside0 (kq ≤ k) ∧ Aside0 (Kd.R (Kd.int .i64) 3 w' w.heap.size (fun _ => True) v8 x8_1) ∧ Aside0 (Below w.heap.size w w'))
    case atStart => exact ⟨(y385), (0), (by first | rfl | (simp; done) | (simp [*]; done)), H', ⟨Nat.le_refl _⟩, ⟨by (with_reducible repeat (first | apply Kd.R_alloc | apply Kd.R_drewN | apply Kd.R_drew)); exact HO387.out⟩, ⟨by repeat (first | (with_reducible first | exact HB.out | apply below_alloc | apply pw_below_drewN | apply below_drew1) | exact HB.out)⟩⟩
    case round =>
      clear H'
      try clear c1
      try clear p2
      try clear c4
      try clear c4b0
      obtain ⟨x8_1, x9_1, rfl, HA, HK1, HO_8, HB⟩ := hrel
      cases gk with
      | zero => exact absurd HA.out (by simp [curtilageref13_Closure.l0])
      | succ k1 =>
        have H := HA.out
        clear HA
        simp only [curtilageref13_Closure.l0] at H
        by_cases c7 : x9_1 < (x8_1.length : Int)
        · rw [if_pos c7] at H
          have c7b0 : decide (x9_1 < (x8_1.length : Int)) = true := decide_eq_true c7
          clear c7
          by_cases c8 : 0 ≤ x9_1
          · rw [if_pos c8] at H
            have c8b0 : decide (0 ≤ x9_1) = true := decide_eq_true c8
            clear c8
            by_cases c9 : 0 ≤ (rd x8_1 x9_1)
            · rw [if_pos c9] at H
              have c9b0 : decide (0 ≤ (rd x8_1 x9_1)) = true := decide_eq_true c9
              clear c9
              by_cases c10 : (rd x8_1 x9_1) < (l0.length : Int)
              · rw [if_pos c10] at H
                have c10b0 : decide ((rd x8_1 x9_1) < (l0.length : Int)) = true := decide_eq_true c10
                clear c10
                have H' := Aside0.mk H
                clear H
                obtain ⟨Ao11, co11, eo11⟩ := Kd.R_slice HO_8.out
                subst eo11
                have p388 : 0 ≤ (x9_1 : Int) := of_decide_eq_true (by first | (with_reducible assumption) | assumption)
                have q388 : x9_1 < (x8_1.length : Int) := of_decide_eq_true (by first | (with_reducible assumption) | assumption)
                obtain ⟨ad388, e388, hx388_0⟩ := Kd.at_int (Kd.R_reads' HO_8.out).2.2 x9_1 p388 q388
                cases e388
                replace p388 := eq_true p388
                replace q388 := eq_true q388
                have p389 : 0 ≤ ((rd x8_1 x9_1) : Int) := of_decide_eq_true (by first | (with_reducible assumption) | assumption)
                have q389 : (rd x8_1 x9_1) < (l0.length : Int) := of_decide_eq_true (by first | (with_reducible assumption) | assumption)
                obtain ⟨ad389, A389_1, c389_1, A389_2, c389_2, A389_3, c389_3, A389_4, c389_4, A389_5, c389_5, A389_6, c389_6, e389, hx389_0, hx389_1, hx389_2, hx389_3, hx389_4, hx389_5, hx389_6, hl389_1, hi389_1, hl389_2, hi389_2, hl389_3, hi389_3, hl389_4, hi389_4, hl389_5, hi389_5, hl389_6, hi389_6⟩ := at_T29 HR0.out (rd x8_1 x9_1) p389 q389
                cases e389
                replace hx389_0 := (HB.out.cell (World.block_lt_of_cell? w _ hx389_0)).trans hx389_0
                replace hx389_1 := (HB.out.cell (World.block_lt_of_cell? w _ hx389_1)).trans hx389_1
                replace hx389_2 := (HB.out.cell (World.block_lt_of_cell? w _ hx389_2)).trans hx389_2
                replace hx389_3 := (HB.out.cell (World.block_lt_of_cell? w _ hx389_3)).trans hx389_3
                replace hx389_4 := (HB.out.cell (World.block_lt_of_cell? w _ hx389_4)).trans hx389_4
                replace hx389_5 := (HB.out.cell (World.block_lt_of_cell? w _ hx389_5)).trans hx389_5
                replace hx389_6 := (HB.out.cell (World.block_lt_of_cell? w _ hx389_6)).trans hx389_6
                have HR389_1 := Aside0.mk hi389_1
                have HC389_1 := Aside0.mk hl389_1
                clear hi389_1 hl389_1
                have HR389_2 := Aside0.mk hi389_2
                have HC389_2 := Aside0.mk hl389_2
                clear hi389_2 hl389_2
                have HR389_3 := Aside0.mk hi389_3
                have HC389_3 := Aside0.mk hl389_3
                clear hi389_3 hl389_3
                have HR389_4 := Aside0.mk hi389_4
                have HC389_4 := Aside0.mk hl389_4
                clear hi389_4 hl389_4
                have HR389_5 := Aside0.mk hi389_5
                have HC389_5 := Aside0.mk hl389_5
                clear hi389_5 hl389_5
                have HR389_6 := Aside0.mk hi389_6
                have HC389_6 := Aside0.mk hl389_6
                clear hi389_6 hl389_6
                replace p389 := eq_true p389
                replace q389 := eq_true q389
                go_wp2_with (first | ((with_reducible refine gate_dst (N := 10) rfl ?_); refine box_event ?hg (N := 10) ?hd (cs := #[.string (⟨#[]⟩ : ByteArray), .slice none 0 0, .slice none 0 0, .slice none 0 0, .slice none 0 0, .slice none 0 0, .slice none 0 0]) (t := 29) ?hr ?_; (case hd => rfl); (case hg => rfl); (case hr => first | (go_simp; done) | (go_simp; rfl)); intro gb390 hg w12 hbox hb; have n0_ := Aside0.mk (Kd.R_below (by (with_reducible repeat (first | apply Kd.R_alloc | apply Kd.R_drewN | apply Kd.R_drew)); exact HO_8.out) hb); have n1_ := Aside0.mk (below_step (by repeat (first | (with_reducible first | exact HB.out | apply below_alloc | apply pw_below_drewN | apply below_drew1) | exact HB.out)) hb); have n2_ := Aside0.mk (hbox); have n3_ := Aside0.mk ((by rw [hg]; exact (below_size (by repeat (first | (with_reducible first | exact HB.out | apply below_alloc | apply pw_below_drewN | apply below_drew1) | exact HB.out))) : w.heap.size ≤ gb390)); have n4_ := n3_; clear HO_8; clear HB; have HO_8 := n0_; have HB := n1_; have BK390 := n2_; have GW390 := n3_; have GE390 := n4_; clear n0_ n1_ n2_ n3_ n4_; clear hb hbox hg; obtain ⟨hcz13_0, hcz13_1, hcz13_2, hcz13_3, hcz13_4, hcz13_5, hcz13_6, hfz13_0, hfz13_1, hfz13_2, hfz13_3, hfz13_4, hfz13_5, hfz13_6⟩ := cells7 BK390.out) | ((with_reducible refine gate_store (t := 29) (p := 10) rfl ?_); (try (rw [drewN_self w12]; generalize hq_ : World.drewN w12 _ = w12; have n0_ := Aside0.mk (Kd.R_at hq_ HO_8.out); have n1_ := Aside0.mk (blk_at hq_ BK390.out); have n2_ := Aside0.mk (below_at hq_ HB.out); clear hq_ HO_8 BK390 HB; have HO_8 := n0_; have BK390 := n1_; have HB := n2_; clear n0_ n1_ n2_)); refine store_event (t := 29) (p := 10) (v := ?vo_w14) (w1 := (((((((w12.setCell ⟨gb390, 0, none⟩ (.string ((rd_T29 l0 (rd x8_1 x9_1)).f0))).setCell ⟨gb390, 1, none⟩ (.slice A389_1 ((rd_T29 l0 (rd x8_1 x9_1)).f1).length c389_1)).setCell ⟨gb390, 2, none⟩ (.slice A389_2 ((rd_T29 l0 (rd x8_1 x9_1)).f2).length c389_2)).setCell ⟨gb390, 3, none⟩ (.slice A389_3 ((rd_T29 l0 (rd x8_1 x9_1)).f3).length c389_3)).setCell ⟨gb390, 4, none⟩ (.slice A389_4 ((rd_T29 l0 (rd x8_1 x9_1)).f4).length c389_4)).setCell ⟨gb390, 5, none⟩ (.slice A389_5 ((rd_T29 l0 (rd x8_1 x9_1)).f5).length c389_5)).setCell ⟨gb390, 6, none⟩ (.slice A389_6 ((rd_T29 l0 (rd x8_1 x9_1)).f6).length c389_6))) ?hg ?ho ?hn ?hr ?_; (case ho => rfl); (case hg => rfl); (case hn => rfl); (case hr => first | (go_simp; done) | (go_simp; rfl)); intro w14 hw; have n0_ : Aside0 (Kd.R (Kd.int .i64) 3 w14 w.heap.size (fun _ => True) (.slice (some ad388) x8_1.length co11) x8_1) := ⟨(by rw [hw]; exact (by (with_reducible repeat (first | apply Kd.R_alloc | apply Kd.R_drewN | apply Kd.R_drew)); exact Kd.R_mono (Kd.R_far (p := ⟨gb390, 6, none⟩) (Kd.R_far (p := ⟨gb390, 5, none⟩) (Kd.R_far (p := ⟨gb390, 4, none⟩) (Kd.R_far (p := ⟨gb390, 3, none⟩) (Kd.R_far (p := ⟨gb390, 2, none⟩) (Kd.R_far (p := ⟨gb390, 1, none⟩) (Kd.R_far (p := ⟨gb390, 0, none⟩) (Kd.R_types HO_8.out BK390.out (by decide)) (fun _ hk => hk.2) (.string ((rd_T29 l0 (rd x8_1 x9_1)).f0))) (fun _ hk => hk.2) (.slice A389_1 ((rd_T29 l0 (rd x8_1 x9_1)).f1).length c389_1)) (fun _ hk => hk.2) (.slice A389_2 ((rd_T29 l0 (rd x8_1 x9_1)).f2).length c389_2)) (fun _ hk => hk.2) (.slice A389_3 ((rd_T29 l0 (rd x8_1 x9_1)).f3).length c389_3)) (fun _ hk => hk.2) (.slice A389_4 ((rd_T29 l0 (rd x8_1 x9_1)).f4).length c389_4)) (fun _ hk => hk.2) (.slice A389_5 ((rd_T29 l0 (rd x8_1 x9_1)).f5).length c389_5)) (fun _ hk => hk.2) (.slice A389_6 ((rd_T29 l0 (rd x8_1 x9_1)).f6).length c389_6)) (fun _ hk => trivial)))⟩; have n1_ : Aside0 (w14.heap[gb390]? = some (.cells #[.string ((rd_T29 l0 (rd x8_1 x9_1)).f0), .slice A389_1 ((rd_T29 l0 (rd x8_1 x9_1)).f1).length c389_1, .slice A389_2 ((rd_T29 l0 (rd x8_1 x9_1)).f2).length c389_2, .slice A389_3 ((rd_T29 l0 (rd x8_1 x9_1)).f3).length c389_3, .slice A389_4 ((rd_T29 l0 (rd x8_1 x9_1)).f4).length c389_4, .slice A389_5 ((rd_T29 l0 (rd x8_1 x9_1)).f5).length c389_5, .slice A389_6 ((rd_T29 l0 (rd x8_1 x9_1)).f6).length c389_6] 29 (0, 0))) := ⟨(by rw [hw]; exact (by (with_reducible repeat (first | refine blk_drewN ?_ _ | refine blk_drew ?_ | refine blk_alloc ?_ _)); refine blk_put (cs := #[.string ((rd_T29 l0 (rd x8_1 x9_1)).f0), .slice A389_1 ((rd_T29 l0 (rd x8_1 x9_1)).f1).length c389_1, .slice A389_2 ((rd_T29 l0 (rd x8_1 x9_1)).f2).length c389_2, .slice A389_3 ((rd_T29 l0 (rd x8_1 x9_1)).f3).length c389_3, .slice A389_4 ((rd_T29 l0 (rd x8_1 x9_1)).f4).length c389_4, .slice A389_5 ((rd_T29 l0 (rd x8_1 x9_1)).f5).length c389_5, .slice none 0 0]) ?_ 6 _ rfl; (with_reducible repeat (first | refine blk_drewN ?_ _ | refine blk_drew ?_ | refine blk_alloc ?_ _)); refine blk_put (cs := #[.string ((rd_T29 l0 (rd x8_1 x9_1)).f0), .slice A389_1 ((rd_T29 l0 (rd x8_1 x9_1)).f1).length c389_1, .slice A389_2 ((rd_T29 l0 (rd x8_1 x9_1)).f2).length c389_2, .slice A389_3 ((rd_T29 l0 (rd x8_1 x9_1)).f3).length c389_3, .slice A389_4 ((rd_T29 l0 (rd x8_1 x9_1)).f4).length c389_4, .slice none 0 0, .slice none 0 0]) ?_ 5 _ rfl; (with_reducible repeat (first | refine blk_drewN ?_ _ | refine blk_drew ?_ | refine blk_alloc ?_ _)); refine blk_put (cs := #[.string ((rd_T29 l0 (rd x8_1 x9_1)).f0), .slice A389_1 ((rd_T29 l0 (rd x8_1 x9_1)).f1).length c389_1, .slice A389_2 ((rd_T29 l0 (rd x8_1 x9_1)).f2).length c389_2, .slice A389_3 ((rd_T29 l0 (rd x8_1 x9_1)).f3).length c389_3, .slice none 0 0, .slice none 0 0, .slice none 0 0]) ?_ 4 _ rfl; (with_reducible repeat (first | refine blk_drewN ?_ _ | refine blk_drew ?_ | refine blk_alloc ?_ _)); refine blk_put (cs := #[.string ((rd_T29 l0 (rd x8_1 x9_1)).f0), .slice A389_1 ((rd_T29 l0 (rd x8_1 x9_1)).f1).length c389_1, .slice A389_2 ((rd_T29 l0 (rd x8_1 x9_1)).f2).length c389_2, .slice none 0 0, .slice none 0 0, .slice none 0 0, .slice none 0 0]) ?_ 3 _ rfl; (with_reducible repeat (first | refine blk_drewN ?_ _ | refine blk_drew ?_ | refine blk_alloc ?_ _)); refine blk_put (cs := #[.string ((rd_T29 l0 (rd x8_1 x9_1)).f0), .slice A389_1 ((rd_T29 l0 (rd x8_1 x9_1)).f1).length c389_1, .slice none 0 0, .slice none 0 0, .slice none 0 0, .slice none 0 0, .slice none 0 0]) ?_ 2 _ rfl; (with_reducible repeat (first | refine blk_drewN ?_ _ | refine blk_drew ?_ | refine blk_alloc ?_ _)); refine blk_put (cs := #[.string ((rd_T29 l0 (rd x8_1 x9_1)).f0), .slice none 0 0, .slice none 0 0, .slice none 0 0, .slice none 0 0, .slice none 0 0, .slice none 0 0]) ?_ 1 _ rfl; (with_reducible repeat (first | refine blk_drewN ?_ _ | refine blk_drew ?_ | refine blk_alloc ?_ _)); refine blk_put (cs := #[.string (⟨#[]⟩ : ByteArray), .slice none 0 0, .slice none 0 0, .slice none 0 0, .slice none 0 0, .slice none 0 0, .slice none 0 0]) ?_ 0 _ rfl; (with_reducible repeat (first | refine blk_drewN ?_ _ | refine blk_drew ?_ | refine blk_alloc ?_ _)); exact BK390.out))⟩; have n2_ : Aside0 (Below w.heap.size w w14) := ⟨(by rw [hw]; exact (by repeat (first | (with_reducible first | exact HB.out | apply below_alloc | apply pw_below_drewN | apply below_drew1 | refine below_set ?_ GE390.out) | exact HB.out)))⟩; clear hw; clear HO_8; clear BK390; clear HB; have HO_8 := n0_; have BK390 := n1_; have HB := n2_; clear n0_ n1_ n2_))
                repeat (go_quiet (first | ((with_reducible refine gate_dst (N := 10) rfl ?_); refine box_event ?hg (N := 10) ?hd (cs := #[.string (⟨#[]⟩ : ByteArray), .slice none 0 0, .slice none 0 0, .slice none 0 0, .slice none 0 0, .slice none 0 0, .slice none 0 0]) (t := 29) ?hr ?_; (case hd => rfl); (case hg => rfl); (case hr => first | (go_simp; done) | (go_simp; rfl)); intro gb390 hg w12 hbox hb; have n0_ := Aside0.mk (Kd.R_below (by (with_reducible repeat (first | apply Kd.R_alloc | apply Kd.R_drewN | apply Kd.R_drew)); exact HO_8.out) hb); have n1_ := Aside0.mk (below_step (by repeat (first | (with_reducible first | exact HB.out | apply below_alloc | apply pw_below_drewN | apply below_drew1) | exact HB.out)) hb); have n2_ := Aside0.mk (hbox); have n3_ := Aside0.mk ((by rw [hg]; exact (below_size (by repeat (first | (with_reducible first | exact HB.out | apply below_alloc | apply pw_below_drewN | apply below_drew1) | exact HB.out))) : w.heap.size ≤ gb390)); have n4_ := n3_; clear HO_8; clear HB; have HO_8 := n0_; have HB := n1_; have BK390 := n2_; have GW390 := n3_; have GE390 := n4_; clear n0_ n1_ n2_ n3_ n4_; clear hb hbox hg; obtain ⟨hcz13_0, hcz13_1, hcz13_2, hcz13_3, hcz13_4, hcz13_5, hcz13_6, hfz13_0, hfz13_1, hfz13_2, hfz13_3, hfz13_4, hfz13_5, hfz13_6⟩ := cells7 BK390.out) | ((with_reducible refine gate_store (t := 29) (p := 10) rfl ?_); (try (rw [drewN_self w12]; generalize hq_ : World.drewN w12 _ = w12; have n0_ := Aside0.mk (Kd.R_at hq_ HO_8.out); have n1_ := Aside0.mk (blk_at hq_ BK390.out); have n2_ := Aside0.mk (below_at hq_ HB.out); clear hq_ HO_8 BK390 HB; have HO_8 := n0_; have BK390 := n1_; have HB := n2_; clear n0_ n1_ n2_)); refine store_event (t := 29) (p := 10) (v := ?vo_w14) (w1 := (((((((w12.setCell ⟨gb390, 0, none⟩ (.string ((rd_T29 l0 (rd x8_1 x9_1)).f0))).setCell ⟨gb390, 1, none⟩ (.slice A389_1 ((rd_T29 l0 (rd x8_1 x9_1)).f1).length c389_1)).setCell ⟨gb390, 2, none⟩ (.slice A389_2 ((rd_T29 l0 (rd x8_1 x9_1)).f2).length c389_2)).setCell ⟨gb390, 3, none⟩ (.slice A389_3 ((rd_T29 l0 (rd x8_1 x9_1)).f3).length c389_3)).setCell ⟨gb390, 4, none⟩ (.slice A389_4 ((rd_T29 l0 (rd x8_1 x9_1)).f4).length c389_4)).setCell ⟨gb390, 5, none⟩ (.slice A389_5 ((rd_T29 l0 (rd x8_1 x9_1)).f5).length c389_5)).setCell ⟨gb390, 6, none⟩ (.slice A389_6 ((rd_T29 l0 (rd x8_1 x9_1)).f6).length c389_6))) ?hg ?ho ?hn ?hr ?_; (case ho => rfl); (case hg => rfl); (case hn => rfl); (case hr => first | (go_simp; done) | (go_simp; rfl)); intro w14 hw; have n0_ : Aside0 (Kd.R (Kd.int .i64) 3 w14 w.heap.size (fun _ => True) (.slice (some ad388) x8_1.length co11) x8_1) := ⟨(by rw [hw]; exact (by (with_reducible repeat (first | apply Kd.R_alloc | apply Kd.R_drewN | apply Kd.R_drew)); exact Kd.R_mono (Kd.R_far (p := ⟨gb390, 6, none⟩) (Kd.R_far (p := ⟨gb390, 5, none⟩) (Kd.R_far (p := ⟨gb390, 4, none⟩) (Kd.R_far (p := ⟨gb390, 3, none⟩) (Kd.R_far (p := ⟨gb390, 2, none⟩) (Kd.R_far (p := ⟨gb390, 1, none⟩) (Kd.R_far (p := ⟨gb390, 0, none⟩) (Kd.R_types HO_8.out BK390.out (by decide)) (fun _ hk => hk.2) (.string ((rd_T29 l0 (rd x8_1 x9_1)).f0))) (fun _ hk => hk.2) (.slice A389_1 ((rd_T29 l0 (rd x8_1 x9_1)).f1).length c389_1)) (fun _ hk => hk.2) (.slice A389_2 ((rd_T29 l0 (rd x8_1 x9_1)).f2).length c389_2)) (fun _ hk => hk.2) (.slice A389_3 ((rd_T29 l0 (rd x8_1 x9_1)).f3).length c389_3)) (fun _ hk => hk.2) (.slice A389_4 ((rd_T29 l0 (rd x8_1 x9_1)).f4).length c389_4)) (fun _ hk => hk.2) (.slice A389_5 ((rd_T29 l0 (rd x8_1 x9_1)).f5).length c389_5)) (fun _ hk => hk.2) (.slice A389_6 ((rd_T29 l0 (rd x8_1 x9_1)).f6).length c389_6)) (fun _ hk => trivial)))⟩; have n1_ : Aside0 (w14.heap[gb390]? = some (.cells #[.string ((rd_T29 l0 (rd x8_1 x9_1)).f0), .slice A389_1 ((rd_T29 l0 (rd x8_1 x9_1)).f1).length c389_1, .slice A389_2 ((rd_T29 l0 (rd x8_1 x9_1)).f2).length c389_2, .slice A389_3 ((rd_T29 l0 (rd x8_1 x9_1)).f3).length c389_3, .slice A389_4 ((rd_T29 l0 (rd x8_1 x9_1)).f4).length c389_4, .slice A389_5 ((rd_T29 l0 (rd x8_1 x9_1)).f5).length c389_5, .slice A389_6 ((rd_T29 l0 (rd x8_1 x9_1)).f6).length c389_6] 29 (0, 0))) := ⟨(by rw [hw]; exact (by (with_reducible repeat (first | refine blk_drewN ?_ _ | refine blk_drew ?_ | refine blk_alloc ?_ _)); refine blk_put (cs := #[.string ((rd_T29 l0 (rd x8_1 x9_1)).f0), .slice A389_1 ((rd_T29 l0 (rd x8_1 x9_1)).f1).length c389_1, .slice A389_2 ((rd_T29 l0 (rd x8_1 x9_1)).f2).length c389_2, .slice A389_3 ((rd_T29 l0 (rd x8_1 x9_1)).f3).length c389_3, .slice A389_4 ((rd_T29 l0 (rd x8_1 x9_1)).f4).length c389_4, .slice A389_5 ((rd_T29 l0 (rd x8_1 x9_1)).f5).length c389_5, .slice none 0 0]) ?_ 6 _ rfl; (with_reducible repeat (first | refine blk_drewN ?_ _ | refine blk_drew ?_ | refine blk_alloc ?_ _)); refine blk_put (cs := #[.string ((rd_T29 l0 (rd x8_1 x9_1)).f0), .slice A389_1 ((rd_T29 l0 (rd x8_1 x9_1)).f1).length c389_1, .slice A389_2 ((rd_T29 l0 (rd x8_1 x9_1)).f2).length c389_2, .slice A389_3 ((rd_T29 l0 (rd x8_1 x9_1)).f3).length c389_3, .slice A389_4 ((rd_T29 l0 (rd x8_1 x9_1)).f4).length c389_4, .slice none 0 0, .slice none 0 0]) ?_ 5 _ rfl; (with_reducible repeat (first | refine blk_drewN ?_ _ | refine blk_drew ?_ | refine blk_alloc ?_ _)); refine blk_put (cs := #[.string ((rd_T29 l0 (rd x8_1 x9_1)).f0), .slice A389_1 ((rd_T29 l0 (rd x8_1 x9_1)).f1).length c389_1, .slice A389_2 ((rd_T29 l0 (rd x8_1 x9_1)).f2).length c389_2, .slice A389_3 ((rd_T29 l0 (rd x8_1 x9_1)).f3).length c389_3, .slice none 0 0, .slice none 0 0, .slice none 0 0]) ?_ 4 _ rfl; (with_reducible repeat (first | refine blk_drewN ?_ _ | refine blk_drew ?_ | refine blk_alloc ?_ _)); refine blk_put (cs := #[.string ((rd_T29 l0 (rd x8_1 x9_1)).f0), .slice A389_1 ((rd_T29 l0 (rd x8_1 x9_1)).f1).length c389_1, .slice A389_2 ((rd_T29 l0 (rd x8_1 x9_1)).f2).length c389_2, .slice none 0 0, .slice none 0 0, .slice none 0 0, .slice none 0 0]) ?_ 3 _ rfl; (with_reducible repeat (first | refine blk_drewN ?_ _ | refine blk_drew ?_ | refine blk_alloc ?_ _)); refine blk_put (cs := #[.string ((rd_T29 l0 (rd x8_1 x9_1)).f0), .slice A389_1 ((rd_T29 l0 (rd x8_1 x9_1)).f1).length c389_1, .slice none 0 0, .slice none 0 0, .slice none 0 0, .slice none 0 0, .slice none 0 0]) ?_ 2 _ rfl; (with_reducible repeat (first | refine blk_drewN ?_ _ | refine blk_drew ?_ | refine blk_alloc ?_ _)); refine blk_put (cs := #[.string ((rd_T29 l0 (rd x8_1 x9_1)).f0), .slice none 0 0, .slice none 0 0, .slice none 0 0, .slice none 0 0, .slice none 0 0, .slice none 0 0]) ?_ 1 _ rfl; (with_reducible repeat (first | refine blk_drewN ?_ _ | refine blk_drew ?_ | refine blk_alloc ?_ _)); refine blk_put (cs := #[.string (⟨#[]⟩ : ByteArray), .slice none 0 0, .slice none 0 0, .slice none 0 0, .slice none 0 0, .slice none 0 0, .slice none 0 0]) ?_ 0 _ rfl; (with_reducible repeat (first | refine blk_drewN ?_ _ | refine blk_drew ?_ | refine blk_alloc ?_ _)); exact BK390.out))⟩; have n2_ : Aside0 (Below w.heap.size w w14) := ⟨(by rw [hw]; exact (by repeat (first | (with_reducible first | exact HB.out | apply below_alloc | apply pw_below_drewN | apply below_drew1 | refine below_set ?_ GE390.out) | exact HB.out)))⟩; clear hw; clear HO_8; clear BK390; clear HB; have HO_8 := n0_; have BK390 := n1_; have HB := n2_; clear n0_ n1_ n2_)); try go_wp2_with (first | ((with_reducible refine gate_dst (N := 10) rfl ?_); refine box_event ?hg (N := 10) ?hd (cs := #[.string (⟨#[]⟩ : ByteArray), .slice none 0 0, .slice none 0 0, .slice none 0 0, .slice none 0 0, .slice none 0 0, .slice none 0 0]) (t := 29) ?hr ?_; (case hd => rfl); (case hg => rfl); (case hr => first | (go_simp; done) | (go_simp; rfl)); intro gb390 hg w12 hbox hb; have n0_ := Aside0.mk (Kd.R_below (by (with_reducible repeat (first | apply Kd.R_alloc | apply Kd.R_drewN | apply Kd.R_drew)); exact HO_8.out) hb); have n1_ := Aside0.mk (below_step (by repeat (first | (with_reducible first | exact HB.out | apply below_alloc | apply pw_below_drewN | apply below_drew1) | exact HB.out)) hb); have n2_ := Aside0.mk (hbox); have n3_ := Aside0.mk ((by rw [hg]; exact (below_size (by repeat (first | (with_reducible first | exact HB.out | apply below_alloc | apply pw_below_drewN | apply below_drew1) | exact HB.out))) : w.heap.size ≤ gb390)); have n4_ := n3_; clear HO_8; clear HB; have HO_8 := n0_; have HB := n1_; have BK390 := n2_; have GW390 := n3_; have GE390 := n4_; clear n0_ n1_ n2_ n3_ n4_; clear hb hbox hg; obtain ⟨hcz13_0, hcz13_1, hcz13_2, hcz13_3, hcz13_4, hcz13_5, hcz13_6, hfz13_0, hfz13_1, hfz13_2, hfz13_3, hfz13_4, hfz13_5, hfz13_6⟩ := cells7 BK390.out) | ((with_reducible refine gate_store (t := 29) (p := 10) rfl ?_); (try (rw [drewN_self w12]; generalize hq_ : World.drewN w12 _ = w12; have n0_ := Aside0.mk (Kd.R_at hq_ HO_8.out); have n1_ := Aside0.mk (blk_at hq_ BK390.out); have n2_ := Aside0.mk (below_at hq_ HB.out); clear hq_ HO_8 BK390 HB; have HO_8 := n0_; have BK390 := n1_; have HB := n2_; clear n0_ n1_ n2_)); refine store_event (t := 29) (p := 10) (v := ?vo_w14) (w1 := (((((((w12.setCell ⟨gb390, 0, none⟩ (.string ((rd_T29 l0 (rd x8_1 x9_1)).f0))).setCell ⟨gb390, 1, none⟩ (.slice A389_1 ((rd_T29 l0 (rd x8_1 x9_1)).f1).length c389_1)).setCell ⟨gb390, 2, none⟩ (.slice A389_2 ((rd_T29 l0 (rd x8_1 x9_1)).f2).length c389_2)).setCell ⟨gb390, 3, none⟩ (.slice A389_3 ((rd_T29 l0 (rd x8_1 x9_1)).f3).length c389_3)).setCell ⟨gb390, 4, none⟩ (.slice A389_4 ((rd_T29 l0 (rd x8_1 x9_1)).f4).length c389_4)).setCell ⟨gb390, 5, none⟩ (.slice A389_5 ((rd_T29 l0 (rd x8_1 x9_1)).f5).length c389_5)).setCell ⟨gb390, 6, none⟩ (.slice A389_6 ((rd_T29 l0 (rd x8_1 x9_1)).f6).length c389_6))) ?hg ?ho ?hn ?hr ?_; (case ho => rfl); (case hg => rfl); (case hn => rfl); (case hr => first | (go_simp; done) | (go_simp; rfl)); intro w14 hw; have n0_ : Aside0 (Kd.R (Kd.int .i64) 3 w14 w.heap.size (fun _ => True) (.slice (some ad388) x8_1.length co11) x8_1) := ⟨(by rw [hw]; exact (by (with_reducible repeat (first | apply Kd.R_alloc | apply Kd.R_drewN | apply Kd.R_drew)); exact Kd.R_mono (Kd.R_far (p := ⟨gb390, 6, none⟩) (Kd.R_far (p := ⟨gb390, 5, none⟩) (Kd.R_far (p := ⟨gb390, 4, none⟩) (Kd.R_far (p := ⟨gb390, 3, none⟩) (Kd.R_far (p := ⟨gb390, 2, none⟩) (Kd.R_far (p := ⟨gb390, 1, none⟩) (Kd.R_far (p := ⟨gb390, 0, none⟩) (Kd.R_types HO_8.out BK390.out (by decide)) (fun _ hk => hk.2) (.string ((rd_T29 l0 (rd x8_1 x9_1)).f0))) (fun _ hk => hk.2) (.slice A389_1 ((rd_T29 l0 (rd x8_1 x9_1)).f1).length c389_1)) (fun _ hk => hk.2) (.slice A389_2 ((rd_T29 l0 (rd x8_1 x9_1)).f2).length c389_2)) (fun _ hk => hk.2) (.slice A389_3 ((rd_T29 l0 (rd x8_1 x9_1)).f3).length c389_3)) (fun _ hk => hk.2) (.slice A389_4 ((rd_T29 l0 (rd x8_1 x9_1)).f4).length c389_4)) (fun _ hk => hk.2) (.slice A389_5 ((rd_T29 l0 (rd x8_1 x9_1)).f5).length c389_5)) (fun _ hk => hk.2) (.slice A389_6 ((rd_T29 l0 (rd x8_1 x9_1)).f6).length c389_6)) (fun _ hk => trivial)))⟩; have n1_ : Aside0 (w14.heap[gb390]? = some (.cells #[.string ((rd_T29 l0 (rd x8_1 x9_1)).f0), .slice A389_1 ((rd_T29 l0 (rd x8_1 x9_1)).f1).length c389_1, .slice A389_2 ((rd_T29 l0 (rd x8_1 x9_1)).f2).length c389_2, .slice A389_3 ((rd_T29 l0 (rd x8_1 x9_1)).f3).length c389_3, .slice A389_4 ((rd_T29 l0 (rd x8_1 x9_1)).f4).length c389_4, .slice A389_5 ((rd_T29 l0 (rd x8_1 x9_1)).f5).length c389_5, .slice A389_6 ((rd_T29 l0 (rd x8_1 x9_1)).f6).length c389_6] 29 (0, 0))) := ⟨(by rw [hw]; exact (by (with_reducible repeat (first | refine blk_drewN ?_ _ | refine blk_drew ?_ | refine blk_alloc ?_ _)); refine blk_put (cs := #[.string ((rd_T29 l0 (rd x8_1 x9_1)).f0), .slice A389_1 ((rd_T29 l0 (rd x8_1 x9_1)).f1).length c389_1, .slice A389_2 ((rd_T29 l0 (rd x8_1 x9_1)).f2).length c389_2, .slice A389_3 ((rd_T29 l0 (rd x8_1 x9_1)).f3).length c389_3, .slice A389_4 ((rd_T29 l0 (rd x8_1 x9_1)).f4).length c389_4, .slice A389_5 ((rd_T29 l0 (rd x8_1 x9_1)).f5).length c389_5, .slice none 0 0]) ?_ 6 _ rfl; (with_reducible repeat (first | refine blk_drewN ?_ _ | refine blk_drew ?_ | refine blk_alloc ?_ _)); refine blk_put (cs := #[.string ((rd_T29 l0 (rd x8_1 x9_1)).f0), .slice A389_1 ((rd_T29 l0 (rd x8_1 x9_1)).f1).length c389_1, .slice A389_2 ((rd_T29 l0 (rd x8_1 x9_1)).f2).length c389_2, .slice A389_3 ((rd_T29 l0 (rd x8_1 x9_1)).f3).length c389_3, .slice A389_4 ((rd_T29 l0 (rd x8_1 x9_1)).f4).length c389_4, .slice none 0 0, .slice none 0 0]) ?_ 5 _ rfl; (with_reducible repeat (first | refine blk_drewN ?_ _ | refine blk_drew ?_ | refine blk_alloc ?_ _)); refine blk_put (cs := #[.string ((rd_T29 l0 (rd x8_1 x9_1)).f0), .slice A389_1 ((rd_T29 l0 (rd x8_1 x9_1)).f1).length c389_1, .slice A389_2 ((rd_T29 l0 (rd x8_1 x9_1)).f2).length c389_2, .slice A389_3 ((rd_T29 l0 (rd x8_1 x9_1)).f3).length c389_3, .slice none 0 0, .slice none 0 0, .slice none 0 0]) ?_ 4 _ rfl; (with_reducible repeat (first | refine blk_drewN ?_ _ | refine blk_drew ?_ | refine blk_alloc ?_ _)); refine blk_put (cs := #[.string ((rd_T29 l0 (rd x8_1 x9_1)).f0), .slice A389_1 ((rd_T29 l0 (rd x8_1 x9_1)).f1).length c389_1, .slice A389_2 ((rd_T29 l0 (rd x8_1 x9_1)).f2).length c389_2, .slice none 0 0, .slice none 0 0, .slice none 0 0, .slice none 0 0]) ?_ 3 _ rfl; (with_reducible repeat (first | refine blk_drewN ?_ _ | refine blk_drew ?_ | refine blk_alloc ?_ _)); refine blk_put (cs := #[.string ((rd_T29 l0 (rd x8_1 x9_1)).f0), .slice A389_1 ((rd_T29 l0 (rd x8_1 x9_1)).f1).length c389_1, .slice none 0 0, .slice none 0 0, .slice none 0 0, .slice none 0 0, .slice none 0 0]) ?_ 2 _ rfl; (with_reducible repeat (first | refine blk_drewN ?_ _ | refine blk_drew ?_ | refine blk_alloc ?_ _)); refine blk_put (cs := #[.string ((rd_T29 l0 (rd x8_1 x9_1)).f0), .slice none 0 0, .slice none 0 0, .slice none 0 0, .slice none 0 0, .slice none 0 0, .slice none 0 0]) ?_ 1 _ rfl; (with_reducible repeat (first | refine blk_drewN ?_ _ | refine blk_drew ?_ | refine blk_alloc ?_ _)); refine blk_put (cs := #[.string (⟨#[]⟩ : ByteArray), .slice none 0 0, .slice none 0 0, .slice none 0 0, .slice none 0 0, .slice none 0 0, .slice none 0 0]) ?_ 0 _ rfl; (with_reducible repeat (first | refine blk_drewN ?_ _ | refine blk_drew ?_ | refine blk_alloc ?_ _)); exact BK390.out))⟩; have n2_ : Aside0 (Below w.heap.size w w14) := ⟨(by rw [hw]; exact (by repeat (first | (with_reducible first | exact HB.out | apply below_alloc | apply pw_below_drewN | apply below_drew1 | refine below_set ?_ GE390.out) | exact HB.out)))⟩; clear hw; clear HO_8; clear BK390; clear HB; have HO_8 := n0_; have BK390 := n1_; have HB := n2_; clear n0_ n1_ n2_)))
                go_loopg [8, 11] k1 (fun kq v8 v11 w' => ∃ (x8_2 : List Int) (x11_2 : Int), v11 = .int .i64 x11_2 ∧ Aside0 (curtilageref13_Closure.l1 kq l0 x8_2 x9_1 x11_2 ((rd_T29 l0 (rd x8_1 x9_1)).f0) ((rd_T29 l0 (rd x8_1 x9_1)).f1) ((rd_T29 l0 (rd x8_1 x9_1)).f2) ((rd_T29 l0 (rd x8_1 x9_1)).f3) ((rd_T29 l0 (rd x8_1 x9_1)).f4) ((rd_T29 l0 (rd x8_1 x9_1)).f5) ((rd_T29 l0 (rd x8_1 x9_1)).f6) = some (r1, r2, r3)) ∧ Aside0 (kq ≤ k1) ∧ Aside0 (Kd.R (Kd.int .i64) 3 w' w.heap.size (fun _ => True) v8 x8_2) ∧ Aside0 (w'.heap[gb390]? = some (.cells #[.string ((rd_T29 l0 (rd x8_1 x9_1)).f0), (.slice A389_1 ((rd_T29 l0 (rd x8_1 x9_1)).f1).length c389_1), (.slice A389_2 ((rd_T29 l0 (rd x8_1 x9_1)).f2).length c389_2), (.slice A389_3 ((rd_T29 l0 (rd x8_1 x9_1)).f3).length c389_3), (.slice A389_4 ((rd_T29 l0 (rd x8_1 x9_1)).f4).length c389_4), (.slice A389_5 ((rd_T29 l0 (rd x8_1 x9_1)).f5).length c389_5), (.slice A389_6 ((rd_T29 l0 (rd x8_1 x9_1)).f6).length c389_6)] 29 (0, 0))) ∧ Aside0 (Below w.heap.size w w'))
                case atStart => exact ⟨(x8_1), (0), (by first | rfl | (simp; done) | (simp [*]; done)), H', ⟨Nat.le_refl _⟩, ⟨by (with_reducible repeat (first | apply Kd.R_alloc | apply Kd.R_drewN | apply Kd.R_drew)); exact HO_8.out⟩, ⟨by (with_reducible repeat (first | refine blk_drewN ?_ _ | refine blk_drew ?_ | refine blk_alloc ?_ _)); exact BK390.out⟩, ⟨by repeat (first | (with_reducible first | exact HB.out | apply below_alloc | apply pw_below_drewN | apply below_drew1 | refine below_set ?_ GE390.out) | exact HB.out)⟩⟩
                case round =>
                  clear H'
                  try clear c1
                  try clear p2
                  try clear c3
                  try clear p3
                  try clear q3
                  try clear hx3
                  try clear c4
                  try clear c4b0
                  try clear c7
                  try clear c7b0
                  try clear c8
                  try clear c8b0
                  try clear c9
                  try clear c9b0
                  try clear c10
                  try clear c10b0
                  try clear hcz13_0
                  try clear hcz13_1
                  try clear hcz13_2
                  try clear hcz13_3
                  try clear hcz13_4
                  try clear hcz13_5
                  try clear hcz13_6
                  try clear hfz13_0
                  try clear hfz13_1
                  try clear hfz13_2
                  try clear hfz13_3
                  try clear hfz13_4
                  try clear hfz13_5
                  try clear hfz13_6
                  try clear hx388_0
                  try clear hx389_0
                  try clear hx389_1
                  try clear hx389_2
                  try clear hx389_3
                  try clear hx389_4
                  try clear hx389_5
                  try clear hx389_6
                  try clear p2
                  try clear p388
                  try clear p389
                  try clear q388
                  try clear q389
                  obtain ⟨x8_2, x11_2, rfl, HA, HK2, HO_8, BK390, HB⟩ := hrel
                  cases gk with
                  | zero => exact absurd HA.out (by simp [curtilageref13_Closure.l1])
                  | succ k2 =>
                    have H := HA.out
                    clear HA
                    simp only [curtilageref13_Closure.l1] at H
                    by_cases c15 : x11_2 < (((rd_T29 l0 (rd x8_1 x9_1)).f1).length : Int)
                    · rw [if_pos c15] at H
                      have c15b0 : decide (x11_2 < (((rd_T29 l0 (rd x8_1 x9_1)).f1).length : Int)) = true := decide_eq_true c15
                      clear c15
                      by_cases c16 : 0 ≤ x11_2
                      · rw [if_pos c16] at H
                        have c16b0 : decide (0 ≤ x11_2) = true := decide_eq_true c16
                        clear c16
                        replace H := Option.bind_eq_some_iff.mp H
                        obtain ⟨t392, A170, H⟩ := H
                        replace H : (if t392 < 0 then (some (([] : List Int), rdOf ByteArray.empty ((rd_T29 l0 (rd x8_1 x9_1)).f1) x11_2, 130)) else ((curtilageref13_Has.f k2 x8_2 t392).bind fun t394 => (if t394 = true then (curtilageref13_Closure.l1 k2 l0 x8_2 x9_1 (wrap64 (x11_2 + 1)) ((rd_T29 l0 (rd x8_1 x9_1)).f0) ((rd_T29 l0 (rd x8_1 x9_1)).f1) ((rd_T29 l0 (rd x8_1 x9_1)).f2) ((rd_T29 l0 (rd x8_1 x9_1)).f3) ((rd_T29 l0 (rd x8_1 x9_1)).f4) ((rd_T29 l0 (rd x8_1 x9_1)).f5) ((rd_T29 l0 (rd x8_1 x9_1)).f6)) else (if x8_2.length < 17592186044416 then (curtilageref13_Closure.l1 k2 l0 (x8_2 ++ [t392]) x9_1 (wrap64 (x11_2 + 1)) ((rd_T29 l0 (rd x8_1 x9_1)).f0) ((rd_T29 l0 (rd x8_1 x9_1)).f1) ((rd_T29 l0 (rd x8_1 x9_1)).f2) ((rd_T29 l0 (rd x8_1 x9_1)).f3) ((rd_T29 l0 (rd x8_1 x9_1)).f4) ((rd_T29 l0 (rd x8_1 x9_1)).f5) ((rd_T29 l0 (rd x8_1 x9_1)).f6)) else (none))))) = some (r1, r2, r3) := H
                        have A17 := Aside0.mk A170
                        clear A170
                        by_cases c18 : t392 < 0
                        · rw [if_pos c18] at H
                          have c18b0 : decide (t392 < 0) = true := decide_eq_true c18
                          clear c18
                          simp only [Option.some.injEq, Prod.mk.injEq] at H
                          obtain ⟨rfl, rfl, rfl⟩ := H
                          have hcz19_0 : wr.cell? ⟨gb390, 0, none⟩ = some (.string ((rd_T29 l0 (rd x8_1 x9_1)).f0)) := (blk_cell BK390.out 0).trans rfl
                          have hcz19_1 : wr.cell? ⟨gb390, 1, none⟩ = some (.slice A389_1 ((rd_T29 l0 (rd x8_1 x9_1)).f1).length c389_1) := (blk_cell BK390.out 1).trans rfl
                          have hcz19_2 : wr.cell? ⟨gb390, 2, none⟩ = some (.slice A389_2 ((rd_T29 l0 (rd x8_1 x9_1)).f2).length c389_2) := (blk_cell BK390.out 2).trans rfl
                          have hcz19_3 : wr.cell? ⟨gb390, 3, none⟩ = some (.slice A389_3 ((rd_T29 l0 (rd x8_1 x9_1)).f3).length c389_3) := (blk_cell BK390.out 3).trans rfl
                          have hcz19_4 : wr.cell? ⟨gb390, 4, none⟩ = some (.slice A389_4 ((rd_T29 l0 (rd x8_1 x9_1)).f4).length c389_4) := (blk_cell BK390.out 4).trans rfl
                          have hcz19_5 : wr.cell? ⟨gb390, 5, none⟩ = some (.slice A389_5 ((rd_T29 l0 (rd x8_1 x9_1)).f5).length c389_5) := (blk_cell BK390.out 5).trans rfl
                          have hcz19_6 : wr.cell? ⟨gb390, 6, none⟩ = some (.slice A389_6 ((rd_T29 l0 (rd x8_1 x9_1)).f6).length c389_6) := (blk_cell BK390.out 6).trans rfl
                          have hfz19_0 := blk_frozen BK390.out 0
                          have hfz19_1 := blk_frozen BK390.out 1
                          have hfz19_2 := blk_frozen BK390.out 2
                          have hfz19_3 := blk_frozen BK390.out 3
                          have hfz19_4 := blk_frozen BK390.out 4
                          have hfz19_5 := blk_frozen BK390.out 5
                          have hfz19_6 := blk_frozen BK390.out 6
                          have p391 : 0 ≤ (x11_2 : Int) := of_decide_eq_true (by first | (with_reducible assumption) | assumption)
                          have q391 : x11_2 < (((rd_T29 l0 (rd x8_1 x9_1)).f1).length : Int) := of_decide_eq_true (by first | (with_reducible assumption) | assumption)
                          obtain ⟨ad391, e391, hx391_0⟩ := Kd.at_string HR389_1.out x11_2 p391 q391
                          cases e391
                          replace hx391_0 := (HB.out.cell (World.block_lt_of_cell? w _ hx391_0)).trans hx391_0
                          replace p391 := eq_true p391
                          replace q391 := eq_true q391
                          go_wp2_with (first | (go_at_call 22; (with_reducible refine (curtilageref13_Find.calls k2 _ _ l0 (rdOf ByteArray.empty ((rd_T29 l0 (rd x8_1 x9_1)).f1) x11_2) t392 _ ?side1 ?side2 A17.out).mono ?_); (case side1 => repeat (first | exact (Kd.C_below HR0.out HB.out) | (with_reducible refine Kd.C_alloc ?_ _) | (with_reducible refine Kd.C_drewN ?_ _) | (with_reducible refine Kd.C_drew ?_))); (case side2 => exact HC0.out); rintro e w' ⟨rfl, ⟨nd, rfl⟩⟩; (try first | exact ⟨rfl, _, World.drewN_drewN _ _ _⟩ | exact ⟨rfl, _, Eq.trans (World.drewN_drewN _ _ _) (congrArg (World.drewN _) (Nat.add_assoc _ _ _))⟩); have p393 : 0 ≤ (x11_2 : Int) := of_decide_eq_true (by first | (with_reducible assumption) | assumption); have q393 : x11_2 < (((rd_T29 l0 (rd x8_1 x9_1)).f1).length : Int) := of_decide_eq_true (by first | (with_reducible assumption) | assumption); obtain ⟨ad393, e393, hx393_0⟩ := Kd.at_string HR389_1.out x11_2 p393 q393; obtain rfl : ad391 = ad393 := (by injection e393); replace hx393_0 := (HB.out.cell (World.block_lt_of_cell? w _ hx393_0)).trans hx393_0; replace p393 := eq_true p393; replace q393 := eq_true q393))
                          repeat (go_quiet (first | (go_at_call 22; (with_reducible refine (curtilageref13_Find.calls k2 _ _ l0 (rdOf ByteArray.empty ((rd_T29 l0 (rd x8_1 x9_1)).f1) x11_2) t392 _ ?side1 ?side2 A17.out).mono ?_); (case side1 => repeat (first | exact (Kd.C_below HR0.out HB.out) | (with_reducible refine Kd.C_alloc ?_ _) | (with_reducible refine Kd.C_drewN ?_ _) | (with_reducible refine Kd.C_drew ?_))); (case side2 => exact HC0.out); rintro e w' ⟨rfl, ⟨nd, rfl⟩⟩; (try first | exact ⟨rfl, _, World.drewN_drewN _ _ _⟩ | exact ⟨rfl, _, Eq.trans (World.drewN_drewN _ _ _) (congrArg (World.drewN _) (Nat.add_assoc _ _ _))⟩); have p393 : 0 ≤ (x11_2 : Int) := of_decide_eq_true (by first | (with_reducible assumption) | assumption); have q393 : x11_2 < (((rd_T29 l0 (rd x8_1 x9_1)).f1).length : Int) := of_decide_eq_true (by first | (with_reducible assumption) | assumption); obtain ⟨ad393, e393, hx393_0⟩ := Kd.at_string HR389_1.out x11_2 p393 q393; obtain rfl : ad391 = ad393 := (by injection e393); replace hx393_0 := (HB.out.cell (World.block_lt_of_cell? w _ hx393_0)).trans hx393_0; replace p393 := eq_true p393; replace q393 := eq_true q393)); try go_wp2_with (first | (go_at_call 22; (with_reducible refine (curtilageref13_Find.calls k2 _ _ l0 (rdOf ByteArray.empty ((rd_T29 l0 (rd x8_1 x9_1)).f1) x11_2) t392 _ ?side1 ?side2 A17.out).mono ?_); (case side1 => repeat (first | exact (Kd.C_below HR0.out HB.out) | (with_reducible refine Kd.C_alloc ?_ _) | (with_reducible refine Kd.C_drewN ?_ _) | (with_reducible refine Kd.C_drew ?_))); (case side2 => exact HC0.out); rintro e w' ⟨rfl, ⟨nd, rfl⟩⟩; (try first | exact ⟨rfl, _, World.drewN_drewN _ _ _⟩ | exact ⟨rfl, _, Eq.trans (World.drewN_drewN _ _ _) (congrArg (World.drewN _) (Nat.add_assoc _ _ _))⟩); have p393 : 0 ≤ (x11_2 : Int) := of_decide_eq_true (by first | (with_reducible assumption) | assumption); have q393 : x11_2 < (((rd_T29 l0 (rd x8_1 x9_1)).f1).length : Int) := of_decide_eq_true (by first | (with_reducible assumption) | assumption); obtain ⟨ad393, e393, hx393_0⟩ := Kd.at_string HR389_1.out x11_2 p393 q393; obtain rfl : ad391 = ad393 := (by injection e393); replace hx393_0 := (HB.out.cell (World.block_lt_of_cell? w _ hx393_0)).trans hx393_0; replace p393 := eq_true p393; replace q393 := eq_true q393)))
                          go_ret3
                          exact ⟨_, by first | rfl | (simp [errW_none, errW_some] <;> rfl) | (simp [*, errW_none, errW_some] <;> rfl), by first | exact Kd.R_nil _ _ _ _ _ | exact Kd.N_nil _ _ _ _ _ | exact Kd.V_nil _ _ _ _ _ | exact Kd.Q_nil _ _ _ _ _ | exact Kd.S_nil _ _ _ _ _, by repeat (first | (with_reducible first | exact HB.out | apply below_alloc | apply pw_below_drewN | apply below_drew1 | refine below_set ?_ GE390.out) | exact HB.out)⟩
                        · rw [if_neg c18] at H
                          have c18b0 : decide (t392 < 0) = false := decide_eq_false c18
                          clear c18
                          replace H := Option.bind_eq_some_iff.mp H
                          obtain ⟨t394, A200, H⟩ := H
                          replace H : (if t394 = true then (curtilageref13_Closure.l1 k2 l0 x8_2 x9_1 (wrap64 (x11_2 + 1)) ((rd_T29 l0 (rd x8_1 x9_1)).f0) ((rd_T29 l0 (rd x8_1 x9_1)).f1) ((rd_T29 l0 (rd x8_1 x9_1)).f2) ((rd_T29 l0 (rd x8_1 x9_1)).f3) ((rd_T29 l0 (rd x8_1 x9_1)).f4) ((rd_T29 l0 (rd x8_1 x9_1)).f5) ((rd_T29 l0 (rd x8_1 x9_1)).f6)) else (if x8_2.length < 17592186044416 then (curtilageref13_Closure.l1 k2 l0 (x8_2 ++ [t392]) x9_1 (wrap64 (x11_2 + 1)) ((rd_T29 l0 (rd x8_1 x9_1)).f0) ((rd_T29 l0 (rd x8_1 x9_1)).f1) ((rd_T29 l0 (rd x8_1 x9_1)).f2) ((rd_T29 l0 (rd x8_1 x9_1)).f3) ((rd_T29 l0 (rd x8_1 x9_1)).f4) ((rd_T29 l0 (rd x8_1 x9_1)).f5) ((rd_T29 l0 (rd x8_1 x9_1)).f6)) else (none))) = some (r1, r2, r3) := H
                          have A20 := Aside0.mk A200
                          clear A200
                          by_cases c21 : t394 = true
                          · subst c21
                            have H1 : (curtilageref13_Closure.l1 k2 l0 x8_2 x9_1 (wrap64 (x11_2 + 1)) ((rd_T29 l0 (rd x8_1 x9_1)).f0) ((rd_T29 l0 (rd x8_1 x9_1)).f1) ((rd_T29 l0 (rd x8_1 x9_1)).f2) ((rd_T29 l0 (rd x8_1 x9_1)).f3) ((rd_T29 l0 (rd x8_1 x9_1)).f4) ((rd_T29 l0 (rd x8_1 x9_1)).f5) ((rd_T29 l0 (rd x8_1 x9_1)).f6)) = some (r1, r2, r3) := by rw [if_pos rfl] at H; exact H
                            clear H
                            have H := H1
                            clear H1
                            have H' := Aside0.mk H
                            clear H
                            have hcz22_0 : wr.cell? ⟨gb390, 0, none⟩ = some (.string ((rd_T29 l0 (rd x8_1 x9_1)).f0)) := (blk_cell BK390.out 0).trans rfl
                            have hcz22_1 : wr.cell? ⟨gb390, 1, none⟩ = some (.slice A389_1 ((rd_T29 l0 (rd x8_1 x9_1)).f1).length c389_1) := (blk_cell BK390.out 1).trans rfl
                            have hcz22_2 : wr.cell? ⟨gb390, 2, none⟩ = some (.slice A389_2 ((rd_T29 l0 (rd x8_1 x9_1)).f2).length c389_2) := (blk_cell BK390.out 2).trans rfl
                            have hcz22_3 : wr.cell? ⟨gb390, 3, none⟩ = some (.slice A389_3 ((rd_T29 l0 (rd x8_1 x9_1)).f3).length c389_3) := (blk_cell BK390.out 3).trans rfl
                            have hcz22_4 : wr.cell? ⟨gb390, 4, none⟩ = some (.slice A389_4 ((rd_T29 l0 (rd x8_1 x9_1)).f4).length c389_4) := (blk_cell BK390.out 4).trans rfl
                            have hcz22_5 : wr.cell? ⟨gb390, 5, none⟩ = some (.slice A389_5 ((rd_T29 l0 (rd x8_1 x9_1)).f5).length c389_5) := (blk_cell BK390.out 5).trans rfl
                            have hcz22_6 : wr.cell? ⟨gb390, 6, none⟩ = some (.slice A389_6 ((rd_T29 l0 (rd x8_1 x9_1)).f6).length c389_6) := (blk_cell BK390.out 6).trans rfl
                            have hfz22_0 := blk_frozen BK390.out 0
                            have hfz22_1 := blk_frozen BK390.out 1
                            have hfz22_2 := blk_frozen BK390.out 2
                            have hfz22_3 := blk_frozen BK390.out 3
                            have hfz22_4 := blk_frozen BK390.out 4
                            have hfz22_5 := blk_frozen BK390.out 5
                            have hfz22_6 := blk_frozen BK390.out 6
                            have p391 : 0 ≤ (x11_2 : Int) := of_decide_eq_true (by first | (with_reducible assumption) | assumption)
                            have q391 : x11_2 < (((rd_T29 l0 (rd x8_1 x9_1)).f1).length : Int) := of_decide_eq_true (by first | (with_reducible assumption) | assumption)
                            obtain ⟨ad391, e391, hx391_0⟩ := Kd.at_string HR389_1.out x11_2 p391 q391
                            cases e391
                            replace hx391_0 := (HB.out.cell (World.block_lt_of_cell? w _ hx391_0)).trans hx391_0
                            replace p391 := eq_true p391
                            replace q391 := eq_true q391
                            go_wp2_with (first | (go_at_call 22; (with_reducible refine (curtilageref13_Find.calls k2 _ _ l0 (rdOf ByteArray.empty ((rd_T29 l0 (rd x8_1 x9_1)).f1) x11_2) t392 _ ?side1 ?side2 A17.out).mono ?_); (case side1 => repeat (first | exact (Kd.C_below HR0.out HB.out) | (with_reducible refine Kd.C_alloc ?_ _) | (with_reducible refine Kd.C_drewN ?_ _) | (with_reducible refine Kd.C_drew ?_))); (case side2 => exact HC0.out); rintro e w' ⟨rfl, ⟨nd, rfl⟩⟩; (try first | exact ⟨rfl, _, World.drewN_drewN _ _ _⟩ | exact ⟨rfl, _, Eq.trans (World.drewN_drewN _ _ _) (congrArg (World.drewN _) (Nat.add_assoc _ _ _))⟩); obtain ⟨Ao23, co23, eo23⟩ := Kd.R_slice HO_8.out; subst eo23) | (go_at_call 17; (with_reducible refine (curtilageref13_Has.calls k2 _ _ x8_2 t392 true _ ?side1 ?side2 A20.out).mono ?_); (case side1 => repeat (first | exact (Kd.R_reads' HO_8.out).2.2 | (with_reducible refine Kd.C_alloc ?_ _) | (with_reducible refine Kd.C_drewN ?_ _) | (with_reducible refine Kd.C_drew ?_))); (case side2 => exact (Kd.R_reads' HO_8.out).2.1); rintro e w' ⟨rfl, ⟨nd, rfl⟩⟩; (try first | exact ⟨rfl, _, World.drewN_drewN _ _ _⟩ | exact ⟨rfl, _, Eq.trans (World.drewN_drewN _ _ _) (congrArg (World.drewN _) (Nat.add_assoc _ _ _))⟩)))
                            repeat (go_quiet (first | (go_at_call 22; (with_reducible refine (curtilageref13_Find.calls k2 _ _ l0 (rdOf ByteArray.empty ((rd_T29 l0 (rd x8_1 x9_1)).f1) x11_2) t392 _ ?side1 ?side2 A17.out).mono ?_); (case side1 => repeat (first | exact (Kd.C_below HR0.out HB.out) | (with_reducible refine Kd.C_alloc ?_ _) | (with_reducible refine Kd.C_drewN ?_ _) | (with_reducible refine Kd.C_drew ?_))); (case side2 => exact HC0.out); rintro e w' ⟨rfl, ⟨nd, rfl⟩⟩; (try first | exact ⟨rfl, _, World.drewN_drewN _ _ _⟩ | exact ⟨rfl, _, Eq.trans (World.drewN_drewN _ _ _) (congrArg (World.drewN _) (Nat.add_assoc _ _ _))⟩); obtain ⟨Ao23, co23, eo23⟩ := Kd.R_slice HO_8.out; subst eo23) | (go_at_call 17; (with_reducible refine (curtilageref13_Has.calls k2 _ _ x8_2 t392 true _ ?side1 ?side2 A20.out).mono ?_); (case side1 => repeat (first | exact (Kd.R_reads' HO_8.out).2.2 | (with_reducible refine Kd.C_alloc ?_ _) | (with_reducible refine Kd.C_drewN ?_ _) | (with_reducible refine Kd.C_drew ?_))); (case side2 => exact (Kd.R_reads' HO_8.out).2.1); rintro e w' ⟨rfl, ⟨nd, rfl⟩⟩; (try first | exact ⟨rfl, _, World.drewN_drewN _ _ _⟩ | exact ⟨rfl, _, Eq.trans (World.drewN_drewN _ _ _) (congrArg (World.drewN _) (Nat.add_assoc _ _ _))⟩))); try go_wp2_with (first | (go_at_call 22; (with_reducible refine (curtilageref13_Find.calls k2 _ _ l0 (rdOf ByteArray.empty ((rd_T29 l0 (rd x8_1 x9_1)).f1) x11_2) t392 _ ?side1 ?side2 A17.out).mono ?_); (case side1 => repeat (first | exact (Kd.C_below HR0.out HB.out) | (with_reducible refine Kd.C_alloc ?_ _) | (with_reducible refine Kd.C_drewN ?_ _) | (with_reducible refine Kd.C_drew ?_))); (case side2 => exact HC0.out); rintro e w' ⟨rfl, ⟨nd, rfl⟩⟩; (try first | exact ⟨rfl, _, World.drewN_drewN _ _ _⟩ | exact ⟨rfl, _, Eq.trans (World.drewN_drewN _ _ _) (congrArg (World.drewN _) (Nat.add_assoc _ _ _))⟩); obtain ⟨Ao23, co23, eo23⟩ := Kd.R_slice HO_8.out; subst eo23) | (go_at_call 17; (with_reducible refine (curtilageref13_Has.calls k2 _ _ x8_2 t392 true _ ?side1 ?side2 A20.out).mono ?_); (case side1 => repeat (first | exact (Kd.R_reads' HO_8.out).2.2 | (with_reducible refine Kd.C_alloc ?_ _) | (with_reducible refine Kd.C_drewN ?_ _) | (with_reducible refine Kd.C_drew ?_))); (case side2 => exact (Kd.R_reads' HO_8.out).2.1); rintro e w' ⟨rfl, ⟨nd, rfl⟩⟩; (try first | exact ⟨rfl, _, World.drewN_drewN _ _ _⟩ | exact ⟨rfl, _, Eq.trans (World.drewN_drewN _ _ _) (congrArg (World.drewN _) (Nat.add_assoc _ _ _))⟩))))
                            go_roundg k2
                            case measure => have := HK1.out; have := HK2.out; omega
                            case rel => exact ⟨(x8_2), (wrap64 (x11_2 + 1)), (by first | rfl | (simp; done) | (simp [*]; done)), H', ⟨by have := HK1.out; have := HK2.out; omega⟩, ⟨by (with_reducible repeat (first | apply Kd.R_alloc | apply Kd.R_drewN | apply Kd.R_drew)); exact HO_8.out⟩, ⟨by (with_reducible repeat (first | refine blk_drewN ?_ _ | refine blk_drew ?_ | refine blk_alloc ?_ _)); exact BK390.out⟩, ⟨by repeat (first | (with_reducible first | exact HB.out | apply below_alloc | apply pw_below_drewN | apply below_drew1 | refine below_set ?_ GE390.out) | exact HB.out)⟩⟩
                          · replace c21 := Bool.eq_false_iff.mpr c21
                            subst c21
                            have H1 : (if x8_2.length < 17592186044416 then (curtilageref13_Closure.l1 k2 l0 (x8_2 ++ [t392]) x9_1 (wrap64 (x11_2 + 1)) ((rd_T29 l0 (rd x8_1 x9_1)).f0) ((rd_T29 l0 (rd x8_1 x9_1)).f1) ((rd_T29 l0 (rd x8_1 x9_1)).f2) ((rd_T29 l0 (rd x8_1 x9_1)).f3) ((rd_T29 l0 (rd x8_1 x9_1)).f4) ((rd_T29 l0 (rd x8_1 x9_1)).f5) ((rd_T29 l0 (rd x8_1 x9_1)).f6)) else (none)) = some (r1, r2, r3) := by rw [if_neg (show ¬ (false = true) by decide)] at H; exact H
                            clear H
                            have H := H1
                            clear H1
                            by_cases c24 : x8_2.length < 17592186044416
                            · rw [if_pos c24] at H
                              have LMc24 := Aside0.mk c24
                              clear c24
                              obtain ⟨y395, hy395⟩ : ∃ y_ : List Int, y_ = (x8_2 ++ [t392]) := ⟨_, rfl⟩
                              replace H : (curtilageref13_Closure.l1 k2 l0 y395 x9_1 (wrap64 (x11_2 + 1)) ((rd_T29 l0 (rd x8_1 x9_1)).f0) ((rd_T29 l0 (rd x8_1 x9_1)).f1) ((rd_T29 l0 (rd x8_1 x9_1)).f2) ((rd_T29 l0 (rd x8_1 x9_1)).f3) ((rd_T29 l0 (rd x8_1 x9_1)).f4) ((rd_T29 l0 (rd x8_1 x9_1)).f5) ((rd_T29 l0 (rd x8_1 x9_1)).f6)) = some (r1, r2, r3) := by first | (rw [hy395]; with_reducible exact H) | (have H2_ := (Option.bind_some _ _).symm.trans H; rw [hy395]; with_reducible exact H2_) | (have H2_ := (Option.bind_some _ _).symm.trans H; with_reducible exact H2_) | with_reducible exact H | (rw [hy395]; exact H) | exact H
                              have Ny395 := Aside0.mk hy395
                              clear hy395
                              have H' := Aside0.mk H
                              clear H
                              have hcz25_0 : wr.cell? ⟨gb390, 0, none⟩ = some (.string ((rd_T29 l0 (rd x8_1 x9_1)).f0)) := (blk_cell BK390.out 0).trans rfl
                              have hcz25_1 : wr.cell? ⟨gb390, 1, none⟩ = some (.slice A389_1 ((rd_T29 l0 (rd x8_1 x9_1)).f1).length c389_1) := (blk_cell BK390.out 1).trans rfl
                              have hcz25_2 : wr.cell? ⟨gb390, 2, none⟩ = some (.slice A389_2 ((rd_T29 l0 (rd x8_1 x9_1)).f2).length c389_2) := (blk_cell BK390.out 2).trans rfl
                              have hcz25_3 : wr.cell? ⟨gb390, 3, none⟩ = some (.slice A389_3 ((rd_T29 l0 (rd x8_1 x9_1)).f3).length c389_3) := (blk_cell BK390.out 3).trans rfl
                              have hcz25_4 : wr.cell? ⟨gb390, 4, none⟩ = some (.slice A389_4 ((rd_T29 l0 (rd x8_1 x9_1)).f4).length c389_4) := (blk_cell BK390.out 4).trans rfl
                              have hcz25_5 : wr.cell? ⟨gb390, 5, none⟩ = some (.slice A389_5 ((rd_T29 l0 (rd x8_1 x9_1)).f5).length c389_5) := (blk_cell BK390.out 5).trans rfl
                              have hcz25_6 : wr.cell? ⟨gb390, 6, none⟩ = some (.slice A389_6 ((rd_T29 l0 (rd x8_1 x9_1)).f6).length c389_6) := (blk_cell BK390.out 6).trans rfl
                              have hfz25_0 := blk_frozen BK390.out 0
                              have hfz25_1 := blk_frozen BK390.out 1
                              have hfz25_2 := blk_frozen BK390.out 2
                              have hfz25_3 := blk_frozen BK390.out 3
                              have hfz25_4 := blk_frozen BK390.out 4
                              have hfz25_5 := blk_frozen BK390.out 5
                              have hfz25_6 := blk_frozen BK390.out 6
                              have p391 : 0 ≤ (x11_2 : Int) := of_decide_eq_true (by first | (with_reducible assumption) | assumption)
                              have q391 : x11_2 < (((rd_T29 l0 (rd x8_1 x9_1)).f1).length : Int) := of_decide_eq_true (by first | (with_reducible assumption) | assumption)
                              obtain ⟨ad391, e391, hx391_0⟩ := Kd.at_string HR389_1.out x11_2 p391 q391
                              cases e391
                              replace hx391_0 := (HB.out.cell (World.block_lt_of_cell? w _ hx391_0)).trans hx391_0
                              replace p391 := eq_true p391
                              replace q391 := eq_true q391
                              go_wp2_with (first | (go_at_call 22; (with_reducible refine (curtilageref13_Find.calls k2 _ _ l0 (rdOf ByteArray.empty ((rd_T29 l0 (rd x8_1 x9_1)).f1) x11_2) t392 _ ?side1 ?side2 A17.out).mono ?_); (case side1 => repeat (first | exact (Kd.C_below HR0.out HB.out) | (with_reducible refine Kd.C_alloc ?_ _) | (with_reducible refine Kd.C_drewN ?_ _) | (with_reducible refine Kd.C_drew ?_))); (case side2 => exact HC0.out); rintro e w' ⟨rfl, ⟨nd, rfl⟩⟩; (try first | exact ⟨rfl, _, World.drewN_drewN _ _ _⟩ | exact ⟨rfl, _, Eq.trans (World.drewN_drewN _ _ _) (congrArg (World.drewN _) (Nat.add_assoc _ _ _))⟩); obtain ⟨Ao26, co26, eo26⟩ := Kd.R_slice HO_8.out; subst eo26) | (go_at_call 17; (with_reducible refine (curtilageref13_Has.calls k2 _ _ x8_2 t392 false _ ?side1 ?side2 A20.out).mono ?_); (case side1 => repeat (first | exact (Kd.R_reads' HO_8.out).2.2 | (with_reducible refine Kd.C_alloc ?_ _) | (with_reducible refine Kd.C_drewN ?_ _) | (with_reducible refine Kd.C_drew ?_))); (case side2 => exact (Kd.R_reads' HO_8.out).2.1); rintro e w' ⟨rfl, ⟨nd, rfl⟩⟩; (try first | exact ⟨rfl, _, World.drewN_drewN _ _ _⟩ | exact ⟨rfl, _, Eq.trans (World.drewN_drewN _ _ _) (congrArg (World.drewN _) (Nat.add_assoc _ _ _))⟩)) | ((with_reducible refine gate_builtin (b := .append) (xs := #[.tmp 61, .tmp 63]) rfl ?_); at_builtin; refine Kd.R_append (Kd.int .i64) (w0 := w) w.heap.size rfl (.tmp 61) (.tmp 63) 27 3 (.int .i64 0) 8 rfl Try.underlying27 info3 rfl (by decide) (by omega) (.slice Ao26 x8_2.length co26) x8_2 t392 [.int .i64 t392] (fun _ => True) (fun _ => False) rfl rfl ?aP (fun _ hk => hk.elim) ?aF ?aO ?aB ?aS ?aL ?_; (case aP => exact rfl); (case aB => exact (by repeat (first | (with_reducible first | exact HB.out | apply below_alloc | apply pw_below_drewN | apply below_drew1 | refine below_set ?_ GE390.out) | exact HB.out))); (case aF => exact (fun _ _ => trivial)); (case aO => exact (by (with_reducible repeat (first | apply Kd.R_alloc | apply Kd.R_drewN | apply Kd.R_drew)); exact HO_8.out)); (case aS => exact (below_size (by repeat (first | (with_reducible first | exact HB.out | apply below_alloc | apply pw_below_drewN | apply below_drew1 | refine below_set ?_ GE390.out) | exact HB.out)))); (case aL => have := LMc24.out; omega); intro v396 w27 ho hb hg hat; rw [← Ny395.out] at ho; have n0_ := Aside0.mk (blk_grown (g := gb390) (o := .cells #[.string ((rd_T29 l0 (rd x8_1 x9_1)).f0), .slice (some ad391) ((rd_T29 l0 (rd x8_1 x9_1)).f1).length c389_1, .slice A389_2 ((rd_T29 l0 (rd x8_1 x9_1)).f2).length c389_2, .slice A389_3 ((rd_T29 l0 (rd x8_1 x9_1)).f3).length c389_3, .slice A389_4 ((rd_T29 l0 (rd x8_1 x9_1)).f4).length c389_4, .slice A389_5 ((rd_T29 l0 (rd x8_1 x9_1)).f5).length c389_5, .slice A389_6 ((rd_T29 l0 (rd x8_1 x9_1)).f6).length c389_6] 29 (0, 0)) (by (with_reducible repeat (first | refine blk_drewN ?_ _ | refine blk_drew ?_ | refine blk_alloc ?_ _)); exact BK390.out) hg (Kd.R_ne HO_8.out BK390.out (by decide))); have n1_ := Aside0.mk (hb); have n2_ := Aside0.mk (ho); clear BK390; clear HB; clear HO_8; have BK390 := n0_; have HB := n1_; have HO397 := n2_; clear n0_ n1_ n2_; clear ho hb hg hat))
                              repeat (go_quiet (first | (go_at_call 22; (with_reducible refine (curtilageref13_Find.calls k2 _ _ l0 (rdOf ByteArray.empty ((rd_T29 l0 (rd x8_1 x9_1)).f1) x11_2) t392 _ ?side1 ?side2 A17.out).mono ?_); (case side1 => repeat (first | exact (Kd.C_below HR0.out HB.out) | (with_reducible refine Kd.C_alloc ?_ _) | (with_reducible refine Kd.C_drewN ?_ _) | (with_reducible refine Kd.C_drew ?_))); (case side2 => exact HC0.out); rintro e w' ⟨rfl, ⟨nd, rfl⟩⟩; (try first | exact ⟨rfl, _, World.drewN_drewN _ _ _⟩ | exact ⟨rfl, _, Eq.trans (World.drewN_drewN _ _ _) (congrArg (World.drewN _) (Nat.add_assoc _ _ _))⟩); obtain ⟨Ao26, co26, eo26⟩ := Kd.R_slice HO_8.out; subst eo26) | (go_at_call 17; (with_reducible refine (curtilageref13_Has.calls k2 _ _ x8_2 t392 false _ ?side1 ?side2 A20.out).mono ?_); (case side1 => repeat (first | exact (Kd.R_reads' HO_8.out).2.2 | (with_reducible refine Kd.C_alloc ?_ _) | (with_reducible refine Kd.C_drewN ?_ _) | (with_reducible refine Kd.C_drew ?_))); (case side2 => exact (Kd.R_reads' HO_8.out).2.1); rintro e w' ⟨rfl, ⟨nd, rfl⟩⟩; (try first | exact ⟨rfl, _, World.drewN_drewN _ _ _⟩ | exact ⟨rfl, _, Eq.trans (World.drewN_drewN _ _ _) (congrArg (World.drewN _) (Nat.add_assoc _ _ _))⟩)) | ((with_reducible refine gate_builtin (b := .append) (xs := #[.tmp 61, .tmp 63]) rfl ?_); at_builtin; refine Kd.R_append (Kd.int .i64) (w0 := w) w.heap.size rfl (.tmp 61) (.tmp 63) 27 3 (.int .i64 0) 8 rfl Try.underlying27 info3 rfl (by decide) (by omega) (.slice Ao26 x8_2.length co26) x8_2 t392 [.int .i64 t392] (fun _ => True) (fun _ => False) rfl rfl ?aP (fun _ hk => hk.elim) ?aF ?aO ?aB ?aS ?aL ?_; (case aP => exact rfl); (case aB => exact (by repeat (first | (with_reducible first | exact HB.out | apply below_alloc | apply pw_below_drewN | apply below_drew1 | refine below_set ?_ GE390.out) | exact HB.out))); (case aF => exact (fun _ _ => trivial)); (case aO => exact (by (with_reducible repeat (first | apply Kd.R_alloc | apply Kd.R_drewN | apply Kd.R_drew)); exact HO_8.out)); (case aS => exact (below_size (by repeat (first | (with_reducible first | exact HB.out | apply below_alloc | apply pw_below_drewN | apply below_drew1 | refine below_set ?_ GE390.out) | exact HB.out)))); (case aL => have := LMc24.out; omega); intro v396 w27 ho hb hg hat; rw [← Ny395.out] at ho; have n0_ := Aside0.mk (blk_grown (g := gb390) (o := .cells #[.string ((rd_T29 l0 (rd x8_1 x9_1)).f0), .slice (some ad391) ((rd_T29 l0 (rd x8_1 x9_1)).f1).length c389_1, .slice A389_2 ((rd_T29 l0 (rd x8_1 x9_1)).f2).length c389_2, .slice A389_3 ((rd_T29 l0 (rd x8_1 x9_1)).f3).length c389_3, .slice A389_4 ((rd_T29 l0 (rd x8_1 x9_1)).f4).length c389_4, .slice A389_5 ((rd_T29 l0 (rd x8_1 x9_1)).f5).length c389_5, .slice A389_6 ((rd_T29 l0 (rd x8_1 x9_1)).f6).length c389_6] 29 (0, 0)) (by (with_reducible repeat (first | refine blk_drewN ?_ _ | refine blk_drew ?_ | refine blk_alloc ?_ _)); exact BK390.out) hg (Kd.R_ne HO_8.out BK390.out (by decide))); have n1_ := Aside0.mk (hb); have n2_ := Aside0.mk (ho); clear BK390; clear HB; clear HO_8; have BK390 := n0_; have HB := n1_; have HO397 := n2_; clear n0_ n1_ n2_; clear ho hb hg hat)); try go_wp2_with (first | (go_at_call 22; (with_reducible refine (curtilageref13_Find.calls k2 _ _ l0 (rdOf ByteArray.empty ((rd_T29 l0 (rd x8_1 x9_1)).f1) x11_2) t392 _ ?side1 ?side2 A17.out).mono ?_); (case side1 => repeat (first | exact (Kd.C_below HR0.out HB.out) | (with_reducible refine Kd.C_alloc ?_ _) | (with_reducible refine Kd.C_drewN ?_ _) | (with_reducible refine Kd.C_drew ?_))); (case side2 => exact HC0.out); rintro e w' ⟨rfl, ⟨nd, rfl⟩⟩; (try first | exact ⟨rfl, _, World.drewN_drewN _ _ _⟩ | exact ⟨rfl, _, Eq.trans (World.drewN_drewN _ _ _) (congrArg (World.drewN _) (Nat.add_assoc _ _ _))⟩); obtain ⟨Ao26, co26, eo26⟩ := Kd.R_slice HO_8.out; subst eo26) | (go_at_call 17; (with_reducible refine (curtilageref13_Has.calls k2 _ _ x8_2 t392 false _ ?side1 ?side2 A20.out).mono ?_); (case side1 => repeat (first | exact (Kd.R_reads' HO_8.out).2.2 | (with_reducible refine Kd.C_alloc ?_ _) | (with_reducible refine Kd.C_drewN ?_ _) | (with_reducible refine Kd.C_drew ?_))); (case side2 => exact (Kd.R_reads' HO_8.out).2.1); rintro e w' ⟨rfl, ⟨nd, rfl⟩⟩; (try first | exact ⟨rfl, _, World.drewN_drewN _ _ _⟩ | exact ⟨rfl, _, Eq.trans (World.drewN_drewN _ _ _) (congrArg (World.drewN _) (Nat.add_assoc _ _ _))⟩)) | ((with_reducible refine gate_builtin (b := .append) (xs := #[.tmp 61, .tmp 63]) rfl ?_); at_builtin; refine Kd.R_append (Kd.int .i64) (w0 := w) w.heap.size rfl (.tmp 61) (.tmp 63) 27 3 (.int .i64 0) 8 rfl Try.underlying27 info3 rfl (by decide) (by omega) (.slice Ao26 x8_2.length co26) x8_2 t392 [.int .i64 t392] (fun _ => True) (fun _ => False) rfl rfl ?aP (fun _ hk => hk.elim) ?aF ?aO ?aB ?aS ?aL ?_; (case aP => exact rfl); (case aB => exact (by repeat (first | (with_reducible first | exact HB.out | apply below_alloc | apply pw_below_drewN | apply below_drew1 | refine below_set ?_ GE390.out) | exact HB.out))); (case aF => exact (fun _ _ => trivial)); (case aO => exact (by (with_reducible repeat (first | apply Kd.R_alloc | apply Kd.R_drewN | apply Kd.R_drew)); exact HO_8.out)); (case aS => exact (below_size (by repeat (first | (with_reducible first | exact HB.out | apply below_alloc | apply pw_below_drewN | apply below_drew1 | refine below_set ?_ GE390.out) | exact HB.out)))); (case aL => have := LMc24.out; omega); intro v396 w27 ho hb hg hat; rw [← Ny395.out] at ho; have n0_ := Aside0.mk (blk_grown (g := gb390) (o := .cells #[.string ((rd_T29 l0 (rd x8_1 x9_1)).f0), .slice (some ad391) ((rd_T29 l0 (rd x8_1 x9_1)).f1).length c389_1, .slice A389_2 ((rd_T29 l0 (rd x8_1 x9_1)).f2).length c389_2, .slice A389_3 ((rd_T29 l0 (rd x8_1 x9_1)).f3).length c389_3, .slice A389_4 ((rd_T29 l0 (rd x8_1 x9_1)).f4).length c389_4, .slice A389_5 ((rd_T29 l0 (rd x8_1 x9_1)).f5).length c389_5, .slice A389_6 ((rd_T29 l0 (rd x8_1 x9_1)).f6).length c389_6] 29 (0, 0)) (by (with_reducible repeat (first | refine blk_drewN ?_ _ | refine blk_drew ?_ | refine blk_alloc ?_ _)); exact BK390.out) hg (Kd.R_ne HO_8.out BK390.out (by decide))); have n1_ := Aside0.mk (hb); have n2_ := Aside0.mk (ho); clear BK390; clear HB; clear HO_8; have BK390 := n0_; have HB := n1_; have HO397 := n2_; clear n0_ n1_ n2_; clear ho hb hg hat)))
                              go_roundg k2
                              case measure => have := HK1.out; have := HK2.out; omega
                              case rel => exact ⟨(y395), (wrap64 (x11_2 + 1)), (by first | rfl | (simp; done) | (simp [*]; done)), H', ⟨by have := HK1.out; have := HK2.out; omega⟩, ⟨by (with_reducible repeat (first | apply Kd.R_alloc | apply Kd.R_drewN | apply Kd.R_drew)); exact HO397.out⟩, ⟨by (with_reducible repeat (first | refine blk_drewN ?_ _ | refine blk_drew ?_ | refine blk_alloc ?_ _)); exact BK390.out⟩, ⟨by repeat (first | (with_reducible first | exact HB.out | apply below_alloc | apply pw_below_drewN | apply below_drew1 | refine below_set ?_ GE390.out) | exact HB.out)⟩⟩
                            · rw [if_neg c24] at H
                              exact absurd H (by simp)
                      · rw [if_neg c16] at H
                        exact absurd H (by simp)
                    · rw [if_neg c15] at H
                      have c15b0 : decide (x11_2 < (((rd_T29 l0 (rd x8_1 x9_1)).f1).length : Int)) = false := decide_eq_false c15
                      clear c15
                      have H' := Aside0.mk H
                      clear H
                      have hcz28_0 : wr.cell? ⟨gb390, 0, none⟩ = some (.string ((rd_T29 l0 (rd x8_1 x9_1)).f0)) := (blk_cell BK390.out 0).trans rfl
                      have hcz28_1 : wr.cell? ⟨gb390, 1, none⟩ = some (.slice A389_1 ((rd_T29 l0 (rd x8_1 x9_1)).f1).length c389_1) := (blk_cell BK390.out 1).trans rfl
                      have hcz28_2 : wr.cell? ⟨gb390, 2, none⟩ = some (.slice A389_2 ((rd_T29 l0 (rd x8_1 x9_1)).f2).length c389_2) := (blk_cell BK390.out 2).trans rfl
                      have hcz28_3 : wr.cell? ⟨gb390, 3, none⟩ = some (.slice A389_3 ((rd_T29 l0 (rd x8_1 x9_1)).f3).length c389_3) := (blk_cell BK390.out 3).trans rfl
                      have hcz28_4 : wr.cell? ⟨gb390, 4, none⟩ = some (.slice A389_4 ((rd_T29 l0 (rd x8_1 x9_1)).f4).length c389_4) := (blk_cell BK390.out 4).trans rfl
                      have hcz28_5 : wr.cell? ⟨gb390, 5, none⟩ = some (.slice A389_5 ((rd_T29 l0 (rd x8_1 x9_1)).f5).length c389_5) := (blk_cell BK390.out 5).trans rfl
                      have hcz28_6 : wr.cell? ⟨gb390, 6, none⟩ = some (.slice A389_6 ((rd_T29 l0 (rd x8_1 x9_1)).f6).length c389_6) := (blk_cell BK390.out 6).trans rfl
                      have hfz28_0 := blk_frozen BK390.out 0
                      have hfz28_1 := blk_frozen BK390.out 1
                      have hfz28_2 := blk_frozen BK390.out 2
                      have hfz28_3 := blk_frozen BK390.out 3
                      have hfz28_4 := blk_frozen BK390.out 4
                      have hfz28_5 := blk_frozen BK390.out 5
                      have hfz28_6 := blk_frozen BK390.out 6
                      go_wp2
                      repeat (go_quiet (fail); try go_wp2)
                      go_roundg k2
                      case measure => have := HK1.out; have := HK2.out; omega
                      case rel => exact ⟨(x8_2), (wrap64 (x9_1 + 1)), (by first | rfl | (simp; done) | (simp [*]; done)), H', ⟨by have := HK1.out; have := HK2.out; omega⟩, ⟨by (with_reducible repeat (first | apply Kd.R_alloc | apply Kd.R_drewN | apply Kd.R_drew)); exact HO_8.out⟩, ⟨by repeat (first | (with_reducible first | exact HB.out | apply below_alloc | apply pw_below_drewN | apply below_drew1 | refine below_set ?_ GE390.out) | exact HB.out)⟩⟩
              · rw [if_neg c10] at H
                exact absurd H (by simp)
            · rw [if_neg c9] at H
              exact absurd H (by simp)
          · rw [if_neg c8] at H
            exact absurd H (by simp)
        · rw [if_neg c7] at H
          have c7b0 : decide (x9_1 < (x8_1.length : Int)) = false := decide_eq_false c7
          clear c7
          simp only [Option.some.injEq, Prod.mk.injEq] at H
          obtain ⟨rfl, rfl, rfl⟩ := H
          obtain ⟨Ao29, co29, eo29⟩ := Kd.R_slice HO_8.out
          subst eo29
          go_wp2
          repeat (go_quiet (fail); try go_wp2)
          go_ret3
          exact ⟨_, by first | rfl | (simp [errW_none, errW_some] <;> rfl) | (simp [*, errW_none, errW_some] <;> rfl), by (with_reducible repeat (first | apply Kd.R_alloc | apply Kd.R_drewN | apply Kd.R_drew)); exact HO_8.out, by repeat (first | (with_reducible first | exact HB.out | apply below_alloc | apply pw_below_drewN | apply below_drew1) | exact HB.out)⟩

mutual
def graph_Reach.j0 : Nat → List (S29) → Int → Bool → Option (List Int)
  | 0, _, _, _ => none
  | k + 1, x0, x1, x17 => if x17 = true then (some ([] : List Int)) else (graph_Reach.l0 k x0 (([x1] : List Int)) 0)
def graph_Reach.l0 : Nat → List (S29) → List Int → Int → Option (List Int)
  | 0, _, _, _ => none
  | k + 1, x0, x5, x6 => if x6 < (x5.length : Int) then (if 0 ≤ x6 then (if 0 ≤ (rd x5 x6) then (if (rd x5 x6) < (x0.length : Int) then (graph_Reach.l1 k x0 x5 x6 ((rd_T29 x0 (rd x5 x6)).f1) (((rd_T29 x0 (rd x5 x6)).f1).length : Int) 0) else (none)) else (none)) else (none)) else ((slices_Sort_int_int.f k x5).bind fun t401 => (some t401))
def graph_Reach.l1 : Nat → List (S29) → List Int → Int → List ByteArray → Int → Int → Option (List Int)
  | 0, _, _, _, _, _, _ => none
  | k + 1, x0, x5, x6, x33, x34, x35 => if x35 < x34 then (if 0 ≤ x35 then (if x35 < (x33.length : Int) then ((graph_Find.f x0 (rdOf ByteArray.empty x33 x35)).bind fun t405 => (if t405 ≥ 0 then ((slices_Contains_int_int.f k x5 t405).bind fun t406 => (if t406 = true then (graph_Reach.l1 k x0 x5 x6 x33 x34 (wrap64 (x35 + 1))) else (if x5.length < 17592186044416 then (graph_Reach.l1 k x0 (x5 ++ [t405]) x6 x33 x34 (wrap64 (x35 + 1))) else (none)))) else (graph_Reach.l1 k x0 x5 x6 x33 x34 (wrap64 (x35 + 1))))) else (none)) else (none)) else (graph_Reach.l0 k x0 x5 (wrap64 (x6 + 1)))
end
def graph_Reach.f (k : Nat) (l0 : List (S29)) (a1 : Int) : Option (List Int) := if a1 < 0 then (graph_Reach.j0 k l0 a1 true) else (graph_Reach.j0 k l0 a1 (decide (a1 ≥ (l0.length : Int))))
theorem graph_Reach.mono_l : ∀ k, (∀ y0 y1 y2, LeO (graph_Reach.j0 k y0 y1 y2) (graph_Reach.j0 (k + 1) y0 y1 y2)) ∧ (∀ y0 y1 y2, LeO (graph_Reach.l0 k y0 y1 y2) (graph_Reach.l0 (k + 1) y0 y1 y2)) ∧ (∀ y0 y1 y2 y3 y4 y5, LeO (graph_Reach.l1 k y0 y1 y2 y3 y4 y5) (graph_Reach.l1 (k + 1) y0 y1 y2 y3 y4 y5))
  | 0 => ⟨fun _ _ _ r h => by simp [graph_Reach.j0] at h, fun _ _ _ r h => by simp [graph_Reach.l0] at h, fun _ _ _ _ _ _ r h => by simp [graph_Reach.l1] at h⟩
  | k + 1 => by
    obtain ⟨ih0, ih1, ih2⟩ := graph_Reach.mono_l k
    refine ⟨?_, ?_, ?_⟩
    · intro y0 y1 y2
      unfold graph_Reach.j0
      repeat' first
      | (with_reducible exact ih0 _ _ _)
      | (with_reducible exact ih1 _ _ _)
      | (with_reducible exact ih2 _ _ _ _ _ _)
      | (with_reducible exact slices_Contains_int_int.mono _ _ _)
      | (with_reducible exact slices_Sort_int_int.mono _ _)
      | (with_reducible exact LeO.refl _)
      | (with_reducible exact LeO.none _)
      | (with_reducible refine LeO.ite ?_ ?_)
      | (with_reducible refine LeO.bind ?_ (fun _ => ?_))
      | exact ih0 _ _ _
      | exact ih1 _ _ _
      | exact ih2 _ _ _ _ _ _
      | exact slices_Contains_int_int.mono _ _ _
      | exact slices_Sort_int_int.mono _ _
      | exact LeO.none _
      | refine LeO.ite ?_ ?_
      | refine LeO.bind ?_ (fun _ => ?_)
    · intro y0 y1 y2
      unfold graph_Reach.l0
      repeat' first
      | (with_reducible exact ih0 _ _ _)
      | (with_reducible exact ih1 _ _ _)
      | (with_reducible exact ih2 _ _ _ _ _ _)
      | (with_reducible exact slices_Contains_int_int.mono _ _ _)
      | (with_reducible exact slices_Sort_int_int.mono _ _)
      | (with_reducible exact LeO.refl _)
      | (with_reducible exact LeO.none _)
      | (with_reducible refine LeO.ite ?_ ?_)
      | (with_reducible refine LeO.bind ?_ (fun _ => ?_))
      | exact ih0 _ _ _
      | exact ih1 _ _ _
      | exact ih2 _ _ _ _ _ _
      | exact slices_Contains_int_int.mono _ _ _
      | exact slices_Sort_int_int.mono _ _
      | exact LeO.none _
      | refine LeO.ite ?_ ?_
      | refine LeO.bind ?_ (fun _ => ?_)
    · intro y0 y1 y2 y3 y4 y5
      unfold graph_Reach.l1
      repeat' first
      | (with_reducible exact ih0 _ _ _)
      | (with_reducible exact ih1 _ _ _)
      | (with_reducible exact ih2 _ _ _ _ _ _)
      | (with_reducible exact slices_Contains_int_int.mono _ _ _)
      | (with_reducible exact slices_Sort_int_int.mono _ _)
      | (with_reducible exact LeO.refl _)
      | (with_reducible exact LeO.none _)
      | (with_reducible refine LeO.ite ?_ ?_)
      | (with_reducible refine LeO.bind ?_ (fun _ => ?_))
      | exact ih0 _ _ _
      | exact ih1 _ _ _
      | exact ih2 _ _ _ _ _ _
      | exact slices_Contains_int_int.mono _ _ _
      | exact slices_Sort_int_int.mono _ _
      | exact LeO.none _
      | refine LeO.ite ?_ ?_
      | refine LeO.bind ?_ (fun _ => ?_)
theorem graph_Reach.mono : ∀ a0 a1 k, LeO (graph_Reach.f k a0 a1) (graph_Reach.f (k + 1) a0 a1) := by
  intro a0 a1 k
  obtain ⟨ih0, ih1, ih2⟩ := graph_Reach.mono_l k
  unfold graph_Reach.f
  repeat' first
      | (with_reducible exact ih0 _ _ _)
      | (with_reducible exact ih1 _ _ _)
      | (with_reducible exact ih2 _ _ _ _ _ _)
      | (with_reducible exact slices_Contains_int_int.mono _ _ _)
      | (with_reducible exact slices_Sort_int_int.mono _ _)
      | (with_reducible exact LeO.refl _)
      | (with_reducible exact LeO.none _)
      | (with_reducible refine LeO.ite ?_ ?_)
      | (with_reducible refine LeO.bind ?_ (fun _ => ?_))
      | exact ih0 _ _ _
      | exact ih1 _ _ _
      | exact ih2 _ _ _ _ _ _
      | exact slices_Contains_int_int.mono _ _ _
      | exact slices_Sort_int_int.mono _ _
      | exact LeO.none _
      | refine LeO.ite ?_ ?_
      | refine LeO.bind ?_ (fun _ => ?_)
set_option maxHeartbeats 8000000 in
set_option maxRecDepth 100000 in
theorem graph_Reach.calls (k : Nat) (A0 : Option Addr) (c0 : Nat) (l0 : List (S29)) (a1 : Int) (r : List Int) (w : World) (hr0 : Kd.C k29 w A0 l0.length l0) (hc0 : l0.length ≤ c0) (h : graph_Reach.f k l0 a1 = some r) :
    Calls Try.prog 20 #[.slice A0 l0.length c0, .int .i64 a1] w fun e w' => ∃ v0_ : Value, e = .returned (v0_) ∧ Kd.R (Kd.int .i64) 3 w' w.heap.size (fun _ => True) v0_ r ∧ Below w.heap.size w w' := by
  have HR0 := Aside0.mk hr0
  have HC0 := Aside0.mk hc0
  clear hr0 hc0
  have HB := Aside0.mk (Below.refl w.heap.size w)
  have H : (if a1 < 0 then (graph_Reach.j0 k l0 a1 true) else (graph_Reach.j0 k l0 a1 (decide (a1 ≥ (l0.length : Int))))) = some r := h
  clear h
  have HC3 := Aside0.mk H
  clear H
  go_enter Try.func20, Try.ntmps20
  go_upto_region 1 with (fail)
  go_cut [17] (fun v17 wc => ∃ (kq : Nat) (x17_2 : Bool), v17 = .bool x17_2 ∧ Aside0 (graph_Reach.j0 kq l0 a1 x17_2 = some r) ∧ Aside0 (kq ≤ k) ∧ Aside0 (Below w.heap.size w wc))
  case first =>
    have H := HC3.out
    clear HC3
    by_cases c4 : a1 < 0
    · rw [if_pos c4] at H
      have c4b0 : decide (a1 < 0) = true := decide_eq_true c4
      clear c4
      (first | rw [c4b0] | (simp only [i64_w, i32_w]; rw [c4b0]) | skip)
      have H' := Aside0.mk H
      clear H
      go_wp2
      go_meet
      case rel => exact ⟨_, (true), (by first | rfl | (simp; done) | (simp [*]; done)), H', ⟨by first | omega | exact Nat.le_refl _⟩, ⟨by repeat (first | (with_reducible first | exact HB.out | apply below_alloc | apply pw_below_drewN | apply below_drew1) | exact HB.out)⟩⟩
    · rw [if_neg c4] at H
      have c4b0 : decide (a1 < 0) = false := decide_eq_false c4
      clear c4
      (first | rw [c4b0] | (simp only [i64_w, i32_w]; rw [c4b0]) | skip)
      have H' := Aside0.mk H
      clear H
      go_wp2
      go_meet
      case rel => exact ⟨_, (decide (a1 ≥ (l0.length : Int))), (by first | rfl | (simp; done) | (simp [*]; done)), H', ⟨by first | omega | exact Nat.le_refl _⟩, ⟨by repeat (first | (with_reducible first | exact HB.out | apply below_alloc | apply pw_below_drewN | apply below_drew1) | exact HB.out)⟩⟩
  case rest =>
    clear HC3
    try clear c2
    try clear p2
    try clear c4
    try clear c4b0
    obtain ⟨kq, x17_2, rfl, HA, HJ2, HB⟩ := hcut
    cases kq with
    | zero => exact absurd HA.out (by simp [graph_Reach.j0])
    | succ kj2 =>
      have H := HA.out
      clear HA
      simp only [graph_Reach.j0] at H
      by_cases c5 : x17_2 = true
      · subst c5
        have H1 : (some ([] : List Int)) = some r := by rw [if_pos rfl] at H; exact H
        clear H
        have H := H1
        clear H1
        obtain rfl := Option.some.inj H
        go_wp2
        go_ret
        exact ⟨_, by first | rfl | (simp [errW_none, errW_some] <;> rfl) | (simp [*, errW_none, errW_some] <;> rfl), by first | exact Kd.R_nil _ _ _ _ _ | exact Kd.N_nil _ _ _ _ _ | exact Kd.V_nil _ _ _ _ _ | exact Kd.Q_nil _ _ _ _ _ | exact Kd.S_nil _ _ _ _ _, by repeat (first | (with_reducible first | exact HB.out | apply below_alloc | apply pw_below_drewN | apply below_drew1) | exact HB.out)⟩
      · replace c5 := Bool.eq_false_iff.mpr c5
        subst c5
        have H1 : (graph_Reach.l0 kj2 l0 (([a1] : List Int)) 0) = some r := by rw [if_neg (show ¬ (false = true) by decide)] at H; exact H
        clear H
        have H := H1
        clear H1
        obtain ⟨y398, hy398⟩ : ∃ y_ : List Int, y_ = (([a1] : List Int)) := ⟨_, rfl⟩
        replace H : (graph_Reach.l0 kj2 l0 y398 0) = some r := by first | (rw [hy398]; with_reducible exact H) | (have H2_ := (Option.bind_some _ _).symm.trans H; rw [hy398]; with_reducible exact H2_) | (have H2_ := (Option.bind_some _ _).symm.trans H; with_reducible exact H2_) | with_reducible exact H | (rw [hy398]; exact H) | exact H
        have Ny398 := Aside0.mk hy398
        clear hy398
        have H' := Aside0.mk H
        clear H
        go_wp2_with (first | ((with_reducible refine gate_dst (N := 19) rfl ?_); (try (refine gate_guard (by rfl) ?_; dsimp only)); refine Kd.R_lit (Kd.int .i64) _ 3 ?hg (N := 19) ?hd (xs := ([a1] : List Int)) (inner := [.int .i64 a1]) (ok := fun _ => True) (okp := fun _ => True) ?hr ?hp (fun _ hk => hk) trivial (Below.refl _ _) (Nat.le_refl _) (by simp) ?_; (case hd => rfl); (case hg => rfl); (case hr => first | (go_simp; done) | (go_simp; rfl)); (case hp => exact (Reps.one (show Kd.M (Kd.int .i64) _ _ _ a1 [.int .i64 a1] from rfl) (Reps.none _ _))); intro v399 w6 ho7 hb hg_ hnew_; clear hg_ hnew_; (first | rw [← Ny398.out] at ho7 | (simp only [Int.reduceToNat] at ho7; rw [← Ny398.out] at ho7)); have n0_ := Aside0.mk (Kd.R_lower ho7 (below_size (by repeat (first | (with_reducible first | exact HB.out | apply below_alloc | apply pw_below_drewN | apply below_drew1) | exact HB.out)))); have n1_ := Aside0.mk (below_step (by repeat (first | (with_reducible first | exact HB.out | apply below_alloc | apply pw_below_drewN | apply below_drew1) | exact HB.out)) hb); clear HB; have HO400 := n0_; have HB := n1_; clear n0_ n1_; clear hb ho7))
        go_loopg [5, 6] kj2 (fun kq v5 v6 w' => ∃ (x5_2 : List Int) (x6_2 : Int), v6 = .int .i64 x6_2 ∧ Aside0 (graph_Reach.l0 kq l0 x5_2 x6_2 = some r) ∧ Aside0 (kq ≤ kj2) ∧ Aside0 (Kd.R (Kd.int .i64) 3 w' w.heap.size (fun _ => True) v5 x5_2) ∧ Aside0 (Below w.heap.size w w'))
        case atStart => exact ⟨(y398), (0), (by first | rfl | (simp; done) | (simp [*]; done)), H', ⟨Nat.le_refl _⟩, ⟨by (with_reducible repeat (first | apply Kd.R_alloc | apply Kd.R_drewN | apply Kd.R_drew)); exact HO400.out⟩, ⟨by repeat (first | (with_reducible first | exact HB.out | apply below_alloc | apply pw_below_drewN | apply below_drew1) | exact HB.out)⟩⟩
        case round =>
          clear H'
          try clear c2
          try clear p2
          try clear c4
          try clear c4b0
          try clear c5
          try clear p2
          obtain ⟨x5_2, x6_2, rfl, HA, HK2, HO_5, HB⟩ := hrel
          cases gk with
          | zero => exact absurd HA.out (by simp [graph_Reach.l0])
          | succ k2 =>
            have H := HA.out
            clear HA
            simp only [graph_Reach.l0] at H
            by_cases c8 : x6_2 < (x5_2.length : Int)
            · rw [if_pos c8] at H
              have c8b0 : decide (x6_2 < (x5_2.length : Int)) = true := decide_eq_true c8
              clear c8
              by_cases c9 : 0 ≤ x6_2
              · rw [if_pos c9] at H
                have c9b0 : decide (0 ≤ x6_2) = true := decide_eq_true c9
                clear c9
                by_cases c10 : 0 ≤ (rd x5_2 x6_2)
                · rw [if_pos c10] at H
                  have c10b0 : decide (0 ≤ (rd x5_2 x6_2)) = true := decide_eq_true c10
                  clear c10
                  by_cases c11 : (rd x5_2 x6_2) < (l0.length : Int)
                  · rw [if_pos c11] at H
                    have c11b0 : decide ((rd x5_2 x6_2) < (l0.length : Int)) = true := decide_eq_true c11
                    clear c11
                    have H' := Aside0.mk H
                    clear H
                    obtain ⟨Ao12, co12, eo12⟩ := Kd.R_slice HO_5.out
                    subst eo12
                    have p402 : 0 ≤ (x6_2 : Int) := of_decide_eq_true (by first | (with_reducible assumption) | assumption)
                    have q402 : x6_2 < (x5_2.length : Int) := of_decide_eq_true (by first | (with_reducible assumption) | assumption)
                    obtain ⟨ad402, e402, hx402_0⟩ := Kd.at_int (Kd.R_reads' HO_5.out).2.2 x6_2 p402 q402
                    cases e402
                    replace p402 := eq_true p402
                    replace q402 := eq_true q402
                    have p403 : 0 ≤ ((rd x5_2 x6_2) : Int) := of_decide_eq_true (by first | (with_reducible assumption) | assumption)
                    have q403 : (rd x5_2 x6_2) < (l0.length : Int) := of_decide_eq_true (by first | (with_reducible assumption) | assumption)
                    obtain ⟨ad403, A403_1, c403_1, A403_2, c403_2, A403_3, c403_3, A403_4, c403_4, A403_5, c403_5, A403_6, c403_6, e403, hx403_0, hx403_1, hx403_2, hx403_3, hx403_4, hx403_5, hx403_6, hl403_1, hi403_1, hl403_2, hi403_2, hl403_3, hi403_3, hl403_4, hi403_4, hl403_5, hi403_5, hl403_6, hi403_6⟩ := at_T29 HR0.out (rd x5_2 x6_2) p403 q403
                    cases e403
                    replace hx403_0 := (HB.out.cell (World.block_lt_of_cell? w _ hx403_0)).trans hx403_0
                    replace hx403_1 := (HB.out.cell (World.block_lt_of_cell? w _ hx403_1)).trans hx403_1
                    replace hx403_2 := (HB.out.cell (World.block_lt_of_cell? w _ hx403_2)).trans hx403_2
                    replace hx403_3 := (HB.out.cell (World.block_lt_of_cell? w _ hx403_3)).trans hx403_3
                    replace hx403_4 := (HB.out.cell (World.block_lt_of_cell? w _ hx403_4)).trans hx403_4
                    replace hx403_5 := (HB.out.cell (World.block_lt_of_cell? w _ hx403_5)).trans hx403_5
                    replace hx403_6 := (HB.out.cell (World.block_lt_of_cell? w _ hx403_6)).trans hx403_6
                    have HR403_1 := Aside0.mk hi403_1
                    have HC403_1 := Aside0.mk hl403_1
                    clear hi403_1 hl403_1
                    have HR403_2 := Aside0.mk hi403_2
                    have HC403_2 := Aside0.mk hl403_2
                    clear hi403_2 hl403_2
                    have HR403_3 := Aside0.mk hi403_3
                    have HC403_3 := Aside0.mk hl403_3
                    clear hi403_3 hl403_3
                    have HR403_4 := Aside0.mk hi403_4
                    have HC403_4 := Aside0.mk hl403_4
                    clear hi403_4 hl403_4
                    have HR403_5 := Aside0.mk hi403_5
                    have HC403_5 := Aside0.mk hl403_5
                    clear hi403_5 hl403_5
                    have HR403_6 := Aside0.mk hi403_6
                    have HC403_6 := Aside0.mk hl403_6
                    clear hi403_6 hl403_6
                    replace p403 := eq_true p403
                    replace q403 := eq_true q403
                    go_wp2
                    go_loopg [5, 35] k2 (fun kq v5 v35 w' => ∃ (x5_3 : List Int) (x35_3 : Int), v35 = .int .i64 x35_3 ∧ Aside0 (graph_Reach.l1 kq l0 x5_3 x6_2 ((rd_T29 l0 (rd x5_2 x6_2)).f1) (((rd_T29 l0 (rd x5_2 x6_2)).f1).length : Int) x35_3 = some r) ∧ Aside0 (kq ≤ k2) ∧ Aside0 (Kd.R (Kd.int .i64) 3 w' w.heap.size (fun _ => True) v5 x5_3) ∧ Aside0 (Below w.heap.size w w'))
                    case atStart => exact ⟨(x5_2), (0), (by first | rfl | (simp; done) | (simp [*]; done)), H', ⟨Nat.le_refl _⟩, ⟨by (with_reducible repeat (first | apply Kd.R_alloc | apply Kd.R_drewN | apply Kd.R_drew)); exact HO_5.out⟩, ⟨by repeat (first | (with_reducible first | exact HB.out | apply below_alloc | apply pw_below_drewN | apply below_drew1) | exact HB.out)⟩⟩
                    case round =>
                      clear H'
                      try clear c1
                      try clear c2
                      try clear p2
                      try clear c4
                      try clear c4b0
                      try clear p4
                      try clear q4
                      try clear hx4
                      try clear c5
                      try clear c8
                      try clear c8b0
                      try clear c9
                      try clear c9b0
                      try clear c10
                      try clear c10b0
                      try clear c11
                      try clear c11b0
                      try clear hx402_0
                      try clear hx403_0
                      try clear hx403_1
                      try clear hx403_2
                      try clear hx403_3
                      try clear hx403_4
                      try clear hx403_5
                      try clear hx403_6
                      try clear p2
                      try clear p402
                      try clear p403
                      try clear q402
                      try clear q403
                      obtain ⟨x5_3, x35_3, rfl, HA, HK3, HO_5, HB⟩ := hrel
                      cases gk with
                      | zero => exact absurd HA.out (by simp [graph_Reach.l1])
                      | succ k3 =>
                        have H := HA.out
                        clear HA
                        simp only [graph_Reach.l1] at H
                        by_cases c13 : x35_3 < (((rd_T29 l0 (rd x5_2 x6_2)).f1).length : Int)
                        · rw [if_pos c13] at H
                          have c13b0 : decide (x35_3 < (((rd_T29 l0 (rd x5_2 x6_2)).f1).length : Int)) = true := decide_eq_true c13
                          clear c13
                          by_cases c14 : 0 ≤ x35_3
                          · rw [if_pos c14] at H
                            have c14b0 : decide (0 ≤ x35_3) = true := decide_eq_true c14
                            clear c14
                            by_cases c15 : x35_3 < (((rd_T29 l0 (rd x5_2 x6_2)).f1).length : Int)
                            · rw [if_pos c15] at H
                              have c15b0 : decide (x35_3 < (((rd_T29 l0 (rd x5_2 x6_2)).f1).length : Int)) = true := decide_eq_true c15
                              clear c15
                              replace H := Option.bind_eq_some_iff.mp H
                              obtain ⟨t405, A160, H⟩ := H
                              replace H : (if t405 ≥ 0 then ((slices_Contains_int_int.f k3 x5_3 t405).bind fun t406 => (if t406 = true then (graph_Reach.l1 k3 l0 x5_3 x6_2 ((rd_T29 l0 (rd x5_2 x6_2)).f1) (((rd_T29 l0 (rd x5_2 x6_2)).f1).length : Int) (wrap64 (x35_3 + 1))) else (if x5_3.length < 17592186044416 then (graph_Reach.l1 k3 l0 (x5_3 ++ [t405]) x6_2 ((rd_T29 l0 (rd x5_2 x6_2)).f1) (((rd_T29 l0 (rd x5_2 x6_2)).f1).length : Int) (wrap64 (x35_3 + 1))) else (none)))) else (graph_Reach.l1 k3 l0 x5_3 x6_2 ((rd_T29 l0 (rd x5_2 x6_2)).f1) (((rd_T29 l0 (rd x5_2 x6_2)).f1).length : Int) (wrap64 (x35_3 + 1)))) = some r := H
                              have A16 := Aside0.mk A160
                              clear A160
                              by_cases c17 : t405 ≥ 0
                              · rw [if_pos c17] at H
                                have c17b0 : decide (0 ≤ t405) = true := decide_eq_true c17
                                clear c17
                                replace H := Option.bind_eq_some_iff.mp H
                                obtain ⟨t406, A180, H⟩ := H
                                replace H : (if t406 = true then (graph_Reach.l1 k3 l0 x5_3 x6_2 ((rd_T29 l0 (rd x5_2 x6_2)).f1) (((rd_T29 l0 (rd x5_2 x6_2)).f1).length : Int) (wrap64 (x35_3 + 1))) else (if x5_3.length < 17592186044416 then (graph_Reach.l1 k3 l0 (x5_3 ++ [t405]) x6_2 ((rd_T29 l0 (rd x5_2 x6_2)).f1) (((rd_T29 l0 (rd x5_2 x6_2)).f1).length : Int) (wrap64 (x35_3 + 1))) else (none))) = some r := H
                                have A18 := Aside0.mk A180
                                clear A180
                                by_cases c19 : t406 = true
                                · subst c19
                                  have H1 : (graph_Reach.l1 k3 l0 x5_3 x6_2 ((rd_T29 l0 (rd x5_2 x6_2)).f1) (((rd_T29 l0 (rd x5_2 x6_2)).f1).length : Int) (wrap64 (x35_3 + 1))) = some r := by rw [if_pos rfl] at H; exact H
                                  clear H
                                  have H := H1
                                  clear H1
                                  have H' := Aside0.mk H
                                  clear H
                                  have p404 : 0 ≤ (x35_3 : Int) := of_decide_eq_true (by first | (with_reducible assumption) | assumption)
                                  have q404 : x35_3 < (((rd_T29 l0 (rd x5_2 x6_2)).f1).length : Int) := of_decide_eq_true (by first | (with_reducible assumption) | assumption)
                                  obtain ⟨ad404, e404, hx404_0⟩ := Kd.at_string HR403_1.out x35_3 p404 q404
                                  cases e404
                                  replace hx404_0 := (HB.out.cell (World.block_lt_of_cell? w _ hx404_0)).trans hx404_0
                                  replace p404 := eq_true p404
                                  replace q404 := eq_true q404
                                  go_wp2_with (first | ((with_reducible refine gate_dst (N := 41) rfl ?_); (with_reducible refine gate_callee (f := 21) rfl ?_); refine goesL_ (some 41) rfl rfl Try.func21 (by kernel_rfl) rfl #[.slice (some ad403) l0.length c0, .string (rdOf ByteArray.empty ((rd_T29 l0 (rd x5_2 x6_2)).f1) x35_3)] rfl (by (try simp only [List.map_toArray, List.map_cons, List.map_nil]); first | done | rfl | (simp only [List.length_drop, List.length_take]; rfl)) ?_; (with_reducible refine (graph_Find.calls _ _ l0 (rdOf ByteArray.empty ((rd_T29 l0 (rd x5_2 x6_2)).f1) x35_3) t405 _ ?side1 ?side2 A16.out).mono ?_); (case side1 => repeat (first | exact (Kd.C_below HR0.out HB.out) | (with_reducible refine Kd.C_alloc ?_ _) | (with_reducible refine Kd.C_drewN ?_ _) | (with_reducible refine Kd.C_drew ?_))); (case side2 => exact HC0.out); rintro e w20 ⟨rfl, hb⟩; refine ⟨_, rfl, ?_⟩; have n0_ := Aside0.mk (Kd.R_below (by (with_reducible repeat (first | apply Kd.R_alloc | apply Kd.R_drewN | apply Kd.R_drew)); exact HO_5.out) hb); have n1_ := Aside0.mk (below_step (by repeat (first | (with_reducible first | exact HB.out | apply below_alloc | apply pw_below_drewN | apply below_drew1) | exact HB.out)) hb); clear HO_5; clear HB; have HO_5 := n0_; have HB := n1_; clear n0_ n1_; (try clear hb); (try clear hb2); (try clear hk); (try clear hi); obtain ⟨Ao21, co21, eo21⟩ := Kd.R_slice HO_5.out; subst eo21) | (go_at_call 24; (with_reducible refine (slices_Contains_int_int.calls k3 _ _ x5_3 t405 true _ ?side1 ?side2 A18.out).mono ?_); (case side1 => repeat (first | exact (Kd.R_reads' HO_5.out).2.2 | (with_reducible refine Kd.C_alloc ?_ _) | (with_reducible refine Kd.C_drewN ?_ _) | (with_reducible refine Kd.C_drew ?_))); (case side2 => exact (Kd.R_reads' HO_5.out).2.1); rintro e w' ⟨rfl, ⟨nd, rfl⟩⟩))
                                  go_roundg k3
                                  case measure => have := HJ2.out; have := HK2.out; have := HK3.out; omega
                                  case rel => exact ⟨(x5_3), (wrap64 (x35_3 + 1)), (by first | rfl | (simp; done) | (simp [*]; done)), H', ⟨by have := HJ2.out; have := HK2.out; have := HK3.out; omega⟩, ⟨by (with_reducible repeat (first | apply Kd.R_alloc | apply Kd.R_drewN | apply Kd.R_drew)); exact HO_5.out⟩, ⟨by repeat (first | (with_reducible first | exact HB.out | apply below_alloc | apply pw_below_drewN | apply below_drew1) | exact HB.out)⟩⟩
                                · replace c19 := Bool.eq_false_iff.mpr c19
                                  subst c19
                                  have H1 : (if x5_3.length < 17592186044416 then (graph_Reach.l1 k3 l0 (x5_3 ++ [t405]) x6_2 ((rd_T29 l0 (rd x5_2 x6_2)).f1) (((rd_T29 l0 (rd x5_2 x6_2)).f1).length : Int) (wrap64 (x35_3 + 1))) else (none)) = some r := by rw [if_neg (show ¬ (false = true) by decide)] at H; exact H
                                  clear H
                                  have H := H1
                                  clear H1
                                  by_cases c22 : x5_3.length < 17592186044416
                                  · rw [if_pos c22] at H
                                    have LMc22 := Aside0.mk c22
                                    clear c22
                                    obtain ⟨y407, hy407⟩ : ∃ y_ : List Int, y_ = (x5_3 ++ [t405]) := ⟨_, rfl⟩
                                    replace H : (graph_Reach.l1 k3 l0 y407 x6_2 ((rd_T29 l0 (rd x5_2 x6_2)).f1) (((rd_T29 l0 (rd x5_2 x6_2)).f1).length : Int) (wrap64 (x35_3 + 1))) = some r := by first | (rw [hy407]; with_reducible exact H) | (have H2_ := (Option.bind_some _ _).symm.trans H; rw [hy407]; with_reducible exact H2_) | (have H2_ := (Option.bind_some _ _).symm.trans H; with_reducible exact H2_) | with_reducible exact H | (rw [hy407]; exact H) | exact H
                                    have Ny407 := Aside0.mk hy407
                                    clear hy407
                                    have H' := Aside0.mk H
                                    clear H
                                    have p404 : 0 ≤ (x35_3 : Int) := of_decide_eq_true (by first | (with_reducible assumption) | assumption)
                                    have q404 : x35_3 < (((rd_T29 l0 (rd x5_2 x6_2)).f1).length : Int) := of_decide_eq_true (by first | (with_reducible assumption) | assumption)
                                    obtain ⟨ad404, e404, hx404_0⟩ := Kd.at_string HR403_1.out x35_3 p404 q404
                                    cases e404
                                    replace hx404_0 := (HB.out.cell (World.block_lt_of_cell? w _ hx404_0)).trans hx404_0
                                    replace p404 := eq_true p404
                                    replace q404 := eq_true q404
                                    go_wp2_with (first | ((with_reducible refine gate_dst (N := 41) rfl ?_); (with_reducible refine gate_callee (f := 21) rfl ?_); refine goesL_ (some 41) rfl rfl Try.func21 (by kernel_rfl) rfl #[.slice (some ad403) l0.length c0, .string (rdOf ByteArray.empty ((rd_T29 l0 (rd x5_2 x6_2)).f1) x35_3)] rfl (by (try simp only [List.map_toArray, List.map_cons, List.map_nil]); first | done | rfl | (simp only [List.length_drop, List.length_take]; rfl)) ?_; (with_reducible refine (graph_Find.calls _ _ l0 (rdOf ByteArray.empty ((rd_T29 l0 (rd x5_2 x6_2)).f1) x35_3) t405 _ ?side1 ?side2 A16.out).mono ?_); (case side1 => repeat (first | exact (Kd.C_below HR0.out HB.out) | (with_reducible refine Kd.C_alloc ?_ _) | (with_reducible refine Kd.C_drewN ?_ _) | (with_reducible refine Kd.C_drew ?_))); (case side2 => exact HC0.out); rintro e w23 ⟨rfl, hb⟩; refine ⟨_, rfl, ?_⟩; have n0_ := Aside0.mk (Kd.R_below (by (with_reducible repeat (first | apply Kd.R_alloc | apply Kd.R_drewN | apply Kd.R_drew)); exact HO_5.out) hb); have n1_ := Aside0.mk (below_step (by repeat (first | (with_reducible first | exact HB.out | apply below_alloc | apply pw_below_drewN | apply below_drew1) | exact HB.out)) hb); clear HO_5; clear HB; have HO_5 := n0_; have HB := n1_; clear n0_ n1_; (try clear hb); (try clear hb2); (try clear hk); (try clear hi); obtain ⟨Ao24, co24, eo24⟩ := Kd.R_slice HO_5.out; subst eo24) | (go_at_call 24; (with_reducible refine (slices_Contains_int_int.calls k3 _ _ x5_3 t405 false _ ?side1 ?side2 A18.out).mono ?_); (case side1 => repeat (first | exact (Kd.R_reads' HO_5.out).2.2 | (with_reducible refine Kd.C_alloc ?_ _) | (with_reducible refine Kd.C_drewN ?_ _) | (with_reducible refine Kd.C_drew ?_))); (case side2 => exact (Kd.R_reads' HO_5.out).2.1); rintro e w' ⟨rfl, ⟨nd, rfl⟩⟩) | ((with_reducible refine gate_builtin (b := .append) (xs := #[.tmp 50, .tmp 52]) rfl ?_); (try (refine gate_guard (by rfl) ?_; dsimp only)); at_builtin; refine Kd.R_append (Kd.int .i64) (w0 := w) w.heap.size rfl (.tmp 50) (.tmp 52) 27 3 (.int .i64 0) 8 rfl Try.underlying27 info3 rfl (by decide) (by omega) (.slice Ao24 x5_3.length co24) x5_3 t405 [.int .i64 t405] (fun _ => True) (fun _ => False) rfl rfl ?aP (fun _ hk => hk.elim) ?aF ?aO ?aB ?aS ?aL ?_; (case aP => exact rfl); (case aB => exact (by repeat (first | (with_reducible first | exact HB.out | apply below_alloc | apply pw_below_drewN | apply below_drew1) | exact HB.out))); (case aF => exact (fun _ _ => trivial)); (case aO => exact (by (with_reducible repeat (first | apply Kd.R_alloc | apply Kd.R_drewN | apply Kd.R_drew)); exact HO_5.out)); (case aS => exact (below_size (by repeat (first | (with_reducible first | exact HB.out | apply below_alloc | apply pw_below_drewN | apply below_drew1) | exact HB.out)))); (case aL => have := LMc22.out; omega); intro v408 w25 ho hb hg hat; rw [← Ny407.out] at ho; have n0_ := Aside0.mk (hb); have n1_ := Aside0.mk (ho); clear HB; clear HO_5; have HB := n0_; have HO409 := n1_; clear n0_ n1_; clear ho hb hg hat))
                                    go_roundg k3
                                    case measure => have := HJ2.out; have := HK2.out; have := HK3.out; omega
                                    case rel => exact ⟨(y407), (wrap64 (x35_3 + 1)), (by first | rfl | (simp; done) | (simp [*]; done)), H', ⟨by have := HJ2.out; have := HK2.out; have := HK3.out; omega⟩, ⟨by (with_reducible repeat (first | apply Kd.R_alloc | apply Kd.R_drewN | apply Kd.R_drew)); exact HO409.out⟩, ⟨by repeat (first | (with_reducible first | exact HB.out | apply below_alloc | apply pw_below_drewN | apply below_drew1) | exact HB.out)⟩⟩
                                  · rw [if_neg c22] at H
                                    exact absurd H (by simp)
                              · rw [if_neg c17] at H
                                have c17b0 : decide (0 ≤ t405) = false := decide_eq_false c17
                                clear c17
                                have H' := Aside0.mk H
                                clear H
                                have p404 : 0 ≤ (x35_3 : Int) := of_decide_eq_true (by first | (with_reducible assumption) | assumption)
                                have q404 : x35_3 < (((rd_T29 l0 (rd x5_2 x6_2)).f1).length : Int) := of_decide_eq_true (by first | (with_reducible assumption) | assumption)
                                obtain ⟨ad404, e404, hx404_0⟩ := Kd.at_string HR403_1.out x35_3 p404 q404
                                cases e404
                                replace hx404_0 := (HB.out.cell (World.block_lt_of_cell? w _ hx404_0)).trans hx404_0
                                replace p404 := eq_true p404
                                replace q404 := eq_true q404
                                go_wp2_with (first | ((with_reducible refine gate_dst (N := 41) rfl ?_); (with_reducible refine gate_callee (f := 21) rfl ?_); refine goesL_ (some 41) rfl rfl Try.func21 (by kernel_rfl) rfl #[.slice (some ad403) l0.length c0, .string (rdOf ByteArray.empty ((rd_T29 l0 (rd x5_2 x6_2)).f1) x35_3)] rfl (by (try simp only [List.map_toArray, List.map_cons, List.map_nil]); first | done | rfl | (simp only [List.length_drop, List.length_take]; rfl)) ?_; (with_reducible refine (graph_Find.calls _ _ l0 (rdOf ByteArray.empty ((rd_T29 l0 (rd x5_2 x6_2)).f1) x35_3) t405 _ ?side1 ?side2 A16.out).mono ?_); (case side1 => repeat (first | exact (Kd.C_below HR0.out HB.out) | (with_reducible refine Kd.C_alloc ?_ _) | (with_reducible refine Kd.C_drewN ?_ _) | (with_reducible refine Kd.C_drew ?_))); (case side2 => exact HC0.out); rintro e w26 ⟨rfl, hb⟩; refine ⟨_, rfl, ?_⟩; have n0_ := Aside0.mk (Kd.R_below (by (with_reducible repeat (first | apply Kd.R_alloc | apply Kd.R_drewN | apply Kd.R_drew)); exact HO_5.out) hb); have n1_ := Aside0.mk (below_step (by repeat (first | (with_reducible first | exact HB.out | apply below_alloc | apply pw_below_drewN | apply below_drew1) | exact HB.out)) hb); clear HO_5; clear HB; have HO_5 := n0_; have HB := n1_; clear n0_ n1_; (try clear hb); (try clear hb2); (try clear hk); (try clear hi)))
                                go_roundg k3
                                case measure => have := HJ2.out; have := HK2.out; have := HK3.out; omega
                                case rel => exact ⟨(x5_3), (wrap64 (x35_3 + 1)), (by first | rfl | (simp; done) | (simp [*]; done)), H', ⟨by have := HJ2.out; have := HK2.out; have := HK3.out; omega⟩, ⟨by (with_reducible repeat (first | apply Kd.R_alloc | apply Kd.R_drewN | apply Kd.R_drew)); exact HO_5.out⟩, ⟨by repeat (first | (with_reducible first | exact HB.out | apply below_alloc | apply pw_below_drewN | apply below_drew1) | exact HB.out)⟩⟩
                            · rw [if_neg c15] at H
                              exact absurd H (by simp)
                          · rw [if_neg c14] at H
                            exact absurd H (by simp)
                        · rw [if_neg c13] at H
                          have c13b0 : decide (x35_3 < (((rd_T29 l0 (rd x5_2 x6_2)).f1).length : Int)) = false := decide_eq_false c13
                          clear c13
                          have H' := Aside0.mk H
                          clear H
                          go_wp2
                          go_roundg k3
                          case measure => have := HJ2.out; have := HK2.out; have := HK3.out; omega
                          case rel => exact ⟨(x5_3), (wrap64 (x6_2 + 1)), (by first | rfl | (simp; done) | (simp [*]; done)), H', ⟨by have := HJ2.out; have := HK2.out; have := HK3.out; omega⟩, ⟨by (with_reducible repeat (first | apply Kd.R_alloc | apply Kd.R_drewN | apply Kd.R_drew)); exact HO_5.out⟩, ⟨by repeat (first | (with_reducible first | exact HB.out | apply below_alloc | apply pw_below_drewN | apply below_drew1) | exact HB.out)⟩⟩
                  · rw [if_neg c11] at H
                    exact absurd H (by simp)
                · rw [if_neg c10] at H
                  exact absurd H (by simp)
              · rw [if_neg c9] at H
                exact absurd H (by simp)
            · rw [if_neg c8] at H
              have c8b0 : decide (x6_2 < (x5_2.length : Int)) = false := decide_eq_false c8
              clear c8
              replace H := Option.bind_eq_some_iff.mp H
              obtain ⟨t401, A270, H⟩ := H
              replace H : (some t401) = some r := H
              have A27 := Aside0.mk A270
              clear A270
              obtain rfl := Option.some.inj H
              obtain ⟨Ao28, co28, eo28⟩ := Kd.R_slice HO_5.out
              subst eo28
              go_wp2_with (first | ((with_reducible refine gate_dst (N := 56) rfl ?_); (with_reducible refine gate_callee (f := 28) rfl ?_); refine goesL_ (some 56) rfl rfl Try.func28 (by kernel_rfl) rfl #[.slice Ao28 x5_2.length co28] rfl (by (try simp only [List.map_toArray, List.map_cons, List.map_nil]); first | done | rfl | (simp only [List.length_drop, List.length_take]; rfl)) ?_; (with_reducible refine (slices_Sort_int_int.calls k2 (fun k_ => some k_ = (.slice Ao28 x5_2.length co28 : Value).ownBlock) (.slice Ao28 x5_2.length co28) x5_2 t401 w _ ?side1 ?side2 A27.out).mono ?_); (case side1 => repeat (first | (with_reducible first | exact HB.out | apply below_alloc | apply pw_below_drewN | apply below_drew1) | exact HB.out)); (case side2 => exact Kd.R_tight rfl HO_5.out); rintro e w29 ⟨rfl, hy0, hb, hkp⟩; refine ⟨_, rfl, ?_⟩; have n0_ := Aside0.mk (Kd.R_reok rfl hy0 (fun k_ e_ => HO_5.out.1 k_ e_)); have n1_ := Aside0.mk (hb); clear HO_5; clear HB; have HO_5 := n0_; have HB := n1_; clear n0_ n1_; (try clear hb); (try clear hkp); (try clear hy0)))
              go_ret
              exact ⟨_, by first | rfl | (simp [errW_none, errW_some] <;> rfl) | (simp [*, errW_none, errW_some] <;> rfl), by (with_reducible repeat (first | apply Kd.R_alloc | apply Kd.R_drewN | apply Kd.R_drew)); exact HO_5.out, by repeat (first | (with_reducible first | exact HB.out | apply below_alloc | apply pw_below_drewN | apply below_drew1) | exact HB.out)⟩

end Go.Proofs.Ytndmfjdoekdleaa.P
