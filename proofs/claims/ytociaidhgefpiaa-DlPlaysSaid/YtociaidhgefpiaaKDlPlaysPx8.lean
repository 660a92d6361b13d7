/- What functions of the program, and of its laws, give, each proved of its code by a walk; no condition. -/
import Derived.Test.YtociaidhgefpiaaKDlPlaysPx0
import Derived.Test.YtociaidhgefpiaaKDlPlaysPx1
import Derived.Test.YtociaidhgefpiaaKDlPlaysPx5
import Derived.Test.YtociaidhgefpiaaKDlPlaysSq
import Derived.Test.YtociaidhgefpiaaKDlPlaysUsh
namespace Go.Proofs.Ytociaidhgefpiaa.P
open Go.RowKit Go.Proofs.YtociaidhgefpiaaW.PrintWords Go.Proofs.YtociaidhgefpiaaW.PrintLast Go.Proofs.YtociaidhgefpiaaW.PrintMore
attribute [local go_sem] max2_int min2_int max_two min_two max_three min_three max_four min_four   -- for this text's walks alone
set_option linter.unusedVariables false
set_option linter.unusedSimpArgs false

mutual
def graph_Reach.j0 : Nat → List (S38) → Int → Bool → Option (List Int)
  | 0, _, _, _ => none
  | k + 1, x0, x1, x17 => if x17 = true then (some ([] : List Int)) else (graph_Reach.l0 k x0 (([x1] : List Int)) 0)
def graph_Reach.l0 : Nat → List (S38) → List Int → Int → Option (List Int)
  | 0, _, _, _ => none
  | k + 1, x0, x5, x6 => if x6 < (x5.length : Int) then (if 0 ≤ x6 then (if 0 ≤ (rd x5 x6) then (if (rd x5 x6) < (x0.length : Int) then (graph_Reach.l1 k x0 x5 x6 ((rd_T38 x0 (rd x5 x6)).f1) (((rd_T38 x0 (rd x5 x6)).f1).length : Int) 0) else (none)) else (none)) else (none)) else ((slices_Sort_int_int.f k x5).bind fun t154 => (some t154))
def graph_Reach.l1 : Nat → List (S38) → List Int → Int → List ByteArray → Int → Int → Option (List Int)
  | 0, _, _, _, _, _, _ => none
  | k + 1, x0, x5, x6, x33, x34, x35 => if x35 < x34 then (if 0 ≤ x35 then (if x35 < (x33.length : Int) then ((graph_Find.f x0 (rdOf ByteArray.empty x33 x35)).bind fun t158 => (if t158 ≥ 0 then ((slices_Contains_int_int.f k x5 t158).bind fun t159 => (if t159 = true then (graph_Reach.l1 k x0 x5 x6 x33 x34 (wrap64 (x35 + 1))) else (if x5.length < 17592186044416 then (graph_Reach.l1 k x0 (x5 ++ [t158]) x6 x33 x34 (wrap64 (x35 + 1))) else (none)))) else (graph_Reach.l1 k x0 x5 x6 x33 x34 (wrap64 (x35 + 1))))) else (none)) else (none)) else (graph_Reach.l0 k x0 x5 (wrap64 (x6 + 1)))
end
def graph_Reach.f (k : Nat) (l0 : List (S38)) (a1 : Int) : Option (List Int) := if a1 < 0 then (graph_Reach.j0 k l0 a1 true) else (graph_Reach.j0 k l0 a1 (decide (a1 ≥ (l0.length : Int))))
theorem graph_Reach.mono_l : ∀ k, (∀ y0 y1 y2, LeO (graph_Reach.j0 k y0 y1 y2) (graph_Reach.j0 (k + 1) y0 y1 y2)) ∧ (∀ y0 y1 y2, LeO (graph_Reach.l0 k y0 y1 y2) (graph_Reach.l0 (k + 1) y0 y1 y2)) ∧ (∀ y0 y1 y2 y3 y4 y5, LeO (graph_Reach.l1 k y0 y1 y2 y3 y4 y5) (graph_Reach.l1 (k + 1) y0 y1 y2 y3 y4 y5))
  | 0 => ⟨fun _ _ _ r h => by simp [graph_Reach.j0] at h, fun _ _ _ r h => by simp [graph_Reach.l0] at h, fun _ _ _ _ _ _ r h => by simp [graph_Reach.l1] at h⟩
  | k + 1 => by
    obtain ⟨ih0, ih1, ih2⟩ := graph_Reach.mono_l k
    refine ⟨?_, ?_, ?_⟩
    · intro y0 y1 y2
      unfold graph_Reach.j0
      repeat' first
      | (with_reducible exact ih0 _ _ _)
      | (with_reducible exact ih1 _ _ _)
      | (with_reducible exact ih2 _ _ _ _ _ _)
      | (with_reducible exact slices_Contains_int_int.mono _ _ _)
      | (with_reducible exact slices_Sort_int_int.mono _ _)
      | (with_reducible exact LeO.refl _)
      | (with_reducible exact LeO.none _)
      | (with_reducible refine LeO.ite ?_ ?_)
      | (with_reducible refine LeO.bind ?_ (fun _ => ?_))
      | exact ih0 _ _ _
      | exact ih1 _ _ _
      | exact ih2 _ _ _ _ _ _
      | exact slices_Contains_int_int.mono _ _ _
      | exact slices_Sort_int_int.mono _ _
      | exact LeO.none _
      | refine LeO.ite ?_ ?_
      | refine LeO.bind ?_ (fun _ => ?_)
    · intro y0 y1 y2
      unfold graph_Reach.l0
      repeat' first
      | (with_reducible exact ih0 _ _ _)
      | (with_reducible exact ih1 _ _ _)
      | (with_reducible exact ih2 _ _ _ _ _ _)
      | (with_reducible exact slices_Contains_int_int.mono _ _ _)
      | (with_reducible exact slices_Sort_int_int.mono _ _)
      | (with_reducible exact LeO.refl _)
      | (with_reducible exact LeO.none _)
      | (with_reducible refine LeO.ite ?_ ?_)
      | (with_reducible refine LeO.bind ?_ (fun _ => ?_))
      | exact ih0 _ _ _
      | exact ih1 _ _ _
      | exact ih2 _ _ _ _ _ _
      | exact slices_Contains_int_int.mono _ _ _
      | exact slices_Sort_int_int.mono _ _
      | exact LeO.none _
      | refine LeO.ite ?_ ?_
      | refine LeO.bind ?_ (fun _ => ?_)
    · intro y0 y1 y2 y3 y4 y5
      unfold graph_Reach.l1
      repeat' first
      | (with_reducible exact ih0 _ _ _)
      | (with_reducible exact ih1 _ _ _)
      | (with_reducible exact ih2 _ _ _ _ _ _)
      | (with_reducible exact slices_Contains_int_int.mono _ _ _)
      | (with_reducible exact slices_Sort_int_int.mono _ _)
      | (with_reducible exact LeO.refl _)
      | (with_reducible exact LeO.none _)
      | (with_reducible refine LeO.ite ?_ ?_)
      | (with_reducible refine LeO.bind ?_ (fun _ => ?_))
      | exact ih0 _ _ _
      | exact ih1 _ _ _
      | exact ih2 _ _ _ _ _ _
      | exact slices_Contains_int_int.mono _ _ _
      | exact slices_Sort_int_int.mono _ _
      | exact LeO.none _
      | refine LeO.ite ?_ ?_
      | refine LeO.bind ?_ (fun _ => ?_)
theorem graph_Reach.mono : ∀ a0 a1 k, LeO (graph_Reach.f k a0 a1) (graph_Reach.f (k + 1) a0 a1) := by
  intro a0 a1 k
  obtain ⟨ih0, ih1, ih2⟩ := graph_Reach.mono_l k
  unfold graph_Reach.f
  repeat' first
      | (with_reducible exact ih0 _ _ _)
      | (with_reducible exact ih1 _ _ _)
      | (with_reducible exact ih2 _ _ _ _ _ _)
      | (with_reducible exact slices_Contains_int_int.mono _ _ _)
      | (with_reducible exact slices_Sort_int_int.mono _ _)
      | (with_reducible exact LeO.refl _)
      | (with_reducible exact LeO.none _)
      | (with_reducible refine LeO.ite ?_ ?_)
      | (with_reducible refine LeO.bind ?_ (fun _ => ?_))
      | exact ih0 _ _ _
      | exact ih1 _ _ _
      | exact ih2 _ _ _ _ _ _
      | exact slices_Contains_int_int.mono _ _ _
      | exact slices_Sort_int_int.mono _ _
      | exact LeO.none _
      | refine LeO.ite ?_ ?_
      | refine LeO.bind ?_ (fun _ => ?_)
set_option maxHeartbeats 8000000 in
set_option maxRecDepth 100000 in
theorem graph_Reach.calls (k : Nat) (A0 : Option Addr) (c0 : Nat) (l0 : List (S38)) (a1 : Int) (r : List Int) (w : World) (hr0 : Kd.C k38 w A0 l0.length l0) (hc0 : l0.length ≤ c0) (h : graph_Reach.f k l0 a1 = some r) :
  Calls Try.prog 45 #[.slice A0 l0.length c0, .int .i64 a1] w fun e w' => ∃ v0_ : Value, e = .returned (v0_) ∧ Kd.R (Kd.int .i64) 3 w' w.heap.size (fun _ => True) v0_ r ∧ Below w.heap.size w w' := by
 have HR0 := am hr0
 have HC0 := am hc0
 clear hr0 hc0
 have HB := am (Below.refl w.heap.size w)
 have H : (if a1 < 0 then (graph_Reach.j0 k l0 a1 true) else (graph_Reach.j0 k l0 a1 (decide (a1 ≥ (l0.length : Int))))) = some r := h
 clear h
 have HC3 := am H
 clear H
 go_enter Try.func45, Try.ntmps45
 go_upto_region 1 with (fail)
 go_cut [17] (fun v17 wc => ∃ (kq : Nat) (x17_2 : Bool), v17 = .bool x17_2 ∧ Aside0 (graph_Reach.j0 kq l0 a1 x17_2 = some r) ∧ Aside0 (kq ≤ k) ∧ Aside0 (Below w.heap.size w wc))
 case first =>
  have H := HC3.out
  clear HC3
  by_cases c4 : a1 < 0
  ·rw [if_pos c4] at H
   have c4b0 : decide (a1 < 0) = true := decide_eq_true c4
   clear c4
   (first | rw [c4b0] | (simp only [i64_w, i32_w]; rw [c4b0]) | skip)
   have H' := am H
   clear H
   go_wp2
   go_meet
   case rel => exact ⟨_, (true), uf, H', ⟨by first | omega | exact Nat.le_refl _⟩, ⟨uc HB.out⟩⟩
  ·rw [if_neg c4] at H
   have c4b0 : decide (a1 < 0) = false := decide_eq_false c4
   clear c4
   (first | rw [c4b0] | (simp only [i64_w, i32_w]; rw [c4b0]) | skip)
   have H' := am H
   clear H
   go_wp2
   go_meet
   case rel => exact ⟨_, (decide (a1 ≥ (l0.length : Int))), uf, H', ⟨by first | omega | exact Nat.le_refl _⟩, ⟨uc HB.out⟩⟩
 case rest =>
  clear HC3
  try clear p2
  try clear c4
  try clear c4b0
  obtain ⟨kq, x17_2, rfl, HA, HJ2, HB⟩ := hcut
  cases kq with
  | zero => exact absurd HA.out (by simp [graph_Reach.j0])
  | succ kj2 =>
   have H := HA.out
   clear HA
   simp only [graph_Reach.j0] at H
   by_cases c5 : x17_2 = true
   ·subst c5
    have H1 : (some ([] : List Int)) = some r := by rw [if_pos rfl] at H; exact H
    clear H
    have H := H1
    clear H1
    obtain rfl := Option.some.inj H
    go_wp2
    go_ret
    exact ⟨_, by first | rfl | (simp [errW_none, errW_some] <;> rfl) | (simp [*, errW_none, errW_some] <;> rfl), by first | exact Kd.R_nil _ _ _ _ _ | exact Kd.N_nil _ _ _ _ _ | exact Kd.V_nil _ _ _ _ _ | exact Kd.Q_nil _ _ _ _ _ | exact Kd.S_nil _ _ _ _ _, uc HB.out⟩
   ·replace c5 := Bool.eq_false_iff.mpr c5
    subst c5
    have H1 : (graph_Reach.l0 kj2 l0 (([a1] : List Int)) 0) = some r := by rw [if_neg (show ¬ (false = true) by decide)] at H; exact H
    clear H
    have H := H1
    clear H1
    obtain ⟨y151, hy151⟩ : ∃ y_ : List Int, y_ = (([a1] : List Int)) := ⟨_, rfl⟩
    replace H : (graph_Reach.l0 kj2 l0 y151 0) = some r := by first | (rw [hy151]; with_reducible exact H) | (have H2_ := (Option.bind_some _ _).symm.trans H; rw [hy151]; with_reducible exact H2_) | (have H2_ := (Option.bind_some _ _).symm.trans H; with_reducible exact H2_) | with_reducible exact H | (rw [hy151]; exact H) | exact H
    have Ny151 := am hy151
    clear hy151
    have H' := am H
    clear H
    go_wp2_with (first | ((with_reducible refine gate_dst (N := 19) rfl ?_); (try (refine gate_guard (by rfl) ?_; dsimp only)); refine Kd.R_lit (Kd.int .i64) _ 3 ?hg (N := 19) ?hd (xs := ([a1] : List Int)) (inner := [.int .i64 a1]) (ok := fun _ => True) (okp := fun _ => True) ?hr ?hp (fun _ hk => hk) trivial (Below.refl _ _) (Nat.le_refl _) (by simp) ?_; (case hd => rfl); (case hg => rfl); (case hr => first | (go_simp; done) | (go_simp; rfl)); (case hp => exact (Reps.one (show Kd.M (Kd.int .i64) _ _ _ a1 [.int .i64 a1] from rfl) (Reps.none _ _))); intro v152 w6 ho7 hb hg_ hnew_; clear hg_ hnew_; (first | rw [← Ny151.out] at ho7 | (simp only [Int.reduceToNat] at ho7; rw [← Ny151.out] at ho7)); have n0_ := am (Kd.R_lower ho7 (below_size (uc HB.out))); have n1_ := am (below_step (uc HB.out) hb); revert n0_ n1_; clear HB; intro HO153 HB; clear hb ho7))
    go_loopg [5, 6] kj2 (fun kq v5 v6 w' => ∃ (x5_2 : List Int) (x6_2 : Int), v6 = .int .i64 x6_2 ∧ Aside0 (graph_Reach.l0 kq l0 x5_2 x6_2 = some r) ∧ Aside0 (kq ≤ kj2) ∧ Aside0 (Kd.R (Kd.int .i64) 3 w' w.heap.size (fun _ => True) v5 x5_2) ∧ Aside0 (Below w.heap.size w w'))
    case atStart => exact ⟨(y151), (0), uf, H', ⟨Nat.le_refl _⟩, ⟨ua HO153.out⟩, ⟨uc HB.out⟩⟩
    case round =>
     clear H'
     try clear p2
     try clear c4
     try clear c4b0
     try clear c5
     try clear p2
     obtain ⟨x5_2, x6_2, rfl, HA, HK2, HO_5, HB⟩ := hrel
     cases gk with
     | zero => exact absurd HA.out (by simp [graph_Reach.l0])
     | succ k2 =>
      have H := HA.out
      clear HA
      simp only [graph_Reach.l0] at H
      by_cases c8 : x6_2 < (x5_2.length : Int)
      ·rw [if_pos c8] at H
       have c8b0 : decide (x6_2 < (x5_2.length : Int)) = true := decide_eq_true c8
       clear c8
       by_cases c9 : 0 ≤ x6_2
       ·rw [if_pos c9] at H
        have c9b0 : decide (0 ≤ x6_2) = true := decide_eq_true c9
        clear c9
        by_cases c10 : 0 ≤ (rd x5_2 x6_2)
        ·rw [if_pos c10] at H
         have c10b0 : decide (0 ≤ (rd x5_2 x6_2)) = true := decide_eq_true c10
         clear c10
         by_cases c11 : (rd x5_2 x6_2) < (l0.length : Int)
         ·rw [if_pos c11] at H
          have c11b0 : decide ((rd x5_2 x6_2) < (l0.length : Int)) = true := decide_eq_true c11
          clear c11
          have H' := am H
          clear H
          obtain ⟨Ao12, co12, eo12⟩ := Kd.R_slice HO_5.out
          subst eo12
          have p155 : 0 ≤ (x6_2 : Int) := ud
          have q155 : x6_2 < (x5_2.length : Int) := ud
          obtain ⟨ad155, e155, hx155_0⟩ := Kd.at_int (Kd.R_reads' HO_5.out).2.2 x6_2 p155 q155
          cases e155
          replace p155 := eq_true p155
          replace q155 := eq_true q155
          have p156 : 0 ≤ ((rd x5_2 x6_2) : Int) := ud
          have q156 : (rd x5_2 x6_2) < (l0.length : Int) := ud
          obtain ⟨ad156, A156_1, c156_1, A156_2, c156_2, A156_3, c156_3, A156_4, c156_4, A156_5, c156_5, A156_6, c156_6, e156, hx156_0, hx156_1, hx156_2, hx156_3, hx156_4, hx156_5, hx156_6, hl156_1, hi156_1, hl156_2, hi156_2, hl156_3, hi156_3, hl156_4, hi156_4, hl156_5, hi156_5, hl156_6, hi156_6⟩ := at_T38 HR0.out (rd x5_2 x6_2) p156 q156
          cases e156
          replace hx156_0 := bcel HB hx156_0
          replace hx156_1 := bcel HB hx156_1
          replace hx156_2 := bcel HB hx156_2
          replace hx156_3 := bcel HB hx156_3
          replace hx156_4 := bcel HB hx156_4
          replace hx156_5 := bcel HB hx156_5
          replace hx156_6 := bcel HB hx156_6
          have HR156_1 := am hi156_1
          have HC156_1 := am hl156_1
          clear hi156_1 hl156_1
          have HR156_2 := am hi156_2
          have HC156_2 := am hl156_2
          clear hi156_2 hl156_2
          have HR156_3 := am hi156_3
          have HC156_3 := am hl156_3
          clear hi156_3 hl156_3
          have HR156_4 := am hi156_4
          have HC156_4 := am hl156_4
          clear hi156_4 hl156_4
          have HR156_5 := am hi156_5
          have HC156_5 := am hl156_5
          clear hi156_5 hl156_5
          have HR156_6 := am hi156_6
          have HC156_6 := am hl156_6
          clear hi156_6 hl156_6
          replace p156 := eq_true p156
          replace q156 := eq_true q156
          go_wp2
          go_loopg [5, 35] k2 (fun kq v5 v35 w' => ∃ (x5_3 : List Int) (x35_3 : Int), v35 = .int .i64 x35_3 ∧ Aside0 (graph_Reach.l1 kq l0 x5_3 x6_2 ((rd_T38 l0 (rd x5_2 x6_2)).f1) (((rd_T38 l0 (rd x5_2 x6_2)).f1).length : Int) x35_3 = some r) ∧ Aside0 (kq ≤ k2) ∧ Aside0 (Kd.R (Kd.int .i64) 3 w' w.heap.size (fun _ => True) v5 x5_3) ∧ Aside0 (Below w.heap.size w w'))
          case atStart => exact ⟨(x5_2), (0), uf, H', ⟨Nat.le_refl _⟩, ⟨ua HO_5.out⟩, ⟨uc HB.out⟩⟩
          case round =>
           clear H'
           try clear c1
           try clear p1
           try clear q1
           try clear hx1
           try clear p2
           try clear c4
           try clear c4b0
           try clear c5
           try clear c8
           try clear c8b0
           try clear c9
           try clear c9b0
           try clear c10
           try clear c10b0
           try clear c11
           try clear c11b0
           try clear hx155_0
           try clear hx156_0
           try clear hx156_1
           try clear hx156_2
           try clear hx156_3
           try clear hx156_4
           try clear hx156_5
           try clear hx156_6
           try clear p155
           try clear p156
           try clear p2
           try clear q155
           try clear q156
           obtain ⟨x5_3, x35_3, rfl, HA, HK3, HO_5, HB⟩ := hrel
           cases gk with
           | zero => exact absurd HA.out (by simp [graph_Reach.l1])
           | succ k3 =>
            have H := HA.out
            clear HA
            simp only [graph_Reach.l1] at H
            by_cases c13 : x35_3 < (((rd_T38 l0 (rd x5_2 x6_2)).f1).length : Int)
            ·rw [if_pos c13] at H
             have c13b0 : decide (x35_3 < (((rd_T38 l0 (rd x5_2 x6_2)).f1).length : Int)) = true := decide_eq_true c13
             clear c13
             by_cases c14 : 0 ≤ x35_3
             ·rw [if_pos c14] at H
              have c14b0 : decide (0 ≤ x35_3) = true := decide_eq_true c14
              clear c14
              by_cases c15 : x35_3 < (((rd_T38 l0 (rd x5_2 x6_2)).f1).length : Int)
              ·rw [if_pos c15] at H
               have c15b0 : decide (x35_3 < (((rd_T38 l0 (rd x5_2 x6_2)).f1).length : Int)) = true := decide_eq_true c15
               clear c15
               replace H := Option.bind_eq_some_iff.mp H
               obtain ⟨t158, A160, H⟩ := H
               replace H : (if t158 ≥ 0 then ((slices_Contains_int_int.f k3 x5_3 t158).bind fun t159 => (if t159 = true then (graph_Reach.l1 k3 l0 x5_3 x6_2 ((rd_T38 l0 (rd x5_2 x6_2)).f1) (((rd_T38 l0 (rd x5_2 x6_2)).f1).length : Int) (wrap64 (x35_3 + 1))) else (if x5_3.length < 17592186044416 then (graph_Reach.l1 k3 l0 (x5_3 ++ [t158]) x6_2 ((rd_T38 l0 (rd x5_2 x6_2)).f1) (((rd_T38 l0 (rd x5_2 x6_2)).f1).length : Int) (wrap64 (x35_3 + 1))) else (none)))) else (graph_Reach.l1 k3 l0 x5_3 x6_2 ((rd_T38 l0 (rd x5_2 x6_2)).f1) (((rd_T38 l0 (rd x5_2 x6_2)).f1).length : Int) (wrap64 (x35_3 + 1)))) = some r := H
               have A16 := am A160
               clear A160
               by_cases c17 : t158 ≥ 0
               ·rw [if_pos c17] at H
                have c17b0 : decide (0 ≤ t158) = true := decide_eq_true c17
                clear c17
                replace H := Option.bind_eq_some_iff.mp H
                obtain ⟨t159, A180, H⟩ := H
                replace H : (if t159 = true then (graph_Reach.l1 k3 l0 x5_3 x6_2 ((rd_T38 l0 (rd x5_2 x6_2)).f1) (((rd_T38 l0 (rd x5_2 x6_2)).f1).length : Int) (wrap64 (x35_3 + 1))) else (if x5_3.length < 17592186044416 then (graph_Reach.l1 k3 l0 (x5_3 ++ [t158]) x6_2 ((rd_T38 l0 (rd x5_2 x6_2)).f1) (((rd_T38 l0 (rd x5_2 x6_2)).f1).length : Int) (wrap64 (x35_3 + 1))) else (none))) = some r := H
                have A18 := am A180
                clear A180
                by_cases c19 : t159 = true
                ·subst c19
                 have H1 : (graph_Reach.l1 k3 l0 x5_3 x6_2 ((rd_T38 l0 (rd x5_2 x6_2)).f1) (((rd_T38 l0 (rd x5_2 x6_2)).f1).length : Int) (wrap64 (x35_3 + 1))) = some r := by rw [if_pos rfl] at H; exact H
                 clear H
                 have H := H1
                 clear H1
                 have H' := am H
                 clear H
                 have p157 : 0 ≤ (x35_3 : Int) := ud
                 have q157 : x35_3 < (((rd_T38 l0 (rd x5_2 x6_2)).f1).length : Int) := ud
                 obtain ⟨ad157, e157, hx157_0⟩ := Kd.at_string HR156_1.out x35_3 p157 q157
                 cases e157
                 replace hx157_0 := bcel HB hx157_0
                 replace p157 := eq_true p157
                 replace q157 := eq_true q157
                 go_wp2_with (first | ((with_reducible refine gate_dst (N := 41) rfl ?_); (with_reducible refine gate_callee (f := 33) rfl ?_); refine gl (some 41) Try.func33 #[.slice (some ad156) l0.length c0, .string (rdOf ByteArray.empty ((rd_T38 l0 (rd x5_2 x6_2)).f1) x35_3)] ?_; (with_reducible refine (graph_Find.calls _ _ l0 (rdOf ByteArray.empty ((rd_T38 l0 (rd x5_2 x6_2)).f1) x35_3) t158 _ ?side1 ?side2 A16.out).mono ?_); (case side1 => exact us (Kd.C_below HR0.out HB.out)); (case side2 => exact HC0.out); rintro e w20 ⟨rfl, hb⟩; refine ⟨_, rfl, ?_⟩; have n0_ := am (Kd.R_below (ua HO_5.out) hb); have n1_ := am (below_step (uc HB.out) hb); revert n0_ n1_; clear HO_5 HB; intro HO_5 HB; (try clear hb); (try clear hb2); (try clear hk); (try clear hi); obtain ⟨Ao21, co21, eo21⟩ := Kd.R_slice HO_5.out; subst eo21) | (go_at_call 32; (with_reducible refine (slices_Contains_int_int.calls k3 _ _ x5_3 t158 true _ ?side1 ?side2 A18.out).mono ?_); (case side1 => exact us (Kd.R_reads' HO_5.out).2.2); (case side2 => exact (Kd.R_reads' HO_5.out).2.1); rintro e w' ⟨rfl, ⟨nd, rfl⟩⟩))
                 go_roundg k3
                 case measure => have := HJ2.out; have := HK2.out; have := HK3.out; omega
                 case rel => exact ⟨(x5_3), (wrap64 (x35_3 + 1)), uf, H', ⟨by have := HJ2.out; have := HK2.out; have := HK3.out; omega⟩, ⟨ua HO_5.out⟩, ⟨uc HB.out⟩⟩
                ·replace c19 := Bool.eq_false_iff.mpr c19
                 subst c19
                 have H1 : (if x5_3.length < 17592186044416 then (graph_Reach.l1 k3 l0 (x5_3 ++ [t158]) x6_2 ((rd_T38 l0 (rd x5_2 x6_2)).f1) (((rd_T38 l0 (rd x5_2 x6_2)).f1).length : Int) (wrap64 (x35_3 + 1))) else (none)) = some r := by rw [if_neg (show ¬ (false = true) by decide)] at H; exact H
                 clear H
                 have H := H1
                 clear H1
                 by_cases c22 : x5_3.length < 17592186044416
                 ·rw [if_pos c22] at H
                  have LMc22 := am c22
                  clear c22
                  obtain ⟨y160, hy160⟩ : ∃ y_ : List Int, y_ = (x5_3 ++ [t158]) := ⟨_, rfl⟩
                  replace H : (graph_Reach.l1 k3 l0 y160 x6_2 ((rd_T38 l0 (rd x5_2 x6_2)).f1) (((rd_T38 l0 (rd x5_2 x6_2)).f1).length : Int) (wrap64 (x35_3 + 1))) = some r := by first | (rw [hy160]; with_reducible exact H) | (have H2_ := (Option.bind_some _ _).symm.trans H; rw [hy160]; with_reducible exact H2_) | (have H2_ := (Option.bind_some _ _).symm.trans H; with_reducible exact H2_) | with_reducible exact H | (rw [hy160]; exact H) | exact H
                  have Ny160 := am hy160
                  clear hy160
                  have H' := am H
                  clear H
                  have p157 : 0 ≤ (x35_3 : Int) := ud
                  have q157 : x35_3 < (((rd_T38 l0 (rd x5_2 x6_2)).f1).length : Int) := ud
                  obtain ⟨ad157, e157, hx157_0⟩ := Kd.at_string HR156_1.out x35_3 p157 q157
                  cases e157
                  replace hx157_0 := bcel HB hx157_0
                  replace p157 := eq_true p157
                  replace q157 := eq_true q157
                  go_wp2_with (first | ((with_reducible refine gate_dst (N := 41) rfl ?_); (with_reducible refine gate_callee (f := 33) rfl ?_); refine gl (some 41) Try.func33 #[.slice (some ad156) l0.length c0, .string (rdOf ByteArray.empty ((rd_T38 l0 (rd x5_2 x6_2)).f1) x35_3)] ?_; (with_reducible refine (graph_Find.calls _ _ l0 (rdOf ByteArray.empty ((rd_T38 l0 (rd x5_2 x6_2)).f1) x35_3) t158 _ ?side1 ?side2 A16.out).mono ?_); (case side1 => exact us (Kd.C_below HR0.out HB.out)); (case side2 => exact HC0.out); rintro e w23 ⟨rfl, hb⟩; refine ⟨_, rfl, ?_⟩; have n0_ := am (Kd.R_below (ua HO_5.out) hb); have n1_ := am (below_step (uc HB.out) hb); revert n0_ n1_; clear HO_5 HB; intro HO_5 HB; (try clear hb); (try clear hb2); (try clear hk); (try clear hi); obtain ⟨Ao24, co24, eo24⟩ := Kd.R_slice HO_5.out; subst eo24) | (go_at_call 32; (with_reducible refine (slices_Contains_int_int.calls k3 _ _ x5_3 t158 false _ ?side1 ?side2 A18.out).mono ?_); (case side1 => exact us (Kd.R_reads' HO_5.out).2.2); (case side2 => exact (Kd.R_reads' HO_5.out).2.1); rintro e w' ⟨rfl, ⟨nd, rfl⟩⟩) | ((with_reducible refine gate_builtin (b := .append) (xs := #[.tmp 50, .tmp 52]) rfl ?_); (try (refine gate_guard (by rfl) ?_; dsimp only)); at_builtin; refine Kd.R_append (Kd.int .i64) (w0 := w) w.heap.size rfl (.tmp 50) (.tmp 52) 26 3 (.int .i64 0) 8 rfl Try.underlying26 info3 rfl (by decide) (by omega) (.slice Ao24 x5_3.length co24) x5_3 t158 [.int .i64 t158] (fun _ => True) (fun _ => False) rfl rfl ?aP (fun _ hk => hk.elim) ?aF ?aO ?aB ?aS ?aL ?_; (case aP => exact rfl); (case aB => exact (uc HB.out)); (case aF => exact (fun _ _ => trivial)); (case aO => exact (ua HO_5.out)); (case aS => exact (below_size (uc HB.out))); (case aL => have := LMc22.out; omega); intro v161 w25 ho hb hg hat; rw [← Ny160.out] at ho; have n0_ := am (hb); have n1_ := am (ho); revert n0_ n1_; clear HB HO_5; intro HB HO162; clear ho hb hg hat))
                  go_roundg k3
                  case measure => have := HJ2.out; have := HK2.out; have := HK3.out; omega
                  case rel => exact ⟨(y160), (wrap64 (x35_3 + 1)), uf, H', ⟨by have := HJ2.out; have := HK2.out; have := HK3.out; omega⟩, ⟨ua HO162.out⟩, ⟨uc HB.out⟩⟩
                 ·rw [if_neg c22] at H
                  exact absurd H (by simp)
               ·rw [if_neg c17] at H
                have c17b0 : decide (0 ≤ t158) = false := decide_eq_false c17
                clear c17
                have H' := am H
                clear H
                have p157 : 0 ≤ (x35_3 : Int) := ud
                have q157 : x35_3 < (((rd_T38 l0 (rd x5_2 x6_2)).f1).length : Int) := ud
                obtain ⟨ad157, e157, hx157_0⟩ := Kd.at_string HR156_1.out x35_3 p157 q157
                cases e157
                replace hx157_0 := bcel HB hx157_0
                replace p157 := eq_true p157
                replace q157 := eq_true q157
                go_wp2_with (first | ((with_reducible refine gate_dst (N := 41) rfl ?_); (with_reducible refine gate_callee (f := 33) rfl ?_); refine gl (some 41) Try.func33 #[.slice (some ad156) l0.length c0, .string (rdOf ByteArray.empty ((rd_T38 l0 (rd x5_2 x6_2)).f1) x35_3)] ?_; (with_reducible refine (graph_Find.calls _ _ l0 (rdOf ByteArray.empty ((rd_T38 l0 (rd x5_2 x6_2)).f1) x35_3) t158 _ ?side1 ?side2 A16.out).mono ?_); (case side1 => exact us (Kd.C_below HR0.out HB.out)); (case side2 => exact HC0.out); rintro e w26 ⟨rfl, hb⟩; refine ⟨_, rfl, ?_⟩; have n0_ := am (Kd.R_below (ua HO_5.out) hb); have n1_ := am (below_step (uc HB.out) hb); revert n0_ n1_; clear HO_5 HB; intro HO_5 HB; (try clear hb); (try clear hb2); (try clear hk); (try clear hi)))
                go_roundg k3
                case measure => have := HJ2.out; have := HK2.out; have := HK3.out; omega
                case rel => exact ⟨(x5_3), (wrap64 (x35_3 + 1)), uf, H', ⟨by have := HJ2.out; have := HK2.out; have := HK3.out; omega⟩, ⟨ua HO_5.out⟩, ⟨uc HB.out⟩⟩
              ·rw [if_neg c15] at H
               exact absurd H (by simp)
             ·rw [if_neg c14] at H
              exact absurd H (by simp)
            ·rw [if_neg c13] at H
             have c13b0 : decide (x35_3 < (((rd_T38 l0 (rd x5_2 x6_2)).f1).length : Int)) = false := decide_eq_false c13
             clear c13
             have H' := am H
             clear H
             go_wp2
             go_roundg k3
             case measure => have := HJ2.out; have := HK2.out; have := HK3.out; omega
             case rel => exact ⟨(x5_3), (wrap64 (x6_2 + 1)), uf, H', ⟨by have := HJ2.out; have := HK2.out; have := HK3.out; omega⟩, ⟨ua HO_5.out⟩, ⟨uc HB.out⟩⟩
         ·rw [if_neg c11] at H
          exact absurd H (by simp)
        ·rw [if_neg c10] at H
         exact absurd H (by simp)
       ·rw [if_neg c9] at H
        exact absurd H (by simp)
      ·rw [if_neg c8] at H
       have c8b0 : decide (x6_2 < (x5_2.length : Int)) = false := decide_eq_false c8
       clear c8
       replace H := Option.bind_eq_some_iff.mp H
       obtain ⟨t154, A270, H⟩ := H
       replace H : (some t154) = some r := H
       have A27 := am A270
       clear A270
       obtain rfl := Option.some.inj H
       obtain ⟨Ao28, co28, eo28⟩ := Kd.R_slice HO_5.out
       subst eo28
       go_wp2_with (first | ((with_reducible refine gate_dst (N := 56) rfl ?_); (with_reducible refine gate_callee (f := 48) rfl ?_); refine gl (some 56) Try.func48 #[.slice Ao28 x5_2.length co28] ?_; (with_reducible refine (slices_Sort_int_int.calls k2 (fun k_ => some k_ = ow Ao28 x5_2 co28) (.slice Ao28 x5_2.length co28) x5_2 t154 w _ ?side1 ?side2 A27.out).mono ?_); (case side1 => repeat (first | (with_reducible first | exact HB.out | apply below_alloc | apply pw_below_drewN | apply below_drew1) | exact HB.out)); (case side2 => exact Kd.R_tight rfl HO_5.out); rintro e w29 ⟨rfl, hy0, hb, hkp⟩; refine ⟨_, rfl, ?_⟩; have n0_ := am (Kd.R_reok rfl hy0 (fun k_ e_ => HO_5.out.1 k_ e_)); have n1_ := am (hb); revert n0_ n1_; clear HO_5 HB; intro HO_5 HB; (try clear hb); (try clear hkp); (try clear hy0)))
       go_ret
       exact ⟨_, by first | rfl | (simp [errW_none, errW_some] <;> rfl) | (simp [*, errW_none, errW_some] <;> rfl), ua HO_5.out, uc HB.out⟩

def allOf {α β : Type} (f : α → Option β) : List α → Option (List β)
  | [] => some []
  | x :: xs => (f x).bind fun y => (allOf f xs).bind fun ys => some (y :: ys)
theorem allOf.mono {α β : Type} {f g : α → Option β} (h : ∀ x, LeO (f x) (g x)) : ∀ xs, LeO (allOf f xs) (allOf g xs)
  | [], r, e => e
  | x :: xs, r, e => by
    unfold allOf at e ⊢
    obtain ⟨y, h1, e⟩ := Option.bind_eq_some_iff.1 e
    obtain ⟨ys, h2, e⟩ := Option.bind_eq_some_iff.1 e
    rw [h x y h1]; simp only [Option.bind_some]
    rw [allOf.mono h xs ys h2]; exact e
theorem allOf.get {α β : Type} {f : α → Option β} {d : β} : ∀ {xs : List α} {ys : List β}, allOf f xs = some ys → ys.length = xs.length ∧ ∀ (i : Nat) (hi : i < xs.length), f xs[i] = some (ys.getD i d)
  | [], ys, e => by cases e; exact ⟨rfl, fun i hi => by simp at hi⟩
  | x :: xs, ys, e => by
    unfold allOf at e
    obtain ⟨y, h1, e⟩ := Option.bind_eq_some_iff.1 e
    obtain ⟨zs, h2, e⟩ := Option.bind_eq_some_iff.1 e
    cases e
    obtain ⟨h3, h4⟩ := allOf.get (d := d) h2
    refine ⟨by simp [h3], fun i hi => ?_⟩
    cases i with
    | zero => simpa using h1
    | succ i => simpa using h4 i (by simpa using hi)
def reaches (k : Nat) (l : List S38) (obj x : Int) : Option Bool := (graph_Reach.f k l x).bind fun r => slices_Contains_int_int.f k r obj
def dl_State_needed.f (k : Nat) (_l0 : List Int) (l1 : List Int) (l2 : List S38) (a3 : Int) : Option Bool := (allOf (reaches k l2 a3) l1).bind fun bs => some (decide (0 ≤ firstAt (fun b => b) bs))
theorem reaches.mono (k : Nat) (l : List S38) (obj x : Int) : LeO (reaches k l obj x) (reaches (k + 1) l obj x) := by
  intro r e
  obtain ⟨y, h1, e⟩ := Option.bind_eq_some_iff.1 e
  unfold reaches
  rw [graph_Reach.mono l x k y h1]; simp only [Option.bind_some]
  exact slices_Contains_int_int.mono y obj k r e
theorem dl_State_needed.mono : ∀ a0 a1 a2 a3 k, LeO (dl_State_needed.f k a0 a1 a2 a3) (dl_State_needed.f (k + 1) a0 a1 a2 a3) := by
  intro a0 a1 a2 a3 k r e
  obtain ⟨y, h1, e⟩ := Option.bind_eq_some_iff.1 e
  unfold dl_State_needed.f
  rw [allOf.mono (fun x => reaches.mono k a2 a3 x) a1 y h1]; exact e
set_option maxHeartbeats 1000000 in
set_option maxRecDepth 100000 in
theorem dl_State_needed_1.calls (k : Nat) (A0 : Option Addr) (c0 : Nat) (l0 : List S38) (gl go : Nat) (i obj : Int) (b : Bool) (w : World) (hr0 : Kd.C k38 w A0 l0.length l0) (hc0 : l0.length ≤ c0) (hgl : w.heap[gl]? = some (.cells #[.slice A0 l0.length c0] 22 (0, 0))) (hgo : w.heap[go]? = some (.cells #[.int .i64 obj] 3 (0, 0))) (h : reaches k l0 obj i = some b) :
  Calls Try.prog 44 #[.int .i64 i, .pointer (some ⟨gl, 0, none⟩), .pointer (some ⟨go, 0, none⟩)] w fun e w' => e = .returned (.bool b) ∧ Below w.heap.size w w' := by
 obtain ⟨r, h1, h2⟩ := Option.bind_eq_some_iff.1 h
 have HR0 := am hr0
 have HC0 := am hc0
 have HGL := am hgl
 have HGO := am hgo
 have H1 := am h1
 have H2 := am h2
 have hl0 := blk_cell hgl 0
 have ho0 := blk_cell hgo 0
 clear hr0 hc0 hgl hgo h1 h2 h
 go_enter Try.func44, Try.ntmps44
 go_wp2
 refine start_ (n := 6) (S := fun w' => w'.cell? ⟨gl, 0, none⟩ = some (.slice A0 l0.length c0) ∧ w'.cell? ⟨go, 0, none⟩ = some (.int .i64 obj)) (ds := [5]) #[false, false, false, false, false, false] (by kernel_rfl) rfl rfl ⟨hl0, ho0⟩ (fun hHeld => ?_)
 have HB := am (below_drew (Below.refl w.heap.size w))
 clear hl0 ho0
 generalize w.drew = wd at HB hHeld ⊢
 refine take_ (i := 0) (N := some 5) (v := ?_) (a' := ?_) #[true, false, false, false, false, false] rfl rfl (by kernel_rfl) (fun _ _ _ h => h) (Or.inl ⟨by rfl, ?_⟩) hHeld ?_ ?_
 rotate_left
 ·rintro w' ⟨s0, s1⟩
  go_simp
  with_reducible rfl
 rotate_left
 ·simp only [Act.put, List.setIfInBounds_toArray, List.set_cons_zero, List.set_cons_succ, i64_w, i32_w]
  rfl
 refine pure_ (i := 1) (N := some 6) (v := ?_) (a' := ?_) #[true, true, false, false, false, false] rfl rfl (by kernel_rfl) (fun _ _ _ h => h) (Or.inl ⟨by rfl, ?_⟩) ?_ ?_
 rotate_left
 ·intro w'
  go_simp
  with_reducible rfl
 rotate_left
 ·simp only [Act.put, List.setIfInBounds_toArray, List.set_cons_zero, List.set_cons_succ, i64_w, i32_w]
  rfl
 refine take_ (i := 3) (N := some 8) (v := ?_) (a' := ?_) #[true, true, false, true, false, false] rfl rfl (by kernel_rfl) (fun _ _ _ h => h) (Or.inl ⟨by rfl, ?_⟩) hHeld ?_ ?_
 rotate_left
 ·rintro w' ⟨s0, s1⟩
  go_simp
  with_reducible rfl
 rotate_left
 ·simp only [Act.put, List.setIfInBounds_toArray, List.set_cons_zero, List.set_cons_succ, i64_w, i32_w]
  rfl
 refine one_ (i := 2) (N := some 7) #[true, true, true, true, false, false] rfl rfl (by kernel_rfl) (by decide) (fun K hK => ?_)
 refine goes_ Try.func45 (by kernel_rfl) rfl #[.slice A0 l0.length c0, .int .i64 i] (by rfl) rfl rfl (by (try simp only [List.map_toArray, List.map_cons, List.map_nil]); first | done | rfl) ?_
 refine (graph_Reach.calls k A0 c0 l0 i r _ (Kd.C_below HR0.out HB.out) HC0.out H1.out).mono ?_
 rintro e w2 ⟨v, rfl, hv, hb⟩
 refine ⟨_, rfl, ?_⟩
 have HV := am hv
 have HB2 := am (below_step HB.out hb)
 clear HB hHeld hb hv
 obtain ⟨Av, cv, rfl⟩ := Kd.R_slice HV.out
 refine hK _ _ ⟨blk_cell (blk_below HGL.out HB2.out) 0, blk_cell (blk_below HGO.out HB2.out) 0⟩ (fun hHeld => ?_)
 clear hK K
 refine one_ (i := 4) (N := some 9) #[true, true, true, true, true, false] rfl rfl (by kernel_rfl) (by decide) (fun K hK => ?_)
 refine goes_ Try.func32 (by kernel_rfl) rfl #[.slice Av r.length cv, .int .i64 obj] (by rfl) rfl rfl (by (try simp only [List.map_toArray, List.map_cons, List.map_nil]); first | done | rfl) ?_
 refine (slices_Contains_int_int.calls k Av cv r obj b _ (Kd.R_reads' HV.out).2.2 (Kd.R_reads' HV.out).2.1 H2.out).mono ?_
 rintro e w3 ⟨rfl, hd⟩
 refine ⟨_, rfl, ?_⟩
 have HB3 := am (below_step HB2.out (hd.below))
 refine hK _ _ ⟨blk_cell (blk_below HGL.out HB3.out) 0, blk_cell (blk_below HGO.out HB3.out) 0⟩ (fun hHeld => ?_)
 clear hK K hd
 refine pure_ (i := 5) (N := some 4) (v := ?_) (a' := ?_) #[true, true, true, true, true, true] rfl rfl (by kernel_rfl) (fun _ _ _ h => h) (Or.inl ⟨by rfl, ?_⟩) ?_ ?_
 rotate_left
 ·intro w'
  go_simp
  with_reducible rfl
 rotate_left
 ·simp only [Act.put, List.setIfInBounds_toArray, List.set_cons_zero, List.set_cons_succ, i64_w, i32_w]
  rfl
 refine done_ (by kernel_rfl) ?_
 go_wp2
 go_ret
 exact ⟨rfl, HB3.out⟩

set_option maxHeartbeats 1000000 in
set_option maxRecDepth 100000 in
theorem slices_IndexFunc_needed.calls (k : Nat) (A1 : Option Addr) (c1 : Nat) (xs : List Int) (bs : List Bool) (A0 : Option Addr) (c0 : Nat) (l0 : List S38) (gl go : Nat) (obj : Int) (w : World) (hr1 : Kd.C (Kd.int .i64) w A1 xs.length xs) (hc1 : xs.length ≤ c1) (hr0 : Kd.C k38 w A0 l0.length l0) (hc0 : l0.length ≤ c0) (hgl : w.heap[gl]? = some (.cells #[.slice A0 l0.length c0] 22 (0, 0))) (hgo : w.heap[go]? = some (.cells #[.int .i64 obj] 3 (0, 0))) (h : allOf (reaches k l0 obj) xs = some bs) :
  Calls Try.prog 47 #[.slice A1 xs.length c1, .func (.func 44) #[] #[.pointer (some ⟨gl, 0, none⟩), .pointer (some ⟨go, 0, none⟩)]] w fun e w' => e = .returned (.int .i64 (firstAt (fun b => b) bs)) ∧ Below w.heap.size w w' := by
 obtain ⟨hbl, hget⟩ := allOf.get (d := false) h
 have HGET := am hget
 have HR1 := am hr1
 have HC1 := am hc1
 have HR0 := am hr0
 have HC0 := am hc0
 have HGL := am hgl
 have HGO := am hgo
 have hlen : xs.length ≤ 9223372036854775807 := hr1.2.1
 clear hr0 hc0 hr1 hc1 hgl hgo h hget
 go_enter Try.func47, Try.ntmps47
 go_wp2
 go_loopw [5, 8] (fun v5 v8 wr => ∃ (j : Nat), v8 = .int .i64 j ∧ j ≤ xs.length ∧ Aside0 (∀ i, i < j → bs.getD i false = false) ∧ Aside0 (Below w.heap.size w wr)) (fun _ v8 _ => xs.length - (intOf v8).toNat)
 case atStart => exact ⟨0, rfl, by omega, ⟨fun i hi => by omega⟩, ⟨Below.refl _ _⟩⟩
 case round =>
  obtain ⟨j, rfl, hj, HF, HB⟩ := hrel
  by_cases hlt : j < xs.length
  ·have p1 : 0 ≤ (j : Int) := by omega
   have q1 : (j : Int) < xs.length := by omega
   obtain ⟨ad, eA, hx⟩ := Kd.at_int (Kd.C_below HR1.out HB.out) (j : Int) p1 q1
   cases eA
   simp only [Int.toNat_natCast] at hx
   have hg := HGET.out j hlt
   have erd : rd xs (j : Int) = xs[j] := by simp [rd, List.getD_eq_getElem?_getD, List.getElem?_eq_getElem hlt]
   rw [← erd] at hg
   cases hb : bs.getD j false
   ·rw [hb] at hg
    have HN := am hb
    have HG := am hg
    clear hb hg erd
    go_wp2_with (go_at_call 44; refine (dl_State_needed_1.calls k A0 c0 l0 gl go (rd xs (j : Int)) obj false _ (Kd.C_below HR0.out HB.out) HC0.out (blk_below HGL.out HB.out) (blk_below HGO.out HB.out) HG.out).mono ?_; rintro e w' ⟨rfl, hb⟩; have HB2 := am (below_step HB.out hb); clear hb)
    go_roundw
    case rel => exact ⟨j + 1, by go_num, by omega, ⟨fun i hi => by
      rcases Nat.lt_succ_iff_lt_or_eq.1 hi with h | h
      ·exact HF.out i h
      ·subst h; exact HN.out⟩, HB2⟩
    case measure => simp [intOf]; omega
   ·rw [hb] at hg
    have HN := am hb
    have HG := am hg
    clear hb hg erd
    go_wp2_with (go_at_call 44; refine (dl_State_needed_1.calls k A0 c0 l0 gl go (rd xs (j : Int)) obj true _ (Kd.C_below HR0.out HB.out) HC0.out (blk_below HGL.out HB.out) (blk_below HGO.out HB.out) HG.out).mono ?_; rintro e w' ⟨rfl, hb⟩; have HB2 := am (below_step HB.out hb); clear hb)
    go_ret
    exact ⟨ret_i (firstAt_here (p := fun b => b) (d := false) (by omega) HF.out HN.out).symm, HB2.out⟩
  ·go_wp2
   go_ret
   obtain rfl : j = xs.length := by omega
   exact ⟨ret_i (firstAt_none (p := fun b => b) (d := false) (by rw [hbl]; exact HF.out)).symm, HB.out⟩

set_option maxHeartbeats 1000000 in
set_option maxRecDepth 100000 in
theorem slices_ContainsFunc_needed.calls (k : Nat) (A1 : Option Addr) (c1 : Nat) (xs : List Int) (bs : List Bool) (A0 : Option Addr) (c0 : Nat) (l0 : List S38) (gl go : Nat) (obj : Int) (w : World) (hr1 : Kd.C (Kd.int .i64) w A1 xs.length xs) (hc1 : xs.length ≤ c1) (hr0 : Kd.C k38 w A0 l0.length l0) (hc0 : l0.length ≤ c0) (hgl : w.heap[gl]? = some (.cells #[.slice A0 l0.length c0] 22 (0, 0))) (hgo : w.heap[go]? = some (.cells #[.int .i64 obj] 3 (0, 0))) (h : allOf (reaches k l0 obj) xs = some bs) :
  Calls Try.prog 43 #[.slice A1 xs.length c1, .func (.func 44) #[] #[.pointer (some ⟨gl, 0, none⟩), .pointer (some ⟨go, 0, none⟩)]] w fun e w' => e = .returned (.bool (decide (0 ≤ firstAt (fun b => b) bs))) ∧ Below w.heap.size w w' := by
 have H1 := am h
 have HR0 := am hr0
 have HC0 := am hc0
 have HR1 := am hr1
 have HC1 := am hc1
 have HL := am hgl
 have HO := am hgo
 clear h hr0 hc0 hr1 hc1 hgl hgo
 go_enter Try.func43, Try.ntmps43
 go_wp2_with (go_at_call 47; refine (slices_IndexFunc_needed.calls k A1 c1 xs bs A0 c0 l0 gl go obj _ HR1.out HC1.out HR0.out HC0.out HL.out HO.out H1.out).mono ?_; rintro e w4 ⟨rfl, hb⟩; have HB2 := am hb; clear hb)
 go_ret
 exact ⟨rfl, HB2.out⟩

set_option maxHeartbeats 1000000 in
set_option maxRecDepth 100000 in
theorem dl_State_needed.calls (k : Nat) (A0_0 : Option Addr) (c0_0 : Nat) (l0_0 : List Int) (A0_1 : Option Addr) (c0_1 : Nat) (l0_1 : List Int) (A1 : Option Addr) (c1 : Nat) (l1 : List (S38)) (a2 : Int) (r : Bool) (w : World) (hr0_0 : Kd.C (Kd.int .i64) w A0_0 l0_0.length l0_0) (hc0_0 : l0_0.length ≤ c0_0) (hr0_1 : Kd.C (Kd.int .i64) w A0_1 l0_1.length l0_1) (hc0_1 : l0_1.length ≤ c0_1) (hr1 : Kd.C k38 w A1 l1.length l1) (hc1 : l1.length ≤ c1) (h : dl_State_needed.f k l0_0 l0_1 l1 a2 = some r) :
  Calls Try.prog 35 #[.agg #[.slice A0_0 l0_0.length c0_0, .slice A0_1 l0_1.length c0_1], .slice A1 l1.length c1, .int .i64 a2] w fun e w' => e = .returned (.bool r) ∧ Below w.heap.size w w' := by
 obtain ⟨bs, h1, h2⟩ := Option.bind_eq_some_iff.1 h
 obtain rfl := Option.some.inj h2
 have hu28 := Try.underlying28
 have H1 := am h1
 have HR0 := am hr0_1
 have HC0 := am hc0_1
 have HR1 := am hr1
 have HC1 := am hc1
 have HB := am (Below.refl w.heap.size w)
 clear h h1 h2 hr0_0 hc0_0 hr0_1 hc0_1 hr1 hc1
 have hmf : ∀ (fn : Fn) (first cap : Array Value) (w : World), (Instr.makeFunc fn first cap).run Try.prog w = .ok (.func fn first cap) w := fun _ _ _ _ => rfl
 go_enter Try.func35, Try.ntmps35
 go_wp2_with (first | ((with_reducible refine gate_dst (N := 3) rfl ?_); refine box_event ?hg (N := 3) ?hd (cs := #[.slice A0_0 l0_0.length c0_0, .slice A0_1 l0_1.length c0_1]) (t := 28) ?hr ?_; (case hd => rfl); (case hg => rfl); (case hr => first | (go_simp; done) | (go_simp; rfl)); intro gs hg w1 hbox hb; have HS := am hbox; have n0_ := am (below_step HB.out hb); clear HB; have HB := n0_; clear n0_ hb hbox hg) | ((with_reducible refine gate_dst (N := 4) rfl ?_); refine box_event ?hg (N := 4) ?hd (cs := #[.slice A1 l1.length c1]) (t := 22) ?hr ?_; (case hd => rfl); (case hg => rfl); (case hr => first | (go_simp; done) | (go_simp; rfl)); intro gl hg w2 hbox hb; have HL := am hbox; have n0_ := am (below_step HB.out hb); have n1_ := am (blk_below HS.out hb); clear HB HS; have HB := n0_; have HS := n1_; clear n0_ n1_ hb hbox hg) | ((with_reducible refine gate_dst (N := 5) rfl ?_); refine box_event ?hg (N := 5) ?hd (cs := #[.int .i64 a2]) (t := 3) ?hr ?_; (case hd => rfl); (case hg => rfl); (case hr => first | (go_simp; done) | (go_simp; rfl)); intro go hg w3 hbox hb; have HO := am hbox; have n0_ := am (below_step HB.out hb); have n1_ := am (blk_below HS.out hb); have n2_ := am (blk_below HL.out hb); clear HB HS HL; have HB := n0_; have HS := n1_; have HL := n2_; clear n0_ n1_ n2_ hb hbox hg; have hcs1 : w3.cell? ⟨gs, 1, none⟩ = some (.slice A0_1 l0_1.length c0_1) := (blk_cell HS.out 1).trans rfl) | (go_at_call 43; refine (slices_ContainsFunc_needed.calls k A0_1 c0_1 l0_1 bs A1 c1 l1 gl go a2 _ (Kd.C_below HR0.out HB.out) HC0.out (Kd.C_below HR1.out HB.out) HC1.out HL.out HO.out H1.out).mono ?_; rintro e w4 ⟨rfl, hb⟩; have HB2 := am (below_step HB.out hb); clear hb))
 go_ret
 exact ⟨rfl, HB2.out⟩

end Go.Proofs.Ytociaidhgefpiaa.P
