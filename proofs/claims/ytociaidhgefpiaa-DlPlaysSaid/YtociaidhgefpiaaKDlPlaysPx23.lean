/- What functions of the program, and of its laws, give, each proved of its code by a walk; no condition. -/
import Derived.Test.YtociaidhgefpiaaKDlPlaysPx0
import Derived.Test.YtociaidhgefpiaaKDlPlaysPx1
import Derived.Test.YtociaidhgefpiaaKDlPlaysPx4
import Derived.Test.YtociaidhgefpiaaKDlPlaysPx19
import Derived.Test.YtociaidhgefpiaaKDlPlaysSq
import Derived.Test.YtociaidhgefpiaaKDlPlaysUsh
namespace Go.Proofs.Ytociaidhgefpiaa.P
open Go.RowKit Go.Proofs.YtociaidhgefpiaaW.PrintWords Go.Proofs.YtociaidhgefpiaaW.PrintLast Go.Proofs.YtociaidhgefpiaaW.PrintMore
attribute [local go_sem] max2_int min2_int max_two min_two max_three min_three max_four min_four   -- for this text's walks alone
set_option linter.unusedVariables false
set_option linter.unusedSimpArgs false

mutual
def dl_Scope.l0 : Nat → List (S38) → List Int → List Int → Int → Int → Option (List Int)
  | 0, _, _, _, _, _ => none
  | k + 1, x0, x5, x14, x15, x16 => if x16 < x15 then (if 0 ≤ x16 then (if x16 < (x14.length : Int) then (if 0 ≤ (rd x14 x16) then (if (rd x14 x16) < (x0.length : Int) then ((graph_Closure.f x0 ((rd_T38 x0 (rd x14 x16)).f0)).bind fun bt822 => (dl_Scope.l1 k x0 x5 x14 x15 x16 bt822.1 (bt822.1.length : Int) 0)) else (none)) else (none)) else (none)) else (none)) else (some x5)
def dl_Scope.l1 : Nat → List (S38) → List Int → List Int → Int → Int → List Int → Int → Int → Option (List Int)
  | 0, _, _, _, _, _, _, _, _ => none
  | k + 1, x0, x5, x14, x15, x16, x31, x32, x33 => if x33 < x32 then (if 0 ≤ x33 then (if x33 < (x31.length : Int) then ((slices_Contains_int_int.f k x5 (rd x31 x33)).bind fun t828 => (if t828 = true then (dl_Scope.l1 k x0 x5 x14 x15 x16 x31 x32 (wrap64 (x33 + 1))) else (if x5.length < 17592186044416 then (dl_Scope.l1 k x0 (x5 ++ [rd x31 x33]) x14 x15 x16 x31 x32 (wrap64 (x33 + 1))) else (none)))) else (none)) else (none)) else (dl_Scope.l0 k x0 x5 x14 x15 (wrap64 (x16 + 1)))
end
def dl_Scope.f (k : Nat) (l0 : List (S38)) (l1_0 : List Int) (l1_1 : List Int) : Option (List Int) := dl_Scope.l0 k l0 ([] : List Int) l1_1 (l1_1.length : Int) 0
theorem dl_Scope.mono_l : ∀ k, (∀ y0 y1 y2 y3 y4, LeO (dl_Scope.l0 k y0 y1 y2 y3 y4) (dl_Scope.l0 (k + 1) y0 y1 y2 y3 y4)) ∧ (∀ y0 y1 y2 y3 y4 y5 y6 y7, LeO (dl_Scope.l1 k y0 y1 y2 y3 y4 y5 y6 y7) (dl_Scope.l1 (k + 1) y0 y1 y2 y3 y4 y5 y6 y7))
  | 0 => ⟨fun _ _ _ _ _ r h => by simp [dl_Scope.l0] at h, fun _ _ _ _ _ _ _ _ r h => by simp [dl_Scope.l1] at h⟩
  | k + 1 => by
    obtain ⟨ih0, ih1⟩ := dl_Scope.mono_l k
    refine ⟨?_, ?_⟩
    · intro y0 y1 y2 y3 y4
      unfold dl_Scope.l0
      repeat' first
      | (with_reducible exact ih0 _ _ _ _ _)
      | (with_reducible exact ih1 _ _ _ _ _ _ _ _)
      | (with_reducible exact slices_Contains_int_int.mono _ _ _)
      | (with_reducible exact LeO.refl _)
      | (with_reducible exact LeO.none _)
      | (with_reducible refine LeO.ite ?_ ?_)
      | (with_reducible refine LeO.bind ?_ (fun _ => ?_))
      | exact ih0 _ _ _ _ _
      | exact ih1 _ _ _ _ _ _ _ _
      | exact slices_Contains_int_int.mono _ _ _
      | exact LeO.none _
      | refine LeO.ite ?_ ?_
      | refine LeO.bind ?_ (fun _ => ?_)
    · intro y0 y1 y2 y3 y4 y5 y6 y7
      unfold dl_Scope.l1
      repeat' first
      | (with_reducible exact ih0 _ _ _ _ _)
      | (with_reducible exact ih1 _ _ _ _ _ _ _ _)
      | (with_reducible exact slices_Contains_int_int.mono _ _ _)
      | (with_reducible exact LeO.refl _)
      | (with_reducible exact LeO.none _)
      | (with_reducible refine LeO.ite ?_ ?_)
      | (with_reducible refine LeO.bind ?_ (fun _ => ?_))
      | exact ih0 _ _ _ _ _
      | exact ih1 _ _ _ _ _ _ _ _
      | exact slices_Contains_int_int.mono _ _ _
      | exact LeO.none _
      | refine LeO.ite ?_ ?_
      | refine LeO.bind ?_ (fun _ => ?_)
theorem dl_Scope.mono : ∀ a0 a1 a2 k, LeO (dl_Scope.f k a0 a1 a2) (dl_Scope.f (k + 1) a0 a1 a2) := by
  intro a0 a1 a2 k
  obtain ⟨ih0, ih1⟩ := dl_Scope.mono_l k
  unfold dl_Scope.f
  repeat' first
      | (with_reducible exact ih0 _ _ _ _ _)
      | (with_reducible exact ih1 _ _ _ _ _ _ _ _)
      | (with_reducible exact slices_Contains_int_int.mono _ _ _)
      | (with_reducible exact LeO.refl _)
      | (with_reducible exact LeO.none _)
      | (with_reducible refine LeO.ite ?_ ?_)
      | (with_reducible refine LeO.bind ?_ (fun _ => ?_))
      | exact ih0 _ _ _ _ _
      | exact ih1 _ _ _ _ _ _ _ _
      | exact slices_Contains_int_int.mono _ _ _
      | exact LeO.none _
      | refine LeO.ite ?_ ?_
      | refine LeO.bind ?_ (fun _ => ?_)
set_option maxHeartbeats 8000000 in
set_option maxRecDepth 100000 in
theorem dl_Scope.calls (k : Nat) (A0 : Option Addr) (c0 : Nat) (l0 : List (S38)) (A1_0 : Option Addr) (c1_0 : Nat) (l1_0 : List Int) (A1_1 : Option Addr) (c1_1 : Nat) (l1_1 : List Int) (r : List Int) (w : World) (hr0 : Kd.C k38 w A0 l0.length l0) (hc0 : l0.length ≤ c0) (hr1_0 : Kd.C (Kd.int .i64) w A1_0 l1_0.length l1_0) (hc1_0 : l1_0.length ≤ c1_0) (hr1_1 : Kd.C (Kd.int .i64) w A1_1 l1_1.length l1_1) (hc1_1 : l1_1.length ≤ c1_1) (h : dl_Scope.f k l0 l1_0 l1_1 = some r) :
  Calls Try.prog 26 #[.slice A0 l0.length c0, .agg #[.slice A1_0 l1_0.length c1_0, .slice A1_1 l1_1.length c1_1]] w fun e w' => ∃ v0_ : Value, e = .returned (v0_) ∧ Kd.R (Kd.int .i64) 3 w' w.heap.size (fun _ => True) v0_ r ∧ Below w.heap.size w w' := by
 have hu28 := Try.underlying28
 have HR0 := am hr0
 have HC0 := am hc0
 clear hr0 hc0
 have HR1_0 := am hr1_0
 have HC1_0 := am hc1_0
 clear hr1_0 hc1_0
 have HR1_1 := am hr1_1
 have HC1_1 := am hc1_1
 clear hr1_1 hc1_1
 have HB := am (Below.refl w.heap.size w)
 have H : (dl_Scope.l0 k l0 ([] : List Int) l1_1 (l1_1.length : Int) 0) = some r := h
 clear h
 have H' := am H
 clear H
 go_enter Try.func26, Try.ntmps26
 go_wp2_with (first | ((with_reducible refine gate_dst (N := 3) rfl ?_); refine box_event ?hg (N := 3) ?hd (cs := #[.slice A1_0 l1_0.length c1_0, .slice A1_1 l1_1.length c1_1]) (t := 28) ?hr ?_; (case hd => rfl); (case hg => rfl); (case hr => first | (go_simp; done) | (go_simp; rfl)); intro gb819 hg w3 hbox hb; have n0_ := am (below_step (uc HB.out) hb); have n1_ := am (hbox); have n2_ := am ((by rw [hg]; exact (below_size (uc HB.out)) : w.heap.size ≤ gb819)); have n3_ := am ((by rw [hg]; exact (below_size (uc HB.out)) : w.heap.size ≤ gb819)); revert n0_ n1_ n2_ n3_; clear HB; intro HB BK819 GW819 GE819; clear hb hbox hg; obtain ⟨hcz4_0, hcz4_1, hfz4_0, hfz4_1⟩ := cells2 BK819.out))
 go_loopg [5, 16] k (fun kq v5 v16 w' => ∃ (x5_1 : List Int) (x16_1 : Int), v16 = .int .i64 x16_1 ∧ Aside0 (dl_Scope.l0 kq l0 x5_1 l1_1 (l1_1.length : Int) x16_1 = some r) ∧ Aside0 (kq ≤ k) ∧ Aside0 (Kd.R (Kd.int .i64) 3 w' w.heap.size (fun _ => True) v5 x5_1) ∧ Aside0 (w'.heap[gb819]? = some (.cells #[(.slice A1_0 l1_0.length c1_0), (.slice A1_1 l1_1.length c1_1)] 28 (0, 0))) ∧ Aside0 (Below w.heap.size w w'))
 case atStart => exact ⟨(([] : List Int)), (0), uf, H', ⟨Nat.le_refl _⟩, ⟨by first | exact Kd.R_nil _ _ _ _ _ | exact Kd.N_nil _ _ _ _ _ | exact Kd.V_nil _ _ _ _ _ | exact Kd.Q_nil _ _ _ _ _ | exact Kd.S_nil _ _ _ _ _⟩, ⟨ub BK819.out⟩, ⟨uc HB.out⟩⟩
 case round =>
  clear H'
  try clear c1
  try clear c2
  try clear p2
  try clear hcz4_0
  try clear hcz4_1
  try clear hfz4_0
  try clear hfz4_1
  obtain ⟨x5_1, x16_1, rfl, HA, HK1, HO_5, BK819, HB⟩ := hrel
  cases gk with
  | zero => exact absurd HA.out (by simp [dl_Scope.l0])
  | succ k1 =>
   have H := HA.out
   clear HA
   simp only [dl_Scope.l0] at H
   by_cases c5 : x16_1 < (l1_1.length : Int)
   ·rw [if_pos c5] at H
    have c5b0 : decide (x16_1 < (l1_1.length : Int)) = true := decide_eq_true c5
    clear c5
    by_cases c6 : 0 ≤ x16_1
    ·rw [if_pos c6] at H
     have c6b0 : decide (0 ≤ x16_1) = true := decide_eq_true c6
     clear c6
     by_cases c7 : x16_1 < (l1_1.length : Int)
     ·rw [if_pos c7] at H
      have c7b0 : decide (x16_1 < (l1_1.length : Int)) = true := decide_eq_true c7
      clear c7
      by_cases c8 : 0 ≤ (rd l1_1 x16_1)
      ·rw [if_pos c8] at H
       have c8b0 : decide (0 ≤ (rd l1_1 x16_1)) = true := decide_eq_true c8
       clear c8
       by_cases c9 : (rd l1_1 x16_1) < (l0.length : Int)
       ·rw [if_pos c9] at H
        have c9b0 : decide ((rd l1_1 x16_1) < (l0.length : Int)) = true := decide_eq_true c9
        clear c9
        replace H := Option.bind_eq_some_iff.mp H
        obtain ⟨⟨t822, t823, t824⟩, A100, H⟩ := H
        replace H : (dl_Scope.l1 k1 l0 x5_1 l1_1 (l1_1.length : Int) x16_1 t822 (t822.length : Int) 0) = some r := H
        have A10 := am A100
        clear A100
        have H' := am H
        clear H
        have p820 : 0 ≤ (x16_1 : Int) := ud
        have q820 : x16_1 < (l1_1.length : Int) := ud
        obtain ⟨ad820, e820, hx820_0⟩ := Kd.at_int HR1_1.out x16_1 p820 q820
        cases e820
        replace hx820_0 := bcel HB hx820_0
        replace p820 := eq_true p820
        replace q820 := eq_true q820
        have p821 : 0 ≤ ((rd l1_1 x16_1) : Int) := ud
        have q821 : (rd l1_1 x16_1) < (l0.length : Int) := ud
        obtain ⟨ad821, A821_1, c821_1, A821_2, c821_2, A821_3, c821_3, A821_4, c821_4, A821_5, c821_5, A821_6, c821_6, e821, hx821_0, hx821_1, hx821_2, hx821_3, hx821_4, hx821_5, hx821_6, hl821_1, hi821_1, hl821_2, hi821_2, hl821_3, hi821_3, hl821_4, hi821_4, hl821_5, hi821_5, hl821_6, hi821_6⟩ := at_T38 HR0.out (rd l1_1 x16_1) p821 q821
        cases e821
        replace hx821_0 := bcel HB hx821_0
        replace hx821_1 := bcel HB hx821_1
        replace hx821_2 := bcel HB hx821_2
        replace hx821_3 := bcel HB hx821_3
        replace hx821_4 := bcel HB hx821_4
        replace hx821_5 := bcel HB hx821_5
        replace hx821_6 := bcel HB hx821_6
        have HR821_1 := am hi821_1
        have HC821_1 := am hl821_1
        clear hi821_1 hl821_1
        have HR821_2 := am hi821_2
        have HC821_2 := am hl821_2
        clear hi821_2 hl821_2
        have HR821_3 := am hi821_3
        have HC821_3 := am hl821_3
        clear hi821_3 hl821_3
        have HR821_4 := am hi821_4
        have HC821_4 := am hl821_4
        clear hi821_4 hl821_4
        have HR821_5 := am hi821_5
        have HC821_5 := am hl821_5
        clear hi821_5 hl821_5
        have HR821_6 := am hi821_6
        have HC821_6 := am hl821_6
        clear hi821_6 hl821_6
        replace p821 := eq_true p821
        replace q821 := eq_true q821
        go_wp2_with (first | ((with_reducible refine gate_dst (N := 27) rfl ?_); (with_reducible refine gate_callee (f := 29) rfl ?_); refine gl (some 27) Try.func29 #[.slice (some ad821) l0.length c0, .string ((rd_T38 l0 (rd l1_1 x16_1)).f0)] ?_; (with_reducible refine (graph_Closure.calls _ _ l0 ((rd_T38 l0 (rd l1_1 x16_1)).f0) t822 t823 t824 _ ?side1 ?side2 A10.out).mono ?_); (case side1 => exact us (Kd.C_below HR0.out HB.out)); (case side2 => exact HC0.out); rintro e w11 ⟨v825, rfl, ho0, hb⟩; refine ⟨_, rfl, ?_⟩; have n0_ := am (Kd.R_elder' (ua HO_5.out) (Kd.R_base ho0) hb); have n1_ := am (Kd.R_lower (Kd.R_new' ho0 (Kd.R_lt (ua HO_5.out))) (below_size (uc HB.out))); have n2_ := am (blk_below (g := gb819) (o := .cells #[.slice A1_0 l1_0.length c1_0, .slice (some ad820) l1_1.length c1_1] 28 (0, 0)) (ub BK819.out) hb); have n3_ := am (below_step (uc HB.out) hb); revert n0_ n1_ n2_ n3_; clear HO_5 BK819 HB; intro HO_5 HO826 BK819 HB; (try clear hb); (try clear hb2); (try clear hk); (try clear hi); (try clear ho0); obtain ⟨Ao12, co12, eo12⟩ := Kd.R_slice HO826.out; subst eo12))
        go_loopg [5, 33] k1 (fun kq v5 v33 w' => ∃ (x5_2 : List Int) (x33_2 : Int), v33 = .int .i64 x33_2 ∧ Aside0 (dl_Scope.l1 kq l0 x5_2 l1_1 (l1_1.length : Int) x16_1 t822 (t822.length : Int) x33_2 = some r) ∧ Aside0 (kq ≤ k1) ∧ Aside0 (Kd.R (Kd.int .i64) 3 w' w.heap.size (fun k_ => some k_ ≠ ((.slice Ao12 t822.length co12) : Value).ownBlock) v5 x5_2) ∧ Aside0 (Kd.R (Kd.int .i64) 3 w' w.heap.size (fun k_ => nv k_ v5) (.slice Ao12 t822.length co12) t822) ∧ Aside0 (w'.heap[gb819]? = some (.cells #[(.slice A1_0 l1_0.length c1_0), (.slice (some ad820) l1_1.length c1_1)] 28 (0, 0))) ∧ Aside0 (Below w.heap.size w w'))
        case atStart => exact ⟨(x5_1), (0), uf, H', ⟨Nat.le_refl _⟩, ⟨by (with_reducible repeat (first | apply Kd.R_alloc | apply Kd.R_drewN | apply Kd.R_drew)); exact Kd.R_mono HO_5.out (fun _ hk => hk.2)⟩, ⟨by (with_reducible repeat (first | apply Kd.R_alloc | apply Kd.R_drewN | apply Kd.R_drew)); exact Kd.R_mono HO826.out (fun _ hk => hk.2)⟩, ⟨ub BK819.out⟩, ⟨uc HB.out⟩⟩
        case round =>
         clear H'
         try clear c1
         try clear c2
         try clear p2
         try clear c5
         try clear c5b0
         try clear c6
         try clear c6b0
         try clear c7
         try clear c7b0
         try clear c8
         try clear c8b0
         try clear p8
         try clear q8
         try clear hx8
         try clear c9
         try clear c9b0
         try clear hcz4_0
         try clear hcz4_1
         try clear hfz4_0
         try clear hfz4_1
         try clear hx820_0
         try clear hx821_0
         try clear hx821_1
         try clear hx821_2
         try clear hx821_3
         try clear hx821_4
         try clear hx821_5
         try clear hx821_6
         try clear p2
         try clear p820
         try clear p821
         try clear q820
         try clear q821
         obtain ⟨x5_2, x33_2, rfl, HA, HK2, HO_5, HO_31, BK819, HB⟩ := hrel
         cases gk with
         | zero => exact absurd HA.out (by simp [dl_Scope.l1])
         | succ k2 =>
          have H := HA.out
          clear HA
          simp only [dl_Scope.l1] at H
          by_cases c13 : x33_2 < (t822.length : Int)
          ·rw [if_pos c13] at H
           have c13b0 : decide (x33_2 < (t822.length : Int)) = true := decide_eq_true c13
           clear c13
           by_cases c14 : 0 ≤ x33_2
           ·rw [if_pos c14] at H
            have c14b0 : decide (0 ≤ x33_2) = true := decide_eq_true c14
            clear c14
            by_cases c15 : x33_2 < (t822.length : Int)
            ·rw [if_pos c15] at H
             have c15b0 : decide (x33_2 < (t822.length : Int)) = true := decide_eq_true c15
             clear c15
             replace H := Option.bind_eq_some_iff.mp H
             obtain ⟨t828, A160, H⟩ := H
             replace H : (if t828 = true then (dl_Scope.l1 k2 l0 x5_2 l1_1 (l1_1.length : Int) x16_1 t822 (t822.length : Int) (wrap64 (x33_2 + 1))) else (if x5_2.length < 17592186044416 then (dl_Scope.l1 k2 l0 (x5_2 ++ [rd t822 x33_2]) l1_1 (l1_1.length : Int) x16_1 t822 (t822.length : Int) (wrap64 (x33_2 + 1))) else (none))) = some r := H
             have A16 := am A160
             clear A160
             by_cases c17 : t828 = true
             ·subst c17
              have H1 : (dl_Scope.l1 k2 l0 x5_2 l1_1 (l1_1.length : Int) x16_1 t822 (t822.length : Int) (wrap64 (x33_2 + 1))) = some r := by rw [if_pos rfl] at H; exact H
              clear H
              have H := H1
              clear H1
              have H' := am H
              clear H
              have p827 : 0 ≤ (x33_2 : Int) := ud
              have q827 : x33_2 < (t822.length : Int) := ud
              obtain ⟨ad827, e827, hx827_0⟩ := Kd.at_int (Kd.R_reads' HO_31.out).2.2 x33_2 p827 q827
              cases e827
              replace p827 := eq_true p827
              replace q827 := eq_true q827
              obtain ⟨Ao18, co18, eo18⟩ := Kd.R_slice HO_5.out
              subst eo18
              go_wp2_with (first | ((with_reducible refine gate_dst (N := 39) rfl ?_); (with_reducible refine gate_callee (f := 32) rfl ?_); refine gl (some 39) Try.func32 #[.slice Ao18 x5_2.length co18, .int .i64 (rd t822 x33_2)] ?_; (with_reducible refine (slices_Contains_int_int.calls k2 _ _ x5_2 (rd t822 x33_2) true _ ?side1 ?side2 A16.out).mono ?_); (case side1 => exact us (Kd.R_reads' HO_5.out).2.2); (case side2 => exact (Kd.R_reads' HO_5.out).2.1); rintro e w' ⟨rfl, ⟨nd, rfl⟩⟩; refine ⟨_, rfl, ?_⟩))
              go_roundg k2
              case measure => have := HK1.out; have := HK2.out; omega
              case rel => exact ⟨(x5_2), (wrap64 (x33_2 + 1)), uf, H', ⟨by have := HK1.out; have := HK2.out; omega⟩, ⟨ua HO_5.out⟩, ⟨ua HO_31.out⟩, ⟨ub BK819.out⟩, ⟨uc HB.out⟩⟩
             ·replace c17 := Bool.eq_false_iff.mpr c17
              subst c17
              have H1 : (if x5_2.length < 17592186044416 then (dl_Scope.l1 k2 l0 (x5_2 ++ [rd t822 x33_2]) l1_1 (l1_1.length : Int) x16_1 t822 (t822.length : Int) (wrap64 (x33_2 + 1))) else (none)) = some r := by rw [if_neg (show ¬ (false = true) by decide)] at H; exact H
              clear H
              have H := H1
              clear H1
              by_cases c19 : x5_2.length < 17592186044416
              ·rw [if_pos c19] at H
               have LMc19 := am c19
               clear c19
               obtain ⟨y829, hy829⟩ : ∃ y_ : List Int, y_ = (x5_2 ++ [rd t822 x33_2]) := ⟨_, rfl⟩
               replace H : (dl_Scope.l1 k2 l0 y829 l1_1 (l1_1.length : Int) x16_1 t822 (t822.length : Int) (wrap64 (x33_2 + 1))) = some r := by first | (rw [hy829]; with_reducible exact H) | (have H2_ := (Option.bind_some _ _).symm.trans H; rw [hy829]; with_reducible exact H2_) | (have H2_ := (Option.bind_some _ _).symm.trans H; with_reducible exact H2_) | with_reducible exact H | (rw [hy829]; exact H) | exact H
               have Ny829 := am hy829
               clear hy829
               have H' := am H
               clear H
               have p827 : 0 ≤ (x33_2 : Int) := ud
               have q827 : x33_2 < (t822.length : Int) := ud
               obtain ⟨ad827, e827, hx827_0⟩ := Kd.at_int (Kd.R_reads' HO_31.out).2.2 x33_2 p827 q827
               cases e827
               replace p827 := eq_true p827
               replace q827 := eq_true q827
               obtain ⟨Ao20, co20, eo20⟩ := Kd.R_slice HO_5.out
               subst eo20
               go_wp2_with (first | ((with_reducible refine gate_dst (N := 39) rfl ?_); (with_reducible refine gate_callee (f := 32) rfl ?_); refine gl (some 39) Try.func32 #[.slice Ao20 x5_2.length co20, .int .i64 (rd t822 x33_2)] ?_; (with_reducible refine (slices_Contains_int_int.calls k2 _ _ x5_2 (rd t822 x33_2) false _ ?side1 ?side2 A16.out).mono ?_); (case side1 => exact us (Kd.R_reads' HO_5.out).2.2); (case side2 => exact (Kd.R_reads' HO_5.out).2.1); rintro e w' ⟨rfl, ⟨nd, rfl⟩⟩; refine ⟨_, rfl, ?_⟩) | ((with_reducible refine gate_builtin (b := .append) (xs := #[.tmp 41, .tmp 43]) rfl ?_); at_builtin; refine Kd.R_append (Kd.int .i64) (w0 := w) w.heap.size rfl (.tmp 41) (.tmp 43) 26 3 (.int .i64 0) 8 rfl Try.underlying26 info3 rfl (by decide) (by omega) (.slice Ao20 x5_2.length co20) x5_2 (rd t822 x33_2) [.int .i64 (rd t822 x33_2)] (fun k_ => some k_ ≠ (.slice (some ad827) t822.length co12 : Value).ownBlock) (fun _ => False) rfl rfl ?aP (fun _ hk => hk.elim) ?aF ?aO ?aB ?aS ?aL ?_; (case aP => exact rfl); (case aB => exact (uc HB.out)); (case aF => exact (fun k_ hk => Kd.fresh' (Kd.R_lt (ua HO_31.out)) k_ hk)); (case aO => exact (ua HO_5.out)); (case aS => exact (below_size (uc HB.out))); (case aL => have := LMc19.out; omega); intro v830 w21 ho hb hg hat; rw [← Ny829.out] at ho; have n0_ := am (Kd.R_after (ok := (fun _ => True)) (by (with_reducible repeat (first | apply Kd.R_alloc | apply Kd.R_drewN | apply Kd.R_drew)); exact Kd.R_mono HO_31.out (fun _ hk => ⟨trivial, hk⟩)) hg hat); have n1_ := am (blk_grown (g := gb819) (o := .cells #[.slice A1_0 l1_0.length c1_0, .slice (some ad820) l1_1.length c1_1] 28 (0, 0)) (ub BK819.out) hg (Kd.R_ne HO_5.out BK819.out (by decide))); have n2_ := am (hb); have n3_ := am (ho); revert n0_ n1_ n2_ n3_; clear HO_31 BK819 HB HO_5; intro HO_31 BK819 HB HO831; clear ho hb hg hat))
               go_roundg k2
               case measure => have := HK1.out; have := HK2.out; omega
               case rel => exact ⟨(y829), (wrap64 (x33_2 + 1)), uf, H', ⟨by have := HK1.out; have := HK2.out; omega⟩, ⟨ua HO831.out⟩, ⟨by (with_reducible repeat (first | apply Kd.R_alloc | apply Kd.R_drewN | apply Kd.R_drew)); exact Kd.R_mono HO_31.out (fun _ hk => hk.2)⟩, ⟨ub BK819.out⟩, ⟨uc HB.out⟩⟩
              ·rw [if_neg c19] at H
               exact absurd H (by simp)
            ·rw [if_neg c15] at H
             exact absurd H (by simp)
           ·rw [if_neg c14] at H
            exact absurd H (by simp)
          ·rw [if_neg c13] at H
           have c13b0 : decide (x33_2 < (t822.length : Int)) = false := decide_eq_false c13
           clear c13
           have H' := am H
           clear H
           go_wp2
           go_roundg k2
           case measure => have := HK1.out; have := HK2.out; omega
           case rel => exact ⟨(x5_2), (wrap64 (x16_1 + 1)), uf, H', ⟨by have := HK1.out; have := HK2.out; omega⟩, ⟨by (with_reducible repeat (first | apply Kd.R_alloc | apply Kd.R_drewN | apply Kd.R_drew)); exact Kd.R_mono HO_5.out (fun _ hk => trivial)⟩, ⟨ub BK819.out⟩, ⟨uc HB.out⟩⟩
       ·rw [if_neg c9] at H
        exact absurd H (by simp)
      ·rw [if_neg c8] at H
       exact absurd H (by simp)
     ·rw [if_neg c7] at H
      exact absurd H (by simp)
    ·rw [if_neg c6] at H
     exact absurd H (by simp)
   ·rw [if_neg c5] at H
    have c5b0 : decide (x16_1 < (l1_1.length : Int)) = false := decide_eq_false c5
    clear c5
    obtain rfl := Option.some.inj H
    go_wp2
    go_ret
    exact ⟨_, by first | rfl | (simp [errW_none, errW_some] <;> rfl) | (simp [*, errW_none, errW_some] <;> rfl), ua HO_5.out, uc HB.out⟩

mutual
def curtilageref21_Scope.l0 : Nat → List (S38) → List Int → List Int → Int → Option (List Int)
  | 0, _, _, _, _ => none
  | k + 1, x0, x1, x5, x6 => if x6 < (x1.length : Int) then (if 0 ≤ x6 then (if 0 ≤ (rd x1 x6) then (if (rd x1 x6) < (x0.length : Int) then ((curtilageref13_Closure.f k x0 ((rd_T38 x0 (rd x1 x6)).f0)).bind fun bt834 => (curtilageref21_Scope.l1 k x0 x1 x5 x6 bt834.1 0)) else (none)) else (none)) else (none)) else (some x5)
def curtilageref21_Scope.l1 : Nat → List (S38) → List Int → List Int → Int → List Int → Int → Option (List Int)
  | 0, _, _, _, _, _, _ => none
  | k + 1, x0, x1, x5, x6, x7, x10 => if x10 < (x7.length : Int) then (if 0 ≤ x10 then ((curtilageref13_Has.f k x5 (rd x7 x10)).bind fun t840 => (if t840 = true then (curtilageref21_Scope.l1 k x0 x1 x5 x6 x7 (wrap64 (x10 + 1))) else (if x5.length < 17592186044416 then (curtilageref21_Scope.l1 k x0 x1 (x5 ++ [rd x7 x10]) x6 x7 (wrap64 (x10 + 1))) else (none)))) else (none)) else (curtilageref21_Scope.l0 k x0 x1 x5 (wrap64 (x6 + 1)))
end
def curtilageref21_Scope.f (k : Nat) (l0 : List (S38)) (l1 : List Int) : Option (List Int) := curtilageref21_Scope.l0 k l0 l1 ([] : List Int) 0
theorem curtilageref21_Scope.mono_l : ∀ k, (∀ y0 y1 y2 y3, LeO (curtilageref21_Scope.l0 k y0 y1 y2 y3) (curtilageref21_Scope.l0 (k + 1) y0 y1 y2 y3)) ∧ (∀ y0 y1 y2 y3 y4 y5, LeO (curtilageref21_Scope.l1 k y0 y1 y2 y3 y4 y5) (curtilageref21_Scope.l1 (k + 1) y0 y1 y2 y3 y4 y5))
  | 0 => ⟨fun _ _ _ _ r h => by simp [curtilageref21_Scope.l0] at h, fun _ _ _ _ _ _ r h => by simp [curtilageref21_Scope.l1] at h⟩
  | k + 1 => by
    obtain ⟨ih0, ih1⟩ := curtilageref21_Scope.mono_l k
    refine ⟨?_, ?_⟩
    · intro y0 y1 y2 y3
      unfold curtilageref21_Scope.l0
      repeat' first
      | (with_reducible exact ih0 _ _ _ _)
      | (with_reducible exact ih1 _ _ _ _ _ _)
      | (with_reducible exact curtilageref13_Closure.mono _ _ _)
      | (with_reducible exact curtilageref13_Has.mono _ _ _)
      | (with_reducible exact LeO.refl _)
      | (with_reducible exact LeO.none _)
      | (with_reducible refine LeO.ite ?_ ?_)
      | (with_reducible refine LeO.bind ?_ (fun _ => ?_))
      | exact ih0 _ _ _ _
      | exact ih1 _ _ _ _ _ _
      | exact curtilageref13_Closure.mono _ _ _
      | exact curtilageref13_Has.mono _ _ _
      | exact LeO.none _
      | refine LeO.ite ?_ ?_
      | refine LeO.bind ?_ (fun _ => ?_)
    · intro y0 y1 y2 y3 y4 y5
      unfold curtilageref21_Scope.l1
      repeat' first
      | (with_reducible exact ih0 _ _ _ _)
      | (with_reducible exact ih1 _ _ _ _ _ _)
      | (with_reducible exact curtilageref13_Closure.mono _ _ _)
      | (with_reducible exact curtilageref13_Has.mono _ _ _)
      | (with_reducible exact LeO.refl _)
      | (with_reducible exact LeO.none _)
      | (with_reducible refine LeO.ite ?_ ?_)
      | (with_reducible refine LeO.bind ?_ (fun _ => ?_))
      | exact ih0 _ _ _ _
      | exact ih1 _ _ _ _ _ _
      | exact curtilageref13_Closure.mono _ _ _
      | exact curtilageref13_Has.mono _ _ _
      | exact LeO.none _
      | refine LeO.ite ?_ ?_
      | refine LeO.bind ?_ (fun _ => ?_)
theorem curtilageref21_Scope.mono : ∀ a0 a1 k, LeO (curtilageref21_Scope.f k a0 a1) (curtilageref21_Scope.f (k + 1) a0 a1) := by
  intro a0 a1 k
  obtain ⟨ih0, ih1⟩ := curtilageref21_Scope.mono_l k
  unfold curtilageref21_Scope.f
  repeat' first
      | (with_reducible exact ih0 _ _ _ _)
      | (with_reducible exact ih1 _ _ _ _ _ _)
      | (with_reducible exact curtilageref13_Closure.mono _ _ _)
      | (with_reducible exact curtilageref13_Has.mono _ _ _)
      | (with_reducible exact LeO.refl _)
      | (with_reducible exact LeO.none _)
      | (with_reducible refine LeO.ite ?_ ?_)
      | (with_reducible refine LeO.bind ?_ (fun _ => ?_))
      | exact ih0 _ _ _ _
      | exact ih1 _ _ _ _ _ _
      | exact curtilageref13_Closure.mono _ _ _
      | exact curtilageref13_Has.mono _ _ _
      | exact LeO.none _
      | refine LeO.ite ?_ ?_
      | refine LeO.bind ?_ (fun _ => ?_)
set_option maxHeartbeats 8000000 in
set_option maxRecDepth 100000 in
theorem curtilageref21_Scope.calls (k : Nat) (A0 : Option Addr) (c0 : Nat) (l0 : List (S38)) (A1 : Option Addr) (c1 : Nat) (l1 : List Int) (r : List Int) (w : World) (hr0 : Kd.C k38 w A0 l0.length l0) (hc0 : l0.length ≤ c0) (hr1 : Kd.C (Kd.int .i64) w A1 l1.length l1) (hc1 : l1.length ≤ c1) (h : curtilageref21_Scope.f k l0 l1 = some r) :
  Calls Try.prog 27 #[.slice A0 l0.length c0, .slice A1 l1.length c1] w fun e w' => ∃ v0_ : Value, e = .returned (v0_) ∧ Kd.R (Kd.int .i64) 3 w' w.heap.size (fun _ => True) v0_ r ∧ Below w.heap.size w w' := by
 have HR0 := am hr0
 have HC0 := am hc0
 clear hr0 hc0
 have HR1 := am hr1
 have HC1 := am hc1
 clear hr1 hc1
 have HB := am (Below.refl w.heap.size w)
 have H : (curtilageref21_Scope.l0 k l0 l1 ([] : List Int) 0) = some r := h
 clear h
 have H' := am H
 clear H
 go_enter Try.func27, Try.ntmps27
 go_wp2
 go_loopg [5, 6] k (fun kq v5 v6 w' => ∃ (x5_1 : List Int) (x6_1 : Int), v6 = .int .i64 x6_1 ∧ Aside0 (curtilageref21_Scope.l0 kq l0 l1 x5_1 x6_1 = some r) ∧ Aside0 (kq ≤ k) ∧ Aside0 (Kd.R (Kd.int .i64) 3 w' w.heap.size (fun _ => True) v5 x5_1) ∧ Aside0 (Below w.heap.size w w'))
 case atStart => exact ⟨(([] : List Int)), (0), uf, H', ⟨Nat.le_refl _⟩, ⟨by first | exact Kd.R_nil _ _ _ _ _ | exact Kd.N_nil _ _ _ _ _ | exact Kd.V_nil _ _ _ _ _ | exact Kd.Q_nil _ _ _ _ _ | exact Kd.S_nil _ _ _ _ _⟩, ⟨uc HB.out⟩⟩
 case round =>
  clear H'
  try clear c1
  try clear c2
  try clear p2
  obtain ⟨x5_1, x6_1, rfl, HA, HK1, HO_5, HB⟩ := hrel
  cases gk with
  | zero => exact absurd HA.out (by simp [curtilageref21_Scope.l0])
  | succ k1 =>
   have H := HA.out
   clear HA
   simp only [curtilageref21_Scope.l0] at H
   by_cases c3 : x6_1 < (l1.length : Int)
   ·rw [if_pos c3] at H
    have c3b0 : decide (x6_1 < (l1.length : Int)) = true := decide_eq_true c3
    clear c3
    by_cases c4 : 0 ≤ x6_1
    ·rw [if_pos c4] at H
     have c4b0 : decide (0 ≤ x6_1) = true := decide_eq_true c4
     clear c4
     by_cases c5 : 0 ≤ (rd l1 x6_1)
     ·rw [if_pos c5] at H
      have c5b0 : decide (0 ≤ (rd l1 x6_1)) = true := decide_eq_true c5
      clear c5
      by_cases c6 : (rd l1 x6_1) < (l0.length : Int)
      ·rw [if_pos c6] at H
       have c6b0 : decide ((rd l1 x6_1) < (l0.length : Int)) = true := decide_eq_true c6
       clear c6
       replace H := Option.bind_eq_some_iff.mp H
       obtain ⟨⟨t834, t835, t836⟩, A70, H⟩ := H
       replace H : (curtilageref21_Scope.l1 k1 l0 l1 x5_1 x6_1 t834 0) = some r := H
       have A7 := am A70
       clear A70
       have H' := am H
       clear H
       have p832 : 0 ≤ (x6_1 : Int) := ud
       have q832 : x6_1 < (l1.length : Int) := ud
       obtain ⟨ad832, e832, hx832_0⟩ := Kd.at_int HR1.out x6_1 p832 q832
       cases e832
       replace hx832_0 := bcel HB hx832_0
       replace p832 := eq_true p832
       replace q832 := eq_true q832
       have p833 : 0 ≤ ((rd l1 x6_1) : Int) := ud
       have q833 : (rd l1 x6_1) < (l0.length : Int) := ud
       obtain ⟨ad833, A833_1, c833_1, A833_2, c833_2, A833_3, c833_3, A833_4, c833_4, A833_5, c833_5, A833_6, c833_6, e833, hx833_0, hx833_1, hx833_2, hx833_3, hx833_4, hx833_5, hx833_6, hl833_1, hi833_1, hl833_2, hi833_2, hl833_3, hi833_3, hl833_4, hi833_4, hl833_5, hi833_5, hl833_6, hi833_6⟩ := at_T38 HR0.out (rd l1 x6_1) p833 q833
       cases e833
       replace hx833_0 := bcel HB hx833_0
       replace hx833_1 := bcel HB hx833_1
       replace hx833_2 := bcel HB hx833_2
       replace hx833_3 := bcel HB hx833_3
       replace hx833_4 := bcel HB hx833_4
       replace hx833_5 := bcel HB hx833_5
       replace hx833_6 := bcel HB hx833_6
       have HR833_1 := am hi833_1
       have HC833_1 := am hl833_1
       clear hi833_1 hl833_1
       have HR833_2 := am hi833_2
       have HC833_2 := am hl833_2
       clear hi833_2 hl833_2
       have HR833_3 := am hi833_3
       have HC833_3 := am hl833_3
       clear hi833_3 hl833_3
       have HR833_4 := am hi833_4
       have HC833_4 := am hl833_4
       clear hi833_4 hl833_4
       have HR833_5 := am hi833_5
       have HC833_5 := am hl833_5
       clear hi833_5 hl833_5
       have HR833_6 := am hi833_6
       have HC833_6 := am hl833_6
       clear hi833_6 hl833_6
       replace p833 := eq_true p833
       replace q833 := eq_true q833
       go_wp2_with (first | ((with_reducible refine gate_dst (N := 28) rfl ?_); (with_reducible refine gate_callee (f := 37) rfl ?_); refine gl (some 28) Try.func37 #[.slice (some ad833) l0.length c0, .string ((rd_T38 l0 (rd l1 x6_1)).f0)] ?_; (with_reducible refine (curtilageref13_Closure.calls k1 _ _ l0 ((rd_T38 l0 (rd l1 x6_1)).f0) t834 t835 t836 _ ?side1 ?side2 A7.out).mono ?_); (case side1 => exact us (Kd.C_below HR0.out HB.out)); (case side2 => exact HC0.out); rintro e w8 ⟨v837, rfl, ho0, hb⟩; refine ⟨_, rfl, ?_⟩; have n0_ := am (Kd.R_elder' (ua HO_5.out) (Kd.R_base ho0) hb); have n1_ := am (Kd.R_lower (Kd.R_new' ho0 (Kd.R_lt (ua HO_5.out))) (below_size (uc HB.out))); have n2_ := am (below_step (uc HB.out) hb); revert n0_ n1_ n2_; clear HO_5 HB; intro HO_5 HO838 HB; (try clear hb); (try clear hb2); (try clear hk); (try clear hi); (try clear ho0)))
       go_loopg [5, 10] k1 (fun kq v5 v10 w' => ∃ (x5_2 : List Int) (x10_2 : Int), v10 = .int .i64 x10_2 ∧ Aside0 (curtilageref21_Scope.l1 kq l0 l1 x5_2 x6_1 t834 x10_2 = some r) ∧ Aside0 (kq ≤ k1) ∧ Aside0 (Kd.R (Kd.int .i64) 3 w' w.heap.size (fun k_ => nv k_ v837) v5 x5_2) ∧ Aside0 (Kd.R (Kd.int .i64) 3 w' w.heap.size (fun k_ => nv k_ v5) v837 t834) ∧ Aside0 (Below w.heap.size w w'))
       case atStart => exact ⟨(x5_1), (0), uf, H', ⟨Nat.le_refl _⟩, ⟨by (with_reducible repeat (first | apply Kd.R_alloc | apply Kd.R_drewN | apply Kd.R_drew)); exact Kd.R_mono HO_5.out (fun _ hk => hk.2)⟩, ⟨by (with_reducible repeat (first | apply Kd.R_alloc | apply Kd.R_drewN | apply Kd.R_drew)); exact Kd.R_mono HO838.out (fun _ hk => hk.2)⟩, ⟨uc HB.out⟩⟩
       case round =>
        clear H'
        try clear c1
        try clear c2
        try clear p2
        try clear c3
        try clear c3b0
        try clear c4
        try clear c4b0
        try clear c5
        try clear c5b0
        try clear c6
        try clear c6b0
        try clear c8
        try clear p8
        try clear q8
        try clear hx8
        try clear hx832_0
        try clear hx833_0
        try clear hx833_1
        try clear hx833_2
        try clear hx833_3
        try clear hx833_4
        try clear hx833_5
        try clear hx833_6
        try clear p2
        try clear p832
        try clear p833
        try clear q832
        try clear q833
        obtain ⟨x5_2, x10_2, rfl, HA, HK2, HO_5, HO_7, HB⟩ := hrel
        cases gk with
        | zero => exact absurd HA.out (by simp [curtilageref21_Scope.l1])
        | succ k2 =>
         have H := HA.out
         clear HA
         simp only [curtilageref21_Scope.l1] at H
         by_cases c9 : x10_2 < (t834.length : Int)
         ·rw [if_pos c9] at H
          have c9b0 : decide (x10_2 < (t834.length : Int)) = true := decide_eq_true c9
          clear c9
          by_cases c10 : 0 ≤ x10_2
          ·rw [if_pos c10] at H
           have c10b0 : decide (0 ≤ x10_2) = true := decide_eq_true c10
           clear c10
           replace H := Option.bind_eq_some_iff.mp H
           obtain ⟨t840, A110, H⟩ := H
           replace H : (if t840 = true then (curtilageref21_Scope.l1 k2 l0 l1 x5_2 x6_1 t834 (wrap64 (x10_2 + 1))) else (if x5_2.length < 17592186044416 then (curtilageref21_Scope.l1 k2 l0 l1 (x5_2 ++ [rd t834 x10_2]) x6_1 t834 (wrap64 (x10_2 + 1))) else (none))) = some r := H
           have A11 := am A110
           clear A110
           by_cases c12 : t840 = true
           ·subst c12
            have H1 : (curtilageref21_Scope.l1 k2 l0 l1 x5_2 x6_1 t834 (wrap64 (x10_2 + 1))) = some r := by rw [if_pos rfl] at H; exact H
            clear H
            have H := H1
            clear H1
            have H' := am H
            clear H
            obtain ⟨Ao13, co13, eo13⟩ := Kd.R_slice HO_7.out
            subst eo13
            have p839 : 0 ≤ (x10_2 : Int) := ud
            have q839 : x10_2 < (t834.length : Int) := ud
            obtain ⟨ad839, e839, hx839_0⟩ := Kd.at_int (Kd.R_reads' HO_7.out).2.2 x10_2 p839 q839
            cases e839
            replace p839 := eq_true p839
            replace q839 := eq_true q839
            obtain ⟨Ao14, co14, eo14⟩ := Kd.R_slice HO_5.out
            subst eo14
            go_wp2_with (first | ((with_reducible refine gate_dst (N := 43) rfl ?_); (with_reducible refine gate_callee (f := 13) rfl ?_); refine gl (some 43) Try.func13 #[.slice Ao14 x5_2.length co14, .int .i64 (rd t834 x10_2)] ?_; (with_reducible refine (curtilageref13_Has.calls k2 _ _ x5_2 (rd t834 x10_2) true _ ?side1 ?side2 A11.out).mono ?_); (case side1 => exact us (Kd.R_reads' HO_5.out).2.2); (case side2 => exact (Kd.R_reads' HO_5.out).2.1); rintro e w' ⟨rfl, ⟨nd, rfl⟩⟩; refine ⟨_, rfl, ?_⟩))
            go_roundg k2
            case measure => have := HK1.out; have := HK2.out; omega
            case rel => exact ⟨(x5_2), (wrap64 (x10_2 + 1)), uf, H', ⟨by have := HK1.out; have := HK2.out; omega⟩, ⟨ua HO_5.out⟩, ⟨ua HO_7.out⟩, ⟨uc HB.out⟩⟩
           ·replace c12 := Bool.eq_false_iff.mpr c12
            subst c12
            have H1 : (if x5_2.length < 17592186044416 then (curtilageref21_Scope.l1 k2 l0 l1 (x5_2 ++ [rd t834 x10_2]) x6_1 t834 (wrap64 (x10_2 + 1))) else (none)) = some r := by rw [if_neg (show ¬ (false = true) by decide)] at H; exact H
            clear H
            have H := H1
            clear H1
            by_cases c15 : x5_2.length < 17592186044416
            ·rw [if_pos c15] at H
             have LMc15 := am c15
             clear c15
             obtain ⟨y842, hy842⟩ : ∃ y_ : List Int, y_ = (x5_2 ++ [rd t834 x10_2]) := ⟨_, rfl⟩
             replace H : (curtilageref21_Scope.l1 k2 l0 l1 y842 x6_1 t834 (wrap64 (x10_2 + 1))) = some r := by first | (rw [hy842]; with_reducible exact H) | (have H2_ := (Option.bind_some _ _).symm.trans H; rw [hy842]; with_reducible exact H2_) | (have H2_ := (Option.bind_some _ _).symm.trans H; with_reducible exact H2_) | with_reducible exact H | (rw [hy842]; exact H) | exact H
             have Ny842 := am hy842
             clear hy842
             have H' := am H
             clear H
             obtain ⟨Ao16, co16, eo16⟩ := Kd.R_slice HO_7.out
             subst eo16
             have p839 : 0 ≤ (x10_2 : Int) := ud
             have q839 : x10_2 < (t834.length : Int) := ud
             obtain ⟨ad839, e839, hx839_0⟩ := Kd.at_int (Kd.R_reads' HO_7.out).2.2 x10_2 p839 q839
             cases e839
             replace p839 := eq_true p839
             replace q839 := eq_true q839
             obtain ⟨Ao17, co17, eo17⟩ := Kd.R_slice HO_5.out
             subst eo17
             go_wp2_with (first | ((with_reducible refine gate_dst (N := 43) rfl ?_); (with_reducible refine gate_callee (f := 13) rfl ?_); refine gl (some 43) Try.func13 #[.slice Ao17 x5_2.length co17, .int .i64 (rd t834 x10_2)] ?_; (with_reducible refine (curtilageref13_Has.calls k2 _ _ x5_2 (rd t834 x10_2) false _ ?side1 ?side2 A11.out).mono ?_); (case side1 => exact us (Kd.R_reads' HO_5.out).2.2); (case side2 => exact (Kd.R_reads' HO_5.out).2.1); rintro e w' ⟨rfl, ⟨nd, rfl⟩⟩; refine ⟨_, rfl, ?_⟩; have p841 : 0 ≤ (x10_2 : Int) := ud; have q841 : x10_2 < (t834.length : Int) := ud; obtain ⟨ad841, e841, hx841_0⟩ := Kd.at_int (Kd.R_reads' HO_7.out).2.2 x10_2 p841 q841; obtain rfl : ad839 = ad841 := (by injection e841); replace p841 := eq_true p841; replace q841 := eq_true q841) | ((with_reducible refine gate_builtin (b := .append) (xs := #[.tmp 46, .tmp 51]) rfl ?_); at_builtin; refine Kd.R_append (Kd.int .i64) (w0 := w) w.heap.size rfl (.tmp 46) (.tmp 51) 26 3 (.int .i64 0) 8 rfl Try.underlying26 info3 rfl (by decide) (by omega) (.slice Ao17 x5_2.length co17) x5_2 (rd t834 x10_2) [.int .i64 (rd t834 x10_2)] (fun k_ => some k_ ≠ (.slice (some ad839) t834.length co16 : Value).ownBlock) (fun _ => False) rfl rfl ?aP (fun _ hk => hk.elim) ?aF ?aO ?aB ?aS ?aL ?_; (case aP => exact rfl); (case aB => exact (uc HB.out)); (case aF => exact (fun k_ hk => Kd.fresh' (Kd.R_lt (ua HO_7.out)) k_ hk)); (case aO => exact (ua HO_5.out)); (case aS => exact (below_size (uc HB.out))); (case aL => have := LMc15.out; omega); intro v843 w18 ho hb hg hat; rw [← Ny842.out] at ho; have n0_ := am (Kd.R_after (ok := (fun _ => True)) (by (with_reducible repeat (first | apply Kd.R_alloc | apply Kd.R_drewN | apply Kd.R_drew)); exact Kd.R_mono HO_7.out (fun _ hk => ⟨trivial, hk⟩)) hg hat); have n1_ := am (hb); have n2_ := am (ho); revert n0_ n1_ n2_; clear HO_7 HB HO_5; intro HO_7 HB HO844; clear ho hb hg hat))
             go_roundg k2
             case measure => have := HK1.out; have := HK2.out; omega
             case rel => exact ⟨(y842), (wrap64 (x10_2 + 1)), uf, H', ⟨by have := HK1.out; have := HK2.out; omega⟩, ⟨ua HO844.out⟩, ⟨by (with_reducible repeat (first | apply Kd.R_alloc | apply Kd.R_drewN | apply Kd.R_drew)); exact Kd.R_mono HO_7.out (fun _ hk => hk.2)⟩, ⟨uc HB.out⟩⟩
            ·rw [if_neg c15] at H
             exact absurd H (by simp)
          ·rw [if_neg c10] at H
           exact absurd H (by simp)
         ·rw [if_neg c9] at H
          have c9b0 : decide (x10_2 < (t834.length : Int)) = false := decide_eq_false c9
          clear c9
          have H' := am H
          clear H
          obtain ⟨Ao19, co19, eo19⟩ := Kd.R_slice HO_7.out
          subst eo19
          go_wp2
          go_roundg k2
          case measure => have := HK1.out; have := HK2.out; omega
          case rel => exact ⟨(x5_2), (wrap64 (x6_1 + 1)), uf, H', ⟨by have := HK1.out; have := HK2.out; omega⟩, ⟨by (with_reducible repeat (first | apply Kd.R_alloc | apply Kd.R_drewN | apply Kd.R_drew)); exact Kd.R_mono HO_5.out (fun _ hk => trivial)⟩, ⟨uc HB.out⟩⟩
      ·rw [if_neg c6] at H
       exact absurd H (by simp)
     ·rw [if_neg c5] at H
      exact absurd H (by simp)
    ·rw [if_neg c4] at H
     exact absurd H (by simp)
   ·rw [if_neg c3] at H
    have c3b0 : decide (x6_1 < (l1.length : Int)) = false := decide_eq_false c3
    clear c3
    obtain rfl := Option.some.inj H
    go_wp2
    go_ret
    exact ⟨_, by first | rfl | (simp [errW_none, errW_some] <;> rfl) | (simp [*, errW_none, errW_some] <;> rfl), ua HO_5.out, uc HB.out⟩

end Go.Proofs.Ytociaidhgefpiaa.P
