/- What functions of the program, and of its laws, give, each proved of its code by a walk; no condition. -/
import Derived.Test.YtdgmkmjmddjcfaaKLookupTwicePx0
import Derived.Test.YtdgmkmjmddjcfaaKLookupTwicePx1
import Derived.Test.YtdgmkmjmddjcfaaKLookupTwicePx2
import Derived.Test.YtdgmkmjmddjcfaaKLookupTwicePx3
namespace Go.Proofs.Ytdgmkmjmddjcfaa.P
open Go.RowKit Go.Proofs.YtdgmkmjmddjcfaaW.PrintWords Go.Proofs.YtdgmkmjmddjcfaaW.PrintLast Go.Proofs.YtdgmkmjmddjcfaaW.PrintMore
attribute [local go_sem] max2_int min2_int max_two min_two max_three min_three max_four min_four   -- for this text's walks alone
set_option linter.unusedVariables false
set_option linter.unusedSimpArgs false

mutual
def lookup_All.l0 : Nat → List (S32) → List ByteArray → List Int → Int → Int → Option (List ByteArray)
  | 0, _, _, _, _, _ => none
  | k + 1, x0, x5, x10, x11, x12 => if x12 < x11 then (if 0 ≤ x12 then (if x12 < (x10.length : Int) then (if 0 ≤ (rd x10 x12) then (if (rd x10 x12) < (x0.length : Int) then (lookup_All.l1 k x0 x5 x10 x11 x12 ((rd_T32 x0 (rd x10 x12)).f3) (((rd_T32 x0 (rd x10 x12)).f3).length : Int) 0) else (none)) else (none)) else (none)) else (none)) else ((slices_Sort_string_string.f x5).bind fun t324 => ((slices_Compact_string_string.f t324).bind fun t325 => (some t325)))
def lookup_All.l1 : Nat → List (S32) → List ByteArray → List Int → Int → Int → List (S42) → Int → Int → Option (List ByteArray)
  | 0, _, _, _, _, _, _, _, _ => none
  | k + 1, x0, x5, x10, x11, x12, x20, x21, x22 => if x22 < x21 then (if 0 ≤ x22 then (if x22 < (x20.length : Int) then ((hash_Shown.f ((rd_T42 x20 x22).f0) ((rd_T42 x20 x22).f1) ((rd_T42 x20 x22).f2) ((rd_T42 x20 x22).f3) ((rd_T42 x20 x22).f4) ((rd_T42 x20 x22).f5) ((rd_T42 x20 x22).f6) ((rd_T42 x20 x22).f7)).bind fun t332 => (if t332 = true then (if x5.length < 8796093022208 then (lookup_All.l1 k x0 (x5 ++ [(rd_T42 x20 x22).f0]) x10 x11 x12 x20 x21 (wrap64 (x22 + 1))) else (none)) else (lookup_All.l1 k x0 x5 x10 x11 x12 x20 x21 (wrap64 (x22 + 1))))) else (none)) else (none)) else (lookup_All.l0 k x0 x5 x10 x11 (wrap64 (x12 + 1)))
end
def lookup_All.f (k : Nat) (l0 : List (S32)) (l1 : List Int) : Option (List ByteArray) := lookup_All.l0 k l0 ([] : List ByteArray) l1 (l1.length : Int) 0
theorem lookup_All.mono_l : ∀ k, (∀ y0 y1 y2 y3 y4, LeO (lookup_All.l0 k y0 y1 y2 y3 y4) (lookup_All.l0 (k + 1) y0 y1 y2 y3 y4)) ∧ (∀ y0 y1 y2 y3 y4 y5 y6 y7, LeO (lookup_All.l1 k y0 y1 y2 y3 y4 y5 y6 y7) (lookup_All.l1 (k + 1) y0 y1 y2 y3 y4 y5 y6 y7))
  | 0 => ⟨fun _ _ _ _ _ r h => by simp [lookup_All.l0] at h, fun _ _ _ _ _ _ _ _ r h => by simp [lookup_All.l1] at h⟩
  | k + 1 => by
    obtain ⟨ih0, ih1⟩ := lookup_All.mono_l k
    refine ⟨?_, ?_⟩
    · intro y0 y1 y2 y3 y4
      unfold lookup_All.l0
      repeat' first
      | (with_reducible exact ih0 _ _ _ _ _)
      | (with_reducible exact ih1 _ _ _ _ _ _ _ _)
      | (with_reducible exact LeO.refl _)
      | (with_reducible exact LeO.none _)
      | (with_reducible refine LeO.ite ?_ ?_)
      | (with_reducible refine LeO.bind ?_ (fun _ => ?_))
      | exact ih0 _ _ _ _ _
      | exact ih1 _ _ _ _ _ _ _ _
      | exact LeO.none _
      | refine LeO.ite ?_ ?_
      | refine LeO.bind ?_ (fun _ => ?_)
    · intro y0 y1 y2 y3 y4 y5 y6 y7
      unfold lookup_All.l1
      repeat' first
      | (with_reducible exact ih0 _ _ _ _ _)
      | (with_reducible exact ih1 _ _ _ _ _ _ _ _)
      | (with_reducible exact LeO.refl _)
      | (with_reducible exact LeO.none _)
      | (with_reducible refine LeO.ite ?_ ?_)
      | (with_reducible refine LeO.bind ?_ (fun _ => ?_))
      | exact ih0 _ _ _ _ _
      | exact ih1 _ _ _ _ _ _ _ _
      | exact LeO.none _
      | refine LeO.ite ?_ ?_
      | refine LeO.bind ?_ (fun _ => ?_)
theorem lookup_All.mono : ∀ a0 a1 k, LeO (lookup_All.f k a0 a1) (lookup_All.f (k + 1) a0 a1) := by
  intro a0 a1 k
  obtain ⟨ih0, ih1⟩ := lookup_All.mono_l k
  unfold lookup_All.f
  repeat' first
      | (with_reducible exact ih0 _ _ _ _ _)
      | (with_reducible exact ih1 _ _ _ _ _ _ _ _)
      | (with_reducible exact LeO.refl _)
      | (with_reducible exact LeO.none _)
      | (with_reducible refine LeO.ite ?_ ?_)
      | (with_reducible refine LeO.bind ?_ (fun _ => ?_))
      | exact ih0 _ _ _ _ _
      | exact ih1 _ _ _ _ _ _ _ _
      | exact LeO.none _
      | refine LeO.ite ?_ ?_
      | refine LeO.bind ?_ (fun _ => ?_)
set_option maxHeartbeats 8000000 in
set_option maxRecDepth 100000 in
theorem lookup_All.calls (k : Nat) (A0 : Option Addr) (c0 : Nat) (l0 : List (S32)) (A1 : Option Addr) (c1 : Nat) (l1 : List Int) (r : List ByteArray) (w : World) (hr0 : Kd.C k32 w A0 l0.length l0) (hc0 : l0.length ≤ c0) (hr1 : Kd.C (Kd.int .i64) w A1 l1.length l1) (hc1 : l1.length ≤ c1) (h : lookup_All.f k l0 l1 = some r) :
    Calls Try.prog 17 #[.slice A0 l0.length c0, .slice A1 l1.length c1] w fun e w' => ∃ v0_ : Value, e = .returned (v0_) ∧ Kd.R Kd.string 9 w' w.heap.size (fun _ => True) v0_ r ∧ Below w.heap.size w w' := by
  have hu42 := Try.underlying42
  have HR0 := Aside0.mk hr0
  have HC0 := Aside0.mk hc0
  clear hr0 hc0
  have HR1 := Aside0.mk hr1
  have HC1 := Aside0.mk hc1
  clear hr1 hc1
  have HB := Aside0.mk (Below.refl w.heap.size w)
  have H : (lookup_All.l0 k l0 ([] : List ByteArray) l1 (l1.length : Int) 0) = some r := h
  clear h
  have H' := Aside0.mk H
  clear H
  go_enter Try.func17, Try.ntmps17
  go_wp2
  go_loopg [5, 12] k (fun kq v5 v12 w' => ∃ (x5_1 : List ByteArray) (x12_1 : Int), v12 = .int .i64 x12_1 ∧ Aside0 (lookup_All.l0 kq l0 x5_1 l1 (l1.length : Int) x12_1 = some r) ∧ Aside0 (kq ≤ k) ∧ Aside0 (Kd.R Kd.string 9 w' w.heap.size (fun _ => True) v5 x5_1) ∧ Aside0 (Below w.heap.size w w'))
  case atStart => exact ⟨(([] : List ByteArray)), (0), (by first | rfl | (simp; done) | (simp [*]; done)), H', ⟨Nat.le_refl _⟩, ⟨by first | exact Kd.R_nil _ _ _ _ _ | exact Kd.N_nil _ _ _ _ _ | exact Kd.V_nil _ _ _ _ _ | exact Kd.Q_nil _ _ _ _ _ | exact Kd.S_nil _ _ _ _ _⟩, ⟨by repeat (first | (with_reducible first | exact HB.out | apply below_alloc | apply pw_below_drewN | apply below_drew1) | exact HB.out)⟩⟩
  case round =>
    clear H'
    try clear c1
    try clear p2
    obtain ⟨x5_1, x12_1, rfl, HA, HK1, HO_5, HB⟩ := hrel
    cases gk with
    | zero => exact absurd HA.out (by simp [lookup_All.l0])
    | succ k1 =>
      have H := HA.out
      clear HA
      simp only [lookup_All.l0] at H
      by_cases c3 : x12_1 < (l1.length : Int)
      · rw [if_pos c3] at H
        have c3b0 : decide (x12_1 < (l1.length : Int)) = true := decide_eq_true c3
        clear c3
        by_cases c4 : 0 ≤ x12_1
        · rw [if_pos c4] at H
          have c4b0 : decide (0 ≤ x12_1) = true := decide_eq_true c4
          clear c4
          by_cases c5 : x12_1 < (l1.length : Int)
          · rw [if_pos c5] at H
            have c5b0 : decide (x12_1 < (l1.length : Int)) = true := decide_eq_true c5
            clear c5
            by_cases c6 : 0 ≤ (rd l1 x12_1)
            · rw [if_pos c6] at H
              have c6b0 : decide (0 ≤ (rd l1 x12_1)) = true := decide_eq_true c6
              clear c6
              by_cases c7 : (rd l1 x12_1) < (l0.length : Int)
              · rw [if_pos c7] at H
                have c7b0 : decide ((rd l1 x12_1) < (l0.length : Int)) = true := decide_eq_true c7
                clear c7
                have H' := Aside0.mk H
                clear H
                have p328 : 0 ≤ (x12_1 : Int) := of_decide_eq_true (by first | (with_reducible assumption) | assumption)
                have q328 : x12_1 < (l1.length : Int) := of_decide_eq_true (by first | (with_reducible assumption) | assumption)
                obtain ⟨ad328, e328, hx328_0⟩ := Kd.at_int HR1.out x12_1 p328 q328
                cases e328
                replace hx328_0 := (HB.out.cell (World.block_lt_of_cell? w _ hx328_0)).trans hx328_0
                replace p328 := eq_true p328
                replace q328 := eq_true q328
                have p329 : 0 ≤ ((rd l1 x12_1) : Int) := of_decide_eq_true (by first | (with_reducible assumption) | assumption)
                have q329 : (rd l1 x12_1) < (l0.length : Int) := of_decide_eq_true (by first | (with_reducible assumption) | assumption)
                obtain ⟨ad329, A329_1, c329_1, A329_2, c329_2, A329_3, c329_3, A329_4, c329_4, A329_5, c329_5, A329_6, c329_6, e329, hx329_0, hx329_1, hx329_2, hx329_3, hx329_4, hx329_5, hx329_6, hl329_1, hi329_1, hl329_2, hi329_2, hl329_3, hi329_3, hl329_4, hi329_4, hl329_5, hi329_5, hl329_6, hi329_6⟩ := at_T32 HR0.out (rd l1 x12_1) p329 q329
                cases e329
                replace hx329_0 := (HB.out.cell (World.block_lt_of_cell? w _ hx329_0)).trans hx329_0
                replace hx329_1 := (HB.out.cell (World.block_lt_of_cell? w _ hx329_1)).trans hx329_1
                replace hx329_2 := (HB.out.cell (World.block_lt_of_cell? w _ hx329_2)).trans hx329_2
                replace hx329_3 := (HB.out.cell (World.block_lt_of_cell? w _ hx329_3)).trans hx329_3
                replace hx329_4 := (HB.out.cell (World.block_lt_of_cell? w _ hx329_4)).trans hx329_4
                replace hx329_5 := (HB.out.cell (World.block_lt_of_cell? w _ hx329_5)).trans hx329_5
                replace hx329_6 := (HB.out.cell (World.block_lt_of_cell? w _ hx329_6)).trans hx329_6
                have HR329_1 := Aside0.mk hi329_1
                have HC329_1 := Aside0.mk hl329_1
                clear hi329_1 hl329_1
                have HR329_2 := Aside0.mk hi329_2
                have HC329_2 := Aside0.mk hl329_2
                clear hi329_2 hl329_2
                have HR329_3 := Aside0.mk hi329_3
                have HC329_3 := Aside0.mk hl329_3
                clear hi329_3 hl329_3
                have HR329_4 := Aside0.mk hi329_4
                have HC329_4 := Aside0.mk hl329_4
                clear hi329_4 hl329_4
                have HR329_5 := Aside0.mk hi329_5
                have HC329_5 := Aside0.mk hl329_5
                clear hi329_5 hl329_5
                have HR329_6 := Aside0.mk hi329_6
                have HC329_6 := Aside0.mk hl329_6
                clear hi329_6 hl329_6
                replace p329 := eq_true p329
                replace q329 := eq_true q329
                go_wp2
                go_loopg [5, 22] k1 (fun kq v5 v22 w' => ∃ (x5_2 : List ByteArray) (x22_2 : Int), v22 = .int .i64 x22_2 ∧ Aside0 (lookup_All.l1 kq l0 x5_2 l1 (l1.length : Int) x12_1 ((rd_T32 l0 (rd l1 x12_1)).f3) (((rd_T32 l0 (rd l1 x12_1)).f3).length : Int) x22_2 = some r) ∧ Aside0 (kq ≤ k1) ∧ Aside0 (Kd.R Kd.string 9 w' w.heap.size (fun _ => True) v5 x5_2) ∧ Aside0 (Below w.heap.size w w'))
                case atStart => exact ⟨(x5_1), (0), (by first | rfl | (simp; done) | (simp [*]; done)), H', ⟨Nat.le_refl _⟩, ⟨by (with_reducible repeat (first | apply Kd.R_alloc | apply Kd.R_drewN | apply Kd.R_drew)); exact HO_5.out⟩, ⟨by repeat (first | (with_reducible first | exact HB.out | apply below_alloc | apply pw_below_drewN | apply below_drew1) | exact HB.out)⟩⟩
                case round =>
                  clear H'
                  try clear c1
                  try clear p2
                  try clear c3
                  try clear c3b0
                  try clear p3
                  try clear q3
                  try clear hx3
                  try clear c4
                  try clear c4b0
                  try clear c5
                  try clear c5b0
                  try clear c6
                  try clear c6b0
                  try clear c7
                  try clear c7b0
                  try clear hx328_0
                  try clear hx329_0
                  try clear hx329_1
                  try clear hx329_2
                  try clear hx329_3
                  try clear hx329_4
                  try clear hx329_5
                  try clear hx329_6
                  try clear p2
                  try clear p328
                  try clear p329
                  try clear q328
                  try clear q329
                  obtain ⟨x5_2, x22_2, rfl, HA, HK2, HO_5, HB⟩ := hrel
                  cases gk with
                  | zero => exact absurd HA.out (by simp [lookup_All.l1])
                  | succ k2 =>
                    have H := HA.out
                    clear HA
                    simp only [lookup_All.l1] at H
                    by_cases c8 : x22_2 < (((rd_T32 l0 (rd l1 x12_1)).f3).length : Int)
                    · rw [if_pos c8] at H
                      have c8b0 : decide (x22_2 < (((rd_T32 l0 (rd l1 x12_1)).f3).length : Int)) = true := decide_eq_true c8
                      clear c8
                      by_cases c9 : 0 ≤ x22_2
                      · rw [if_pos c9] at H
                        have c9b0 : decide (0 ≤ x22_2) = true := decide_eq_true c9
                        clear c9
                        by_cases c10 : x22_2 < (((rd_T32 l0 (rd l1 x12_1)).f3).length : Int)
                        · rw [if_pos c10] at H
                          have c10b0 : decide (x22_2 < (((rd_T32 l0 (rd l1 x12_1)).f3).length : Int)) = true := decide_eq_true c10
                          clear c10
                          replace H := Option.bind_eq_some_iff.mp H
                          obtain ⟨t332, A110, H⟩ := H
                          replace H : (if t332 = true then (if x5_2.length < 8796093022208 then (lookup_All.l1 k2 l0 (x5_2 ++ [(rd_T42 ((rd_T32 l0 (rd l1 x12_1)).f3) x22_2).f0]) l1 (l1.length : Int) x12_1 ((rd_T32 l0 (rd l1 x12_1)).f3) (((rd_T32 l0 (rd l1 x12_1)).f3).length : Int) (wrap64 (x22_2 + 1))) else (none)) else (lookup_All.l1 k2 l0 x5_2 l1 (l1.length : Int) x12_1 ((rd_T32 l0 (rd l1 x12_1)).f3) (((rd_T32 l0 (rd l1 x12_1)).f3).length : Int) (wrap64 (x22_2 + 1)))) = some r := H
                          have A11 := Aside0.mk A110
                          clear A110
                          by_cases c12 : t332 = true
                          · subst c12
                            have H1 : (if x5_2.length < 8796093022208 then (lookup_All.l1 k2 l0 (x5_2 ++ [(rd_T42 ((rd_T32 l0 (rd l1 x12_1)).f3) x22_2).f0]) l1 (l1.length : Int) x12_1 ((rd_T32 l0 (rd l1 x12_1)).f3) (((rd_T32 l0 (rd l1 x12_1)).f3).length : Int) (wrap64 (x22_2 + 1))) else (none)) = some r := by rw [if_pos rfl] at H; exact H
                            clear H
                            have H := H1
                            clear H1
                            by_cases c13 : x5_2.length < 8796093022208
                            · rw [if_pos c13] at H
                              have LMc13 := Aside0.mk c13
                              clear c13
                              obtain ⟨y333, hy333⟩ : ∃ y_ : List ByteArray, y_ = (x5_2 ++ [(rd_T42 ((rd_T32 l0 (rd l1 x12_1)).f3) x22_2).f0]) := ⟨_, rfl⟩
                              replace H : (lookup_All.l1 k2 l0 y333 l1 (l1.length : Int) x12_1 ((rd_T32 l0 (rd l1 x12_1)).f3) (((rd_T32 l0 (rd l1 x12_1)).f3).length : Int) (wrap64 (x22_2 + 1))) = some r := by first | (rw [hy333]; with_reducible exact H) | (have H2_ := (Option.bind_some _ _).symm.trans H; rw [hy333]; with_reducible exact H2_) | (have H2_ := (Option.bind_some _ _).symm.trans H; with_reducible exact H2_) | with_reducible exact H | (rw [hy333]; exact H) | exact H
                              have Ny333 := Aside0.mk hy333
                              clear hy333
                              have H' := Aside0.mk H
                              clear H
                              have p330 : 0 ≤ (x22_2 : Int) := of_decide_eq_true (by first | (with_reducible assumption) | assumption)
                              have q330 : x22_2 < (((rd_T32 l0 (rd l1 x12_1)).f3).length : Int) := of_decide_eq_true (by first | (with_reducible assumption) | assumption)
                              obtain ⟨ad330, e330, hx330_0, hx330_1, hx330_2, hx330_3, hx330_4, hx330_5, hx330_6, hx330_7⟩ := at_T42 HR329_3.out x22_2 p330 q330
                              cases e330
                              replace hx330_0 := (HB.out.cell (World.block_lt_of_cell? w _ hx330_0)).trans hx330_0
                              replace hx330_1 := (HB.out.cell (World.block_lt_of_cell? w _ hx330_1)).trans hx330_1
                              replace hx330_2 := (HB.out.cell (World.block_lt_of_cell? w _ hx330_2)).trans hx330_2
                              replace hx330_3 := (HB.out.cell (World.block_lt_of_cell? w _ hx330_3)).trans hx330_3
                              replace hx330_4 := (HB.out.cell (World.block_lt_of_cell? w _ hx330_4)).trans hx330_4
                              replace hx330_5 := (HB.out.cell (World.block_lt_of_cell? w _ hx330_5)).trans hx330_5
                              replace hx330_6 := (HB.out.cell (World.block_lt_of_cell? w _ hx330_6)).trans hx330_6
                              replace hx330_7 := (HB.out.cell (World.block_lt_of_cell? w _ hx330_7)).trans hx330_7
                              replace p330 := eq_true p330
                              replace q330 := eq_true q330
                              go_wp2_with (first | ((with_reducible refine gate_dst (N := 9) rfl ?_); refine box_event ?hg (N := 9) ?hd (cs := #[.string (⟨#[]⟩ : ByteArray), .string (⟨#[]⟩ : ByteArray), .int .u64 0, .int .u64 0, .int .i64 0, .int .i64 0, .int .i64 0, .bool false]) (t := 42) ?hr ?_; (case hd => rfl); (case hg => rfl); (case hr => first | (go_simp; done) | (go_simp; rfl)); intro gb331 hg w14 hbox hb; have n0_ := Aside0.mk (Kd.R_below (by (with_reducible repeat (first | apply Kd.R_alloc | apply Kd.R_drewN | apply Kd.R_drew)); exact HO_5.out) hb); have n1_ := Aside0.mk (below_step (by repeat (first | (with_reducible first | exact HB.out | apply below_alloc | apply pw_below_drewN | apply below_drew1) | exact HB.out)) hb); have n2_ := Aside0.mk (hbox); have n3_ := Aside0.mk ((by rw [hg]; exact (below_size (by repeat (first | (with_reducible first | exact HB.out | apply below_alloc | apply pw_below_drewN | apply below_drew1) | exact HB.out))) : w.heap.size ≤ gb331)); have n4_ := n3_; clear HO_5; clear HB; have HO_5 := n0_; have HB := n1_; have BK331 := n2_; have GW331 := n3_; have GE331 := n4_; clear n0_ n1_ n2_ n3_ n4_; clear hb hbox hg; obtain ⟨hcz15_0, hcz15_1, hcz15_2, hcz15_3, hcz15_4, hcz15_5, hcz15_6, hcz15_7, hfz15_0, hfz15_1, hfz15_2, hfz15_3, hfz15_4, hfz15_5, hfz15_6, hfz15_7⟩ := cells8 BK331.out) | ((with_reducible refine gate_store (t := 42) (p := 9) rfl ?_); refine store_event (t := 42) (p := 9) (v := ?vo_w16) (w1 := ((((((((w14.setCell ⟨gb331, 0, none⟩ (.string ((rd_T42 ((rd_T32 l0 (rd l1 x12_1)).f3) x22_2).f0))).setCell ⟨gb331, 1, none⟩ (.string ((rd_T42 ((rd_T32 l0 (rd l1 x12_1)).f3) x22_2).f1))).setCell ⟨gb331, 2, none⟩ (.int .u64 ((rd_T42 ((rd_T32 l0 (rd l1 x12_1)).f3) x22_2).f2))).setCell ⟨gb331, 3, none⟩ (.int .u64 ((rd_T42 ((rd_T32 l0 (rd l1 x12_1)).f3) x22_2).f3))).setCell ⟨gb331, 4, none⟩ (.int .i64 ((rd_T42 ((rd_T32 l0 (rd l1 x12_1)).f3) x22_2).f4))).setCell ⟨gb331, 5, none⟩ (.int .i64 ((rd_T42 ((rd_T32 l0 (rd l1 x12_1)).f3) x22_2).f5))).setCell ⟨gb331, 6, none⟩ (.int .i64 ((rd_T42 ((rd_T32 l0 (rd l1 x12_1)).f3) x22_2).f6))).setCell ⟨gb331, 7, none⟩ (.bool ((rd_T42 ((rd_T32 l0 (rd l1 x12_1)).f3) x22_2).f7)))) ?hg ?ho ?hn ?hr ?_; (case ho => rfl); (case hg => rfl); (case hn => rfl); (case hr => first | (go_simp; done) | (go_simp; rfl)); intro w16 hw; have n0_ : Aside0 (Kd.R Kd.string 9 w16 w.heap.size (fun _ => True) u5 x5_2) := ⟨(by rw [hw]; exact (by (with_reducible repeat (first | apply Kd.R_alloc | apply Kd.R_drewN | apply Kd.R_drew)); exact Kd.R_mono (Kd.R_far (p := ⟨gb331, 7, none⟩) (Kd.R_far (p := ⟨gb331, 6, none⟩) (Kd.R_far (p := ⟨gb331, 5, none⟩) (Kd.R_far (p := ⟨gb331, 4, none⟩) (Kd.R_far (p := ⟨gb331, 3, none⟩) (Kd.R_far (p := ⟨gb331, 2, none⟩) (Kd.R_far (p := ⟨gb331, 1, none⟩) (Kd.R_far (p := ⟨gb331, 0, none⟩) (Kd.R_types HO_5.out BK331.out (by decide)) (fun _ hk => hk.2) (.string ((rd_T42 ((rd_T32 l0 (rd l1 x12_1)).f3) x22_2).f0))) (fun _ hk => hk.2) (.string ((rd_T42 ((rd_T32 l0 (rd l1 x12_1)).f3) x22_2).f1))) (fun _ hk => hk.2) (.int .u64 ((rd_T42 ((rd_T32 l0 (rd l1 x12_1)).f3) x22_2).f2))) (fun _ hk => hk.2) (.int .u64 ((rd_T42 ((rd_T32 l0 (rd l1 x12_1)).f3) x22_2).f3))) (fun _ hk => hk.2) (.int .i64 ((rd_T42 ((rd_T32 l0 (rd l1 x12_1)).f3) x22_2).f4))) (fun _ hk => hk.2) (.int .i64 ((rd_T42 ((rd_T32 l0 (rd l1 x12_1)).f3) x22_2).f5))) (fun _ hk => hk.2) (.int .i64 ((rd_T42 ((rd_T32 l0 (rd l1 x12_1)).f3) x22_2).f6))) (fun _ hk => hk.2) (.bool ((rd_T42 ((rd_T32 l0 (rd l1 x12_1)).f3) x22_2).f7))) (fun _ hk => trivial)))⟩; have n1_ : Aside0 (w16.heap[gb331]? = some (.cells #[.string ((rd_T42 ((rd_T32 l0 (rd l1 x12_1)).f3) x22_2).f0), .string ((rd_T42 ((rd_T32 l0 (rd l1 x12_1)).f3) x22_2).f1), .int .u64 ((rd_T42 ((rd_T32 l0 (rd l1 x12_1)).f3) x22_2).f2), .int .u64 ((rd_T42 ((rd_T32 l0 (rd l1 x12_1)).f3) x22_2).f3), .int .i64 ((rd_T42 ((rd_T32 l0 (rd l1 x12_1)).f3) x22_2).f4), .int .i64 ((rd_T42 ((rd_T32 l0 (rd l1 x12_1)).f3) x22_2).f5), .int .i64 ((rd_T42 ((rd_T32 l0 (rd l1 x12_1)).f3) x22_2).f6), .bool ((rd_T42 ((rd_T32 l0 (rd l1 x12_1)).f3) x22_2).f7)] 42 (0, 0))) := ⟨(by rw [hw]; exact (by (with_reducible repeat (first | refine blk_drewN ?_ _ | refine blk_drew ?_ | refine blk_alloc ?_ _)); refine blk_put (cs := #[.string ((rd_T42 ((rd_T32 l0 (rd l1 x12_1)).f3) x22_2).f0), .string ((rd_T42 ((rd_T32 l0 (rd l1 x12_1)).f3) x22_2).f1), .int .u64 ((rd_T42 ((rd_T32 l0 (rd l1 x12_1)).f3) x22_2).f2), .int .u64 ((rd_T42 ((rd_T32 l0 (rd l1 x12_1)).f3) x22_2).f3), .int .i64 ((rd_T42 ((rd_T32 l0 (rd l1 x12_1)).f3) x22_2).f4), .int .i64 ((rd_T42 ((rd_T32 l0 (rd l1 x12_1)).f3) x22_2).f5), .int .i64 ((rd_T42 ((rd_T32 l0 (rd l1 x12_1)).f3) x22_2).f6), .bool false]) ?_ 7 _ rfl; (with_reducible repeat (first | refine blk_drewN ?_ _ | refine blk_drew ?_ | refine blk_alloc ?_ _)); refine blk_put (cs := #[.string ((rd_T42 ((rd_T32 l0 (rd l1 x12_1)).f3) x22_2).f0), .string ((rd_T42 ((rd_T32 l0 (rd l1 x12_1)).f3) x22_2).f1), .int .u64 ((rd_T42 ((rd_T32 l0 (rd l1 x12_1)).f3) x22_2).f2), .int .u64 ((rd_T42 ((rd_T32 l0 (rd l1 x12_1)).f3) x22_2).f3), .int .i64 ((rd_T42 ((rd_T32 l0 (rd l1 x12_1)).f3) x22_2).f4), .int .i64 ((rd_T42 ((rd_T32 l0 (rd l1 x12_1)).f3) x22_2).f5), .int .i64 0, .bool false]) ?_ 6 _ rfl; (with_reducible repeat (first | refine blk_drewN ?_ _ | refine blk_drew ?_ | refine blk_alloc ?_ _)); refine blk_put (cs := #[.string ((rd_T42 ((rd_T32 l0 (rd l1 x12_1)).f3) x22_2).f0), .string ((rd_T42 ((rd_T32 l0 (rd l1 x12_1)).f3) x22_2).f1), .int .u64 ((rd_T42 ((rd_T32 l0 (rd l1 x12_1)).f3) x22_2).f2), .int .u64 ((rd_T42 ((rd_T32 l0 (rd l1 x12_1)).f3) x22_2).f3), .int .i64 ((rd_T42 ((rd_T32 l0 (rd l1 x12_1)).f3) x22_2).f4), .int .i64 0, .int .i64 0, .bool false]) ?_ 5 _ rfl; (with_reducible repeat (first | refine blk_drewN ?_ _ | refine blk_drew ?_ | refine blk_alloc ?_ _)); refine blk_put (cs := #[.string ((rd_T42 ((rd_T32 l0 (rd l1 x12_1)).f3) x22_2).f0), .string ((rd_T42 ((rd_T32 l0 (rd l1 x12_1)).f3) x22_2).f1), .int .u64 ((rd_T42 ((rd_T32 l0 (rd l1 x12_1)).f3) x22_2).f2), .int .u64 ((rd_T42 ((rd_T32 l0 (rd l1 x12_1)).f3) x22_2).f3), .int .i64 0, .int .i64 0, .int .i64 0, .bool false]) ?_ 4 _ rfl; (with_reducible repeat (first | refine blk_drewN ?_ _ | refine blk_drew ?_ | refine blk_alloc ?_ _)); refine blk_put (cs := #[.string ((rd_T42 ((rd_T32 l0 (rd l1 x12_1)).f3) x22_2).f0), .string ((rd_T42 ((rd_T32 l0 (rd l1 x12_1)).f3) x22_2).f1), .int .u64 ((rd_T42 ((rd_T32 l0 (rd l1 x12_1)).f3) x22_2).f2), .int .u64 0, .int .i64 0, .int .i64 0, .int .i64 0, .bool false]) ?_ 3 _ rfl; (with_reducible repeat (first | refine blk_drewN ?_ _ | refine blk_drew ?_ | refine blk_alloc ?_ _)); refine blk_put (cs := #[.string ((rd_T42 ((rd_T32 l0 (rd l1 x12_1)).f3) x22_2).f0), .string ((rd_T42 ((rd_T32 l0 (rd l1 x12_1)).f3) x22_2).f1), .int .u64 0, .int .u64 0, .int .i64 0, .int .i64 0, .int .i64 0, .bool false]) ?_ 2 _ rfl; (with_reducible repeat (first | refine blk_drewN ?_ _ | refine blk_drew ?_ | refine blk_alloc ?_ _)); refine blk_put (cs := #[.string ((rd_T42 ((rd_T32 l0 (rd l1 x12_1)).f3) x22_2).f0), .string (⟨#[]⟩ : ByteArray), .int .u64 0, .int .u64 0, .int .i64 0, .int .i64 0, .int .i64 0, .bool false]) ?_ 1 _ rfl; (with_reducible repeat (first | refine blk_drewN ?_ _ | refine blk_drew ?_ | refine blk_alloc ?_ _)); refine blk_put (cs := #[.string (⟨#[]⟩ : ByteArray), .string (⟨#[]⟩ : ByteArray), .int .u64 0, .int .u64 0, .int .i64 0, .int .i64 0, .int .i64 0, .bool false]) ?_ 0 _ rfl; (with_reducible repeat (first | refine blk_drewN ?_ _ | refine blk_drew ?_ | refine blk_alloc ?_ _)); exact BK331.out))⟩; have n2_ : Aside0 (Below w.heap.size w w16) := ⟨(by rw [hw]; exact (by repeat (first | (with_reducible first | exact HB.out | apply below_alloc | apply pw_below_drewN | apply below_drew1 | refine below_set ?_ GE331.out) | exact HB.out)))⟩; clear hw; clear HO_5; clear BK331; clear HB; have HO_5 := n0_; have BK331 := n1_; have HB := n2_; clear n0_ n1_ n2_; obtain ⟨hcz17_0, hcz17_1, hcz17_2, hcz17_3, hcz17_4, hcz17_5, hcz17_6, hcz17_7, hfz17_0, hfz17_1, hfz17_2, hfz17_3, hfz17_4, hfz17_5, hfz17_6, hfz17_7⟩ := cells8 BK331.out) | ((with_reducible refine gate_dst (N := 27) rfl ?_); (with_reducible refine gate_callee (f := 22) rfl ?_); refine goesL_ (some 27) rfl rfl Try.func22 (by kernel_rfl) rfl #[.agg #[.string ((rd_T42 ((rd_T32 l0 (rd l1 x12_1)).f3) x22_2).f0), .string ((rd_T42 ((rd_T32 l0 (rd l1 x12_1)).f3) x22_2).f1), .int .u64 ((rd_T42 ((rd_T32 l0 (rd l1 x12_1)).f3) x22_2).f2), .int .u64 ((rd_T42 ((rd_T32 l0 (rd l1 x12_1)).f3) x22_2).f3), .int .i64 ((rd_T42 ((rd_T32 l0 (rd l1 x12_1)).f3) x22_2).f4), .int .i64 ((rd_T42 ((rd_T32 l0 (rd l1 x12_1)).f3) x22_2).f5), .int .i64 ((rd_T42 ((rd_T32 l0 (rd l1 x12_1)).f3) x22_2).f6), .bool ((rd_T42 ((rd_T32 l0 (rd l1 x12_1)).f3) x22_2).f7)]] rfl (by (try simp only [List.map_toArray, List.map_cons, List.map_nil]); first | done | rfl | (simp only [List.length_drop, List.length_take]; rfl)) ?_; (with_reducible refine (hash_Shown.calls ((rd_T42 ((rd_T32 l0 (rd l1 x12_1)).f3) x22_2).f0) ((rd_T42 ((rd_T32 l0 (rd l1 x12_1)).f3) x22_2).f1) ((rd_T42 ((rd_T32 l0 (rd l1 x12_1)).f3) x22_2).f2) ((rd_T42 ((rd_T32 l0 (rd l1 x12_1)).f3) x22_2).f3) ((rd_T42 ((rd_T32 l0 (rd l1 x12_1)).f3) x22_2).f4) ((rd_T42 ((rd_T32 l0 (rd l1 x12_1)).f3) x22_2).f5) ((rd_T42 ((rd_T32 l0 (rd l1 x12_1)).f3) x22_2).f6) ((rd_T42 ((rd_T32 l0 (rd l1 x12_1)).f3) x22_2).f7) true _ A11.out).mono ?_); rintro e w18 ⟨rfl, hb⟩; refine ⟨_, rfl, ?_⟩; have n0_ := Aside0.mk (Kd.R_below (by (with_reducible repeat (first | apply Kd.R_alloc | apply Kd.R_drewN | apply Kd.R_drew)); exact HO_5.out) hb); have n1_ := Aside0.mk (blk_below (g := gb331) (o := .cells #[.string ((rd_T42 ((rd_T32 l0 (rd l1 x12_1)).f3) x22_2).f0), .string ((rd_T42 ((rd_T32 l0 (rd l1 x12_1)).f3) x22_2).f1), .int .u64 ((rd_T42 ((rd_T32 l0 (rd l1 x12_1)).f3) x22_2).f2), .int .u64 ((rd_T42 ((rd_T32 l0 (rd l1 x12_1)).f3) x22_2).f3), .int .i64 ((rd_T42 ((rd_T32 l0 (rd l1 x12_1)).f3) x22_2).f4), .int .i64 ((rd_T42 ((rd_T32 l0 (rd l1 x12_1)).f3) x22_2).f5), .int .i64 ((rd_T42 ((rd_T32 l0 (rd l1 x12_1)).f3) x22_2).f6), .bool ((rd_T42 ((rd_T32 l0 (rd l1 x12_1)).f3) x22_2).f7)] 42 (0, 0)) (by (with_reducible repeat (first | refine blk_drewN ?_ _ | refine blk_drew ?_ | refine blk_alloc ?_ _)); exact BK331.out) hb); have n2_ := Aside0.mk (below_step (by repeat (first | (with_reducible first | exact HB.out | apply below_alloc | apply pw_below_drewN | apply below_drew1 | refine below_set ?_ GE331.out) | exact HB.out)) hb); clear HO_5; clear BK331; clear HB; have HO_5 := n0_; have BK331 := n1_; have HB := n2_; clear n0_ n1_ n2_; (try clear hb); (try clear hb2); (try clear hk); (try clear hi); obtain ⟨hcz19_0, hcz19_1, hcz19_2, hcz19_3, hcz19_4, hcz19_5, hcz19_6, hcz19_7, hfz19_0, hfz19_1, hfz19_2, hfz19_3, hfz19_4, hfz19_5, hfz19_6, hfz19_7⟩ := cells8 BK331.out) | ((with_reducible refine gate_builtin (b := .append) (xs := #[.tmp 28, .tmp 31]) rfl ?_); at_builtin; refine Kd.R_append Kd.string (w0 := w) w.heap.size rfl (.tmp 28) (.tmp 31) 27 9 (.string ⟨#[]⟩) 16 rfl Try.underlying27 info9 rfl (by decide) (by omega) u5 x5_2 ((rd_T42 ((rd_T32 l0 (rd l1 x12_1)).f3) x22_2).f0) [.string ((rd_T42 ((rd_T32 l0 (rd l1 x12_1)).f3) x22_2).f0)] (fun _ => True) (fun _ => False) rfl rfl ?aP (fun _ hk => hk.elim) ?aF ?aO ?aB ?aS ?aL ?_; (case aP => exact rfl); (case aB => exact (by repeat (first | (with_reducible first | exact HB.out | apply below_alloc | apply pw_below_drewN | apply below_drew1 | refine below_set ?_ GE331.out) | exact HB.out))); (case aF => exact (fun _ _ => trivial)); (case aO => exact (by (with_reducible repeat (first | apply Kd.R_alloc | apply Kd.R_drewN | apply Kd.R_drew)); exact HO_5.out)); (case aS => exact (below_size (by repeat (first | (with_reducible first | exact HB.out | apply below_alloc | apply pw_below_drewN | apply below_drew1 | refine below_set ?_ GE331.out) | exact HB.out)))); (case aL => have := LMc13.out; omega); intro v334 w20 ho hb hg hat; rw [← Ny333.out] at ho; have n0_ := Aside0.mk (blk_grown (g := gb331) (o := .cells #[.string ((rd_T42 ((rd_T32 l0 (rd l1 x12_1)).f3) x22_2).f0), .string ((rd_T42 ((rd_T32 l0 (rd l1 x12_1)).f3) x22_2).f1), .int .u64 ((rd_T42 ((rd_T32 l0 (rd l1 x12_1)).f3) x22_2).f2), .int .u64 ((rd_T42 ((rd_T32 l0 (rd l1 x12_1)).f3) x22_2).f3), .int .i64 ((rd_T42 ((rd_T32 l0 (rd l1 x12_1)).f3) x22_2).f4), .int .i64 ((rd_T42 ((rd_T32 l0 (rd l1 x12_1)).f3) x22_2).f5), .int .i64 ((rd_T42 ((rd_T32 l0 (rd l1 x12_1)).f3) x22_2).f6), .bool ((rd_T42 ((rd_T32 l0 (rd l1 x12_1)).f3) x22_2).f7)] 42 (0, 0)) (by (with_reducible repeat (first | refine blk_drewN ?_ _ | refine blk_drew ?_ | refine blk_alloc ?_ _)); exact BK331.out) hg (Kd.R_ne HO_5.out BK331.out (by decide))); have n1_ := Aside0.mk (hb); have n2_ := Aside0.mk (ho); clear BK331; clear HB; clear HO_5; have BK331 := n0_; have HB := n1_; have HO335 := n2_; clear n0_ n1_ n2_; clear ho hb hg hat))
                              go_roundg k2
                              case measure => have := HK1.out; have := HK2.out; omega
                              case rel => exact ⟨(y333), (wrap64 (x22_2 + 1)), (by first | rfl | (simp; done) | (simp [*]; done)), H', ⟨by have := HK1.out; have := HK2.out; omega⟩, ⟨by (with_reducible repeat (first | apply Kd.R_alloc | apply Kd.R_drewN | apply Kd.R_drew)); exact HO335.out⟩, ⟨by repeat (first | (with_reducible first | exact HB.out | apply below_alloc | apply pw_below_drewN | apply below_drew1 | refine below_set ?_ GE331.out) | exact HB.out)⟩⟩
                            · rw [if_neg c13] at H
                              exact absurd H (by simp)
                          · replace c12 := Bool.eq_false_iff.mpr c12
                            subst c12
                            have H1 : (lookup_All.l1 k2 l0 x5_2 l1 (l1.length : Int) x12_1 ((rd_T32 l0 (rd l1 x12_1)).f3) (((rd_T32 l0 (rd l1 x12_1)).f3).length : Int) (wrap64 (x22_2 + 1))) = some r := by rw [if_neg (show ¬ (false = true) by decide)] at H; exact H
                            clear H
                            have H := H1
                            clear H1
                            have H' := Aside0.mk H
                            clear H
                            have p330 : 0 ≤ (x22_2 : Int) := of_decide_eq_true (by first | (with_reducible assumption) | assumption)
                            have q330 : x22_2 < (((rd_T32 l0 (rd l1 x12_1)).f3).length : Int) := of_decide_eq_true (by first | (with_reducible assumption) | assumption)
                            obtain ⟨ad330, e330, hx330_0, hx330_1, hx330_2, hx330_3, hx330_4, hx330_5, hx330_6, hx330_7⟩ := at_T42 HR329_3.out x22_2 p330 q330
                            cases e330
                            replace hx330_0 := (HB.out.cell (World.block_lt_of_cell? w _ hx330_0)).trans hx330_0
                            replace hx330_1 := (HB.out.cell (World.block_lt_of_cell? w _ hx330_1)).trans hx330_1
                            replace hx330_2 := (HB.out.cell (World.block_lt_of_cell? w _ hx330_2)).trans hx330_2
                            replace hx330_3 := (HB.out.cell (World.block_lt_of_cell? w _ hx330_3)).trans hx330_3
                            replace hx330_4 := (HB.out.cell (World.block_lt_of_cell? w _ hx330_4)).trans hx330_4
                            replace hx330_5 := (HB.out.cell (World.block_lt_of_cell? w _ hx330_5)).trans hx330_5
                            replace hx330_6 := (HB.out.cell (World.block_lt_of_cell? w _ hx330_6)).trans hx330_6
                            replace hx330_7 := (HB.out.cell (World.block_lt_of_cell? w _ hx330_7)).trans hx330_7
                            replace p330 := eq_true p330
                            replace q330 := eq_true q330
                            go_wp2_with (first | ((with_reducible refine gate_dst (N := 9) rfl ?_); refine box_event ?hg (N := 9) ?hd (cs := #[.string (⟨#[]⟩ : ByteArray), .string (⟨#[]⟩ : ByteArray), .int .u64 0, .int .u64 0, .int .i64 0, .int .i64 0, .int .i64 0, .bool false]) (t := 42) ?hr ?_; (case hd => rfl); (case hg => rfl); (case hr => first | (go_simp; done) | (go_simp; rfl)); intro gb331 hg w21 hbox hb; have n0_ := Aside0.mk (Kd.R_below (by (with_reducible repeat (first | apply Kd.R_alloc | apply Kd.R_drewN | apply Kd.R_drew)); exact HO_5.out) hb); have n1_ := Aside0.mk (below_step (by repeat (first | (with_reducible first | exact HB.out | apply below_alloc | apply pw_below_drewN | apply below_drew1) | exact HB.out)) hb); have n2_ := Aside0.mk (hbox); have n3_ := Aside0.mk ((by rw [hg]; exact (below_size (by repeat (first | (with_reducible first | exact HB.out | apply below_alloc | apply pw_below_drewN | apply below_drew1) | exact HB.out))) : w.heap.size ≤ gb331)); have n4_ := n3_; clear HO_5; clear HB; have HO_5 := n0_; have HB := n1_; have BK331 := n2_; have GW331 := n3_; have GE331 := n4_; clear n0_ n1_ n2_ n3_ n4_; clear hb hbox hg; obtain ⟨hcz22_0, hcz22_1, hcz22_2, hcz22_3, hcz22_4, hcz22_5, hcz22_6, hcz22_7, hfz22_0, hfz22_1, hfz22_2, hfz22_3, hfz22_4, hfz22_5, hfz22_6, hfz22_7⟩ := cells8 BK331.out) | ((with_reducible refine gate_store (t := 42) (p := 9) rfl ?_); refine store_event (t := 42) (p := 9) (v := ?vo_w23) (w1 := ((((((((w21.setCell ⟨gb331, 0, none⟩ (.string ((rd_T42 ((rd_T32 l0 (rd l1 x12_1)).f3) x22_2).f0))).setCell ⟨gb331, 1, none⟩ (.string ((rd_T42 ((rd_T32 l0 (rd l1 x12_1)).f3) x22_2).f1))).setCell ⟨gb331, 2, none⟩ (.int .u64 ((rd_T42 ((rd_T32 l0 (rd l1 x12_1)).f3) x22_2).f2))).setCell ⟨gb331, 3, none⟩ (.int .u64 ((rd_T42 ((rd_T32 l0 (rd l1 x12_1)).f3) x22_2).f3))).setCell ⟨gb331, 4, none⟩ (.int .i64 ((rd_T42 ((rd_T32 l0 (rd l1 x12_1)).f3) x22_2).f4))).setCell ⟨gb331, 5, none⟩ (.int .i64 ((rd_T42 ((rd_T32 l0 (rd l1 x12_1)).f3) x22_2).f5))).setCell ⟨gb331, 6, none⟩ (.int .i64 ((rd_T42 ((rd_T32 l0 (rd l1 x12_1)).f3) x22_2).f6))).setCell ⟨gb331, 7, none⟩ (.bool ((rd_T42 ((rd_T32 l0 (rd l1 x12_1)).f3) x22_2).f7)))) ?hg ?ho ?hn ?hr ?_; (case ho => rfl); (case hg => rfl); (case hn => rfl); (case hr => first | (go_simp; done) | (go_simp; rfl)); intro w23 hw; have n0_ : Aside0 (Kd.R Kd.string 9 w23 w.heap.size (fun _ => True) u5 x5_2) := ⟨(by rw [hw]; exact (by (with_reducible repeat (first | apply Kd.R_alloc | apply Kd.R_drewN | apply Kd.R_drew)); exact Kd.R_mono (Kd.R_far (p := ⟨gb331, 7, none⟩) (Kd.R_far (p := ⟨gb331, 6, none⟩) (Kd.R_far (p := ⟨gb331, 5, none⟩) (Kd.R_far (p := ⟨gb331, 4, none⟩) (Kd.R_far (p := ⟨gb331, 3, none⟩) (Kd.R_far (p := ⟨gb331, 2, none⟩) (Kd.R_far (p := ⟨gb331, 1, none⟩) (Kd.R_far (p := ⟨gb331, 0, none⟩) (Kd.R_types HO_5.out BK331.out (by decide)) (fun _ hk => hk.2) (.string ((rd_T42 ((rd_T32 l0 (rd l1 x12_1)).f3) x22_2).f0))) (fun _ hk => hk.2) (.string ((rd_T42 ((rd_T32 l0 (rd l1 x12_1)).f3) x22_2).f1))) (fun _ hk => hk.2) (.int .u64 ((rd_T42 ((rd_T32 l0 (rd l1 x12_1)).f3) x22_2).f2))) (fun _ hk => hk.2) (.int .u64 ((rd_T42 ((rd_T32 l0 (rd l1 x12_1)).f3) x22_2).f3))) (fun _ hk => hk.2) (.int .i64 ((rd_T42 ((rd_T32 l0 (rd l1 x12_1)).f3) x22_2).f4))) (fun _ hk => hk.2) (.int .i64 ((rd_T42 ((rd_T32 l0 (rd l1 x12_1)).f3) x22_2).f5))) (fun _ hk => hk.2) (.int .i64 ((rd_T42 ((rd_T32 l0 (rd l1 x12_1)).f3) x22_2).f6))) (fun _ hk => hk.2) (.bool ((rd_T42 ((rd_T32 l0 (rd l1 x12_1)).f3) x22_2).f7))) (fun _ hk => trivial)))⟩; have n1_ : Aside0 (w23.heap[gb331]? = some (.cells #[.string ((rd_T42 ((rd_T32 l0 (rd l1 x12_1)).f3) x22_2).f0), .string ((rd_T42 ((rd_T32 l0 (rd l1 x12_1)).f3) x22_2).f1), .int .u64 ((rd_T42 ((rd_T32 l0 (rd l1 x12_1)).f3) x22_2).f2), .int .u64 ((rd_T42 ((rd_T32 l0 (rd l1 x12_1)).f3) x22_2).f3), .int .i64 ((rd_T42 ((rd_T32 l0 (rd l1 x12_1)).f3) x22_2).f4), .int .i64 ((rd_T42 ((rd_T32 l0 (rd l1 x12_1)).f3) x22_2).f5), .int .i64 ((rd_T42 ((rd_T32 l0 (rd l1 x12_1)).f3) x22_2).f6), .bool ((rd_T42 ((rd_T32 l0 (rd l1 x12_1)).f3) x22_2).f7)] 42 (0, 0))) := ⟨(by rw [hw]; exact (by (with_reducible repeat (first | refine blk_drewN ?_ _ | refine blk_drew ?_ | refine blk_alloc ?_ _)); refine blk_put (cs := #[.string ((rd_T42 ((rd_T32 l0 (rd l1 x12_1)).f3) x22_2).f0), .string ((rd_T42 ((rd_T32 l0 (rd l1 x12_1)).f3) x22_2).f1), .int .u64 ((rd_T42 ((rd_T32 l0 (rd l1 x12_1)).f3) x22_2).f2), .int .u64 ((rd_T42 ((rd_T32 l0 (rd l1 x12_1)).f3) x22_2).f3), .int .i64 ((rd_T42 ((rd_T32 l0 (rd l1 x12_1)).f3) x22_2).f4), .int .i64 ((rd_T42 ((rd_T32 l0 (rd l1 x12_1)).f3) x22_2).f5), .int .i64 ((rd_T42 ((rd_T32 l0 (rd l1 x12_1)).f3) x22_2).f6), .bool false]) ?_ 7 _ rfl; (with_reducible repeat (first | refine blk_drewN ?_ _ | refine blk_drew ?_ | refine blk_alloc ?_ _)); refine blk_put (cs := #[.string ((rd_T42 ((rd_T32 l0 (rd l1 x12_1)).f3) x22_2).f0), .string ((rd_T42 ((rd_T32 l0 (rd l1 x12_1)).f3) x22_2).f1), .int .u64 ((rd_T42 ((rd_T32 l0 (rd l1 x12_1)).f3) x22_2).f2), .int .u64 ((rd_T42 ((rd_T32 l0 (rd l1 x12_1)).f3) x22_2).f3), .int .i64 ((rd_T42 ((rd_T32 l0 (rd l1 x12_1)).f3) x22_2).f4), .int .i64 ((rd_T42 ((rd_T32 l0 (rd l1 x12_1)).f3) x22_2).f5), .int .i64 0, .bool false]) ?_ 6 _ rfl; (with_reducible repeat (first | refine blk_drewN ?_ _ | refine blk_drew ?_ | refine blk_alloc ?_ _)); refine blk_put (cs := #[.string ((rd_T42 ((rd_T32 l0 (rd l1 x12_1)).f3) x22_2).f0), .string ((rd_T42 ((rd_T32 l0 (rd l1 x12_1)).f3) x22_2).f1), .int .u64 ((rd_T42 ((rd_T32 l0 (rd l1 x12_1)).f3) x22_2).f2), .int .u64 ((rd_T42 ((rd_T32 l0 (rd l1 x12_1)).f3) x22_2).f3), .int .i64 ((rd_T42 ((rd_T32 l0 (rd l1 x12_1)).f3) x22_2).f4), .int .i64 0, .int .i64 0, .bool false]) ?_ 5 _ rfl; (with_reducible repeat (first | refine blk_drewN ?_ _ | refine blk_drew ?_ | refine blk_alloc ?_ _)); refine blk_put (cs := #[.string ((rd_T42 ((rd_T32 l0 (rd l1 x12_1)).f3) x22_2).f0), .string ((rd_T42 ((rd_T32 l0 (rd l1 x12_1)).f3) x22_2).f1), .int .u64 ((rd_T42 ((rd_T32 l0 (rd l1 x12_1)).f3) x22_2).f2), .int .u64 ((rd_T42 ((rd_T32 l0 (rd l1 x12_1)).f3) x22_2).f3), .int .i64 0, .int .i64 0, .int .i64 0, .bool false]) ?_ 4 _ rfl; (with_reducible repeat (first | refine blk_drewN ?_ _ | refine blk_drew ?_ | refine blk_alloc ?_ _)); refine blk_put (cs := #[.string ((rd_T42 ((rd_T32 l0 (rd l1 x12_1)).f3) x22_2).f0), .string ((rd_T42 ((rd_T32 l0 (rd l1 x12_1)).f3) x22_2).f1), .int .u64 ((rd_T42 ((rd_T32 l0 (rd l1 x12_1)).f3) x22_2).f2), .int .u64 0, .int .i64 0, .int .i64 0, .int .i64 0, .bool false]) ?_ 3 _ rfl; (with_reducible repeat (first | refine blk_drewN ?_ _ | refine blk_drew ?_ | refine blk_alloc ?_ _)); refine blk_put (cs := #[.string ((rd_T42 ((rd_T32 l0 (rd l1 x12_1)).f3) x22_2).f0), .string ((rd_T42 ((rd_T32 l0 (rd l1 x12_1)).f3) x22_2).f1), .int .u64 0, .int .u64 0, .int .i64 0, .int .i64 0, .int .i64 0, .bool false]) ?_ 2 _ rfl; (with_reducible repeat (first | refine blk_drewN ?_ _ | refine blk_drew ?_ | refine blk_alloc ?_ _)); refine blk_put (cs := #[.string ((rd_T42 ((rd_T32 l0 (rd l1 x12_1)).f3) x22_2).f0), .string (⟨#[]⟩ : ByteArray), .int .u64 0, .int .u64 0, .int .i64 0, .int .i64 0, .int .i64 0, .bool false]) ?_ 1 _ rfl; (with_reducible repeat (first | refine blk_drewN ?_ _ | refine blk_drew ?_ | refine blk_alloc ?_ _)); refine blk_put (cs := #[.string (⟨#[]⟩ : ByteArray), .string (⟨#[]⟩ : ByteArray), .int .u64 0, .int .u64 0, .int .i64 0, .int .i64 0, .int .i64 0, .bool false]) ?_ 0 _ rfl; (with_reducible repeat (first | refine blk_drewN ?_ _ | refine blk_drew ?_ | refine blk_alloc ?_ _)); exact BK331.out))⟩; have n2_ : Aside0 (Below w.heap.size w w23) := ⟨(by rw [hw]; exact (by repeat (first | (with_reducible first | exact HB.out | apply below_alloc | apply pw_below_drewN | apply below_drew1 | refine below_set ?_ GE331.out) | exact HB.out)))⟩; clear hw; clear HO_5; clear BK331; clear HB; have HO_5 := n0_; have BK331 := n1_; have HB := n2_; clear n0_ n1_ n2_; obtain ⟨hcz24_0, hcz24_1, hcz24_2, hcz24_3, hcz24_4, hcz24_5, hcz24_6, hcz24_7, hfz24_0, hfz24_1, hfz24_2, hfz24_3, hfz24_4, hfz24_5, hfz24_6, hfz24_7⟩ := cells8 BK331.out) | ((with_reducible refine gate_dst (N := 27) rfl ?_); (with_reducible refine gate_callee (f := 22) rfl ?_); refine goesL_ (some 27) rfl rfl Try.func22 (by kernel_rfl) rfl #[.agg #[.string ((rd_T42 ((rd_T32 l0 (rd l1 x12_1)).f3) x22_2).f0), .string ((rd_T42 ((rd_T32 l0 (rd l1 x12_1)).f3) x22_2).f1), .int .u64 ((rd_T42 ((rd_T32 l0 (rd l1 x12_1)).f3) x22_2).f2), .int .u64 ((rd_T42 ((rd_T32 l0 (rd l1 x12_1)).f3) x22_2).f3), .int .i64 ((rd_T42 ((rd_T32 l0 (rd l1 x12_1)).f3) x22_2).f4), .int .i64 ((rd_T42 ((rd_T32 l0 (rd l1 x12_1)).f3) x22_2).f5), .int .i64 ((rd_T42 ((rd_T32 l0 (rd l1 x12_1)).f3) x22_2).f6), .bool ((rd_T42 ((rd_T32 l0 (rd l1 x12_1)).f3) x22_2).f7)]] rfl (by (try simp only [List.map_toArray, List.map_cons, List.map_nil]); first | done | rfl | (simp only [List.length_drop, List.length_take]; rfl)) ?_; (with_reducible refine (hash_Shown.calls ((rd_T42 ((rd_T32 l0 (rd l1 x12_1)).f3) x22_2).f0) ((rd_T42 ((rd_T32 l0 (rd l1 x12_1)).f3) x22_2).f1) ((rd_T42 ((rd_T32 l0 (rd l1 x12_1)).f3) x22_2).f2) ((rd_T42 ((rd_T32 l0 (rd l1 x12_1)).f3) x22_2).f3) ((rd_T42 ((rd_T32 l0 (rd l1 x12_1)).f3) x22_2).f4) ((rd_T42 ((rd_T32 l0 (rd l1 x12_1)).f3) x22_2).f5) ((rd_T42 ((rd_T32 l0 (rd l1 x12_1)).f3) x22_2).f6) ((rd_T42 ((rd_T32 l0 (rd l1 x12_1)).f3) x22_2).f7) false _ A11.out).mono ?_); rintro e w25 ⟨rfl, hb⟩; refine ⟨_, rfl, ?_⟩; have n0_ := Aside0.mk (Kd.R_below (by (with_reducible repeat (first | apply Kd.R_alloc | apply Kd.R_drewN | apply Kd.R_drew)); exact HO_5.out) hb); have n1_ := Aside0.mk (blk_below (g := gb331) (o := .cells #[.string ((rd_T42 ((rd_T32 l0 (rd l1 x12_1)).f3) x22_2).f0), .string ((rd_T42 ((rd_T32 l0 (rd l1 x12_1)).f3) x22_2).f1), .int .u64 ((rd_T42 ((rd_T32 l0 (rd l1 x12_1)).f3) x22_2).f2), .int .u64 ((rd_T42 ((rd_T32 l0 (rd l1 x12_1)).f3) x22_2).f3), .int .i64 ((rd_T42 ((rd_T32 l0 (rd l1 x12_1)).f3) x22_2).f4), .int .i64 ((rd_T42 ((rd_T32 l0 (rd l1 x12_1)).f3) x22_2).f5), .int .i64 ((rd_T42 ((rd_T32 l0 (rd l1 x12_1)).f3) x22_2).f6), .bool ((rd_T42 ((rd_T32 l0 (rd l1 x12_1)).f3) x22_2).f7)] 42 (0, 0)) (by (with_reducible repeat (first | refine blk_drewN ?_ _ | refine blk_drew ?_ | refine blk_alloc ?_ _)); exact BK331.out) hb); have n2_ := Aside0.mk (below_step (by repeat (first | (with_reducible first | exact HB.out | apply below_alloc | apply pw_below_drewN | apply below_drew1 | refine below_set ?_ GE331.out) | exact HB.out)) hb); clear HO_5; clear BK331; clear HB; have HO_5 := n0_; have BK331 := n1_; have HB := n2_; clear n0_ n1_ n2_; (try clear hb); (try clear hb2); (try clear hk); (try clear hi)))
                            go_roundg k2
                            case measure => have := HK1.out; have := HK2.out; omega
                            case rel => exact ⟨(x5_2), (wrap64 (x22_2 + 1)), (by first | rfl | (simp; done) | (simp [*]; done)), H', ⟨by have := HK1.out; have := HK2.out; omega⟩, ⟨by (with_reducible repeat (first | apply Kd.R_alloc | apply Kd.R_drewN | apply Kd.R_drew)); exact HO_5.out⟩, ⟨by repeat (first | (with_reducible first | exact HB.out | apply below_alloc | apply pw_below_drewN | apply below_drew1 | refine below_set ?_ GE331.out) | exact HB.out)⟩⟩
                        · rw [if_neg c10] at H
                          exact absurd H (by simp)
                      · rw [if_neg c9] at H
                        exact absurd H (by simp)
                    · rw [if_neg c8] at H
                      have c8b0 : decide (x22_2 < (((rd_T32 l0 (rd l1 x12_1)).f3).length : Int)) = false := decide_eq_false c8
                      clear c8
                      have H' := Aside0.mk H
                      clear H
                      go_wp2
                      go_roundg k2
                      case measure => have := HK1.out; have := HK2.out; omega
                      case rel => exact ⟨(x5_2), (wrap64 (x12_1 + 1)), (by first | rfl | (simp; done) | (simp [*]; done)), H', ⟨by have := HK1.out; have := HK2.out; omega⟩, ⟨by (with_reducible repeat (first | apply Kd.R_alloc | apply Kd.R_drewN | apply Kd.R_drew)); exact HO_5.out⟩, ⟨by repeat (first | (with_reducible first | exact HB.out | apply below_alloc | apply pw_below_drewN | apply below_drew1) | exact HB.out)⟩⟩
              · rw [if_neg c7] at H
                exact absurd H (by simp)
            · rw [if_neg c6] at H
              exact absurd H (by simp)
          · rw [if_neg c5] at H
            exact absurd H (by simp)
        · rw [if_neg c4] at H
          exact absurd H (by simp)
      · rw [if_neg c3] at H
        have c3b0 : decide (x12_1 < (l1.length : Int)) = false := decide_eq_false c3
        clear c3
        replace H := Option.bind_eq_some_iff.mp H
        obtain ⟨t324, A260, H⟩ := H
        replace H : ((slices_Compact_string_string.f t324).bind fun t325 => (some t325)) = some r := H
        have A26 := Aside0.mk A260
        clear A260
        replace H := Option.bind_eq_some_iff.mp H
        obtain ⟨t325, A270, H⟩ := H
        replace H : (some t325) = some r := H
        have A27 := Aside0.mk A270
        clear A270
        obtain rfl := Option.some.inj H
        obtain ⟨Ao28, co28, eo28⟩ := Kd.R_slice HO_5.out
        subst eo28
        go_wp2_with (first | ((with_reducible refine gate_dst (N := 36) rfl ?_); (with_reducible refine gate_callee (f := 25) rfl ?_); refine goesL_ (some 36) rfl rfl Try.func25 (by kernel_rfl) rfl #[.slice Ao28 x5_1.length co28] rfl (by (try simp only [List.map_toArray, List.map_cons, List.map_nil]); first | done | rfl | (simp only [List.length_drop, List.length_take]; rfl)) ?_; (with_reducible refine (slices_Sort_string_string.calls (fun k_ => some k_ = (.slice Ao28 x5_1.length co28 : Value).ownBlock) (.slice Ao28 x5_1.length co28) x5_1 t324 w _ ?side1 ?side2 A26.out).mono ?_); (case side1 => repeat (first | (with_reducible first | exact HB.out | apply below_alloc | apply pw_below_drewN | apply below_drew1) | exact HB.out)); (case side2 => exact Kd.R_tight rfl HO_5.out); rintro e w29 ⟨rfl, hy0, hb, hkp⟩; refine ⟨_, rfl, ?_⟩; have n0_ := Aside0.mk (Kd.R_reok rfl hy0 (fun k_ e_ => HO_5.out.1 k_ e_)); have n1_ := Aside0.mk (hb); clear HO_5; clear HB; have HO_5 := n0_; have HB := n1_; clear n0_ n1_; (try clear hb); (try clear hkp); (try clear hy0)) | ((with_reducible refine gate_dst (N := 38) rfl ?_); (with_reducible refine gate_callee (f := 26) rfl ?_); refine goesL_ (some 38) rfl rfl Try.func26 (by kernel_rfl) rfl #[.slice Ao28 x5_1.length co28] rfl (by (try simp only [List.map_toArray, List.map_cons, List.map_nil]); first | done | rfl | (simp only [List.length_drop, List.length_take]; rfl)) ?_; (with_reducible refine (slices_Compact_string_string.calls (fun k_ => some k_ = (.slice Ao28 x5_1.length co28 : Value).ownBlock) (.slice Ao28 x5_1.length co28) t324 t325 w _ ?side1 ?side2 A27.out).mono ?_); (case side1 => repeat (first | (with_reducible first | exact HB.out | apply below_alloc | apply pw_below_drewN | apply below_drew1) | exact HB.out)); (case side2 => exact Kd.R_tight rfl HO_5.out); rintro e w30 ⟨v326, rfl, ho0, hb, hkp⟩; refine ⟨_, rfl, ?_⟩; have n0_ := Aside0.mk (Kd.R_mono (ok' := fun k_ => True) ho0 (fun k_ hk_ => trivial)); have n1_ := Aside0.mk (hb); clear HB; clear HO_5; have HO327 := n0_; have HB := n1_; clear n0_ n1_; (try clear hb); (try clear hkp); (try clear ho0)))
        go_ret
        exact ⟨_, by first | rfl | (simp [errW_none, errW_some] <;> rfl) | (simp [*, errW_none, errW_some] <;> rfl), by (with_reducible repeat (first | apply Kd.R_alloc | apply Kd.R_drewN | apply Kd.R_drew)); exact HO327.out, by repeat (first | (with_reducible first | exact HB.out | apply below_alloc | apply pw_below_drewN | apply below_drew1) | exact HB.out)⟩

end Go.Proofs.Ytdgmkmjmddjcfaa.P
