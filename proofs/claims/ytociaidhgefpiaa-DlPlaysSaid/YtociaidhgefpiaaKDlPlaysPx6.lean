/- What functions of the program, and of its laws, give, each proved of its code by a walk; no condition. -/
import Derived.Test.YtociaidhgefpiaaKDlPlaysPx0
import Derived.Test.YtociaidhgefpiaaKDlPlaysPx1
import Derived.Test.YtociaidhgefpiaaKDlPlaysPx3
import Derived.Test.YtociaidhgefpiaaKDlPlaysPx4
import Derived.Test.YtociaidhgefpiaaKDlPlaysSq
import Derived.Test.YtociaidhgefpiaaKDlPlaysUsh
namespace Go.Proofs.Ytociaidhgefpiaa.P
open Go.RowKit Go.Proofs.YtociaidhgefpiaaW.PrintWords Go.Proofs.YtociaidhgefpiaaW.PrintLast Go.Proofs.YtociaidhgefpiaaW.PrintMore
attribute [local go_sem] max2_int min2_int max_two min_two max_three min_three max_four min_four   -- for this text's walks alone
set_option linter.unusedVariables false
set_option linter.unusedSimpArgs false

theorem copied_eq (l y : List Int) (h : y = List.replicate (l.length : Int).toNat 0) : l.take (min l.length y.length) ++ y.drop (min l.length y.length) = l := by
  subst h; simp
def dl_State_copied.f (l0 : List Int) (l1 : List Int) : Option (List Int × List Int) := if l0.length ≤ 35184372088832 then (if l1.length ≤ 35184372088832 then some (l0, l1) else none) else none
set_option maxHeartbeats 8000000 in
set_option maxRecDepth 100000 in
theorem dl_State_copied.calls (A0_0 : Option Addr) (c0_0 : Nat) (l0_0 : List Int) (A0_1 : Option Addr) (c0_1 : Nat) (l0_1 : List Int) (r1 : List Int) (r2 : List Int) (w : World) (hr0_0 : Kd.C (Kd.int .i64) w A0_0 l0_0.length l0_0) (hc0_0 : l0_0.length ≤ c0_0) (hr0_1 : Kd.C (Kd.int .i64) w A0_1 l0_1.length l0_1) (hc0_1 : l0_1.length ≤ c0_1) (h : dl_State_copied.f l0_0 l0_1 = some (r1, r2)) :
  Calls Try.prog 30 #[.agg #[.slice A0_0 l0_0.length c0_0, .slice A0_1 l0_1.length c0_1]] w fun e w' => ∃ v0_ v1_ : Value, e = .returned (.agg #[v0_, v1_]) ∧ Kd.R (Kd.int .i64) 3 w' w.heap.size (fun k_ => nv k_ v1_) v0_ r1 ∧ Kd.R (Kd.int .i64) 3 w' w.heap.size (fun k_ => nv k_ v0_) v1_ r2 ∧ Below w.heap.size w w' := by
 have hu28 := Try.underlying28
 have HR0_0 := am hr0_0
 have HC0_0 := am hc0_0
 clear hr0_0 hc0_0
 have HR0_1 := am hr0_1
 have HC0_1 := am hc0_1
 clear hr0_1 hc0_1
 have HB := am (Below.refl w.heap.size w)
 have c3 : (l0_0.length : Int).toNat ≤ 35184372088832 := by
  unfold dl_State_copied.f at h
  split at h
  ·omega
  ·cases h
 have c5 : (l0_1.length : Int).toNat ≤ 35184372088832 := by
  unfold dl_State_copied.f at h
  split at h
  ·split at h
   ·omega
   ·cases h
  ·cases h
 have H : some (l0_0, l0_1) = some (r1, r2) := by
  unfold dl_State_copied.f at h
  rw [if_pos (by omega), if_pos (by omega)] at h
  exact h
 clear h
 have c2b0 := eq_true (show 0 ≤ (l0_0.length : Int) by omega)
 have c2b1 : decide (0 ≤ (l0_0.length : Int)) = true := decide_eq_true (by omega)
 have c4b0 := eq_true (show 0 ≤ (l0_1.length : Int) by omega)
 have c4b1 : decide (0 ≤ (l0_1.length : Int)) = true := decide_eq_true (by omega)
 have c3b0 := eq_true c3
 have c3b1 : decide (((l0_0.length : Int) : Int).toNat ≤ 35184372088832) = true := decide_eq_true c3
 have c5b0 := eq_true c5
 have c5b1 : decide (((l0_1.length : Int) : Int).toNat ≤ 35184372088832) = true := decide_eq_true c5
 clear c3 c5
 obtain ⟨y111, hy111⟩ : ∃ y_ : List Int, y_ = (List.replicate ((l0_0.length : Int) : Int).toNat 0) := ⟨_, rfl⟩
 have Ny111 := am hy111
 clear hy111
 obtain ⟨y114, hy114⟩ : ∃ y_ : List Int, y_ = (List.replicate ((l0_1.length : Int) : Int).toNat 0) := ⟨_, rfl⟩
 have Ny114 := am hy114
 clear hy114
 simp only [Option.some.injEq, Prod.mk.injEq] at H
 obtain ⟨rfl, rfl⟩ := H
 go_enter Try.func30, Try.ntmps30
 go_wp2_with (first | ((with_reducible refine gate_dst (N := 1) rfl ?_); refine box_event ?hg (N := 1) ?hd (cs := #[.slice A0_0 l0_0.length c0_0, .slice A0_1 l0_1.length c0_1]) (t := 28) ?hr ?_; (case hd => rfl); (case hg => rfl); (case hr => first | (go_simp; done) | (go_simp; rfl)); intro gb109 hg w6 hbox hb; have n0_ := am (below_step (uc HB.out) hb); have n1_ := am (hbox); have n2_ := am ((by rw [hg]; exact (below_size (uc HB.out)) : w.heap.size ≤ gb109)); have n3_ := am ((by rw [hg]; exact (below_size (uc HB.out)) : w.heap.size ≤ gb109)); revert n0_ n1_ n2_ n3_; clear HB; intro HB BK109 GW109 GE109; clear hb hbox hg) | ((with_reducible refine gate_dst (N := 2) rfl ?_); refine box_event ?hg (N := 2) ?hd (cs := #[.slice none 0 0, .slice none 0 0]) (t := 28) ?hr ?_; (case hd => rfl); (case hg => rfl); (case hr => first | (go_simp; done) | (go_simp; rfl)); intro gb110 hg w7 hbox hb; have n0_ := am (blk_below (g := gb109) (o := .cells #[.slice A0_0 l0_0.length c0_0, .slice A0_1 l0_1.length c0_1] 28 (0, 0)) (ub BK109.out) hb); have n1_ := am (below_step (uc HB.out) hb); have n2_ := am (hbox); have n3_ := am ((by rw [hg]; exact (below_size (uc HB.out)) : w.heap.size ≤ gb110)); have n4_ := am ((by rw [hg]; exact (below_size (uc HB.out)) : w.heap.size ≤ gb110)); have n5_ := am ((by rw [hg]; exact Nat.ne_of_lt (blk_lt (g := gb109) (o := .cells #[.slice A0_0 l0_0.length c0_0, .slice A0_1 l0_1.length c0_1] 28 (0, 0)) (ub BK109.out)) : gb109 ≠ gb110)); have n6_ := am ((by rw [hg]; exact Nat.ne_of_gt (blk_lt (g := gb109) (o := .cells #[.slice A0_0 l0_0.length c0_0, .slice A0_1 l0_1.length c0_1] 28 (0, 0)) (ub BK109.out)) : gb110 ≠ gb109)); revert n0_ n1_ n2_ n3_ n4_ n5_ n6_; clear BK109 HB; intro BK109 HB BK110 GW110 GE110 NB109_110 NB110_109; clear hb hbox hg; have hnb8 := NB109_110.out; have hnc8 := NB110_109.out; obtain ⟨hcz9_0, hcz9_1, hfz9_0, hfz9_1⟩ := cells2 BK109.out) | ((with_reducible refine gate_dst (N := 8) rfl ?_); refine Kd.R_make (Kd.int .i64) _ 3 rfl (N := 8) rfl 26 _ _ rfl (l0_0.length : Int) rfl rfl Try.underlying26 (.int .i64 0) 8 info3 rfl (by decide) (by omega) 0 (ok := fun _ => True) (okp := fun _ => True) rfl (fun _ hk => hk) trivial (ud) (Nat.le_trans (Nat.mul_le_mul_right _ (ud : (l0_0.length : Int).toNat ≤ 35184372088832)) (by omega)) (Below.refl _ _) (Nat.le_refl _) ?_; intro v112 w10 ho11 hb hg_ hnew_; clear hg_ hnew_; (first | rw [← Ny111.out] at ho11 | (simp only [Int.reduceToNat] at ho11; rw [← Ny111.out] at ho11)); have n0_ := am (Kd.R_lower ho11 (below_size (uc HB.out))); have n1_ := am (blk_below (g := gb109) (o := .cells #[.slice A0_0 l0_0.length c0_0, .slice A0_1 l0_1.length c0_1] 28 (0, 0)) (ub BK109.out) hb); have n2_ := am (blk_below (g := gb110) (o := .cells #[.slice none 0 0, .slice none 0 0] 28 (0, 0)) (ub BK110.out) hb); have n3_ := am (below_step (uc HB.out) hb); revert n0_ n1_ n2_ n3_; clear BK109 BK110 HB; intro HO113 BK109 BK110 HB; clear hb ho11; obtain ⟨hcz12_0, hcz12_1, hfz12_0, hfz12_1⟩ := cells2 BK109.out) | ((with_reducible refine gate_builtin (b := .copy) (xs := #[.tmp 9, .tmp 11]) rfl ?_); refine Kd.R_copy (0 : Int) (w0 := w) w.heap.size rfl (.tmp 9) (.tmp 11) 26 26 3 rfl Try.underlying26 rfl v112 y111 l0_0 A0_0 l0_0.length c0_0 _ rfl rfl (h1 := fun _ => rfl) HO113.out ?aR HB.out (below_size HB.out) ?_; (case aR => exact Kd.C_below HR0_0.out HB.out); intro w11 ho hb hg; (rw [copied_eq _ _ Ny111.out] at ho); have n0_ := am ho; have n1_ := am (blk_grown (g := gb109) (o := .cells #[.slice A0_0 l0_0.length c0_0, .slice A0_1 l0_1.length c0_1] 28 (0, 0)) BK109.out hg (Kd.R_ne HO113.out BK109.out (by decide))); have n2_ := am (blk_grown (g := gb110) (o := .cells #[.slice none 0 0, .slice none 0 0] 28 (0, 0)) BK110.out hg (Kd.R_ne HO113.out BK110.out (by decide))); have n3_ := am hb; clear HO113 BK109 BK110 HB; revert n0_ n1_ n2_ n3_; intro HO113 BK109 BK110 HB; clear ho hb hg; obtain ⟨hcz12_0, hcz12_1, hfz12_0, hfz12_1⟩ := cells2 BK109.out) | ((with_reducible refine gate_dst (N := 16) rfl ?_); refine Kd.R_make (Kd.int .i64) _ 3 rfl (N := 16) rfl 26 _ _ rfl (l0_1.length : Int) rfl rfl Try.underlying26 (.int .i64 0) 8 info3 rfl (by decide) (by omega) 0 (ok := fun _ => True) (okp := fun _ => True) rfl (fun _ hk => hk) trivial (ud) (Nat.le_trans (Nat.mul_le_mul_right _ (ud : (l0_1.length : Int).toNat ≤ 35184372088832)) (by omega)) (Below.refl _ _) (Nat.le_refl _) ?_; intro v115 w13 ho14 hb hg_ hnew_; clear hg_ hnew_; (first | rw [← Ny114.out] at ho14 | (simp only [Int.reduceToNat] at ho14; rw [← Ny114.out] at ho14)); have n0_ := am (Kd.R_elder' (ua HO113.out) (Kd.R_base ho14) hb); have n1_ := am (Kd.R_lower (Kd.R_new' ho14 (Kd.R_lt (ua HO113.out))) (below_size (uc HB.out))); have n2_ := am (blk_below (g := gb109) (o := .cells #[.slice A0_0 l0_0.length c0_0, .slice A0_1 l0_1.length c0_1] 28 (0, 0)) (ub BK109.out) hb); have n3_ := am (blk_below (g := gb110) (o := .cells #[.slice none 0 0, .slice none 0 0] 28 (0, 0)) (ub BK110.out) hb); have n4_ := am (below_step (uc HB.out) hb); revert n0_ n1_ n2_ n3_ n4_; clear HO113 BK109 BK110 HB; intro HO113 HO116 BK109 BK110 HB; clear hb ho14; have hcx15_0 : w13.cell? ⟨gb109, 0, none⟩ = some (.slice A0_0 l0_0.length c0_0) := (blk_cell BK109.out 0).trans rfl; have hcx15_1 : w13.cell? ⟨gb109, 1, none⟩ = some (.slice A0_1 l0_1.length c0_1) := (blk_cell BK109.out 1).trans rfl; have hfx15_0 := blk_frozen BK109.out 0; have hfx15_1 := blk_frozen BK109.out 1) | ((with_reducible refine gate_builtin (b := .copy) (xs := #[.tmp 17, .tmp 19]) rfl ?_); refine Kd.R_copy (0 : Int) (w0 := w) w.heap.size rfl (.tmp 17) (.tmp 19) 26 26 3 rfl Try.underlying26 rfl v115 y114 l0_1 A0_1 l0_1.length c0_1 _ rfl rfl (h1 := fun _ => rfl) HO116.out ?aR HB.out (below_size HB.out) ?_; (case aR => exact Kd.C_below HR0_1.out HB.out); intro w18 ho hb hg; (rw [copied_eq _ _ Ny114.out] at ho); have n0_ := am ho; have n1_ := am (blk_grown (g := gb109) (o := .cells #[.slice A0_0 l0_0.length c0_0, .slice A0_1 l0_1.length c0_1] 28 (0, 0)) BK109.out hg (Kd.R_ne HO116.out BK109.out (by decide))); have n2_ := am (blk_grown (g := gb110) (o := .cells #[.slice none 0 0, .slice none 0 0] 28 (0, 0)) BK110.out hg (Kd.R_ne HO116.out BK110.out (by decide))); have n3_ := am hb; have n4_ := am (Kd.R_grown HO113.out hg (fun _ hk => hk.2)); clear HO116 BK109 BK110 HB HO113; revert n0_ n1_ n2_ n3_ n4_; intro HO116 BK109 BK110 HB HO113; clear ho hb hg; obtain ⟨Ao16, co16, eo16⟩ := Kd.R_slice HO116.out; subst eo16; obtain ⟨Ao17, co17, eo17⟩ := Kd.R_slice HO113.out; subst eo17; obtain ⟨hcz18_0, hcz18_1, hfz18_0, hfz18_1⟩ := cells2 BK110.out) | ((with_reducible refine gate_store (t := 28) (p := 2) rfl ?_); refine store_event (t := 28) (p := 2) (v := ?vo_w19) (w1 := ((w18.setCell ⟨gb110, 0, none⟩ (.slice Ao17 l0_0.length co17)).setCell ⟨gb110, 1, none⟩ (.slice Ao16 l0_1.length co16))) ?hg ?ho ?hn ?hr ?_; (case ho => rfl); (case hg => rfl); (case hn => rfl); (case hr => first | (go_simp; done) | (go_simp; rfl)); intro w19 hw; have n0_ := st2 (fun k_ => nw k_ Ao16 l0_1 co16) hw HO113 BK110 (fun _ h => h.2); have n1_ := st2 (fun k_ => nw k_ Ao17 l0_0 co17) hw HO116 BK110 (fun _ h => h.2); have n2_ := bf2 hw NB109_110 BK109; have n3_ := bp2 #[.slice Ao17 l0_0.length co17, .slice Ao16 l0_1.length co16] hw BK110; have n4_ : Aside0 (Below w.heap.size w w19) := ⟨(by rw [hw]; exact (uc HB.out))⟩; revert n0_ n1_ n2_ n3_ n4_; clear hw HO113 HO116 BK109 BK110 HB; intro HO113 HO116 BK109 BK110 HB))
 refine bodyPost_ret (results_cell_row rfl _ _ gb110 28 #[.slice Ao17 l0_0.length co17, .slice Ao16 l0_1.length co16] (0, 0) _ rfl (ub BK110.out) Try.underlying28 rfl (by kernel_rfl)) rfl ?_
 exact ⟨_, _, by first | rfl | (simp [errW_none, errW_some] <;> rfl) | (simp [*, errW_none, errW_some] <;> rfl), ua HO113.out, ua HO116.out, uc HB.out⟩

def dl_Open.l0 : Nat → List Int → List Int → Int → Int → List Int → List Int → List Int → List Int → Option (List Int × List Int × List Int × Int)
  | 0, _, _, _, _, _, _, _, _ => none
  | k + 1, x7, x37, x38, x39, x110000, x110001, x111000, x111001 => if x39 < x38 then (if 0 ≤ x39 then (if x39 < (x37.length : Int) then ((slices_Contains_int_int.f k x110000 (rd x37 x39)).bind fun t136 => (if t136 = true then (dl_Open.l0 k x7 x37 x38 (wrap64 (x39 + 1)) x110000 x110001 x111000 x111001) else (if x7.length < 17592186044416 then (dl_Open.l0 k (x7 ++ [rd x37 x39]) x37 x38 (wrap64 (x39 + 1)) x110000 x110001 x111000 x111001) else (none)))) else (none)) else (none)) else (if x111000.length + x7.length < 17592186044416 then (some ((x111000 ++ x7), x111001, x7, 0)) else (none))
def dl_Open.f (k : Nat) (l0 : List (S38)) (l1_0 : List Int) (l1_1 : List Int) (a2 : ByteArray) : Option (List Int × List Int × List Int × Int) := (graph_Closure.f l0 a2).bind fun bt111 => (if bt111.2.2 = 0 then ((dl_State_copied.f l1_0 l1_1).bind fun bt122 => (if 0 < (bt111.1.length : Int) then (if bt122.2.length < 17592186044416 then ((graph_Begin.f l0 bt111.1).bind fun t132 => (dl_Open.l0 k ([] : List Int) t132 (t132.length : Int) 0 l1_0 l1_1 bt122.1 (bt122.2 ++ [rd bt111.1 0]))) else (none)) else (none))) else ((dl_State_copied.f l1_0 l1_1).bind fun bt116 => (some (bt116.1, bt116.2, ([] : List Int), bt111.2.2))))
theorem dl_Open.mono_l : ∀ k, (∀ y0 y1 y2 y3 y4 y5 y6 y7, LeO (dl_Open.l0 k y0 y1 y2 y3 y4 y5 y6 y7) (dl_Open.l0 (k + 1) y0 y1 y2 y3 y4 y5 y6 y7))
  | 0 => fun _ _ _ _ _ _ _ _ r h => by simp [dl_Open.l0] at h
  | k + 1 => by
    have ih0 := dl_Open.mono_l k
    · intro y0 y1 y2 y3 y4 y5 y6 y7
      unfold dl_Open.l0
      repeat' first
      | (with_reducible exact ih0 _ _ _ _ _ _ _ _)
      | (with_reducible exact slices_Contains_int_int.mono _ _ _)
      | (with_reducible exact LeO.refl _)
      | (with_reducible exact LeO.none _)
      | (with_reducible refine LeO.ite ?_ ?_)
      | (with_reducible refine LeO.bind ?_ (fun _ => ?_))
      | exact ih0 _ _ _ _ _ _ _ _
      | exact slices_Contains_int_int.mono _ _ _
      | exact LeO.none _
      | refine LeO.ite ?_ ?_
      | refine LeO.bind ?_ (fun _ => ?_)
theorem dl_Open.mono : ∀ a0 a1 a2 a3 k, LeO (dl_Open.f k a0 a1 a2 a3) (dl_Open.f (k + 1) a0 a1 a2 a3) := by
  intro a0 a1 a2 a3 k
  have ih0 := dl_Open.mono_l k
  unfold dl_Open.f
  repeat' first
      | (with_reducible exact ih0 _ _ _ _ _ _ _ _)
      | (with_reducible exact slices_Contains_int_int.mono _ _ _)
      | (with_reducible exact LeO.refl _)
      | (with_reducible exact LeO.none _)
      | (with_reducible refine LeO.ite ?_ ?_)
      | (with_reducible refine LeO.bind ?_ (fun _ => ?_))
      | exact ih0 _ _ _ _ _ _ _ _
      | exact slices_Contains_int_int.mono _ _ _
      | exact LeO.none _
      | refine LeO.ite ?_ ?_
      | refine LeO.bind ?_ (fun _ => ?_)
def dl_Open.T5 : Bool × List (List Nat × List Nat) := (true, [([], []), ([0], [0]), ([], []), ([2], [2]), ([3], [3]), ([4], [4]), ([1, 5], [1, 5]), ([0, 1, 2, 3, 4, 5, 6], []), ([7, 6, 6, 0, 1, 2, 3, 4, 5, 6], [6, 7])])
def dl_Open.B5 : List Nat := [0, 1, 0, 4, 12, 28, 63, 127, 255]
theorem dl_Open.tab5 : rtab .any (opsOf Try.f15 5) = dl_Open.T5 := by kernel_rfl
theorem dl_Open.bits5 : waitsOk dl_Open.T5.2 dl_Open.B5 = true := by kernel_rfl
set_option maxHeartbeats 8000000 in
set_option maxRecDepth 100000 in
theorem dl_Open.calls (k : Nat) (A0 : Option Addr) (c0 : Nat) (l0 : List (S38)) (A1_0 : Option Addr) (c1_0 : Nat) (l1_0 : List Int) (A1_1 : Option Addr) (c1_1 : Nat) (l1_1 : List Int) (a2 : ByteArray) (r1 : List Int) (r2 : List Int) (r3 : List Int) (r4 : Int) (w : World) (hr0 : Kd.C k38 w A0 l0.length l0) (hc0 : l0.length ≤ c0) (hr1_0 : Kd.C (Kd.int .i64) w A1_0 l1_0.length l1_0) (hc1_0 : l1_0.length ≤ c1_0) (hr1_1 : Kd.C (Kd.int .i64) w A1_1 l1_1.length l1_1) (hc1_1 : l1_1.length ≤ c1_1) (h : dl_Open.f k l0 l1_0 l1_1 a2 = some (r1, r2, r3, r4)) :
  Calls Try.prog 15 #[.slice A0 l0.length c0, .agg #[.slice A1_0 l1_0.length c1_0, .slice A1_1 l1_1.length c1_1], .string a2] w fun e w' => ∃ v0_ v1_ v2_ : Value, e = .returned (.tuple #[.agg #[v0_, v1_], v2_, .int .i64 r4]) ∧ Kd.R (Kd.int .i64) 3 w' w.heap.size (fun k_ => nv k_ v1_ ∧ nv k_ v2_) v0_ r1 ∧ Kd.R (Kd.int .i64) 3 w' w.heap.size (fun k_ => nv k_ v0_ ∧ nv k_ v2_) v1_ r2 ∧ Kd.R (Kd.int .i64) 3 w' w.heap.size (fun k_ => nv k_ v0_ ∧ nv k_ v1_) v2_ r3 ∧ Below w.heap.size w w' := by
 have hu28 := Try.underlying28
 have HR0 := am hr0
 have HC0 := am hc0
 clear hr0 hc0
 have HR1_0 := am hr1_0
 have HC1_0 := am hc1_0
 clear hr1_0 hc1_0
 have HR1_1 := am hr1_1
 have HC1_1 := am hc1_1
 clear hr1_1 hc1_1
 have HB := am (Below.refl w.heap.size w)
 have H : ((graph_Closure.f l0 a2).bind fun bt111 => (if bt111.2.2 = 0 then ((dl_State_copied.f l1_0 l1_1).bind fun bt122 => (if 0 < (bt111.1.length : Int) then (if bt122.2.length < 17592186044416 then ((graph_Begin.f l0 bt111.1).bind fun t132 => (dl_Open.l0 k ([] : List Int) t132 (t132.length : Int) 0 l1_0 l1_1 bt122.1 (bt122.2 ++ [rd bt111.1 0]))) else (none)) else (none))) else ((dl_State_copied.f l1_0 l1_1).bind fun bt116 => (some (bt116.1, bt116.2, ([] : List Int), bt111.2.2))))) = some (r1, r2, r3, r4) := h
 clear h
 replace H := Option.bind_eq_some_iff.mp H
 obtain ⟨⟨t111, t112, t113⟩, A40, H⟩ := H
 replace H : (if t113 = 0 then ((dl_State_copied.f l1_0 l1_1).bind fun bt122 => (if 0 < (t111.length : Int) then (if bt122.2.length < 17592186044416 then ((graph_Begin.f l0 t111).bind fun t132 => (dl_Open.l0 k ([] : List Int) t132 (t132.length : Int) 0 l1_0 l1_1 bt122.1 (bt122.2 ++ [rd t111 0]))) else (none)) else (none))) else ((dl_State_copied.f l1_0 l1_1).bind fun bt116 => (some (bt116.1, bt116.2, ([] : List Int), t113)))) = some (r1, r2, r3, r4) := H
 have A4 := am A40
 clear A40
 by_cases c5 : t113 = 0
 ·rw [if_pos c5] at H
  have c5b0 : (t113 == 0) = true := beq_iff_eq.mpr c5
  have c5b1 : (t113 != 0) = false := bne_eq_false_iff_eq.mpr c5
  clear c5
  replace H := Option.bind_eq_some_iff.mp H
  obtain ⟨⟨t122, t125⟩, A60, H⟩ := H
  replace H : (if 0 < (t111.length : Int) then (if t125.length < 17592186044416 then ((graph_Begin.f l0 t111).bind fun t132 => (dl_Open.l0 k ([] : List Int) t132 (t132.length : Int) 0 l1_0 l1_1 t122 (t125 ++ [rd t111 0]))) else (none)) else (none)) = some (r1, r2, r3, r4) := H
  have A6 := am A60
  clear A60
  by_cases c7 : 0 < (t111.length : Int)
  ·rw [if_pos c7] at H
   have c7b0 : decide (0 < (t111.length : Int)) = true := decide_eq_true c7
   have c7b1 : decide (0 < t111.length) = true := decide_eq_true (by omega)
   clear c7
   by_cases c8 : t125.length < 17592186044416
   ·rw [if_pos c8] at H
    have LMc8 := am c8
    clear c8
    obtain ⟨y129, hy129⟩ : ∃ y_ : List Int, y_ = (t125 ++ [rd t111 0]) := ⟨_, rfl⟩
    replace H : ((graph_Begin.f l0 t111).bind fun t132 => (dl_Open.l0 k ([] : List Int) t132 (t132.length : Int) 0 l1_0 l1_1 t122 y129)) = some (r1, r2, r3, r4) := by first | (rw [hy129]; with_reducible exact H) | (have H2_ := (Option.bind_some _ _).symm.trans H; rw [hy129]; with_reducible exact H2_) | (have H2_ := (Option.bind_some _ _).symm.trans H; with_reducible exact H2_) | with_reducible exact H | (rw [hy129]; exact H) | exact H
    have Ny129 := am hy129
    clear hy129
    replace H := Option.bind_eq_some_iff.mp H
    obtain ⟨t132, A90, H⟩ := H
    replace H : (dl_Open.l0 k ([] : List Int) t132 (t132.length : Int) 0 l1_0 l1_1 t122 y129) = some (r1, r2, r3, r4) := H
    have A9 := am A90
    clear A90
    have H' := am H
    clear H
    go_enter Try.func15, Try.ntmps15
    try go_wp2_with (first | ((with_reducible refine gate_dst (N := 4) rfl ?_); refine box_event ?hg (N := 4) ?hd (cs := #[.slice A1_0 l1_0.length c1_0, .slice A1_1 l1_1.length c1_1]) (t := 28) ?hr ?_; (case hd => rfl); (case hg => rfl); (case hr => first | (go_simp; done) | (go_simp; rfl)); intro gb109 hg w10 hbox hb; have n0_ := am (below_step (uc HB.out) hb); have n1_ := am (hbox); have n2_ := am ((by rw [hg]; exact (below_size (uc HB.out)) : w.heap.size ≤ gb109)); have n3_ := am ((by rw [hg]; exact (below_size (uc HB.out)) : w.heap.size ≤ gb109)); revert n0_ n1_ n2_ n3_; clear HB; intro HB BK109 GW109 GE109; clear hb hbox hg) | ((with_reducible refine gate_dst (N := 6) rfl ?_); refine box_event ?hg (N := 6) ?hd (cs := #[.slice none 0 0, .slice none 0 0]) (t := 28) ?hr ?_; (case hd => rfl); (case hg => rfl); (case hr => first | (go_simp; done) | (go_simp; rfl)); intro gb110 hg w11 hbox hb; have n0_ := am (blk_below (g := gb109) (o := .cells #[.slice A1_0 l1_0.length c1_0, .slice A1_1 l1_1.length c1_1] 28 (0, 0)) (ub BK109.out) hb); have n1_ := am (below_step (uc HB.out) hb); have n2_ := am (hbox); have n3_ := am ((by rw [hg]; exact (below_size (uc HB.out)) : w.heap.size ≤ gb110)); have n4_ := am ((by rw [hg]; exact (below_size (uc HB.out)) : w.heap.size ≤ gb110)); have n5_ := am ((by rw [hg]; exact Nat.ne_of_lt (blk_lt (g := gb109) (o := .cells #[.slice A1_0 l1_0.length c1_0, .slice A1_1 l1_1.length c1_1] 28 (0, 0)) (ub BK109.out)) : gb109 ≠ gb110)); have n6_ := am ((by rw [hg]; exact Nat.ne_of_gt (blk_lt (g := gb109) (o := .cells #[.slice A1_0 l1_0.length c1_0, .slice A1_1 l1_1.length c1_1] 28 (0, 0)) (ub BK109.out)) : gb110 ≠ gb109)); revert n0_ n1_ n2_ n3_ n4_ n5_ n6_; clear BK109 HB; intro BK109 HB BK110 GW110 GE110 NB109_110 NB110_109; clear hb hbox hg) | ((with_reducible refine gate_dst (N := 16) rfl ?_); (with_reducible refine gate_callee (f := 29) rfl ?_); refine gl (some 16) Try.func29 #[.slice A0 l0.length c0, .string a2] ?_; (with_reducible refine (graph_Closure.calls _ _ l0 a2 t111 t112 t113 _ ?side1 ?side2 A4.out).mono ?_); (case side1 => exact us (Kd.C_below HR0.out HB.out)); (case side2 => exact HC0.out); rintro e w12 ⟨v114, rfl, ho0, hb⟩; refine ⟨_, rfl, ?_⟩; have n0_ := am (Kd.R_lower ho0 (below_size (uc HB.out))); have n1_ := am (blk_below (g := gb109) (o := .cells #[.slice A1_0 l1_0.length c1_0, .slice A1_1 l1_1.length c1_1] 28 (0, 0)) (ub BK109.out) hb); have n2_ := am (blk_below (g := gb110) (o := .cells #[.slice none 0 0, .slice none 0 0] 28 (0, 0)) (ub BK110.out) hb); have n3_ := am (below_step (uc HB.out) hb); revert n0_ n1_ n2_ n3_; clear BK109 BK110 HB; intro HO115 BK109 BK110 HB; (try clear hb); (try clear hb2); (try clear hk); (try clear hi); (try clear ho0); have hnb13 := NB109_110.out; have hnc13 := NB110_109.out; obtain ⟨hcz14_0, hcz14_1, hfz14_0, hfz14_1⟩ := cells2 BK109.out) | ((with_reducible refine gate_dst (N := 26) rfl ?_); (with_reducible refine gate_callee (f := 30) rfl ?_); refine gl (some 26) Try.func30 #[.agg #[.slice A1_0 l1_0.length c1_0, .slice A1_1 l1_1.length c1_1]] ?_; (with_reducible refine (dl_State_copied.calls _ _ l1_0 _ _ l1_1 t122 t125 _ ?side1 ?side2 ?side3 ?side4 A6.out).mono ?_); (case side1 => exact us (Kd.C_below HR1_0.out HB.out)); (case side2 => exact HC1_0.out); (case side3 => exact us (Kd.C_below HR1_1.out HB.out)); (case side4 => exact HC1_1.out); rintro e w15 ⟨v123, v126, rfl, ho0, ho1, hb⟩; refine ⟨_, rfl, ?_⟩; have n0_ := am (Kd.R_mono (Kd.R_told (Kd.R_told (Kd.R_old (ua HO115.out) hb) (Kd.R_base ho0)) (Kd.R_base ho1)) (fun _ h_ => h_.1)); have n1_ := am (Kd.R_lower (Kd.R_new' ho0 (Kd.R_lt (ua HO115.out))) (below_size (uc HB.out))); have n2_ := am (Kd.R_lower (Kd.R_new' ho1 (Kd.R_lt (ua HO115.out))) (below_size (uc HB.out))); have n3_ := am (blk_below (g := gb109) (o := .cells #[.slice A1_0 l1_0.length c1_0, .slice A1_1 l1_1.length c1_1] 28 (0, 0)) (ub BK109.out) hb); have n4_ := am (blk_below (g := gb110) (o := .cells #[.slice none 0 0, .slice none 0 0] 28 (0, 0)) (ub BK110.out) hb); have n5_ := am (below_step (uc HB.out) hb); revert n0_ n1_ n2_ n3_ n4_ n5_; clear HO115 BK109 BK110 HB; intro HO115 HO124 HO127 BK109 BK110 HB; (try clear hb); (try clear hb2); (try clear hk); (try clear hi); (try clear ho0); (try clear ho1); obtain ⟨Ao16, co16, eo16⟩ := Kd.R_slice HO124.out; subst eo16; obtain ⟨hcz17_0, hcz17_1, hfz17_0, hfz17_1⟩ := cells2 BK110.out; obtain ⟨Ao18, co18, eo18⟩ := Kd.R_slice HO127.out; subst eo18) | ((with_reducible refine gate_store (t := 28) (p := 6) rfl ?_); refine store_event (t := 28) (p := 6) (v := ?vo_w19) (w1 := ((w15.setCell ⟨gb110, 0, none⟩ (.slice Ao16 t122.length co16)).setCell ⟨gb110, 1, none⟩ (.slice Ao18 t125.length co18))) ?hg ?ho ?hn ?hr ?_; (case ho => rfl); (case hg => rfl); (case hn => rfl); (case hr => first | (go_simp; done) | (go_simp; rfl)); intro w19 hw; have n0_ := st2 (fun k_ => nw k_ Ao16 t122 co16 ∧ nw k_ Ao18 t125 co18) hw HO115 BK110 (fun _ h => ⟨h.1.2, h.2⟩); have n1_ := st2 (fun k_ => nv k_ v114 ∧ nw k_ Ao18 t125 co18) hw HO124 BK110 (fun _ h => ⟨h.2, h.1⟩); have n2_ := st2 (fun k_ => nv k_ v114 ∧ nw k_ Ao16 t122 co16) hw HO127 BK110 (fun _ h => ⟨h.2, h.1⟩); have n3_ := bf2 hw NB109_110 BK109; have n4_ := bp2 #[.slice Ao16 t122.length co16, .slice Ao18 t125.length co18] hw BK110; have n5_ : Aside0 (Below w.heap.size w w19) := ⟨(by rw [hw]; exact (uc HB.out))⟩; revert n0_ n1_ n2_ n3_ n4_ n5_; clear hw HO115 HO124 HO127 BK109 BK110 HB; intro HO115 HO124 HO127 BK109 BK110 HB))
    have n0_ := am (Kd.R_drew HO115.out)
    have n1_ := am (Kd.R_drew HO124.out)
    have n2_ := am (Kd.R_drew HO127.out)
    have n3_ := am (blk_drew BK109.out)
    have n4_ := am (blk_drew BK110.out)
    have n5_ := am (below_drew1 HB.out)
    revert n0_ n1_ n2_ n3_ n4_ n5_
    clear HO115 HO124 HO127 BK109 BK110 HB
    intro HO115 HO124 HO127 BK109 BK110 HB
    obtain ⟨Ao21, co21, eo21⟩ := Kd.R_slice HO115.out
    (first | subst eo21 | (injection eo21 with f1_ f2_ f3_; have f4_ := f1_.symm; have f5_ := f3_.symm; clear f1_ f2_ f3_; subst f4_; subst f5_))
    have p128 : 0 ≤ (0 : Int) := (by omega)
    have q128 : 0 < (t111.length : Int) := ud
    obtain ⟨ad128, e128, hx128_0⟩ := Kd.at_int (Kd.R_reads' HO115.out).2.2 0 p128 q128
    cases e128
    have qi128 : (0 < t111.length) = True := eq_true (by omega)
    (try rw [show ((0 : Int)).toNat = 0 from rfl] at hx128_0)
    (try rw [Addr.add_zero'] at hx128_0)
    replace p128 := eq_true p128
    replace q128 := eq_true q128
    refine start_ (n := 9) (S := fun w' => w'.cell? ⟨gb110, 0, none⟩ = some (.slice Ao16 t122.length co16) ∧ w'.cell? ⟨gb110, 1, none⟩ = some (.slice Ao18 t125.length co18) ∧ w'.cell? ad128 = some (.int .i64 (rd t111 0))) (ds := [6, 8]) #[false, false, false, false, false, false, false, false, false] (by kernel_rfl) rfl rfl ⟨(blk_cell BK110.out 0).trans rfl, (blk_cell BK110.out 1).trans rfl, hx128_0⟩ (fun hHeld => ?_); refine with_tabW dl_Open.tab5 dl_Open.bits5 (fun HT_ HW_ => ?_)
    generalize w19.drew = w20 at HO115 HO124 HO127 BK109 BK110 HB hx128_0 hHeld ⊢
    refine pv 0 27 (bA 9 1) HT_ ?_
    refine pv 2 29 (bA 9 5) HT_ ?_
    refine pv 3 30 (bA 9 13) HT_ ?_
    refine tv 1 28 (bA 9 15) HT_ HW_ hHeld ?_ (hy := by rintro w' ⟨s0, s1, s2⟩; go_simp; with_reducible rfl)
    refine tv 4 31 (bA 9 31) HT_ HW_ hHeld ?_ (hy := by rintro w' ⟨s0, s1, s2⟩; go_simp; with_reducible rfl)
    refine one_ (i := 5) (N := some 32) #[true, true, true, true, true, true, false, false, false] rfl rfl (one_of HT_.out (by kernel_rfl)) (by decide) (fun K hK => ?_)
    refine value_ (w1 := ?_) (v := ?_) (by rfl) rfl ?_ ?_
    rotate_left 2
    ·go_simp
     constructor
     ·rfl
     ·rfl
    refine hK.out _ _ ⟨(blk_cell (blk_alloc BK110.out _) 0).trans rfl, (blk_cell (blk_alloc BK110.out _) 1).trans rfl, (World.cell?_alloc_lt _ _ _ (World.block_lt_of_cell? _ _ (hHeld.2.2))).trans (hHeld.2.2)⟩ (fun hHeld => ?_)
    clear hK K
    refine norm_ (a' := ?_) ?_ ?_
    rotate_left
    ·show Act.put _ (some 32) _ = _
     simp only [Act.put, List.setIfInBounds_toArray, List.set_cons_zero, List.set_cons_succ, i64_w, i32_w]
     rfl
    refine last_ (i := 6) (N := some 33) #[true, true, true, true, true, true, true, false, false] rfl rfl (one_of HT_.out (by kernel_rfl)) (by decide) (fun K hK => ?_)
    refine Kd.R_append_step (Kd.int .i64) (w0 := w) w.heap.size (by rfl) (.tmp 28) (.tmp 32) 26 3 (.int .i64 0) 8 rfl Try.underlying26 info3 rfl (by decide) (by omega) (.slice Ao18 t125.length co18) t125 (rd t111 0) [.int .i64 (rd t111 0)] (fun k_ => some k_ ≠ (.slice (some ad128) t111.length co21 : Value).ownBlock ∧ nw k_ Ao16 t122 co16) (fun _ => False) rfl rfl ?aP (fun _ hk => hk.elim) ?aF ?aO ?aB ?aS ?aL ?_
    (case aP => exact rfl)
    (case aB => exact (uc HB.out))
    (case aF => exact (fun k_ hk => ⟨Kd.fresh' (Kd.R_lt (ua HO115.out)) k_ hk, Kd.fresh' (Kd.R_lt (ua HO124.out)) k_ hk⟩))
    (case aO => exact (ua HO127.out))
    (case aS => exact (below_size (uc HB.out)))
    (case aL => have := LMc8.out; omega)
    intro v130 w22 ho hb hg hat
    rw [← Ny129.out] at ho
    have n0_ := am (blk_grown (g := gb109) (o := .cells #[.slice A1_0 l1_0.length c1_0, .slice A1_1 l1_1.length c1_1] 28 (0, 0)) (ub BK109.out) hg (Kd.R_ne HO127.out BK109.out (by decide)))
    have n1_ := am (blk_grown (g := gb110) (o := .cells #[.slice Ao16 t122.length co16, .slice Ao18 t125.length co18] 28 (0, 0)) (ub BK110.out) hg (Kd.R_ne HO127.out BK110.out (by decide)))
    have n2_ := am (Kd.R_after (ok := (fun k_ => nw k_ Ao16 t122 co16)) (ua HO115.out) hg hat)
    have n3_ := am (Kd.R_after (ok := (fun k_ => some k_ ≠ (.slice (some ad128) t111.length co21 : Value).ownBlock)) (ua HO124.out) hg hat)
    have n4_ := am (hb)
    have n5_ := am (ho)
    revert n0_ n1_ n2_ n3_ n4_ n5_
    clear BK109 BK110 HO115 HO124 HB HO127
    intro BK109 BK110 HO115 HO124 HB HO131
    clear ho hb hg hat
    obtain ⟨Ao23, co23, eo23⟩ := Kd.R_slice HO131.out
    (first | subst eo23 | (injection eo23 with f1_ f2_ f3_; have f4_ := f1_.symm; have f5_ := f3_.symm; clear f1_ f2_ f3_; subst f4_; subst f5_))
    refine hK.out _ _ ?_
    clear hK K
    refine norm_ (a' := ?_) ?_ ?_
    rotate_left
    ·show Act.put _ (some 33) _ = _
     simp only [Act.put, List.setIfInBounds_toArray, List.set_cons_zero, List.set_cons_succ, i64_w, i32_w]
     rfl
    refine pv 7 34 (bA 9 255) HT_ ?_
    refine last_ (i := 8) (N := none) #[true, true, true, true, true, true, true, true, true] rfl rfl (one_of HT_.out (by kernel_rfl)) (by decide) (fun K hK => ?_)
    have hs24 : w22.cell? ⟨gb110, 1, none⟩ = some (.slice Ao18 t125.length co18) := (blk_cell BK110.out 1).trans rfl
    have hfs24 := blk_frozen BK110.out 1
    have hns24_0 := NB109_110.out
    have hms24_0 := NB110_109.out
    refine skip_ (w1 := ?_) (by rfl) rfl ?_ ?_
    rotate_left
    ·go_simp
     rfl
    refine hK.out _ _ ?_
    clear hK K
    refine done_ (done_of HT_.out (by kernel_rfl)) ?_
    try go_wp2_with (first | ((with_reducible refine gate_dst (N := 37) rfl ?_); (with_reducible refine gate_callee (f := 31) rfl ?_); refine gl (some 37) Try.func31 #[.slice A0 l0.length c0, .slice (some ad128) t111.length co21] ?_; (with_reducible refine (graph_Begin.calls _ _ l0 _ _ t111 t132 _ ?side1 ?side2 ?side3 ?side4 A9.out).mono ?_); (case side1 => exact Kd.C_below HR0.out (uc HB.out)); (case side2 => exact HC0.out); (case side3 => refine (Kd.R_reads' (e := 3) (base := w.heap.size) (ok := fun k_ => (nw k_ Ao16 t122 co16 ∧ nw k_ Ao23 y129 co23)) (n := t111.length) (c := co21) ?_).2.2; exact (ua (Kd.R_mono (Kd.R_far (p := ⟨gb110, 1, none⟩) (Kd.R_types HO115.out BK110.out (by decide)) (fun _ hk => hk.2) (.slice Ao23 y129.length co23)) (fun _ h_ => h_.1)))); (case side4 => exact (Kd.R_reads' HO115.out).2.1); rintro e w25 ⟨v133, rfl, ho0, hb⟩; refine ⟨_, rfl, ?_⟩; have n0_ := am (Kd.R_elder' (ua (Kd.R_mono (Kd.R_far (p := ⟨gb110, 1, none⟩) (Kd.R_types HO115.out BK110.out (by decide)) (fun _ hk => hk.2) (.slice Ao23 y129.length co23)) (fun _ h_ => h_.1))) (Kd.R_base ho0) hb); have n1_ := am (Kd.R_elder' (ua (Kd.R_mono (Kd.R_far (p := ⟨gb110, 1, none⟩) (Kd.R_types HO124.out BK110.out (by decide)) (fun _ hk => hk.2) (.slice Ao23 y129.length co23)) (fun _ h_ => h_.1))) (Kd.R_base ho0) hb); have n2_ := am (Kd.R_elder' (ua (Kd.R_mono (Kd.R_far (p := ⟨gb110, 1, none⟩) (Kd.R_types HO131.out BK110.out (by decide)) (fun _ hk => hk.2) (.slice Ao23 y129.length co23)) (fun _ h_ => h_.1))) (Kd.R_base ho0) hb); have n3_ := am (Kd.R_lower (Kd.R_new' (Kd.R_new' (Kd.R_new' ho0 (Kd.R_lt (ua (Kd.R_mono (Kd.R_far (p := ⟨gb110, 1, none⟩) (Kd.R_types HO115.out BK110.out (by decide)) (fun _ hk => hk.2) (.slice Ao23 y129.length co23)) (fun _ h_ => h_.1))))) (Kd.R_lt (ua (Kd.R_mono (Kd.R_far (p := ⟨gb110, 1, none⟩) (Kd.R_types HO124.out BK110.out (by decide)) (fun _ hk => hk.2) (.slice Ao23 y129.length co23)) (fun _ h_ => h_.1))))) (Kd.R_lt (ua (Kd.R_mono (Kd.R_far (p := ⟨gb110, 1, none⟩) (Kd.R_types HO131.out BK110.out (by decide)) (fun _ hk => hk.2) (.slice Ao23 y129.length co23)) (fun _ h_ => h_.1))))) (below_size (uc HB.out))); have n4_ := am (blk_below (g := gb109) (o := .cells #[.slice A1_0 l1_0.length c1_0, .slice A1_1 l1_1.length c1_1] 28 (0, 0)) (by (with_reducible repeat (first | refine blk_drewN ?_ _ | refine blk_drew ?_ | refine blk_alloc ?_ _)); refine blk_far ?_ NB109_110.out _; (with_reducible repeat (first | refine blk_drewN ?_ _ | refine blk_drew ?_ | refine blk_alloc ?_ _)); exact BK109.out) hb); have n5_ := am (blk_below (g := gb110) (o := .cells #[.slice Ao16 t122.length co16, .slice Ao23 y129.length co23] 28 (0, 0)) (by (with_reducible repeat (first | refine blk_drewN ?_ _ | refine blk_drew ?_ | refine blk_alloc ?_ _)); refine blk_put (cs := #[.slice Ao16 t122.length co16, .slice Ao18 t125.length co18]) ?_ 1 _ rfl; (with_reducible repeat (first | refine blk_drewN ?_ _ | refine blk_drew ?_ | refine blk_alloc ?_ _)); exact BK110.out) hb); have n6_ := am (below_step (uc HB.out) hb); revert n0_ n1_ n2_ n3_ n4_ n5_ n6_; clear HO115 HO124 HO131 BK109 BK110 HB; intro HO115 HO124 HO131 HO134 BK109 BK110 HB; (try clear hb); (try clear hb2); (try clear hk); (try clear hi); (try clear ho0); obtain ⟨Ao26, co26, eo26⟩ := Kd.R_slice HO134.out; subst eo26))
    go_loopg [7, 39] k (fun kq v7 v39 w' => ∃ (x7_1 : List Int) (x39_1 : Int), v39 = .int .i64 x39_1 ∧ Aside0 (dl_Open.l0 kq x7_1 t132 (t132.length : Int) x39_1 l1_0 l1_1 t122 y129 = some (r1, r2, r3, r4)) ∧ Aside0 (kq ≤ k) ∧ Aside0 (Kd.R (Kd.int .i64) 3 w' w.heap.size (fun k_ => some k_ ≠ ((.slice Ao26 t132.length co26) : Value).ownBlock ∧ some k_ ≠ ((.slice Ao16 t122.length co16) : Value).ownBlock ∧ some k_ ≠ ((.slice Ao23 y129.length co23) : Value).ownBlock) v7 x7_1) ∧ Aside0 (Kd.R (Kd.int .i64) 3 w' w.heap.size (fun k_ => nv k_ v7 ∧ some k_ ≠ ((.slice Ao16 t122.length co16) : Value).ownBlock ∧ some k_ ≠ ((.slice Ao23 y129.length co23) : Value).ownBlock) (.slice Ao26 t132.length co26) t132) ∧ Aside0 (Kd.R (Kd.int .i64) 3 w' w.heap.size (fun k_ => nv k_ v7 ∧ some k_ ≠ ((.slice Ao26 t132.length co26) : Value).ownBlock ∧ some k_ ≠ ((.slice Ao23 y129.length co23) : Value).ownBlock) (.slice Ao16 t122.length co16) t122) ∧ Aside0 (Kd.R (Kd.int .i64) 3 w' w.heap.size (fun k_ => nv k_ v7 ∧ some k_ ≠ ((.slice Ao26 t132.length co26) : Value).ownBlock ∧ some k_ ≠ ((.slice Ao16 t122.length co16) : Value).ownBlock) (.slice Ao23 y129.length co23) y129) ∧ Aside0 (w'.heap[gb109]? = some (.cells #[(.slice A1_0 l1_0.length c1_0), (.slice A1_1 l1_1.length c1_1)] 28 (0, 0))) ∧ Aside0 (w'.heap[gb110]? = some (.cells #[(.slice Ao16 t122.length co16), (.slice Ao23 y129.length co23)] 28 (0, 0))) ∧ Aside0 (Below w.heap.size w w'))
    case atStart => exact ⟨(([] : List Int)), (0), uf, H', ⟨Nat.le_refl _⟩, ⟨by first | exact Kd.R_nil _ _ _ _ _ | exact Kd.N_nil _ _ _ _ _ | exact Kd.V_nil _ _ _ _ _ | exact Kd.Q_nil _ _ _ _ _ | exact Kd.S_nil _ _ _ _ _⟩, ⟨by (with_reducible repeat (first | apply Kd.R_alloc | apply Kd.R_drewN | apply Kd.R_drew)); exact Kd.R_mono HO134.out (fun _ hk => ⟨(by simp [Value.ownBlock]), ⟨hk.1.2, hk.2⟩⟩)⟩, ⟨by (with_reducible repeat (first | apply Kd.R_alloc | apply Kd.R_drewN | apply Kd.R_drew)); exact Kd.R_mono HO124.out (fun _ hk => ⟨(by simp [Value.ownBlock]), ⟨hk.2, hk.1.2⟩⟩)⟩, ⟨by (with_reducible repeat (first | apply Kd.R_alloc | apply Kd.R_drewN | apply Kd.R_drew)); exact Kd.R_mono HO131.out (fun _ hk => ⟨(by simp [Value.ownBlock]), ⟨hk.2, hk.1.2⟩⟩)⟩, ⟨ub BK109.out⟩, ⟨ub BK110.out⟩, ⟨uc HB.out⟩⟩
    case round =>
     clear H'
     try clear c1
     try clear p1
     try clear q1
     try clear hx1
     try clear qi1
     try clear c2
     try clear p2
     try clear c3
     try clear c5
     try clear c5b0
     try clear c5b1
     try clear c7
     try clear c7b0
     try clear c7b1
     try clear c8
     try clear p12
     try clear q12
     try clear hx12
     try clear qi12
     try clear c13
     try clear c15
     try clear hcz14_0
     try clear hcz14_1
     try clear hcz17_0
     try clear hcz17_1
     try clear hfz14_0
     try clear hfz14_1
     try clear hfz17_0
     try clear hfz17_1
     try clear hx128_0
     try clear p128
     try clear q128
     obtain ⟨x7_1, x39_1, rfl, HA, HK1, HO_7, HO_37, HO_111000, HO_111001, BK109, BK110, HB⟩ := hrel
     cases gk with
     | zero => exact absurd HA.out (by simp [dl_Open.l0])
     | succ k1 =>
      have H := HA.out
      clear HA
      simp only [dl_Open.l0] at H
      by_cases c27 : x39_1 < (t132.length : Int)
      ·rw [if_pos c27] at H
       have c27b0 : decide (x39_1 < (t132.length : Int)) = true := decide_eq_true c27
       clear c27
       by_cases c28 : 0 ≤ x39_1
       ·rw [if_pos c28] at H
        have c28b0 : decide (0 ≤ x39_1) = true := decide_eq_true c28
        clear c28
        by_cases c29 : x39_1 < (t132.length : Int)
        ·rw [if_pos c29] at H
         have c29b0 : decide (x39_1 < (t132.length : Int)) = true := decide_eq_true c29
         clear c29
         replace H := Option.bind_eq_some_iff.mp H
         obtain ⟨t136, A300, H⟩ := H
         replace H : (if t136 = true then (dl_Open.l0 k1 x7_1 t132 (t132.length : Int) (wrap64 (x39_1 + 1)) l1_0 l1_1 t122 y129) else (if x7_1.length < 17592186044416 then (dl_Open.l0 k1 (x7_1 ++ [rd t132 x39_1]) t132 (t132.length : Int) (wrap64 (x39_1 + 1)) l1_0 l1_1 t122 y129) else (none))) = some (r1, r2, r3, r4) := H
         have A30 := am A300
         clear A300
         by_cases c31 : t136 = true
         ·subst c31
          have H1 : (dl_Open.l0 k1 x7_1 t132 (t132.length : Int) (wrap64 (x39_1 + 1)) l1_0 l1_1 t122 y129) = some (r1, r2, r3, r4) := by rw [if_pos rfl] at H; exact H
          clear H
          have H := H1
          clear H1
          have H' := am H
          clear H
          have p135 : 0 ≤ (x39_1 : Int) := ud
          have q135 : x39_1 < (t132.length : Int) := ud
          obtain ⟨ad135, e135, hx135_0⟩ := Kd.at_int (Kd.R_reads' HO_37.out).2.2 x39_1 p135 q135
          cases e135
          replace p135 := eq_true p135
          replace q135 := eq_true q135
          have hnb32 := NB109_110.out
          have hnc32 := NB110_109.out
          have hcz33_0 : wr.cell? ⟨gb109, 0, none⟩ = some (.slice A1_0 l1_0.length c1_0) := (blk_cell BK109.out 0).trans rfl
          have hcz33_1 : wr.cell? ⟨gb109, 1, none⟩ = some (.slice A1_1 l1_1.length c1_1) := (blk_cell BK109.out 1).trans rfl
          have hfz33_0 := blk_frozen BK109.out 0
          have hfz33_1 := blk_frozen BK109.out 1
          go_wp2_with (first | ((with_reducible refine gate_dst (N := 46) rfl ?_); (with_reducible refine gate_callee (f := 32) rfl ?_); refine gl (some 46) Try.func32 #[.slice A1_0 l1_0.length c1_0, .int .i64 (rd t132 x39_1)] ?_; (with_reducible refine (slices_Contains_int_int.calls k1 _ _ l1_0 (rd t132 x39_1) true _ ?side1 ?side2 A30.out).mono ?_); (case side1 => exact us (Kd.C_below HR1_0.out HB.out)); (case side2 => exact HC1_0.out); rintro e w' ⟨rfl, ⟨nd, rfl⟩⟩; refine ⟨_, rfl, ?_⟩))
          go_roundg k1
          case measure => have := HK1.out; omega
          case rel => exact ⟨(x7_1), (wrap64 (x39_1 + 1)), uf, H', ⟨by have := HK1.out; omega⟩, ⟨ua HO_7.out⟩, ⟨ua HO_37.out⟩, ⟨ua HO_111000.out⟩, ⟨ua HO_111001.out⟩, ⟨ub BK109.out⟩, ⟨ub BK110.out⟩, ⟨uc HB.out⟩⟩
         ·replace c31 := Bool.eq_false_iff.mpr c31
          subst c31
          have H1 : (if x7_1.length < 17592186044416 then (dl_Open.l0 k1 (x7_1 ++ [rd t132 x39_1]) t132 (t132.length : Int) (wrap64 (x39_1 + 1)) l1_0 l1_1 t122 y129) else (none)) = some (r1, r2, r3, r4) := by rw [if_neg (show ¬ (false = true) by decide)] at H; exact H
          clear H
          have H := H1
          clear H1
          by_cases c34 : x7_1.length < 17592186044416
          ·rw [if_pos c34] at H
           have LMc34 := am c34
           clear c34
           obtain ⟨y137, hy137⟩ : ∃ y_ : List Int, y_ = (x7_1 ++ [rd t132 x39_1]) := ⟨_, rfl⟩
           replace H : (dl_Open.l0 k1 y137 t132 (t132.length : Int) (wrap64 (x39_1 + 1)) l1_0 l1_1 t122 y129) = some (r1, r2, r3, r4) := by first | (rw [hy137]; with_reducible exact H) | (have H2_ := (Option.bind_some _ _).symm.trans H; rw [hy137]; with_reducible exact H2_) | (have H2_ := (Option.bind_some _ _).symm.trans H; with_reducible exact H2_) | with_reducible exact H | (rw [hy137]; exact H) | exact H
           have Ny137 := am hy137
           clear hy137
           have H' := am H
           clear H
           have p135 : 0 ≤ (x39_1 : Int) := ud
           have q135 : x39_1 < (t132.length : Int) := ud
           obtain ⟨ad135, e135, hx135_0⟩ := Kd.at_int (Kd.R_reads' HO_37.out).2.2 x39_1 p135 q135
           cases e135
           replace p135 := eq_true p135
           replace q135 := eq_true q135
           have hnb35 := NB109_110.out
           have hnc35 := NB110_109.out
           have hcz36_0 : wr.cell? ⟨gb109, 0, none⟩ = some (.slice A1_0 l1_0.length c1_0) := (blk_cell BK109.out 0).trans rfl
           have hcz36_1 : wr.cell? ⟨gb109, 1, none⟩ = some (.slice A1_1 l1_1.length c1_1) := (blk_cell BK109.out 1).trans rfl
           have hfz36_0 := blk_frozen BK109.out 0
           have hfz36_1 := blk_frozen BK109.out 1
           go_wp2_with (first | ((with_reducible refine gate_dst (N := 46) rfl ?_); (with_reducible refine gate_callee (f := 32) rfl ?_); refine gl (some 46) Try.func32 #[.slice A1_0 l1_0.length c1_0, .int .i64 (rd t132 x39_1)] ?_; (with_reducible refine (slices_Contains_int_int.calls k1 _ _ l1_0 (rd t132 x39_1) false _ ?side1 ?side2 A30.out).mono ?_); (case side1 => exact us (Kd.C_below HR1_0.out HB.out)); (case side2 => exact HC1_0.out); rintro e w' ⟨rfl, ⟨nd, rfl⟩⟩; refine ⟨_, rfl, ?_⟩) | ((with_reducible refine gate_builtin (b := .append) (xs := #[.tmp 48, .tmp 50]) rfl ?_); at_builtin; refine Kd.R_append (Kd.int .i64) (w0 := w) w.heap.size rfl (.tmp 48) (.tmp 50) 26 3 (.int .i64 0) 8 rfl Try.underlying26 info3 rfl (by decide) (by omega) u7 x7_1 (rd t132 x39_1) [.int .i64 (rd t132 x39_1)] (fun k_ => some k_ ≠ (.slice (some ad135) t132.length co26 : Value).ownBlock ∧ nw k_ Ao16 t122 co16 ∧ nw k_ Ao23 y129 co23) (fun _ => False) rfl rfl ?aP (fun _ hk => hk.elim) ?aF ?aO ?aB ?aS ?aL ?_; (case aP => exact rfl); (case aB => exact (uc HB.out)); (case aF => exact (fun k_ hk => ⟨Kd.fresh' (Kd.R_lt (ua HO_37.out)) k_ hk, Kd.fresh' (Kd.R_lt (ua HO_111000.out)) k_ hk, Kd.fresh' (Kd.R_lt (ua HO_111001.out)) k_ hk⟩)); (case aO => exact (ua HO_7.out)); (case aS => exact (below_size (uc HB.out))); (case aL => have := LMc34.out; omega); intro v138 w37 ho hb hg hat; rw [← Ny137.out] at ho; have n0_ := am (Kd.R_after (ok := (fun k_ => nw k_ Ao16 t122 co16 ∧ nw k_ Ao23 y129 co23)) (by (with_reducible repeat (first | apply Kd.R_alloc | apply Kd.R_drewN | apply Kd.R_drew)); exact Kd.R_mono HO_37.out (fun _ hk => ⟨⟨hk.2.1, hk.2.2⟩, hk.1⟩)) hg hat); have n1_ := am (Kd.R_after (ok := (fun k_ => some k_ ≠ (.slice (some ad135) t132.length co26 : Value).ownBlock ∧ nw k_ Ao23 y129 co23)) (by (with_reducible repeat (first | apply Kd.R_alloc | apply Kd.R_drewN | apply Kd.R_drew)); exact Kd.R_mono HO_111000.out (fun _ hk => ⟨⟨hk.2.1, hk.2.2⟩, hk.1⟩)) hg hat); have n2_ := am (Kd.R_after (ok := (fun k_ => some k_ ≠ (.slice (some ad135) t132.length co26 : Value).ownBlock ∧ nw k_ Ao16 t122 co16)) (by (with_reducible repeat (first | apply Kd.R_alloc | apply Kd.R_drewN | apply Kd.R_drew)); exact Kd.R_mono HO_111001.out (fun _ hk => ⟨⟨hk.2.1, hk.2.2⟩, hk.1⟩)) hg hat); have n3_ := am (blk_grown (g := gb109) (o := .cells #[.slice A1_0 l1_0.length c1_0, .slice A1_1 l1_1.length c1_1] 28 (0, 0)) (ub BK109.out) hg (Kd.R_ne HO_7.out BK109.out (by decide))); have n4_ := am (blk_grown (g := gb110) (o := .cells #[.slice Ao16 t122.length co16, .slice Ao23 y129.length co23] 28 (0, 0)) (ub BK110.out) hg (Kd.R_ne HO_7.out BK110.out (by decide))); have n5_ := am (hb); have n6_ := am (ho); revert n0_ n1_ n2_ n3_ n4_ n5_ n6_; clear HO_37 HO_111000 HO_111001 BK109 BK110 HB HO_7; intro HO_37 HO_111000 HO_111001 BK109 BK110 HB HO139; clear ho hb hg hat))
           go_roundg k1
           case measure => have := HK1.out; omega
           case rel => exact ⟨(y137), (wrap64 (x39_1 + 1)), uf, H', ⟨by have := HK1.out; omega⟩, ⟨ua HO139.out⟩, ⟨by (with_reducible repeat (first | apply Kd.R_alloc | apply Kd.R_drewN | apply Kd.R_drew)); exact Kd.R_mono HO_37.out (fun _ hk => ⟨hk.2, ⟨hk.1.1, hk.1.2⟩⟩)⟩, ⟨by (with_reducible repeat (first | apply Kd.R_alloc | apply Kd.R_drewN | apply Kd.R_drew)); exact Kd.R_mono HO_111000.out (fun _ hk => ⟨hk.2, ⟨hk.1.1, hk.1.2⟩⟩)⟩, ⟨by (with_reducible repeat (first | apply Kd.R_alloc | apply Kd.R_drewN | apply Kd.R_drew)); exact Kd.R_mono HO_111001.out (fun _ hk => ⟨hk.2, ⟨hk.1.1, hk.1.2⟩⟩)⟩, ⟨ub BK109.out⟩, ⟨ub BK110.out⟩, ⟨uc HB.out⟩⟩
          ·rw [if_neg c34] at H
           exact absurd H (by simp)
        ·rw [if_neg c29] at H
         exact absurd H (by simp)
       ·rw [if_neg c28] at H
        exact absurd H (by simp)
      ·rw [if_neg c27] at H
       have c27b0 : decide (x39_1 < (t132.length : Int)) = false := decide_eq_false c27
       clear c27
       by_cases c38 : t122.length + x7_1.length < 17592186044416
       ·rw [if_pos c38] at H
        have LMc38 := am c38
        clear c38
        obtain ⟨y140, hy140⟩ : ∃ y_ : List Int, y_ = (t122 ++ x7_1) := ⟨_, rfl⟩
        replace H : (some (y140, y129, x7_1, 0)) = some (r1, r2, r3, r4) := by first | (rw [hy140]; with_reducible exact H) | (have H2_ := (Option.bind_some _ _).symm.trans H; rw [hy140]; with_reducible exact H2_) | (have H2_ := (Option.bind_some _ _).symm.trans H; with_reducible exact H2_) | with_reducible exact H | (rw [hy140]; exact H) | exact H
        have Ny140 := am hy140
        clear hy140
        simp only [Option.some.injEq, Prod.mk.injEq] at H
        obtain ⟨rfl, rfl, rfl, rfl⟩ := H
        have hnb39 := NB110_109.out
        have hnc39 := NB109_110.out
        have hcz40_0 : wr.cell? ⟨gb110, 0, none⟩ = some (.slice Ao16 t122.length co16) := (blk_cell BK110.out 0).trans rfl
        have hcz40_1 : wr.cell? ⟨gb110, 1, none⟩ = some (.slice Ao23 y129.length co23) := (blk_cell BK110.out 1).trans rfl
        have hfz40_0 := blk_frozen BK110.out 0
        have hfz40_1 := blk_frozen BK110.out 1
        obtain ⟨Ao42, co42, eo42⟩ := Kd.R_slice HO_7.out
        subst eo42
        go_wp2_with (first | ((with_reducible refine gate_builtin (b := .append) (xs := #[.tmp 54, .tmp 55]) rfl ?_); at_builtin; refine Kd.R_append_rows (Kd.int .i64) (w0 := w) w.heap.size rfl (.tmp 54) (.tmp 55) 26 3 (.int .i64 0) 8 rfl Try.underlying26 info3 rfl (by decide) (by omega) (.slice Ao16 t122.length co16) t122 x7_1 _ _ _ (fun k_ => nw k_ Ao42 x7_1 co42 ∧ nw k_ Ao26 t132 co26 ∧ nw k_ Ao23 y129 co23) (fun _ => False) rfl rfl ?aO ?aR (fun _ _ h => h) (fun _ h => h.elim) ?aF ?aB ?aS ?aL ?_; (case aR => exact us (Kd.R_reads' HO_7.out).2.2); (case aB => exact (uc HB.out)); (case aF => exact (fun k_ hk => ⟨Kd.fresh' (Kd.R_lt (ua HO_7.out)) k_ hk, Kd.fresh' (Kd.R_lt (ua HO_37.out)) k_ hk, Kd.fresh' (Kd.R_lt (ua HO_111001.out)) k_ hk⟩)); (case aO => exact (ua HO_111000.out)); (case aS => exact (below_size (uc HB.out))); (case aL => have := LMc38.out; omega); intro v141 w41 ho hb hg hat; rw [← Ny140.out] at ho; have n0_ := am (Kd.R_after (ok := (fun k_ => nw k_ Ao26 t132 co26 ∧ nw k_ Ao23 y129 co23)) (by (with_reducible repeat (first | apply Kd.R_alloc | apply Kd.R_drewN | apply Kd.R_drew)); exact Kd.R_mono HO_7.out (fun _ hk => ⟨⟨hk.1, hk.2.2⟩, hk.2.1⟩)) hg hat); have n1_ := am (Kd.R_after (ok := (fun k_ => nw k_ Ao42 x7_1 co42 ∧ nw k_ Ao23 y129 co23)) (by (with_reducible repeat (first | apply Kd.R_alloc | apply Kd.R_drewN | apply Kd.R_drew)); exact Kd.R_mono HO_37.out (fun _ hk => ⟨⟨hk.1, hk.2.2⟩, hk.2.1⟩)) hg hat); have n2_ := am (Kd.R_after (ok := (fun k_ => nw k_ Ao42 x7_1 co42 ∧ nw k_ Ao26 t132 co26)) (by (with_reducible repeat (first | apply Kd.R_alloc | apply Kd.R_drewN | apply Kd.R_drew)); exact Kd.R_mono HO_111001.out (fun _ hk => ⟨⟨hk.1, hk.2.1⟩, hk.2.2⟩)) hg hat); have n3_ := am (blk_grown (g := gb109) (o := .cells #[.slice A1_0 l1_0.length c1_0, .slice A1_1 l1_1.length c1_1] 28 (0, 0)) (ub BK109.out) hg (Kd.R_ne HO_111000.out BK109.out (by decide))); have n4_ := am (blk_grown (g := gb110) (o := .cells #[.slice Ao16 t122.length co16, .slice Ao23 y129.length co23] 28 (0, 0)) (ub BK110.out) hg (Kd.R_ne HO_111000.out BK110.out (by decide))); have n5_ := am (hb); have n6_ := am (ho); revert n0_ n1_ n2_ n3_ n4_ n5_ n6_; clear HO_7 HO_37 HO_111001 BK109 BK110 HB HO_111000; intro HO_7 HO_37 HO_111001 BK109 BK110 HB HO142; clear ho hb hg hat; obtain ⟨Ao43, co43, eo43⟩ := Kd.R_slice HO142.out; subst eo43; obtain ⟨hcz44_0, hcz44_1, hfz44_0, hfz44_1⟩ := cells2 BK110.out) | ((with_reducible refine gate_store (t := 28) (p := 6) rfl ?_); refine store_event (t := 28) (p := 6) (v := ?vo_w45) (w1 := (((w41.setCell ⟨gb110, 0, none⟩ (.slice Ao43 y140.length co43)).setCell ⟨gb110, 0, none⟩ (.slice Ao43 y140.length co43)).setCell ⟨gb110, 1, none⟩ (.slice Ao23 y129.length co23))) ?hg ?ho ?hn ?hr ?_; (case ho => rfl); (case hg => rfl); (case hn => rfl); (case hr => first | (go_simp; done) | (go_simp; rfl)); intro w45 hw; have n0_ := st3 (fun k_ => nw k_ Ao26 t132 co26 ∧ nw k_ Ao23 y129 co23 ∧ nw k_ Ao43 y140 co43) hw HO_7 BK110 (fun _ h => ⟨h.1.1, h.1.2, h.2⟩); have n1_ := st3 (fun k_ => nw k_ Ao42 x7_1 co42 ∧ nw k_ Ao23 y129 co23 ∧ nw k_ Ao43 y140 co43) hw HO_37 BK110 (fun _ h => ⟨h.1.1, h.1.2, h.2⟩); have n2_ := st3 (fun k_ => nw k_ Ao42 x7_1 co42 ∧ nw k_ Ao26 t132 co26 ∧ nw k_ Ao43 y140 co43) hw HO_111001 BK110 (fun _ h => ⟨h.1.1, h.1.2, h.2⟩); have n3_ := st3 (fun k_ => nw k_ Ao42 x7_1 co42 ∧ nw k_ Ao26 t132 co26 ∧ nw k_ Ao23 y129 co23) hw HO142 BK110 (fun _ h => ⟨h.1, h.2.1, h.2.2⟩); have n4_ := bf3 hw NB109_110 BK109; have n5_ : Aside0 (w45.heap[gb110]? = some (.cells #[.slice Ao43 y140.length co43, .slice Ao23 y129.length co23] 28 (0, 0))) := ⟨(by rw [hw]; exact (by (with_reducible repeat (first | refine blk_drewN ?_ _ | refine blk_drew ?_ | refine blk_alloc ?_ _)); refine blk_put (cs := #[.slice Ao43 y140.length co43, .slice Ao23 y129.length co23]) ?_ 1 _ rfl; (with_reducible repeat (first | refine blk_drewN ?_ _ | refine blk_drew ?_ | refine blk_alloc ?_ _)); refine blk_put (cs := #[.slice Ao43 y140.length co43, .slice Ao23 y129.length co23]) ?_ 0 _ rfl; (with_reducible repeat (first | refine blk_drewN ?_ _ | refine blk_drew ?_ | refine blk_alloc ?_ _)); refine blk_put (cs := #[.slice Ao16 t122.length co16, .slice Ao23 y129.length co23]) ?_ 0 _ rfl; (with_reducible repeat (first | refine blk_drewN ?_ _ | refine blk_drew ?_ | refine blk_alloc ?_ _)); exact BK110.out))⟩; have n6_ : Aside0 (Below w.heap.size w w45) := ⟨(by rw [hw]; exact (uc HB.out))⟩; revert n0_ n1_ n2_ n3_ n4_ n5_ n6_; clear hw HO_7 HO_37 HO_111001 HO142 BK109 BK110 HB; intro HO_7 HO_37 HO_111001 HO142 BK109 BK110 HB))
        refine bodyPost_ret (results_ctt rfl _ _ gb110 28 #[.slice Ao43 y140.length co43, .slice Ao23 y129.length co23] (0, 0) _ rfl (ub BK110.out) Try.underlying28 rfl (by kernel_rfl)) rfl ?_
        exact ⟨_, _, _, by first | rfl | (simp [errW_none, errW_some] <;> rfl) | (simp [*, errW_none, errW_some] <;> rfl), by (with_reducible repeat (first | apply Kd.R_alloc | apply Kd.R_drewN | apply Kd.R_drew)); exact Kd.R_mono HO142.out (fun _ hk => ⟨hk.2.2, hk.1⟩), by (with_reducible repeat (first | apply Kd.R_alloc | apply Kd.R_drewN | apply Kd.R_drew)); exact Kd.R_mono HO_111001.out (fun _ hk => ⟨hk.2.2, hk.1⟩), by (with_reducible repeat (first | apply Kd.R_alloc | apply Kd.R_drewN | apply Kd.R_drew)); exact Kd.R_mono HO_7.out (fun _ hk => ⟨hk.2.2, hk.2.1⟩), uc HB.out⟩
       ·rw [if_neg c38] at H
        exact absurd H (by simp)
   ·rw [if_neg c8] at H
    exact absurd H (by simp)
  ·rw [if_neg c7] at H
   exact absurd H (by simp)
 ·rw [if_neg c5] at H
  have c5b0 : (t113 == 0) = false := beq_eq_false_iff_ne.mpr c5
  have c5b1 : (t113 != 0) = true := bne_iff_ne.mpr c5
  replace H := Option.bind_eq_some_iff.mp H
  obtain ⟨⟨t116, t119⟩, A460, H⟩ := H
  replace H : (some (t116, t119, ([] : List Int), t113)) = some (r1, r2, r3, r4) := H
  have A46 := am A460
  clear A460
  simp only [Option.some.injEq, Prod.mk.injEq] at H
  obtain ⟨rfl, rfl, rfl, rfl⟩ := H
  go_enter Try.func15, Try.ntmps15
  go_wp2_with (first | ((with_reducible refine gate_dst (N := 4) rfl ?_); refine box_event ?hg (N := 4) ?hd (cs := #[.slice A1_0 l1_0.length c1_0, .slice A1_1 l1_1.length c1_1]) (t := 28) ?hr ?_; (case hd => rfl); (case hg => rfl); (case hr => first | (go_simp; done) | (go_simp; rfl)); intro gb109 hg w47 hbox hb; have n0_ := am (below_step (uc HB.out) hb); have n1_ := am (hbox); have n2_ := am ((by rw [hg]; exact (below_size (uc HB.out)) : w.heap.size ≤ gb109)); have n3_ := am ((by rw [hg]; exact (below_size (uc HB.out)) : w.heap.size ≤ gb109)); revert n0_ n1_ n2_ n3_; clear HB; intro HB BK109 GW109 GE109; clear hb hbox hg) | ((with_reducible refine gate_dst (N := 6) rfl ?_); refine box_event ?hg (N := 6) ?hd (cs := #[.slice none 0 0, .slice none 0 0]) (t := 28) ?hr ?_; (case hd => rfl); (case hg => rfl); (case hr => first | (go_simp; done) | (go_simp; rfl)); intro gb110 hg w48 hbox hb; have n0_ := am (blk_below (g := gb109) (o := .cells #[.slice A1_0 l1_0.length c1_0, .slice A1_1 l1_1.length c1_1] 28 (0, 0)) (ub BK109.out) hb); have n1_ := am (below_step (uc HB.out) hb); have n2_ := am (hbox); have n3_ := am ((by rw [hg]; exact (below_size (uc HB.out)) : w.heap.size ≤ gb110)); have n4_ := am ((by rw [hg]; exact (below_size (uc HB.out)) : w.heap.size ≤ gb110)); have n5_ := am ((by rw [hg]; exact Nat.ne_of_lt (blk_lt (g := gb109) (o := .cells #[.slice A1_0 l1_0.length c1_0, .slice A1_1 l1_1.length c1_1] 28 (0, 0)) (ub BK109.out)) : gb109 ≠ gb110)); have n6_ := am ((by rw [hg]; exact Nat.ne_of_gt (blk_lt (g := gb109) (o := .cells #[.slice A1_0 l1_0.length c1_0, .slice A1_1 l1_1.length c1_1] 28 (0, 0)) (ub BK109.out)) : gb110 ≠ gb109)); revert n0_ n1_ n2_ n3_ n4_ n5_ n6_; clear BK109 HB; intro BK109 HB BK110 GW110 GE110 NB109_110 NB110_109; clear hb hbox hg) | ((with_reducible refine gate_dst (N := 16) rfl ?_); (with_reducible refine gate_callee (f := 29) rfl ?_); refine gl (some 16) Try.func29 #[.slice A0 l0.length c0, .string a2] ?_; (with_reducible refine (graph_Closure.calls _ _ l0 a2 t111 t112 t113 _ ?side1 ?side2 A4.out).mono ?_); (case side1 => exact us (Kd.C_below HR0.out HB.out)); (case side2 => exact HC0.out); rintro e w49 ⟨v114, rfl, ho0, hb⟩; refine ⟨_, rfl, ?_⟩; have n0_ := am (Kd.R_lower ho0 (below_size (uc HB.out))); have n1_ := am (blk_below (g := gb109) (o := .cells #[.slice A1_0 l1_0.length c1_0, .slice A1_1 l1_1.length c1_1] 28 (0, 0)) (ub BK109.out) hb); have n2_ := am (blk_below (g := gb110) (o := .cells #[.slice none 0 0, .slice none 0 0] 28 (0, 0)) (ub BK110.out) hb); have n3_ := am (below_step (uc HB.out) hb); revert n0_ n1_ n2_ n3_; clear BK109 BK110 HB; intro HO115 BK109 BK110 HB; (try clear hb); (try clear hb2); (try clear hk); (try clear hi); (try clear ho0); have hnb50 := NB109_110.out; have hnc50 := NB110_109.out; obtain ⟨hcz51_0, hcz51_1, hfz51_0, hfz51_1⟩ := cells2 BK109.out) | ((with_reducible refine gate_dst (N := 23) rfl ?_); (with_reducible refine gate_callee (f := 30) rfl ?_); refine gl (some 23) Try.func30 #[.agg #[.slice A1_0 l1_0.length c1_0, .slice A1_1 l1_1.length c1_1]] ?_; (with_reducible refine (dl_State_copied.calls _ _ l1_0 _ _ l1_1 t116 t119 _ ?side1 ?side2 ?side3 ?side4 A46.out).mono ?_); (case side1 => exact us (Kd.C_below HR1_0.out HB.out)); (case side2 => exact HC1_0.out); (case side3 => exact us (Kd.C_below HR1_1.out HB.out)); (case side4 => exact HC1_1.out); rintro e w52 ⟨v117, v120, rfl, ho0, ho1, hb⟩; refine ⟨_, rfl, ?_⟩; have n0_ := am (Kd.R_mono (Kd.R_told (Kd.R_told (Kd.R_old (ua HO115.out) hb) (Kd.R_base ho0)) (Kd.R_base ho1)) (fun _ h_ => h_.1)); have n1_ := am (Kd.R_lower (Kd.R_new' ho0 (Kd.R_lt (ua HO115.out))) (below_size (uc HB.out))); have n2_ := am (Kd.R_lower (Kd.R_new' ho1 (Kd.R_lt (ua HO115.out))) (below_size (uc HB.out))); have n3_ := am (blk_below (g := gb109) (o := .cells #[.slice A1_0 l1_0.length c1_0, .slice A1_1 l1_1.length c1_1] 28 (0, 0)) (ub BK109.out) hb); have n4_ := am (blk_below (g := gb110) (o := .cells #[.slice none 0 0, .slice none 0 0] 28 (0, 0)) (ub BK110.out) hb); have n5_ := am (below_step (uc HB.out) hb); revert n0_ n1_ n2_ n3_ n4_ n5_; clear HO115 BK109 BK110 HB; intro HO115 HO118 HO121 BK109 BK110 HB; (try clear hb); (try clear hb2); (try clear hk); (try clear hi); (try clear ho0); (try clear ho1); obtain ⟨Ao53, co53, eo53⟩ := Kd.R_slice HO118.out; subst eo53; obtain ⟨hcz54_0, hcz54_1, hfz54_0, hfz54_1⟩ := cells2 BK110.out; obtain ⟨Ao55, co55, eo55⟩ := Kd.R_slice HO121.out; subst eo55) | ((with_reducible refine gate_store (t := 28) (p := 6) rfl ?_); refine store_event (t := 28) (p := 6) (v := ?vo_w56) (w1 := ((w52.setCell ⟨gb110, 0, none⟩ (.slice Ao53 t116.length co53)).setCell ⟨gb110, 1, none⟩ (.slice Ao55 t119.length co55))) ?hg ?ho ?hn ?hr ?_; (case ho => rfl); (case hg => rfl); (case hn => rfl); (case hr => first | (go_simp; done) | (go_simp; rfl)); intro w56 hw; have n0_ := st2 (fun k_ => nw k_ Ao53 t116 co53 ∧ nw k_ Ao55 t119 co55) hw HO115 BK110 (fun _ h => ⟨h.1.2, h.2⟩); have n1_ := st2 (fun k_ => nv k_ v114 ∧ nw k_ Ao55 t119 co55) hw HO118 BK110 (fun _ h => ⟨h.2, h.1⟩); have n2_ := st2 (fun k_ => nv k_ v114 ∧ nw k_ Ao53 t116 co53) hw HO121 BK110 (fun _ h => ⟨h.2, h.1⟩); have n3_ := bf2 hw NB109_110 BK109; have n4_ := bp2 #[.slice Ao53 t116.length co53, .slice Ao55 t119.length co55] hw BK110; have n5_ : Aside0 (Below w.heap.size w w56) := ⟨(by rw [hw]; exact (uc HB.out))⟩; revert n0_ n1_ n2_ n3_ n4_ n5_; clear hw HO115 HO118 HO121 BK109 BK110 HB; intro HO115 HO118 HO121 BK109 BK110 HB))
  refine bodyPost_ret (results_ctt rfl _ _ gb110 28 #[.slice Ao53 t116.length co53, .slice Ao55 t119.length co55] (0, 0) _ rfl (ub BK110.out) Try.underlying28 rfl (by kernel_rfl)) rfl ?_
  exact ⟨_, _, _, by first | rfl | (simp [errW_none, errW_some] <;> rfl) | (simp [*, errW_none, errW_some] <;> rfl), by (with_reducible repeat (first | apply Kd.R_alloc | apply Kd.R_drewN | apply Kd.R_drew)); exact Kd.R_mono HO118.out (fun _ hk => ⟨hk.2, (by simp [Value.ownBlock])⟩), by (with_reducible repeat (first | apply Kd.R_alloc | apply Kd.R_drewN | apply Kd.R_drew)); exact Kd.R_mono HO121.out (fun _ hk => ⟨hk.2, (by simp [Value.ownBlock])⟩), by first | exact Kd.R_nil _ _ _ _ _ | exact Kd.N_nil _ _ _ _ _ | exact Kd.V_nil _ _ _ _ _ | exact Kd.Q_nil _ _ _ _ _ | exact Kd.S_nil _ _ _ _ _, uc HB.out⟩

def curtilageref10_Numbers.l0 : Nat → List Int → List Int → Int → Option (Bool)
  | 0, _, _, _ => none
  | k + 1, x0, x1, x5 => if x5 < (x0.length : Int) then (if 0 ≤ x5 then (if x5 < (x1.length : Int) then (if (rd x0 x5) = (rd x1 x5) then (curtilageref10_Numbers.l0 k x0 x1 (wrap64 (x5 + 1))) else (some false)) else (none)) else (none)) else (some true)
def curtilageref10_Numbers.f (k : Nat) (l0 : List Int) (l1 : List Int) : Option (Bool) := if (l0.length : Int) = (l1.length : Int) then (curtilageref10_Numbers.l0 k l0 l1 0) else (some false)
theorem curtilageref10_Numbers.mono_l : ∀ k, (∀ y0 y1 y2, LeO (curtilageref10_Numbers.l0 k y0 y1 y2) (curtilageref10_Numbers.l0 (k + 1) y0 y1 y2))
  | 0 => fun _ _ _ r h => by simp [curtilageref10_Numbers.l0] at h
  | k + 1 => by
    have ih0 := curtilageref10_Numbers.mono_l k
    · intro y0 y1 y2
      unfold curtilageref10_Numbers.l0
      repeat' first
      | (with_reducible exact ih0 _ _ _)
      | (with_reducible exact LeO.refl _)
      | (with_reducible exact LeO.none _)
      | (with_reducible refine LeO.ite ?_ ?_)
      | (with_reducible refine LeO.bind ?_ (fun _ => ?_))
      | exact ih0 _ _ _
      | exact LeO.none _
      | refine LeO.ite ?_ ?_
      | refine LeO.bind ?_ (fun _ => ?_)
theorem curtilageref10_Numbers.mono : ∀ a0 a1 k, LeO (curtilageref10_Numbers.f k a0 a1) (curtilageref10_Numbers.f (k + 1) a0 a1) := by
  intro a0 a1 k
  have ih0 := curtilageref10_Numbers.mono_l k
  unfold curtilageref10_Numbers.f
  repeat' first
      | (with_reducible exact ih0 _ _ _)
      | (with_reducible exact LeO.refl _)
      | (with_reducible exact LeO.none _)
      | (with_reducible refine LeO.ite ?_ ?_)
      | (with_reducible refine LeO.bind ?_ (fun _ => ?_))
      | exact ih0 _ _ _
      | exact LeO.none _
      | refine LeO.ite ?_ ?_
      | refine LeO.bind ?_ (fun _ => ?_)
set_option maxHeartbeats 8000000 in
set_option maxRecDepth 100000 in
theorem curtilageref10_Numbers.calls (k : Nat) (A0 : Option Addr) (c0 : Nat) (l0 : List Int) (A1 : Option Addr) (c1 : Nat) (l1 : List Int) (r : Bool) (w : World) (hr0 : Kd.C (Kd.int .i64) w A0 l0.length l0) (hc0 : l0.length ≤ c0) (hr1 : Kd.C (Kd.int .i64) w A1 l1.length l1) (hc1 : l1.length ≤ c1) (h : curtilageref10_Numbers.f k l0 l1 = some r) :
  Calls Try.prog 16 #[.slice A0 l0.length c0, .slice A1 l1.length c1] w fun e w' => e = .returned (.bool r) ∧ Drawn0 w w' := by
 have HR0 := am hr0
 have HC0 := am hc0
 clear hr0 hc0
 have HR1 := am hr1
 have HC1 := am hc1
 clear hr1 hc1
 have H : (if (l0.length : Int) = (l1.length : Int) then (curtilageref10_Numbers.l0 k l0 l1 0) else (some false)) = some r := h
 clear h
 by_cases c3 : (l0.length : Int) = (l1.length : Int)
 ·rw [if_pos c3] at H
  have c3b0 : ((l0.length : Int) == (l1.length : Int)) = true := beq_iff_eq.mpr c3
  have c3b1 : ((l0.length : Int) != (l1.length : Int)) = false := bne_eq_false_iff_eq.mpr c3
  have c3b2 : (l0.length == l1.length) = true := by first | simpa using c3 | (simp at c3 ⊢; omega)
  clear c3
  have H' := am H
  clear H
  go_enter Try.func16, Try.ntmps16
  go_wp2
  repeat (go_quiet (fail); try go_wp2)
  go_loopg [5] k (fun kq v5 w' => ∃ (x5_1 : Int), v5 = .int .i64 x5_1 ∧ Aside0 (curtilageref10_Numbers.l0 kq l0 l1 x5_1 = some r) ∧ Aside0 (kq ≤ k) ∧ Drawn0 w w')
  case atStart => exact ⟨(0), uf, H', ⟨Nat.le_refl _⟩, by repeat (first | exact Drawn0.refl _ | apply Drawn0.step)⟩
  case round =>
   clear H'
   try clear c1
   try clear p2
   try clear c3
   try clear c3b0
   try clear c3b1
   try clear c3b2
   obtain ⟨x5_1, rfl, HA, HK1, ⟨m1, rfl⟩⟩ := hrel
   cases gk with
   | zero => exact absurd HA.out (by simp [curtilageref10_Numbers.l0])
   | succ k1 =>
    have H := HA.out
    clear HA
    simp only [curtilageref10_Numbers.l0] at H
    by_cases c4 : x5_1 < (l0.length : Int)
    ·rw [if_pos c4] at H
     have c4b0 : decide (x5_1 < (l0.length : Int)) = true := decide_eq_true c4
     clear c4
     by_cases c5 : 0 ≤ x5_1
     ·rw [if_pos c5] at H
      have c5b0 : decide (0 ≤ x5_1) = true := decide_eq_true c5
      clear c5
      by_cases c6 : x5_1 < (l1.length : Int)
      ·rw [if_pos c6] at H
       have c6b0 : decide (x5_1 < (l1.length : Int)) = true := decide_eq_true c6
       clear c6
       by_cases c7 : (rd l0 x5_1) = (rd l1 x5_1)
       ·rw [if_pos c7] at H
        have c7b0 : ((rd l0 x5_1) == (rd l1 x5_1)) = true := beq_iff_eq.mpr c7
        have c7b1 : ((rd l0 x5_1) != (rd l1 x5_1)) = false := bne_eq_false_iff_eq.mpr c7
        clear c7
        have H' := am H
        clear H
        have p143 : 0 ≤ (x5_1 : Int) := ud
        have q143 : x5_1 < (l0.length : Int) := ud
        obtain ⟨ad143, e143, hx143_0⟩ := Kd.at_int HR0.out x5_1 p143 q143
        cases e143
        replace p143 := eq_true p143
        replace q143 := eq_true q143
        have p144 : 0 ≤ (x5_1 : Int) := ud
        have q144 : x5_1 < (l1.length : Int) := ud
        obtain ⟨ad144, e144, hx144_0⟩ := Kd.at_int HR1.out x5_1 p144 q144
        cases e144
        replace p144 := eq_true p144
        replace q144 := eq_true q144
        go_wp2
        repeat (go_quiet (fail); try go_wp2)
        go_roundg k1
        case measure => have := HK1.out; omega
        case rel => exact ⟨(wrap64 (x5_1 + 1)), uf, H', ⟨by have := HK1.out; omega⟩, by repeat (first | exact Drawn0.refl _ | apply Drawn0.step)⟩
       ·rw [if_neg c7] at H
        have c7b0 : ((rd l0 x5_1) == (rd l1 x5_1)) = false := beq_eq_false_iff_ne.mpr c7
        have c7b1 : ((rd l0 x5_1) != (rd l1 x5_1)) = true := bne_iff_ne.mpr c7
        obtain rfl := Option.some.inj H
        have p143 : 0 ≤ (x5_1 : Int) := ud
        have q143 : x5_1 < (l0.length : Int) := ud
        obtain ⟨ad143, e143, hx143_0⟩ := Kd.at_int HR0.out x5_1 p143 q143
        cases e143
        replace p143 := eq_true p143
        replace q143 := eq_true q143
        have p144 : 0 ≤ (x5_1 : Int) := ud
        have q144 : x5_1 < (l1.length : Int) := ud
        obtain ⟨ad144, e144, hx144_0⟩ := Kd.at_int HR1.out x5_1 p144 q144
        cases e144
        replace p144 := eq_true p144
        replace q144 := eq_true q144
        go_wp2
        repeat (go_quiet (fail); try go_wp2)
        go_ret
        exact ⟨by first | rfl | (simp; done) | (simp [*]; done), by repeat (first | exact Drawn0.refl _ | apply Drawn0.step)⟩
      ·rw [if_neg c6] at H
       exact absurd H (by simp)
     ·rw [if_neg c5] at H
      exact absurd H (by simp)
    ·rw [if_neg c4] at H
     have c4b0 : decide (x5_1 < (l0.length : Int)) = false := decide_eq_false c4
     clear c4
     obtain rfl := Option.some.inj H
     go_wp2
     repeat (go_quiet (fail); try go_wp2)
     go_ret
     exact ⟨by first | rfl | (simp; done) | (simp [*]; done), by repeat (first | exact Drawn0.refl _ | apply Drawn0.step)⟩
 ·rw [if_neg c3] at H
  have c3b0 : ((l0.length : Int) == (l1.length : Int)) = false := beq_eq_false_iff_ne.mpr c3
  have c3b1 : ((l0.length : Int) != (l1.length : Int)) = true := bne_iff_ne.mpr c3
  have c3b2 : (l0.length == l1.length) = false := by first | simpa using c3 | (simp at c3 ⊢; omega)
  obtain rfl := Option.some.inj H
  go_enter Try.func16, Try.ntmps16
  go_wp2
  repeat (go_quiet (fail); try go_wp2)
  go_ret
  exact ⟨by first | rfl | (simp; done) | (simp [*]; done), by repeat (first | exact Drawn0.refl _ | apply Drawn0.step)⟩

end Go.Proofs.Ytociaidhgefpiaa.P
