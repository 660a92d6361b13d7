/- What functions of the program, and of its laws, give, each proved of its code by a walk; no condition. -/
import Derived.Test.YtlbfeklpncoccaaKTableLessPx0
import Derived.Test.YtlbfeklpncoccaaKTableLessPx1
import Derived.Test.YtlbfeklpncoccaaKTableLessPy0
import Derived.Test.YtlbfeklpncoccaaKTableLessPx4
import Derived.Test.YtlbfeklpncoccaaKTableLessPx6
import Derived.Test.YtlbfeklpncoccaaKTableLessPx7
import Derived.Test.YtlbfeklpncoccaaKTableLessPx17
import Derived.Test.YtlbfeklpncoccaaKTableLessSq
import Derived.Test.YtlbfeklpncoccaaKTableLessUsh
import Derived.Test.YtlbfeklpncoccaaKTableLessUs4
namespace Go.Proofs.Ytlbfeklpncoccaa.P
open Go.RowKit Go.Proofs.YtlbfeklpncoccaaW.PrintWords Go.Proofs.YtlbfeklpncoccaaW.PrintLast Go.Proofs.YtlbfeklpncoccaaW.PrintMore
attribute [local go_sem] max2_int min2_int max_two min_two max_three min_three max_four min_four   -- for this text's walks alone
set_option linter.unusedVariables false
set_option linter.unusedSimpArgs false

def cap_Int.f (a0 : Int) : Option (Int × Int × Int × Int × Int × Bool) := some (0, 0, a0, 0, (-1), false)
set_option maxHeartbeats 8000000 in
set_option maxRecDepth 100000 in
theorem cap_Int.calls (a0 : Int) (r1 : Int) (r2 : Int) (r3 : Int) (r4 : Int) (r5 : Int) (r6 : Bool) (w : World) (h : cap_Int.f a0 = some (r1, r2, r3, r4, r5, r6)) :
  Calls Try.prog 81 #[.int .u64 a0] w fun e w' => e = .returned (.agg #[.int .u64 r1, .int .u64 r2, .int .u64 r3, .int .i64 r4, .int .i64 r5, .bool r6]) ∧ Below w.heap.size w w' := by
 have hu37 := Try.underlying37
 have HB := am (Below.refl w.heap.size w)
 have H : (some (0, 0, a0, 0, (-1), false)) = some (r1, r2, r3, r4, r5, r6) := h
 clear h
 simp only [Option.some.injEq, Prod.mk.injEq] at H
 obtain ⟨rfl, rfl, rfl, rfl, rfl, rfl⟩ := H
 go_enter Try.func81, Try.ntmps81
 go_wp2_with (first | ((with_reducible refine gate_dst (N := 2) rfl ?_); refine box_event ?hg (N := 2) ?hd (cs := #[.int .u64 0, .int .u64 0, .int .u64 0, .int .i64 0, .int .i64 0, .bool false]) (t := 37) ?hr ?_; (case hd => rfl); (case hg => rfl); (case hr => first | (go_simp; done) | (go_simp; rfl)); intro gb556 hg w2 hbox hb; have n0_ := bs HB hb; have n1_ := am (hbox); have n2_ := nz HB hg; have n3_ := nz HB hg; revert n0_ n1_ n2_ n3_; clear HB; intro HB BK556 GW556 GE556; clear hb hbox hg; have hcz3_0 : w2.cell? ⟨gb556, 0, none⟩ = some (.int .u64 0) := cz BK556 0; have hcz3_1 : w2.cell? ⟨gb556, 1, none⟩ = some (.int .u64 0) := cz BK556 1; have hcz3_2 : w2.cell? ⟨gb556, 2, none⟩ = some (.int .u64 0) := cz BK556 2; have hcz3_3 : w2.cell? ⟨gb556, 3, none⟩ = some (.int .i64 0) := cz BK556 3; have hcz3_4 : w2.cell? ⟨gb556, 4, none⟩ = some (.int .i64 0) := cz BK556 4; have hcz3_5 : w2.cell? ⟨gb556, 5, none⟩ = some (.bool false) := cz BK556 5; have hfz3_0 := fz BK556 0; have hfz3_1 := fz BK556 1; have hfz3_2 := fz BK556 2; have hfz3_3 := fz BK556 3; have hfz3_4 := fz BK556 4; have hfz3_5 := fz BK556 5) | ((with_reducible refine gate_store (t := 37) (p := 2) rfl ?_); refine store_event (t := 37) (p := 2) (v := ?vo_w4) (w1 := ((((((w2.setCell ⟨gb556, 0, none⟩ (.int .u64 0)).setCell ⟨gb556, 1, none⟩ (.int .u64 0)).setCell ⟨gb556, 2, none⟩ (.int .u64 a0)).setCell ⟨gb556, 3, none⟩ (.int .i64 0)).setCell ⟨gb556, 4, none⟩ (.int .i64 (-1))).setCell ⟨gb556, 5, none⟩ (.bool false))) ?hg ?ho ?hn ?hr ?_; (case ho => rfl); (case hg => rfl); (case hn => rfl); (case hr => first | (go_simp; done) | (go_simp; rfl)); intro w4 hw; have n0_ := bp6 #[.int .u64 0, .int .u64 0, .int .u64 a0, .int .i64 0, .int .i64 (-1), .bool false] hw BK556; have n1_ : Aside0 (Below w.heap.size w w4) := ⟨(by rw [hw]; exact (uc HB.out))⟩; revert n0_ n1_; clear hw BK556 HB; intro BK556 HB))
 refine bodyPost_ret (results_cell_row rfl _ _ gb556 37 #[.int .u64 0, .int .u64 0, .int .u64 a0, .int .i64 0, .int .i64 (-1), .bool false] (0, 0) _ rfl (ub BK556.out) Try.underlying37 rfl (by kernel_rfl)) rfl ?_
 exact ur (uc HB.out)

def cap_Null.f  : Option (Int × Int × Int × Int × Int × Bool) := (cap_Int.f 0).bind fun bt558 => (some (bt558.1, bt558.2.1, bt558.2.2.1, bt558.2.2.2.1, bt558.2.2.2.2.1, bt558.2.2.2.2.2))
set_option maxHeartbeats 8000000 in
set_option maxRecDepth 100000 in
theorem cap_Null.calls  (r1 : Int) (r2 : Int) (r3 : Int) (r4 : Int) (r5 : Int) (r6 : Bool) (w : World) (h : cap_Null.f  = some (r1, r2, r3, r4, r5, r6)) :
  Calls Try.prog 79 #[] w fun e w' => e = .returned (.agg #[.int .u64 r1, .int .u64 r2, .int .u64 r3, .int .i64 r4, .int .i64 r5, .bool r6]) ∧ Below w.heap.size w w' := by
 have hu37 := Try.underlying37
 have HB := am (Below.refl w.heap.size w)
 have H : ((cap_Int.f 0).bind fun bt558 => (some (bt558.1, bt558.2.1, bt558.2.2.1, bt558.2.2.2.1, bt558.2.2.2.2.1, bt558.2.2.2.2.2))) = some (r1, r2, r3, r4, r5, r6) := h
 clear h
 replace H := Option.bind_eq_some_iff.mp H
 obtain ⟨⟨t558, t559, t560, t561, t562, t563⟩, A10, H⟩ := H
 replace H : (some (t558, t559, t560, t561, t562, t563)) = some (r1, r2, r3, r4, r5, r6) := H
 have A1 := am A10
 clear A10
 simp only [Option.some.injEq, Prod.mk.injEq] at H
 obtain ⟨rfl, rfl, rfl, rfl, rfl, rfl⟩ := H
 go_enter Try.func79, Try.ntmps79
 go_wp2_with (first | ((with_reducible refine gate_dst (N := 0) rfl ?_); refine box_event ?hg (N := 0) ?hd (cs := #[.int .u64 0, .int .u64 0, .int .u64 0, .int .i64 0, .int .i64 0, .bool false]) (t := 37) ?hr ?_; (case hd => rfl); (case hg => rfl); (case hr => first | (go_simp; done) | (go_simp; rfl)); intro gb557 hg w2 hbox hb; have n0_ := bs HB hb; have n1_ := am (hbox); have n2_ := nz HB hg; have n3_ := nz HB hg; revert n0_ n1_ n2_ n3_; clear HB; intro HB BK557 GW557 GE557; clear hb hbox hg) | ((with_reducible refine gate_dst (N := 1) rfl ?_); (with_reducible refine gate_callee (f := 81) rfl ?_); refine gl (some 1) Try.func81 #[.int .u64 0] ?_; (with_reducible refine (cap_Int.calls 0 t558 t559 t560 t561 t562 t563 _ A1.out).mono ?_); rintro e w3 ⟨rfl, hb⟩; refine ⟨_, rfl, ?_⟩; have n0_ := bw BK557 hb; have n1_ := bs HB hb; revert n0_ n1_; clear BK557 HB; intro BK557 HB; (try clear hb); have hcz4_0 : w3.cell? ⟨gb557, 0, none⟩ = some (.int .u64 0) := cz BK557 0; have hcz4_1 : w3.cell? ⟨gb557, 1, none⟩ = some (.int .u64 0) := cz BK557 1; have hcz4_2 : w3.cell? ⟨gb557, 2, none⟩ = some (.int .u64 0) := cz BK557 2; have hcz4_3 : w3.cell? ⟨gb557, 3, none⟩ = some (.int .i64 0) := cz BK557 3; have hcz4_4 : w3.cell? ⟨gb557, 4, none⟩ = some (.int .i64 0) := cz BK557 4; have hcz4_5 : w3.cell? ⟨gb557, 5, none⟩ = some (.bool false) := cz BK557 5; have hfz4_0 := fz BK557 0; have hfz4_1 := fz BK557 1; have hfz4_2 := fz BK557 2; have hfz4_3 := fz BK557 3; have hfz4_4 := fz BK557 4; have hfz4_5 := fz BK557 5) | ((with_reducible refine gate_store (t := 37) (p := 0) rfl ?_); refine store_event (t := 37) (p := 0) (v := ?vo_w5) (w1 := ((((((w3.setCell ⟨gb557, 0, none⟩ (.int .u64 t558)).setCell ⟨gb557, 1, none⟩ (.int .u64 t559)).setCell ⟨gb557, 2, none⟩ (.int .u64 t560)).setCell ⟨gb557, 3, none⟩ (.int .i64 t561)).setCell ⟨gb557, 4, none⟩ (.int .i64 t562)).setCell ⟨gb557, 5, none⟩ (.bool t563))) ?hg ?ho ?hn ?hr ?_; (case ho => rfl); (case hg => rfl); (case hn => rfl); (case hr => first | (go_simp; done) | (go_simp; rfl)); intro w5 hw; have n0_ := bp6 #[.int .u64 t558, .int .u64 t559, .int .u64 t560, .int .i64 t561, .int .i64 t562, .bool t563] hw BK557; have n1_ : Aside0 (Below w.heap.size w w5) := ⟨(by rw [hw]; exact (uc HB.out))⟩; revert n0_ n1_; clear hw BK557 HB; intro BK557 HB))
 refine bodyPost_ret (results_cell_row rfl _ _ gb557 37 #[.int .u64 t558, .int .u64 t559, .int .u64 t560, .int .i64 t561, .int .i64 t562, .bool t563] (0, 0) _ rfl (ub BK557.out) Try.underlying37 rfl (by kernel_rfl)) rfl ?_
 exact ur (uc HB.out)

def table_bytes_caps.f (a0_0 : Int) (a0_1 : Int) (a0_2 : Int) (a0_3 : Int) (a0_4 : Int) (a0_5 : Bool) (a1 : Bool) : Option ((List (S37))) := if a1 = true then ((cap_Null.f).bind fun bt565 => (some (([(⟨a0_0, a0_1, a0_2, a0_3, a0_4, a0_5⟩ : S37), (⟨bt565.1, bt565.2.1, bt565.2.2.1, bt565.2.2.2.1, bt565.2.2.2.2.1, bt565.2.2.2.2.2⟩ : S37)] : List (S37))))) else (some (([(⟨a0_0, a0_1, a0_2, a0_3, a0_4, a0_5⟩ : S37)] : List (S37))))
set_option maxHeartbeats 8000000 in
set_option maxRecDepth 100000 in
theorem table_bytes_caps.calls (a0_0 : Int) (a0_1 : Int) (a0_2 : Int) (a0_3 : Int) (a0_4 : Int) (a0_5 : Bool) (a1 : Bool) (r : List (S37)) (w : World) (h : table_bytes_caps.f a0_0 a0_1 a0_2 a0_3 a0_4 a0_5 a1 = some r) :
  Calls Try.prog 80 #[.agg #[.int .u64 a0_0, .int .u64 a0_1, .int .u64 a0_2, .int .i64 a0_3, .int .i64 a0_4, .bool a0_5], .bool a1] w fun e w' => ∃ v0_ : Value, e = .returned (v0_) ∧ Kd.R k37 37 w' w.heap.size (fun _ => True) v0_ r ∧ Below w.heap.size w w' := by
 have hu80 := Try.underlying80
 have hu37 := Try.underlying37
 have HB := am (Below.refl w.heap.size w)
 have H : (if a1 = true then ((cap_Null.f).bind fun bt565 => (some (([(⟨a0_0, a0_1, a0_2, a0_3, a0_4, a0_5⟩ : S37), (⟨bt565.1, bt565.2.1, bt565.2.2.1, bt565.2.2.2.1, bt565.2.2.2.2.1, bt565.2.2.2.2.2⟩ : S37)] : List (S37))))) else (some (([(⟨a0_0, a0_1, a0_2, a0_3, a0_4, a0_5⟩ : S37)] : List (S37))))) = some r := h
 clear h
 by_cases c3 : a1 = true
 ·subst c3
  have H1 : ((cap_Null.f).bind fun bt565 => (some (([(⟨a0_0, a0_1, a0_2, a0_3, a0_4, a0_5⟩ : S37), (⟨bt565.1, bt565.2.1, bt565.2.2.1, bt565.2.2.2.1, bt565.2.2.2.2.1, bt565.2.2.2.2.2⟩ : S37)] : List (S37))))) = some r := by rw [if_pos rfl] at H; exact H
  clear H
  have H := H1
  clear H1
  replace H := Option.bind_eq_some_iff.mp H
  obtain ⟨⟨t565, t566, t567, t568, t569, t570⟩, A40, H⟩ := H
  replace H : (some (([(⟨a0_0, a0_1, a0_2, a0_3, a0_4, a0_5⟩ : S37), (⟨t565, t566, t567, t568, t569, t570⟩ : S37)] : List (S37)))) = some r := H
  have A4 := am A40
  clear A40
  obtain ⟨y571, hy571⟩ : ∃ y_ : List (S37), y_ = (([(⟨a0_0, a0_1, a0_2, a0_3, a0_4, a0_5⟩ : S37), (⟨t565, t566, t567, t568, t569, t570⟩ : S37)] : List (S37))) := ⟨_, rfl⟩
  replace H : (some y571) = some r := by first | (rw [hy571]; with_reducible exact H) | (have H2_ := (Option.bind_some _ _).symm.trans H; rw [hy571]; with_reducible exact H2_) | (have H2_ := (Option.bind_some _ _).symm.trans H; with_reducible exact H2_) | with_reducible exact H | (rw [hy571]; exact H) | exact H
  have Ny571 := am hy571
  clear hy571
  obtain rfl := Option.some.inj H
  go_enter Try.func80, Try.ntmps80
  try go_wp2_with (first | ((with_reducible refine gate_dst (N := 2) rfl ?_); refine box_event ?hg (N := 2) ?hd (cs := #[.int .u64 a0_0, .int .u64 a0_1, .int .u64 a0_2, .int .i64 a0_3, .int .i64 a0_4, .bool a0_5]) (t := 80) ?hr ?_; (case hd => rfl); (case hg => rfl); (case hr => first | (go_simp; done) | (go_simp; rfl)); intro gb564 hg w5 hbox hb; have n0_ := bs HB hb; have n1_ := am (hbox); have n2_ := nz HB hg; have n3_ := nz HB hg; revert n0_ n1_ n2_ n3_; clear HB; intro HB BK564 GW564 GE564; clear hb hbox hg))
  have n0_ := am (blk_drew BK564.out)
  have n1_ := am (below_drew1 HB.out)
  revert n0_ n1_
  clear BK564 HB
  intro BK564 HB
  refine sr 5 [] (hE6 BK564) (fun hHeld => ?_)
  generalize w5.drew = w6 at BK564 HB hHeld ⊢
  refine pure_ (i := 0) (N := some 6) (v := ?_) (a' := ?_) #[true, false, false, false, false] rfl rfl (by kernel_rfl) (fun _ _ _ h => h) (Or.inl ⟨by rfl, ?_⟩) ?_ ?_
  rotate_left
  ·intro w'
   go_simp
   with_reducible rfl
  rotate_left
  ·simp only [Act.put, List.setIfInBounds_toArray, List.set_cons_zero, List.set_cons_succ, i64_w, i32_w]
   rfl
  refine take_ (i := 1) (N := some 7) (v := ?_) (a' := ?_) #[true, true, false, false, false] rfl rfl (by kernel_rfl) (fun _ _ _ h => h) (Or.inl ⟨by rfl, ?_⟩) hHeld ?_ ?_
  rotate_left
  ·rintro w' ⟨s0, s1, s2, s3, s4, s5⟩
   go_simp
   with_reducible rfl
  rotate_left
  ·simp only [Act.put, List.setIfInBounds_toArray, List.set_cons_zero, List.set_cons_succ, i64_w, i32_w]
   rfl
  refine one_ (i := 2) (N := some 8) #[true, true, true, false, false] rfl rfl (by kernel_rfl) (by decide) (fun K hK => ?_)
  refine goes_ Try.func79 (by kernel_rfl) rfl #[] (by rfl) rfl rfl (by (try simp only [List.map_toArray, List.map_cons, List.map_nil]); first | done | rfl | (simp only [List.length_drop, List.length_take]; rfl)) ?_
  with_reducible refine (cap_Null.calls  t565 t566 t567 t568 t569 t570 _ A4.out).mono ?_
  rintro e w7 ⟨rfl, hb⟩
  refine ⟨_, rfl, ?_⟩
  have n0_ := bw BK564 hb
  have n1_ := bs HB hb
  revert n0_ n1_
  clear BK564 HB
  intro BK564 HB
  (try clear hb)
  (try clear hb2)
  (try clear hk)
  (try clear hi)
  refine hK.out _ _ ⟨cz BK564 0, cz BK564 1, cz BK564 2, cz BK564 3, cz BK564 4, cz BK564 5⟩ (fun hHeld => ?_)
  clear hK K
  refine norm_ (a' := ?_) ?_ ?_
  rotate_left
  ·show Act.put _ (some 8) _ = _
   simp only [Act.put, List.setIfInBounds_toArray, List.set_cons_zero, List.set_cons_succ, i64_w, i32_w]
   rfl
  refine one_ (i := 3) (N := some 9) #[true, true, true, true, false] rfl rfl (by kernel_rfl) (by decide) (fun K hK => ?_)
  refine Kd.R_lit_step k37 _ 37 ?hg (N := 9) ?hd (xs := ([(⟨a0_0, a0_1, a0_2, a0_3, a0_4, a0_5⟩ : S37), (⟨t565, t566, t567, t568, t569, t570⟩ : S37)] : List (S37))) (inner := [.int .u64 a0_0, .int .u64 a0_1, .int .u64 a0_2, .int .i64 a0_3, .int .i64 a0_4, .bool a0_5, .int .u64 t565, .int .u64 t566, .int .u64 t567, .int .i64 t568, .int .i64 t569, .bool t570]) (ok := fun _ => True) (okp := fun _ => True) ?hr ?hp (fun _ hk => hk) trivial (Below.refl _ _) (Nat.le_refl _) (by simp) ?_; (case hd => rfl); (case hg => rfl); (case hr => first | (go_simp; done) | (go_simp; rfl)); (case hp => exact (Reps.c6 (show Kd.M k37 _ _ _ (⟨a0_0, a0_1, a0_2, a0_3, a0_4, a0_5⟩ : S37) [.int .u64 a0_0, .int .u64 a0_1, .int .u64 a0_2, .int .i64 a0_3, .int .i64 a0_4, .bool a0_5] from (k37_mkM _ _ _ (⟨a0_0, a0_1, a0_2, a0_3, a0_4, a0_5⟩ : S37) )) (Reps.c6 (show Kd.M k37 _ _ _ (⟨t565, t566, t567, t568, t569, t570⟩ : S37) [.int .u64 t565, .int .u64 t566, .int .u64 t567, .int .i64 t568, .int .i64 t569, .bool t570] from (k37_mkM _ _ _ (⟨t565, t566, t567, t568, t569, t570⟩ : S37) )) (Reps.none _ _))))
  intro v572 w8 ho9 hb hg_ hnew_
  clear hg_ hnew_
  (first | rw [← Ny571.out] at ho9 | (simp only [Int.reduceToNat] at ho9; rw [← Ny571.out] at ho9))
  have n0_ := am (Kd.R_lower ho9 (below_size (uc HB.out)))
  have n1_ := bw BK564 hb
  have n2_ := bs HB hb
  revert n0_ n1_ n2_
  clear BK564 HB
  intro HO573 BK564 HB
  clear hb ho9
  refine hK.out _ _ ⟨cz BK564 0, cz BK564 1, cz BK564 2, cz BK564 3, cz BK564 4, cz BK564 5⟩ (fun hHeld => ?_)
  clear hK K
  refine norm_ (a' := ?_) ?_ ?_
  rotate_left
  ·show Act.put _ (some 9) _ = _
   simp only [Act.put, List.setIfInBounds_toArray, List.set_cons_zero, List.set_cons_succ, i64_w, i32_w]
   rfl
  refine pure_ (i := 4) (N := some 4) (v := ?_) (a' := ?_) #[true, true, true, true, true] rfl rfl (by kernel_rfl) (fun _ _ _ h => h) (Or.inl ⟨by rfl, ?_⟩) ?_ ?_
  rotate_left
  ·intro w'
   go_simp
   with_reducible rfl
  rotate_left
  ·simp only [Act.put, List.setIfInBounds_toArray, List.set_cons_zero, List.set_cons_succ, i64_w, i32_w]
   rfl
  refine done_ (by kernel_rfl) ?_
  try go_wp2
  go_ret
  exact ⟨_, by first | rfl | (simp [errW_none, errW_some] <;> rfl) | (simp [*, errW_none, errW_some] <;> rfl), ua HO573.out, uc HB.out⟩
 ·replace c3 := Bool.eq_false_iff.mpr c3
  subst c3
  have H1 : (some (([(⟨a0_0, a0_1, a0_2, a0_3, a0_4, a0_5⟩ : S37)] : List (S37)))) = some r := by rw [if_neg (show ¬ (false = true) by decide)] at H; exact H
  clear H
  have H := H1
  clear H1
  obtain ⟨y574, hy574⟩ : ∃ y_ : List (S37), y_ = (([(⟨a0_0, a0_1, a0_2, a0_3, a0_4, a0_5⟩ : S37)] : List (S37))) := ⟨_, rfl⟩
  replace H : (some y574) = some r := by first | (rw [hy574]; with_reducible exact H) | (have H2_ := (Option.bind_some _ _).symm.trans H; rw [hy574]; with_reducible exact H2_) | (have H2_ := (Option.bind_some _ _).symm.trans H; with_reducible exact H2_) | with_reducible exact H | (rw [hy574]; exact H) | exact H
  have Ny574 := am hy574
  clear hy574
  obtain rfl := Option.some.inj H
  go_enter Try.func80, Try.ntmps80
  go_wp2_with (first | ((with_reducible refine gate_dst (N := 2) rfl ?_); refine box_event ?hg (N := 2) ?hd (cs := #[.int .u64 a0_0, .int .u64 a0_1, .int .u64 a0_2, .int .i64 a0_3, .int .i64 a0_4, .bool a0_5]) (t := 80) ?hr ?_; (case hd => rfl); (case hg => rfl); (case hr => first | (go_simp; done) | (go_simp; rfl)); intro gb564 hg w10 hbox hb; have n0_ := bs HB hb; have n1_ := am (hbox); have n2_ := nz HB hg; have n3_ := nz HB hg; revert n0_ n1_ n2_ n3_; clear HB; intro HB BK564 GW564 GE564; clear hb hbox hg; have hcz11_0 : w10.cell? ⟨gb564, 0, none⟩ = some (.int .u64 a0_0) := cz BK564 0; have hcz11_1 : w10.cell? ⟨gb564, 1, none⟩ = some (.int .u64 a0_1) := cz BK564 1; have hcz11_2 : w10.cell? ⟨gb564, 2, none⟩ = some (.int .u64 a0_2) := cz BK564 2; have hcz11_3 : w10.cell? ⟨gb564, 3, none⟩ = some (.int .i64 a0_3) := cz BK564 3; have hcz11_4 : w10.cell? ⟨gb564, 4, none⟩ = some (.int .i64 a0_4) := cz BK564 4; have hcz11_5 : w10.cell? ⟨gb564, 5, none⟩ = some (.bool a0_5) := cz BK564 5; have hfz11_0 := fz BK564 0; have hfz11_1 := fz BK564 1; have hfz11_2 := fz BK564 2; have hfz11_3 := fz BK564 3; have hfz11_4 := fz BK564 4; have hfz11_5 := fz BK564 5) | ((with_reducible refine gate_dst (N := 12) rfl ?_); refine Kd.R_lit k37 _ 37 ?hg (N := 12) ?hd (xs := ([(⟨a0_0, a0_1, a0_2, a0_3, a0_4, a0_5⟩ : S37)] : List (S37))) (inner := [.int .u64 a0_0, .int .u64 a0_1, .int .u64 a0_2, .int .i64 a0_3, .int .i64 a0_4, .bool a0_5]) (ok := fun _ => True) (okp := fun _ => True) ?hr ?hp (fun _ hk => hk) trivial (Below.refl _ _) (Nat.le_refl _) (by simp) ?_; (case hd => rfl); (case hg => rfl); (case hr => first | (go_simp; done) | (go_simp; rfl)); (case hp => exact (Reps.c6 (show Kd.M k37 _ _ _ (⟨a0_0, a0_1, a0_2, a0_3, a0_4, a0_5⟩ : S37) [.int .u64 a0_0, .int .u64 a0_1, .int .u64 a0_2, .int .i64 a0_3, .int .i64 a0_4, .bool a0_5] from (k37_mkM _ _ _ (⟨a0_0, a0_1, a0_2, a0_3, a0_4, a0_5⟩ : S37) )) (Reps.none _ _))); intro v575 w12 ho13 hb hg_ hnew_; clear hg_ hnew_; (first | rw [← Ny574.out] at ho13 | (simp only [Int.reduceToNat] at ho13; rw [← Ny574.out] at ho13)); have n0_ := am (Kd.R_lower ho13 (below_size (uc HB.out))); have n1_ := bw BK564 hb; have n2_ := bs HB hb; revert n0_ n1_ n2_; clear BK564 HB; intro HO576 BK564 HB; clear hb ho13))
  go_ret
  exact ⟨_, by first | rfl | (simp [errW_none, errW_some] <;> rfl) | (simp [*, errW_none, errW_some] <;> rfl), ua HO576.out, uc HB.out⟩

def table_none_caps.f (a0 : Int) (a1 : Bool) : Option ((List (S37))) := (cap_Null.f).bind fun bt578 => ((table_bytes_caps.f bt578.1 bt578.2.1 bt578.2.2.1 bt578.2.2.2.1 bt578.2.2.2.2.1 bt578.2.2.2.2.2 a1).bind fun t584 => (some t584))
set_option maxHeartbeats 8000000 in
set_option maxRecDepth 100000 in
theorem table_none_caps.calls (a0 : Int) (a1 : Bool) (r : List (S37)) (w : World) (h : table_none_caps.f a0 a1 = some r) :
  Calls Try.prog 78 #[.agg #[], .bool a1] w fun e w' => ∃ v0_ : Value, e = .returned (v0_) ∧ Kd.R k37 37 w' w.heap.size (fun _ => True) v0_ r ∧ Below w.heap.size w w' := by
 have hu80 := Try.underlying80
 have HB := am (Below.refl w.heap.size w)
 have H : ((cap_Null.f).bind fun bt578 => ((table_bytes_caps.f bt578.1 bt578.2.1 bt578.2.2.1 bt578.2.2.2.1 bt578.2.2.2.2.1 bt578.2.2.2.2.2 a1).bind fun t584 => (some t584))) = some r := h
 clear h
 replace H := Option.bind_eq_some_iff.mp H
 obtain ⟨⟨t578, t579, t580, t581, t582, t583⟩, A30, H⟩ := H
 replace H : ((table_bytes_caps.f t578 t579 t580 t581 t582 t583 a1).bind fun t584 => (some t584)) = some r := H
 have A3 := am A30
 clear A30
 replace H := Option.bind_eq_some_iff.mp H
 obtain ⟨t584, A40, H⟩ := H
 replace H : (some t584) = some r := H
 have A4 := am A40
 clear A40
 obtain rfl := Option.some.inj H
 go_enter Try.func78, Try.ntmps78
 go_wp2_with (first | ((with_reducible refine gate_dst (N := 2) rfl ?_); refine box_event ?hg (N := 2) ?hd (cs := #[]) (t := 74) ?hr ?_; (case hd => rfl); (case hg => rfl); (case hr => first | (go_simp; done) | (go_simp; rfl)); intro gb577 hg w5 hbox hb; have n0_ := bs HB hb; have n1_ := am (hbox); have n2_ := nz HB hg; have n3_ := nz HB hg; revert n0_ n1_ n2_ n3_; clear HB; intro HB BK577 GW577 GE577; clear hb hbox hg) | ((with_reducible refine gate_callee (f := 79) rfl ?_); refine gl (some 5) Try.func79 #[] ?_; (with_reducible refine (cap_Null.calls  t578 t579 t580 t581 t582 t583 _ A3.out).mono ?_); rintro e w6 ⟨rfl, hb⟩; refine ⟨_, rfl, ?_⟩; have n0_ := bw BK577 hb; have n1_ := bs HB hb; revert n0_ n1_; clear BK577 HB; intro BK577 HB; (try clear hb)) | ((with_reducible refine gate_callee (f := 80) rfl ?_); refine gl (some 8) Try.func80 #[.agg #[.int .u64 t578, .int .u64 t579, .int .u64 t580, .int .i64 t581, .int .i64 t582, .bool t583], .bool a1] ?_; (with_reducible refine (table_bytes_caps.calls t578 t579 t580 t581 t582 t583 a1 t584 _ A4.out).mono ?_); rintro e w7 ⟨v585, rfl, ho0, hb⟩; refine ⟨_, rfl, ?_⟩; have n0_ := am (Kd.R_lower ho0 (below_size (uc HB.out))); have n1_ := bw BK577 hb; have n2_ := bs HB hb; revert n0_ n1_ n2_; clear BK577 HB; intro HO586 BK577 HB; (try clear hb); (try clear ho0)))
 go_ret
 exact ⟨_, by first | rfl | (simp [errW_none, errW_some] <;> rfl) | (simp [*, errW_none, errW_some] <;> rfl), ua HO586.out, uc HB.out⟩

def table_entry_caps.f (a0_0 : Int) (a0_1 : Int) (a0_2 : Int) (a0_3 : Int) (a0_4 : Int) (a0_5 : Bool) (a0_6 : Int) (a0_7 : Int) (a0_8 : Int) (a0_9 : Int) (a0_10 : Int) (a0_11 : Bool) (a1 : Bool) : Option ((List (S37))) := if a1 = true then (some (([(⟨a0_0, a0_1, a0_2, a0_3, a0_4, a0_5⟩ : S37), (⟨a0_6, a0_7, a0_8, a0_9, a0_10, a0_11⟩ : S37)] : List (S37)))) else (some (([(⟨a0_0, a0_1, a0_2, a0_3, a0_4, a0_5⟩ : S37)] : List (S37))))
set_option maxHeartbeats 8000000 in
set_option maxRecDepth 100000 in
theorem table_entry_caps.calls (a0_0 : Int) (a0_1 : Int) (a0_2 : Int) (a0_3 : Int) (a0_4 : Int) (a0_5 : Bool) (a0_6 : Int) (a0_7 : Int) (a0_8 : Int) (a0_9 : Int) (a0_10 : Int) (a0_11 : Bool) (a1 : Bool) (r : List (S37)) (w : World) (h : table_entry_caps.f a0_0 a0_1 a0_2 a0_3 a0_4 a0_5 a0_6 a0_7 a0_8 a0_9 a0_10 a0_11 a1 = some r) :
  Calls Try.prog 82 #[.agg #[.int .u64 a0_0, .int .u64 a0_1, .int .u64 a0_2, .int .i64 a0_3, .int .i64 a0_4, .bool a0_5, .int .u64 a0_6, .int .u64 a0_7, .int .u64 a0_8, .int .i64 a0_9, .int .i64 a0_10, .bool a0_11], .bool a1] w fun e w' => ∃ v0_ : Value, e = .returned (v0_) ∧ Kd.R k37 37 w' w.heap.size (fun _ => True) v0_ r ∧ Below w.heap.size w w' := by
 have hu78 := Try.underlying78
 have hu37 := Try.underlying37
 have HB := am (Below.refl w.heap.size w)
 have H : (if a1 = true then (some (([(⟨a0_0, a0_1, a0_2, a0_3, a0_4, a0_5⟩ : S37), (⟨a0_6, a0_7, a0_8, a0_9, a0_10, a0_11⟩ : S37)] : List (S37)))) else (some (([(⟨a0_0, a0_1, a0_2, a0_3, a0_4, a0_5⟩ : S37)] : List (S37))))) = some r := h
 clear h
 by_cases c3 : a1 = true
 ·subst c3
  have H1 : (some (([(⟨a0_0, a0_1, a0_2, a0_3, a0_4, a0_5⟩ : S37), (⟨a0_6, a0_7, a0_8, a0_9, a0_10, a0_11⟩ : S37)] : List (S37)))) = some r := by rw [if_pos rfl] at H; exact H
  clear H
  have H := H1
  clear H1
  obtain ⟨y588, hy588⟩ : ∃ y_ : List (S37), y_ = (([(⟨a0_0, a0_1, a0_2, a0_3, a0_4, a0_5⟩ : S37), (⟨a0_6, a0_7, a0_8, a0_9, a0_10, a0_11⟩ : S37)] : List (S37))) := ⟨_, rfl⟩
  replace H : (some y588) = some r := by first | (rw [hy588]; with_reducible exact H) | (have H2_ := (Option.bind_some _ _).symm.trans H; rw [hy588]; with_reducible exact H2_) | (have H2_ := (Option.bind_some _ _).symm.trans H; with_reducible exact H2_) | with_reducible exact H | (rw [hy588]; exact H) | exact H
  have Ny588 := am hy588
  clear hy588
  obtain rfl := Option.some.inj H
  go_enter Try.func82, Try.ntmps82
  go_wp2_with (first | ((with_reducible refine gate_dst (N := 2) rfl ?_); refine box_event ?hg (N := 2) ?hd (cs := #[.int .u64 a0_0, .int .u64 a0_1, .int .u64 a0_2, .int .i64 a0_3, .int .i64 a0_4, .bool a0_5, .int .u64 a0_6, .int .u64 a0_7, .int .u64 a0_8, .int .i64 a0_9, .int .i64 a0_10, .bool a0_11]) (t := 78) ?hr ?_; (case hd => rfl); (case hg => rfl); (case hr => first | (go_simp; done) | (go_simp; rfl)); intro gb587 hg w4 hbox hb; have n0_ := bs HB hb; have n1_ := am (hbox); have n2_ := nz HB hg; have n3_ := nz HB hg; revert n0_ n1_ n2_ n3_; clear HB; intro HB BK587 GW587 GE587; clear hb hbox hg; have hcz5_0 : w4.cell? ⟨gb587, 0, none⟩ = some (.int .u64 a0_0) := cz BK587 0; have hcz5_1 : w4.cell? ⟨gb587, 1, none⟩ = some (.int .u64 a0_1) := cz BK587 1; have hcz5_2 : w4.cell? ⟨gb587, 2, none⟩ = some (.int .u64 a0_2) := cz BK587 2; have hcz5_3 : w4.cell? ⟨gb587, 3, none⟩ = some (.int .i64 a0_3) := cz BK587 3; have hcz5_4 : w4.cell? ⟨gb587, 4, none⟩ = some (.int .i64 a0_4) := cz BK587 4; have hcz5_5 : w4.cell? ⟨gb587, 5, none⟩ = some (.bool a0_5) := cz BK587 5; have hcz5_6 : w4.cell? ⟨gb587, 6, none⟩ = some (.int .u64 a0_6) := cz BK587 6; have hcz5_7 : w4.cell? ⟨gb587, 7, none⟩ = some (.int .u64 a0_7) := cz BK587 7; have hcz5_8 : w4.cell? ⟨gb587, 8, none⟩ = some (.int .u64 a0_8) := cz BK587 8; have hcz5_9 : w4.cell? ⟨gb587, 9, none⟩ = some (.int .i64 a0_9) := cz BK587 9; have hcz5_10 : w4.cell? ⟨gb587, 10, none⟩ = some (.int .i64 a0_10) := cz BK587 10; have hcz5_11 : w4.cell? ⟨gb587, 11, none⟩ = some (.bool a0_11) := cz BK587 11; have hfz5_0 := fz BK587 0; have hfz5_1 := fz BK587 1; have hfz5_2 := fz BK587 2; have hfz5_3 := fz BK587 3; have hfz5_4 := fz BK587 4; have hfz5_5 := fz BK587 5; have hfz5_6 := fz BK587 6; have hfz5_7 := fz BK587 7; have hfz5_8 := fz BK587 8; have hfz5_9 := fz BK587 9; have hfz5_10 := fz BK587 10; have hfz5_11 := fz BK587 11) | ((with_reducible refine gate_dst (N := 10) rfl ?_); refine Kd.R_lit k37 _ 37 ?hg (N := 10) ?hd (xs := ([(⟨a0_0, a0_1, a0_2, a0_3, a0_4, a0_5⟩ : S37), (⟨a0_6, a0_7, a0_8, a0_9, a0_10, a0_11⟩ : S37)] : List (S37))) (inner := [.int .u64 a0_0, .int .u64 a0_1, .int .u64 a0_2, .int .i64 a0_3, .int .i64 a0_4, .bool a0_5, .int .u64 a0_6, .int .u64 a0_7, .int .u64 a0_8, .int .i64 a0_9, .int .i64 a0_10, .bool a0_11]) (ok := fun _ => True) (okp := fun _ => True) ?hr ?hp (fun _ hk => hk) trivial (Below.refl _ _) (Nat.le_refl _) (by simp) ?_; (case hd => rfl); (case hg => rfl); (case hr => first | (go_simp; done) | (go_simp; rfl)); (case hp => exact (Reps.c6 (show Kd.M k37 _ _ _ (⟨a0_0, a0_1, a0_2, a0_3, a0_4, a0_5⟩ : S37) [.int .u64 a0_0, .int .u64 a0_1, .int .u64 a0_2, .int .i64 a0_3, .int .i64 a0_4, .bool a0_5] from (k37_mkM _ _ _ (⟨a0_0, a0_1, a0_2, a0_3, a0_4, a0_5⟩ : S37) )) (Reps.c6 (show Kd.M k37 _ _ _ (⟨a0_6, a0_7, a0_8, a0_9, a0_10, a0_11⟩ : S37) [.int .u64 a0_6, .int .u64 a0_7, .int .u64 a0_8, .int .i64 a0_9, .int .i64 a0_10, .bool a0_11] from (k37_mkM _ _ _ (⟨a0_6, a0_7, a0_8, a0_9, a0_10, a0_11⟩ : S37) )) (Reps.none _ _)))); intro v589 w6 ho7 hb hg_ hnew_; clear hg_ hnew_; (first | rw [← Ny588.out] at ho7 | (simp only [Int.reduceToNat] at ho7; rw [← Ny588.out] at ho7)); have n0_ := am (Kd.R_lower ho7 (below_size (uc HB.out))); have n1_ := bw BK587 hb; have n2_ := bs HB hb; revert n0_ n1_ n2_; clear BK587 HB; intro HO590 BK587 HB; clear hb ho7))
  go_ret
  exact ⟨_, by first | rfl | (simp [errW_none, errW_some] <;> rfl) | (simp [*, errW_none, errW_some] <;> rfl), ua HO590.out, uc HB.out⟩
 ·replace c3 := Bool.eq_false_iff.mpr c3
  subst c3
  have H1 : (some (([(⟨a0_0, a0_1, a0_2, a0_3, a0_4, a0_5⟩ : S37)] : List (S37)))) = some r := by rw [if_neg (show ¬ (false = true) by decide)] at H; exact H
  clear H
  have H := H1
  clear H1
  obtain ⟨y591, hy591⟩ : ∃ y_ : List (S37), y_ = (([(⟨a0_0, a0_1, a0_2, a0_3, a0_4, a0_5⟩ : S37)] : List (S37))) := ⟨_, rfl⟩
  replace H : (some y591) = some r := by first | (rw [hy591]; with_reducible exact H) | (have H2_ := (Option.bind_some _ _).symm.trans H; rw [hy591]; with_reducible exact H2_) | (have H2_ := (Option.bind_some _ _).symm.trans H; with_reducible exact H2_) | with_reducible exact H | (rw [hy591]; exact H) | exact H
  have Ny591 := am hy591
  clear hy591
  obtain rfl := Option.some.inj H
  go_enter Try.func82, Try.ntmps82
  go_wp2_with (first | ((with_reducible refine gate_dst (N := 2) rfl ?_); refine box_event ?hg (N := 2) ?hd (cs := #[.int .u64 a0_0, .int .u64 a0_1, .int .u64 a0_2, .int .i64 a0_3, .int .i64 a0_4, .bool a0_5, .int .u64 a0_6, .int .u64 a0_7, .int .u64 a0_8, .int .i64 a0_9, .int .i64 a0_10, .bool a0_11]) (t := 78) ?hr ?_; (case hd => rfl); (case hg => rfl); (case hr => first | (go_simp; done) | (go_simp; rfl)); intro gb587 hg w8 hbox hb; have n0_ := bs HB hb; have n1_ := am (hbox); have n2_ := nz HB hg; have n3_ := nz HB hg; revert n0_ n1_ n2_ n3_; clear HB; intro HB BK587 GW587 GE587; clear hb hbox hg; have hcz9_0 : w8.cell? ⟨gb587, 0, none⟩ = some (.int .u64 a0_0) := cz BK587 0; have hcz9_1 : w8.cell? ⟨gb587, 1, none⟩ = some (.int .u64 a0_1) := cz BK587 1; have hcz9_2 : w8.cell? ⟨gb587, 2, none⟩ = some (.int .u64 a0_2) := cz BK587 2; have hcz9_3 : w8.cell? ⟨gb587, 3, none⟩ = some (.int .i64 a0_3) := cz BK587 3; have hcz9_4 : w8.cell? ⟨gb587, 4, none⟩ = some (.int .i64 a0_4) := cz BK587 4; have hcz9_5 : w8.cell? ⟨gb587, 5, none⟩ = some (.bool a0_5) := cz BK587 5; have hcz9_6 : w8.cell? ⟨gb587, 6, none⟩ = some (.int .u64 a0_6) := cz BK587 6; have hcz9_7 : w8.cell? ⟨gb587, 7, none⟩ = some (.int .u64 a0_7) := cz BK587 7; have hcz9_8 : w8.cell? ⟨gb587, 8, none⟩ = some (.int .u64 a0_8) := cz BK587 8; have hcz9_9 : w8.cell? ⟨gb587, 9, none⟩ = some (.int .i64 a0_9) := cz BK587 9; have hcz9_10 : w8.cell? ⟨gb587, 10, none⟩ = some (.int .i64 a0_10) := cz BK587 10; have hcz9_11 : w8.cell? ⟨gb587, 11, none⟩ = some (.bool a0_11) := cz BK587 11; have hfz9_0 := fz BK587 0; have hfz9_1 := fz BK587 1; have hfz9_2 := fz BK587 2; have hfz9_3 := fz BK587 3; have hfz9_4 := fz BK587 4; have hfz9_5 := fz BK587 5; have hfz9_6 := fz BK587 6; have hfz9_7 := fz BK587 7; have hfz9_8 := fz BK587 8; have hfz9_9 := fz BK587 9; have hfz9_10 := fz BK587 10; have hfz9_11 := fz BK587 11) | ((with_reducible refine gate_dst (N := 13) rfl ?_); refine Kd.R_lit k37 _ 37 ?hg (N := 13) ?hd (xs := ([(⟨a0_0, a0_1, a0_2, a0_3, a0_4, a0_5⟩ : S37)] : List (S37))) (inner := [.int .u64 a0_0, .int .u64 a0_1, .int .u64 a0_2, .int .i64 a0_3, .int .i64 a0_4, .bool a0_5]) (ok := fun _ => True) (okp := fun _ => True) ?hr ?hp (fun _ hk => hk) trivial (Below.refl _ _) (Nat.le_refl _) (by simp) ?_; (case hd => rfl); (case hg => rfl); (case hr => first | (go_simp; done) | (go_simp; rfl)); (case hp => exact (Reps.c6 (show Kd.M k37 _ _ _ (⟨a0_0, a0_1, a0_2, a0_3, a0_4, a0_5⟩ : S37) [.int .u64 a0_0, .int .u64 a0_1, .int .u64 a0_2, .int .i64 a0_3, .int .i64 a0_4, .bool a0_5] from (k37_mkM _ _ _ (⟨a0_0, a0_1, a0_2, a0_3, a0_4, a0_5⟩ : S37) )) (Reps.none _ _))); intro v592 w10 ho11 hb hg_ hnew_; clear hg_ hnew_; (first | rw [← Ny591.out] at ho11 | (simp only [Int.reduceToNat] at ho11; rw [← Ny591.out] at ho11)); have n0_ := am (Kd.R_lower ho11 (below_size (uc HB.out))); have n1_ := bw BK587 hb; have n2_ := bs HB hb; revert n0_ n1_ n2_; clear BK587 HB; intro HO593 BK587 HB; clear hb ho11))
  go_ret
  exact ⟨_, by first | rfl | (simp [errW_none, errW_some] <;> rfl) | (simp [*, errW_none, errW_some] <;> rfl), ua HO593.out, uc HB.out⟩

end Go.Proofs.Ytlbfeklpncoccaa.P
