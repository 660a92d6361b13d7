/- What functions of the program, and of its laws, give, each proved of its code by a walk; no condition. -/
import Derived.Test.YtlbfeklpncoccaaKTableLessPx0
import Derived.Test.YtlbfeklpncoccaaKTableLessPx1
import Derived.Test.YtlbfeklpncoccaaKTableLessPx4
import Derived.Test.YtlbfeklpncoccaaKTableLessPx6
import Derived.Test.YtlbfeklpncoccaaKTableLessSq
import Derived.Test.YtlbfeklpncoccaaKTableLessUsh
import Derived.Test.YtlbfeklpncoccaaKTableLessUs4
namespace Go.Proofs.Ytlbfeklpncoccaa.P
open Go.RowKit Go.Proofs.YtlbfeklpncoccaaW.PrintWords Go.Proofs.YtlbfeklpncoccaaW.PrintLast Go.Proofs.YtlbfeklpncoccaaW.PrintMore
attribute [local go_sem] max2_int min2_int max_two min_two max_three min_three max_four min_four   -- for this text's walks alone
set_option linter.unusedVariables false
set_option linter.unusedSimpArgs false

attribute [local go_sem high] eqA37
mutual
def table_Types.j0 : Nat → Int → Int → Bool → Option (List Int × Int)
  | 0, _, _, _ => none
  | k + 1, x0, x1, x23 => if x23 = true then (some (([] : List Int), 180)) else (table_Types.l0 k x1 ([] : List Int) x0 0)
def table_Types.l0 : Nat → Int → List Int → Int → Int → Option (List Int × Int)
  | 0, _, _, _, _ => none
  | k + 1, x1, x6, x24, x25 => if x25 < x24 then (if x6.length < 17592186044416 then (table_Types.l0 k x1 (x6 ++ [wrap64 (x1 + x25)]) x24 (wrap64 (x25 + 1))) else (none)) else (some (x6, 0))
end
def table_Types.f (k : Nat) (a0 : Int) (a1 : Int) : Option (List Int × Int) := if a0 < 0 then (table_Types.j0 k a0 a1 true) else (if a1 < 0 then (table_Types.j0 k a0 a1 true) else (if a1 > 64 then (table_Types.j0 k a0 a1 true) else (table_Types.j0 k a0 a1 (decide (a0 > (wrap64 (64 - a1)))))))
theorem table_Types.mono_l : ∀ k, (∀ y0 y1 y2, LeO (table_Types.j0 k y0 y1 y2) (table_Types.j0 (k + 1) y0 y1 y2)) ∧ (∀ y0 y1 y2 y3, LeO (table_Types.l0 k y0 y1 y2 y3) (table_Types.l0 (k + 1) y0 y1 y2 y3))
  | 0 => ⟨fun _ _ _ r h => by simp [table_Types.j0] at h, fun _ _ _ _ r h => by simp [table_Types.l0] at h⟩
  | k + 1 => by
    obtain ⟨ih0, ih1⟩ := table_Types.mono_l k
    refine ⟨?_, ?_⟩
    · intro y0 y1 y2
      unfold table_Types.j0
      repeat' first
      | (with_reducible exact ih0 _ _ _)
      | (with_reducible exact ih1 _ _ _ _)
      | (with_reducible exact LeO.refl _)
      | (with_reducible exact LeO.none _)
      | (with_reducible refine LeO.ite ?_ ?_)
      | (with_reducible refine LeO.bind ?_ (fun _ => ?_))
      | exact ih0 _ _ _
      | exact ih1 _ _ _ _
      | exact LeO.none _
      | refine LeO.ite ?_ ?_
      | refine LeO.bind ?_ (fun _ => ?_)
    · intro y0 y1 y2 y3
      unfold table_Types.l0
      repeat' first
      | (with_reducible exact ih0 _ _ _)
      | (with_reducible exact ih1 _ _ _ _)
      | (with_reducible exact LeO.refl _)
      | (with_reducible exact LeO.none _)
      | (with_reducible refine LeO.ite ?_ ?_)
      | (with_reducible refine LeO.bind ?_ (fun _ => ?_))
      | exact ih0 _ _ _
      | exact ih1 _ _ _ _
      | exact LeO.none _
      | refine LeO.ite ?_ ?_
      | refine LeO.bind ?_ (fun _ => ?_)
theorem table_Types.mono : ∀ a0 a1 k, LeO (table_Types.f k a0 a1) (table_Types.f (k + 1) a0 a1) := by
  intro a0 a1 k
  obtain ⟨ih0, ih1⟩ := table_Types.mono_l k
  unfold table_Types.f
  repeat' first
      | (with_reducible exact ih0 _ _ _)
      | (with_reducible exact ih1 _ _ _ _)
      | (with_reducible exact LeO.refl _)
      | (with_reducible exact LeO.none _)
      | (with_reducible refine LeO.ite ?_ ?_)
      | (with_reducible refine LeO.bind ?_ (fun _ => ?_))
      | exact ih0 _ _ _
      | exact ih1 _ _ _ _
      | exact LeO.none _
      | refine LeO.ite ?_ ?_
      | refine LeO.bind ?_ (fun _ => ?_)
set_option maxHeartbeats 8000000 in
set_option maxRecDepth 100000 in
theorem table_Types.calls (k : Nat) (a0 : Int) (a1 : Int) (r1 : List Int) (r2 : Int) (w : World) (h : table_Types.f k a0 a1 = some (r1, r2)) :
  Calls Try.prog 19 #[.int .i64 a0, .int .i64 a1] w fun e w' => ∃ v0_ : Value, e = .returned (.tuple #[v0_, .int .i64 r2]) ∧ Kd.R (Kd.int .i64) 3 w' w.heap.size (fun _ => True) v0_ r1 ∧ Below w.heap.size w w' := by
 have HB := am (Below.refl w.heap.size w)
 have H : (if a0 < 0 then (table_Types.j0 k a0 a1 true) else (if a1 < 0 then (table_Types.j0 k a0 a1 true) else (if a1 > 64 then (table_Types.j0 k a0 a1 true) else (table_Types.j0 k a0 a1 (decide (a0 > (wrap64 (64 - a1)))))))) = some (r1, r2) := h
 clear h
 have HC3 := am H
 clear H
 go_enter Try.func19, Try.ntmps19
 go_upto_region 1 with (fail)
 go_cut [23] (fun v23 wc => ∃ (kq : Nat) (x23_2 : Bool), v23 = .bool x23_2 ∧ Aside0 (table_Types.j0 kq a0 a1 x23_2 = some (r1, r2)) ∧ Aside0 (kq ≤ k) ∧ Aside0 (Below w.heap.size w wc))
 case first =>
  have H := HC3.out
  clear HC3
  by_cases c4 : a0 < 0
  ·rw [if_pos c4] at H
   have c4b0 := decide_eq_true c4
   clear c4
   (first | rw [c4b0] | (simp only [i64_w, i32_w]; rw [c4b0]) | skip)
   have H' := am H
   clear H
   go_wp2
   go_meet
   case rel => exact ⟨_, (true), uf, H', ⟨by first | omega | exact Nat.le_refl _⟩, ⟨uc HB.out⟩⟩
  ·rw [if_neg c4] at H
   have c4b0 := decide_eq_false c4
   clear c4
   (first | rw [c4b0] | (simp only [i64_w, i32_w]; rw [c4b0]) | skip)
   by_cases c5 : a1 < 0
   ·rw [if_pos c5] at H
    have c5b0 := decide_eq_true c5
    clear c5
    have H' := am H
    clear H
    go_wp2
    go_meet
    case rel => exact ⟨_, (true), uf, H', ⟨by first | omega | exact Nat.le_refl _⟩, ⟨uc HB.out⟩⟩
   ·rw [if_neg c5] at H
    have c5b0 := decide_eq_false c5
    clear c5
    by_cases c6 : a1 > 64
    ·rw [if_pos c6] at H
     have c6b0 : decide (64 < a1) = true := decide_eq_true c6
     clear c6
     have H' := am H
     clear H
     go_wp2
     go_meet
     case rel => exact ⟨_, (true), uf, H', ⟨by first | omega | exact Nat.le_refl _⟩, ⟨uc HB.out⟩⟩
    ·rw [if_neg c6] at H
     have c6b0 : decide (64 < a1) = false := decide_eq_false c6
     clear c6
     have H' := am H
     clear H
     go_wp2
     go_meet
     case rel => exact ⟨_, (decide (a0 > (wrap64 (64 - a1)))), uf, H', ⟨by first | omega | exact Nat.le_refl _⟩, ⟨uc HB.out⟩⟩
 case rest =>
  clear HC3
  obtain ⟨kq, x23_2, rfl, HA, HJ2, HB⟩ := hcut
  cases kq with
  | zero => exact absurd HA.out (by simp [table_Types.j0])
  | succ kj2 =>
   have H := HA.out
   clear HA
   simp only [table_Types.j0] at H
   by_cases c7 : x23_2 = true
   ·subst c7
    have H1 : (some (([] : List Int), 180)) = some (r1, r2) := by rw [if_pos rfl] at H; exact H
    clear H
    have H := H1
    clear H1
    simp only [Option.some.injEq, Prod.mk.injEq] at H
    obtain ⟨rfl, rfl⟩ := H
    go_wp2
    go_ret2
    exact ⟨_, by first | rfl | (simp [errW_none, errW_some] <;> rfl) | (simp [*, errW_none, errW_some] <;> rfl), by first | exact Kd.R_nil _ _ _ _ _ | exact Kd.N_nil _ _ _ _ _ | exact Kd.V_nil _ _ _ _ _ | exact Kd.Q_nil _ _ _ _ _ | exact Kd.S_nil _ _ _ _ _, uc HB.out⟩
   ·replace c7 := Bool.eq_false_iff.mpr c7
    subst c7
    have H1 : (table_Types.l0 kj2 a1 ([] : List Int) a0 0) = some (r1, r2) := by rw [if_neg (show ¬ (false = true) by decide)] at H; exact H
    clear H
    have H := H1
    clear H1
    have H' := am H
    clear H
    go_wp2
    go_loopg [6, 25] kj2 (fun kq v6 v25 w' => ∃ (x6_2 : List Int) (x25_2 : Int), v25 = .int .i64 x25_2 ∧ Aside0 (table_Types.l0 kq a1 x6_2 a0 x25_2 = some (r1, r2)) ∧ Aside0 (kq ≤ kj2) ∧ Aside0 (Kd.R (Kd.int .i64) 3 w' w.heap.size (fun _ => True) v6 x6_2) ∧ Aside0 (Below w.heap.size w w'))
    case atStart => exact ⟨(([] : List Int)), (0), uf, H', ⟨Nat.le_refl _⟩, ⟨by first | exact Kd.R_nil _ _ _ _ _ | exact Kd.N_nil _ _ _ _ _ | exact Kd.V_nil _ _ _ _ _ | exact Kd.Q_nil _ _ _ _ _ | exact Kd.S_nil _ _ _ _ _⟩, ⟨uc HB.out⟩⟩
    case round =>
     clear H'
     obtain ⟨x6_2, x25_2, rfl, HA, HK2, HO_6, HB⟩ := hrel
     cases gk with
     | zero => exact absurd HA.out (by simp [table_Types.l0])
     | succ k2 =>
      have H := HA.out
      clear HA
      simp only [table_Types.l0] at H
      by_cases c8 : x25_2 < a0
      ·rw [if_pos c8] at H
       have c8b0 := decide_eq_true c8
       clear c8
       obtain ⟨c9, H⟩ := ic H
       have LMc9 := am c9
       clear c9
       obtain ⟨y316, hy316⟩ : ∃ y_ : List Int, y_ = (x6_2 ++ [wrap64 (a1 + x25_2)]) := ⟨_, rfl⟩
       replace H : (table_Types.l0 k2 a1 y316 a0 (wrap64 (x25_2 + 1))) = some (r1, r2) := by first | (rw [hy316]; with_reducible exact H) | (have H2_ := (Option.bind_some _ _).symm.trans H; rw [hy316]; with_reducible exact H2_) | (have H2_ := (Option.bind_some _ _).symm.trans H; with_reducible exact H2_) | with_reducible exact H | (rw [hy316]; exact H) | exact H
       have Ny316 := am hy316
       clear hy316
       have H' := am H
       clear H
       go_wp2_with (first | ((with_reducible refine gate_builtin (b := .append) (xs := #[.tmp 28, .tmp 32]) rfl ?_); at_builtin; refine Kd.R_append (Kd.int .i64) (w0 := w) w.heap.size rfl (.tmp 28) (.tmp 32) 26 3 (.int .i64 0) 8 rfl Try.underlying26 info3 rfl (by decide) (by omega) u6 x6_2 (wrap64 (a1 + x25_2)) [.int .i64 (wrap64 (a1 + x25_2))] (fun _ => True) (fun _ => False) rfl rfl ?aP (fun _ hk => hk.elim) ?aF ?aO ?aB ?aS ?aL ?_; (case aP => exact rfl); (case aB => exact (uc HB.out)); (case aF => exact (fun _ _ => trivial)); (case aO => exact (ua HO_6.out)); (case aS => exact (below_size (uc HB.out))); (case aL => have := LMc9.out; omega); intro v317 w10 ho hb hg hat; rw [← Ny316.out] at ho; have n0_ := am (hb); have n1_ := am (ho); revert n0_ n1_; clear HB HO_6; intro HB HO318; clear ho hb hg hat))
       go_roundg k2
       case measure => have := HJ2.out; have := HK2.out; omega
       case rel => exact ⟨(y316), (wrap64 (x25_2 + 1)), uf, H', ⟨by have := HJ2.out; have := HK2.out; omega⟩, ⟨ua HO318.out⟩, ⟨uc HB.out⟩⟩
      ·rw [if_neg c8] at H
       have c8b0 := decide_eq_false c8
       clear c8
       simp only [Option.some.injEq, Prod.mk.injEq] at H
       obtain ⟨rfl, rfl⟩ := H
       go_wp2
       go_ret2
       exact ⟨_, by first | rfl | (simp [errW_none, errW_some] <;> rfl) | (simp [*, errW_none, errW_some] <;> rfl), ua HO_6.out, uc HB.out⟩

def curtilagelaw18_lib.f  : Option (ByteArray × List ByteArray × (List (S67)) × (List (S35)) × (List (S72)) × List Int × List Int) := some ((⟨#[97]⟩ : ByteArray), ([] : List ByteArray), (([(⟨0, 8, 5, ([] : List Int)⟩ : S67), (⟨256, 300, 3, ([] : List Int)⟩ : S67)] : List (S67))), (([(⟨(⟨#[102]⟩ : ByteArray), (⟨#[]⟩ : ByteArray), 4, 4, 1, 2, 1, true⟩ : S35), (⟨(⟨#[100]⟩ : ByteArray), (⟨#[]⟩ : ByteArray), 300, 2, 2, 2, 1, true⟩ : S35)] : List (S35))), (([(⟨256, 0⟩ : S72)] : List (S72))), ([] : List Int), ([] : List Int))
set_option maxHeartbeats 8000000 in
set_option maxRecDepth 100000 in
theorem curtilagelaw18_lib.calls  (r1 : ByteArray) (r2 : List ByteArray) (r3 : List (S67)) (r4 : List (S35)) (r5 : List (S72)) (r6 : List Int) (r7 : List Int) (w : World) (h : curtilagelaw18_lib.f  = some (r1, r2, r3, r4, r5, r6, r7)) :
  Calls Try.prog 20 #[] w fun e w' => ∃ v1_ v2_ v3_ v4_ v5_ v6_ : Value, e = .returned (.agg #[.string r1, v1_, v2_, v3_, v4_, v5_, v6_]) ∧ Kd.R Kd.string 9 w' w.heap.size (fun _ => True) v1_ r2 ∧ Kd.S k67 67 w' w.heap.size (fun _ => True) v2_ r3 ∧ Kd.R k35 35 w' w.heap.size (fun _ => True) v3_ r4 ∧ Kd.R k72 72 w' w.heap.size (fun _ => True) v4_ r5 ∧ Kd.R (Kd.int .i64) 3 w' w.heap.size (fun k_ => nv k_ v6_) v5_ r6 ∧ Kd.R (Kd.int .i64) 3 w' w.heap.size (fun k_ => nv k_ v5_) v6_ r7 ∧ Below w.heap.size w w' := by
 have hu28 := Try.underlying28
 have hu67 := Try.underlying67
 have hu35 := Try.underlying35
 have hu72 := Try.underlying72
 have HB := am (Below.refl w.heap.size w)
 have H : (some ((⟨#[97]⟩ : ByteArray), ([] : List ByteArray), (([(⟨0, 8, 5, ([] : List Int)⟩ : S67), (⟨256, 300, 3, ([] : List Int)⟩ : S67)] : List (S67))), (([(⟨(⟨#[102]⟩ : ByteArray), (⟨#[]⟩ : ByteArray), 4, 4, 1, 2, 1, true⟩ : S35), (⟨(⟨#[100]⟩ : ByteArray), (⟨#[]⟩ : ByteArray), 300, 2, 2, 2, 1, true⟩ : S35)] : List (S35))), (([(⟨256, 0⟩ : S72)] : List (S72))), ([] : List Int), ([] : List Int))) = some (r1, r2, r3, r4, r5, r6, r7) := h
 clear h
 obtain ⟨y320, hy320⟩ : ∃ y_ : List (S67), y_ = (([(⟨0, 8, 5, ([] : List Int)⟩ : S67), (⟨256, 300, 3, ([] : List Int)⟩ : S67)] : List (S67))) := ⟨_, rfl⟩
 replace H : (some ((⟨#[97]⟩ : ByteArray), ([] : List ByteArray), y320, (([(⟨(⟨#[102]⟩ : ByteArray), (⟨#[]⟩ : ByteArray), 4, 4, 1, 2, 1, true⟩ : S35), (⟨(⟨#[100]⟩ : ByteArray), (⟨#[]⟩ : ByteArray), 300, 2, 2, 2, 1, true⟩ : S35)] : List (S35))), (([(⟨256, 0⟩ : S72)] : List (S72))), ([] : List Int), ([] : List Int))) = some (r1, r2, r3, r4, r5, r6, r7) := by first | (rw [hy320]; with_reducible exact H) | (have H2_ := (Option.bind_some _ _).symm.trans H; rw [hy320]; with_reducible exact H2_) | (have H2_ := (Option.bind_some _ _).symm.trans H; with_reducible exact H2_) | with_reducible exact H | (rw [hy320]; exact H) | exact H
 have Ny320 := am hy320
 clear hy320
 obtain ⟨y323, hy323⟩ : ∃ y_ : List (S35), y_ = (([(⟨(⟨#[102]⟩ : ByteArray), (⟨#[]⟩ : ByteArray), 4, 4, 1, 2, 1, true⟩ : S35), (⟨(⟨#[100]⟩ : ByteArray), (⟨#[]⟩ : ByteArray), 300, 2, 2, 2, 1, true⟩ : S35)] : List (S35))) := ⟨_, rfl⟩
 replace H : (some ((⟨#[97]⟩ : ByteArray), ([] : List ByteArray), y320, y323, (([(⟨256, 0⟩ : S72)] : List (S72))), ([] : List Int), ([] : List Int))) = some (r1, r2, r3, r4, r5, r6, r7) := by first | (rw [hy323]; with_reducible exact H) | (have H2_ := (Option.bind_some _ _).symm.trans H; rw [hy323]; with_reducible exact H2_) | (have H2_ := (Option.bind_some _ _).symm.trans H; with_reducible exact H2_) | with_reducible exact H | (rw [hy323]; exact H) | exact H
 have Ny323 := am hy323
 clear hy323
 obtain ⟨y326, hy326⟩ : ∃ y_ : List (S72), y_ = (([(⟨256, 0⟩ : S72)] : List (S72))) := ⟨_, rfl⟩
 replace H : (some ((⟨#[97]⟩ : ByteArray), ([] : List ByteArray), y320, y323, y326, ([] : List Int), ([] : List Int))) = some (r1, r2, r3, r4, r5, r6, r7) := by first | (rw [hy326]; with_reducible exact H) | (have H2_ := (Option.bind_some _ _).symm.trans H; rw [hy326]; with_reducible exact H2_) | (have H2_ := (Option.bind_some _ _).symm.trans H; with_reducible exact H2_) | with_reducible exact H | (rw [hy326]; exact H) | exact H
 have Ny326 := am hy326
 clear hy326
 simp only [Option.some.injEq, Prod.mk.injEq] at H
 obtain ⟨rfl, rfl, rfl, rfl, rfl, rfl, rfl⟩ := H
 go_enter Try.func20, Try.ntmps20
 go_wp2_with (first | ((with_reducible refine gate_dst (N := 0) rfl ?_); refine box_event ?hg (N := 0) ?hd (cs := #[.string (⟨#[]⟩ : ByteArray), .slice none 0 0, .slice none 0 0, .slice none 0 0, .slice none 0 0, .slice none 0 0, .slice none 0 0]) (t := 28) ?hr ?_; (case hd => rfl); (case hg => rfl); (case hr => first | (go_simp; done) | (go_simp; rfl)); intro gb319 hg w1 hbox hb; have n0_ := bs HB hb; have n1_ := am (hbox); have n2_ := nz HB hg; have n3_ := nz HB hg; revert n0_ n1_ n2_ n3_; clear HB; intro HB BK319 GW319 GE319; clear hb hbox hg) | ((with_reducible refine gate_dst (N := 3) rfl ?_); refine Kd.S_lit k67 _ 67 ?hg (N := 3) ?hd (xs := ([(⟨0, 8, 5, ([] : List Int)⟩ : S67), (⟨256, 300, 3, ([] : List Int)⟩ : S67)] : List (S67))) (inner := [.int .u64 0, .int .u64 8, .int .i64 5, .slice none 0 0, .int .u64 256, .int .u64 300, .int .i64 3, .slice none 0 0]) (ok := fun _ => True) (okp := fun _ => True) ?hr ?hp (fun _ hk => hk) trivial (Below.refl _ _) (Nat.le_refl _) (by simp) ?_; (case hd => rfl); (case hg => rfl); (case hr => first | (go_simp; done) | (go_simp; rfl)); (case hp => exact (Reps.c4 (show Kd.M k67 _ _ _ (⟨0, 8, 5, ([] : List Int)⟩ : S67) [.int .u64 0, .int .u64 8, .int .i64 5, .slice none 0 0] from (k67_mkM _ _ _ (⟨0, 8, 5, ([] : List Int)⟩ : S67) (Kd.R_nil _ _ _ _ _))) (Reps.c4 (show Kd.M k67 _ _ _ (⟨256, 300, 3, ([] : List Int)⟩ : S67) [.int .u64 256, .int .u64 300, .int .i64 3, .slice none 0 0] from (k67_mkM _ _ _ (⟨256, 300, 3, ([] : List Int)⟩ : S67) (Kd.R_nil _ _ _ _ _))) (Reps.none _ _)))); intro v321 w2 ho3 hb hg_ hnew_; clear hg_ hnew_; (first | rw [← Ny320.out] at ho3 | (simp only [Int.reduceToNat] at ho3; rw [← Ny320.out] at ho3)); have n0_ := am (Kd.S_lower ho3 (below_size (uc HB.out))); have n1_ := bw BK319 hb; have n2_ := bs HB hb; revert n0_ n1_ n2_; clear BK319 HB; intro HO322 BK319 HB; clear hb ho3) | ((with_reducible refine gate_dst (N := 6) rfl ?_); refine Kd.R_lit k35 _ 35 ?hg (N := 6) ?hd (xs := ([(⟨(⟨#[102]⟩ : ByteArray), (⟨#[]⟩ : ByteArray), 4, 4, 1, 2, 1, true⟩ : S35), (⟨(⟨#[100]⟩ : ByteArray), (⟨#[]⟩ : ByteArray), 300, 2, 2, 2, 1, true⟩ : S35)] : List (S35))) (inner := [.string (⟨#[102]⟩ : ByteArray), .string (⟨#[]⟩ : ByteArray), .int .u64 4, .int .u64 4, .int .i64 1, .int .i64 2, .int .i64 1, .bool true, .string (⟨#[100]⟩ : ByteArray), .string (⟨#[]⟩ : ByteArray), .int .u64 300, .int .u64 2, .int .i64 2, .int .i64 2, .int .i64 1, .bool true]) (ok := fun _ => True) (okp := fun _ => True) ?hr ?hp (fun _ hk => hk) trivial (Below.refl _ _) (Nat.le_refl _) (by simp) ?_; (case hd => rfl); (case hg => rfl); (case hr => first | (go_simp; done) | (go_simp; rfl)); (case hp => exact (Reps.c8 (show Kd.M k35 _ _ _ (⟨(⟨#[102]⟩ : ByteArray), (⟨#[]⟩ : ByteArray), 4, 4, 1, 2, 1, true⟩ : S35) [.string (⟨#[102]⟩ : ByteArray), .string (⟨#[]⟩ : ByteArray), .int .u64 4, .int .u64 4, .int .i64 1, .int .i64 2, .int .i64 1, .bool true] from (k35_mkM _ _ _ (⟨(⟨#[102]⟩ : ByteArray), (⟨#[]⟩ : ByteArray), 4, 4, 1, 2, 1, true⟩ : S35) )) (Reps.c8 (show Kd.M k35 _ _ _ (⟨(⟨#[100]⟩ : ByteArray), (⟨#[]⟩ : ByteArray), 300, 2, 2, 2, 1, true⟩ : S35) [.string (⟨#[100]⟩ : ByteArray), .string (⟨#[]⟩ : ByteArray), .int .u64 300, .int .u64 2, .int .i64 2, .int .i64 2, .int .i64 1, .bool true] from (k35_mkM _ _ _ (⟨(⟨#[100]⟩ : ByteArray), (⟨#[]⟩ : ByteArray), 300, 2, 2, 2, 1, true⟩ : S35) )) (Reps.none _ _)))); intro v324 w4 ho5 hb hg_ hnew_; clear hg_ hnew_; (first | rw [← Ny323.out] at ho5 | (simp only [Int.reduceToNat] at ho5; rw [← Ny323.out] at ho5)); have n0_ := am (Kd.S_below (by (with_reducible repeat (first | apply Kd.S_alloc | apply Kd.S_drewN | apply Kd.S_drew)); exact HO322.out) hb); have n1_ := am (Kd.R_lower ho5 (below_size (uc HB.out))); have n2_ := bw BK319 hb; have n3_ := bs HB hb; revert n0_ n1_ n2_ n3_; clear HO322 BK319 HB; intro HO322 HO325 BK319 HB; clear hb ho5) | ((with_reducible refine gate_dst (N := 8) rfl ?_); refine Kd.R_lit k72 _ 72 ?hg (N := 8) ?hd (xs := ([(⟨256, 0⟩ : S72)] : List (S72))) (inner := [.int .u64 256, .int .i64 0]) (ok := fun _ => True) (okp := fun _ => True) ?hr ?hp (fun _ hk => hk) trivial (Below.refl _ _) (Nat.le_refl _) (by simp) ?_; (case hd => rfl); (case hg => rfl); (case hr => first | (go_simp; done) | (go_simp; rfl)); (case hp => exact (Reps.c2 (show Kd.M k72 _ _ _ (⟨256, 0⟩ : S72) [.int .u64 256, .int .i64 0] from (k72_mkM _ _ _ (⟨256, 0⟩ : S72) )) (Reps.none _ _))); intro v327 w6 ho7 hb hg_ hnew_; clear hg_ hnew_; (first | rw [← Ny326.out] at ho7 | (simp only [Int.reduceToNat] at ho7; rw [← Ny326.out] at ho7)); have n0_ := am (Kd.S_below (by (with_reducible repeat (first | apply Kd.S_alloc | apply Kd.S_drewN | apply Kd.S_drew)); exact HO322.out) hb); have n1_ := am (Kd.R_below (ua HO325.out) hb); have n2_ := am (Kd.R_lower ho7 (below_size (uc HB.out))); have n3_ := bw BK319 hb; have n4_ := bs HB hb; revert n0_ n1_ n2_ n3_ n4_; clear HO322 HO325 BK319 HB; intro HO322 HO325 HO328 BK319 HB; clear hb ho7; obtain ⟨Ao8, co8, eo8⟩ := Kd.R_slice HO328.out; subst eo8; obtain ⟨Ao9, co9, eo9⟩ := Kd.R_slice HO325.out; subst eo9; obtain ⟨Ao10, co10, eo10⟩ := Kd.S_slice HO322.out; subst eo10; obtain ⟨hcz11_0, hcz11_1, hcz11_2, hcz11_3, hcz11_4, hcz11_5, hcz11_6, hfz11_0, hfz11_1, hfz11_2, hfz11_3, hfz11_4, hfz11_5, hfz11_6⟩ := cells7 BK319.out) | ((with_reducible refine gate_store (t := 28) (p := 0) rfl ?_); refine store_event (t := 28) (p := 0) (v := ?vo_w12) (w1 := (((((((w6.setCell ⟨gb319, 0, none⟩ (.string (⟨#[97]⟩ : ByteArray))).setCell ⟨gb319, 1, none⟩ (.slice none 0 0)).setCell ⟨gb319, 2, none⟩ (.slice Ao10 y320.length co10)).setCell ⟨gb319, 3, none⟩ (.slice Ao9 y323.length co9)).setCell ⟨gb319, 4, none⟩ (.slice Ao8 y326.length co8)).setCell ⟨gb319, 5, none⟩ (.slice none 0 0)).setCell ⟨gb319, 6, none⟩ (.slice none 0 0))) ?hg ?ho ?hn ?hr ?_; (case ho => rfl); (case hg => rfl); (case hn => rfl); (case hr => first | (go_simp; done) | (go_simp; rfl)); intro w12 hw; have n0_ : Aside0 (Kd.S k67 67 w12 w.heap.size (fun _ => True) (.slice Ao10 y320.length co10) y320) := ⟨(by rw [hw]; exact (by (with_reducible repeat (first | apply Kd.S_alloc | apply Kd.S_drewN | apply Kd.S_drew)); exact Kd.S_mono (Kd.S_far (p := ⟨gb319, 6, none⟩) (Kd.S_far (p := ⟨gb319, 5, none⟩) (Kd.S_far (p := ⟨gb319, 4, none⟩) (Kd.S_far (p := ⟨gb319, 3, none⟩) (Kd.S_far (p := ⟨gb319, 2, none⟩) (Kd.S_far (p := ⟨gb319, 1, none⟩) (Kd.S_far (p := ⟨gb319, 0, none⟩) (Kd.S_types HO322.out BK319.out (by decide)) (fun _ hk => hk.2) (.string (⟨#[97]⟩ : ByteArray))) (fun _ hk => hk.2) (.slice none 0 0)) (fun _ hk => hk.2) (.slice Ao10 y320.length co10)) (fun _ hk => hk.2) (.slice Ao9 y323.length co9)) (fun _ hk => hk.2) (.slice Ao8 y326.length co8)) (fun _ hk => hk.2) (.slice none 0 0)) (fun _ hk => hk.2) (.slice none 0 0)) (fun _ hk => trivial)))⟩; have n1_ : Aside0 (Kd.R k35 35 w12 w.heap.size (fun _ => True) (.slice Ao9 y323.length co9) y323) := ⟨(by rw [hw]; exact (by (with_reducible repeat (first | apply Kd.R_alloc | apply Kd.R_drewN | apply Kd.R_drew)); exact Kd.R_mono (Kd.R_far (p := ⟨gb319, 6, none⟩) (Kd.R_far (p := ⟨gb319, 5, none⟩) (Kd.R_far (p := ⟨gb319, 4, none⟩) (Kd.R_far (p := ⟨gb319, 3, none⟩) (Kd.R_far (p := ⟨gb319, 2, none⟩) (Kd.R_far (p := ⟨gb319, 1, none⟩) (Kd.R_far (p := ⟨gb319, 0, none⟩) (Kd.R_types HO325.out BK319.out (by decide)) (fun _ hk => hk.2) (.string (⟨#[97]⟩ : ByteArray))) (fun _ hk => hk.2) (.slice none 0 0)) (fun _ hk => hk.2) (.slice Ao10 y320.length co10)) (fun _ hk => hk.2) (.slice Ao9 y323.length co9)) (fun _ hk => hk.2) (.slice Ao8 y326.length co8)) (fun _ hk => hk.2) (.slice none 0 0)) (fun _ hk => hk.2) (.slice none 0 0)) (fun _ hk => trivial)))⟩; have n2_ : Aside0 (Kd.R k72 72 w12 w.heap.size (fun _ => True) (.slice Ao8 y326.length co8) y326) := ⟨(by rw [hw]; exact (by (with_reducible repeat (first | apply Kd.R_alloc | apply Kd.R_drewN | apply Kd.R_drew)); exact Kd.R_mono (Kd.R_far (p := ⟨gb319, 6, none⟩) (Kd.R_far (p := ⟨gb319, 5, none⟩) (Kd.R_far (p := ⟨gb319, 4, none⟩) (Kd.R_far (p := ⟨gb319, 3, none⟩) (Kd.R_far (p := ⟨gb319, 2, none⟩) (Kd.R_far (p := ⟨gb319, 1, none⟩) (Kd.R_far (p := ⟨gb319, 0, none⟩) (Kd.R_types HO328.out BK319.out (by decide)) (fun _ hk => hk.2) (.string (⟨#[97]⟩ : ByteArray))) (fun _ hk => hk.2) (.slice none 0 0)) (fun _ hk => hk.2) (.slice Ao10 y320.length co10)) (fun _ hk => hk.2) (.slice Ao9 y323.length co9)) (fun _ hk => hk.2) (.slice Ao8 y326.length co8)) (fun _ hk => hk.2) (.slice none 0 0)) (fun _ hk => hk.2) (.slice none 0 0)) (fun _ hk => trivial)))⟩; have n3_ := bp7 #[.string (⟨#[97]⟩ : ByteArray), .slice none 0 0, .slice Ao10 y320.length co10, .slice Ao9 y323.length co9, .slice Ao8 y326.length co8, .slice none 0 0, .slice none 0 0] hw BK319; have n4_ : Aside0 (Below w.heap.size w w12) := ⟨(by rw [hw]; exact (uc HB.out))⟩; revert n0_ n1_ n2_ n3_ n4_; clear hw HO322 HO325 HO328 BK319 HB; intro HO322 HO325 HO328 BK319 HB))
 refine bodyPost_ret (results_cell_row rfl _ _ gb319 28 #[.string (⟨#[97]⟩ : ByteArray), .slice none 0 0, .slice Ao10 y320.length co10, .slice Ao9 y323.length co9, .slice Ao8 y326.length co8, .slice none 0 0, .slice none 0 0] (0, 0) _ rfl (ub BK319.out) Try.underlying28 rfl (by kernel_rfl)) rfl ?_
 exact ⟨_, _, _, _, _, _, by first | rfl | (simp [errW_none, errW_some] <;> rfl) | (simp [*, errW_none, errW_some] <;> rfl), by first | exact Kd.R_nil _ _ _ _ _ | exact Kd.N_nil _ _ _ _ _ | exact Kd.V_nil _ _ _ _ _ | exact Kd.Q_nil _ _ _ _ _ | exact Kd.S_nil _ _ _ _ _, by (with_reducible repeat (first | apply Kd.S_alloc | apply Kd.S_drewN | apply Kd.S_drew)); exact HO322.out, ua HO325.out, ua HO328.out, by first | exact Kd.R_nil _ _ _ _ _ | exact Kd.N_nil _ _ _ _ _ | exact Kd.V_nil _ _ _ _ _ | exact Kd.Q_nil _ _ _ _ _ | exact Kd.S_nil _ _ _ _ _, by first | exact Kd.R_nil _ _ _ _ _ | exact Kd.N_nil _ _ _ _ _ | exact Kd.V_nil _ _ _ _ _ | exact Kd.Q_nil _ _ _ _ _ | exact Kd.S_nil _ _ _ _ _, uc HB.out⟩

def curtilageref10_Numbers.l0 : Nat → List Int → List Int → Int → Option (Bool)
  | 0, _, _, _ => none
  | k + 1, x0, x1, x5 => if x5 < (x0.length : Int) then (if 0 ≤ x5 then (if x5 < (x1.length : Int) then (if (rd x0 x5) = (rd x1 x5) then (curtilageref10_Numbers.l0 k x0 x1 (wrap64 (x5 + 1))) else (some false)) else (none)) else (none)) else (some true)
def curtilageref10_Numbers.f (k : Nat) (l0 : List Int) (l1 : List Int) : Option (Bool) := if (l0.length : Int) = (l1.length : Int) then (curtilageref10_Numbers.l0 k l0 l1 0) else (some false)
theorem curtilageref10_Numbers.mono_l : ∀ k, (∀ y0 y1 y2, LeO (curtilageref10_Numbers.l0 k y0 y1 y2) (curtilageref10_Numbers.l0 (k + 1) y0 y1 y2))
  | 0 => fun _ _ _ r h => by simp [curtilageref10_Numbers.l0] at h
  | k + 1 => by
    have ih0 := curtilageref10_Numbers.mono_l k
    · intro y0 y1 y2
      unfold curtilageref10_Numbers.l0
      repeat' first
      | (with_reducible exact ih0 _ _ _)
      | (with_reducible exact LeO.refl _)
      | (with_reducible exact LeO.none _)
      | (with_reducible refine LeO.ite ?_ ?_)
      | (with_reducible refine LeO.bind ?_ (fun _ => ?_))
      | exact ih0 _ _ _
      | exact LeO.none _
      | refine LeO.ite ?_ ?_
      | refine LeO.bind ?_ (fun _ => ?_)
theorem curtilageref10_Numbers.mono : ∀ a0 a1 k, LeO (curtilageref10_Numbers.f k a0 a1) (curtilageref10_Numbers.f (k + 1) a0 a1) := by
  intro a0 a1 k
  have ih0 := curtilageref10_Numbers.mono_l k
  unfold curtilageref10_Numbers.f
  repeat' first
      | (with_reducible exact ih0 _ _ _)
      | (with_reducible exact LeO.refl _)
      | (with_reducible exact LeO.none _)
      | (with_reducible refine LeO.ite ?_ ?_)
      | (with_reducible refine LeO.bind ?_ (fun _ => ?_))
      | exact ih0 _ _ _
      | exact LeO.none _
      | refine LeO.ite ?_ ?_
      | refine LeO.bind ?_ (fun _ => ?_)
set_option maxHeartbeats 8000000 in
set_option maxRecDepth 100000 in
theorem curtilageref10_Numbers.calls (k : Nat) (A0 : Option Addr) (c0 : Nat) (l0 : List Int) (A1 : Option Addr) (c1 : Nat) (l1 : List Int) (r : Bool) (w : World) (hr0 : Kd.C (Kd.int .i64) w A0 l0.length l0) (hc0 : l0.length ≤ c0) (hr1 : Kd.C (Kd.int .i64) w A1 l1.length l1) (hc1 : l1.length ≤ c1) (h : curtilageref10_Numbers.f k l0 l1 = some r) :
  Calls Try.prog 21 #[.slice A0 l0.length c0, .slice A1 l1.length c1] w fun e w' => e = .returned (.bool r) ∧ Drawn0 w w' := by
 have HR0 := am hr0
 have HC0 := am hc0
 clear hr0 hc0
 have HR1 := am hr1
 have HC1 := am hc1
 clear hr1 hc1
 have H : (if (l0.length : Int) = (l1.length : Int) then (curtilageref10_Numbers.l0 k l0 l1 0) else (some false)) = some r := h
 clear h
 by_cases c3 : (l0.length : Int) = (l1.length : Int)
 ·rw [if_pos c3] at H
  have c3b0 := beq_iff_eq.mpr c3
  have c3b1 := bne_eq_false_iff_eq.mpr c3
  have c3b2 : (l0.length == l1.length) = true := by first | simpa using c3 | (simp at c3 ⊢; omega)
  clear c3
  have H' := am H
  clear H
  go_enter Try.func21, Try.ntmps21
  go_wp2
  repeat (go_quiet (fail); try go_wp2)
  go_loopg [5] k (fun kq v5 w' => ∃ (x5_1 : Int), v5 = .int .i64 x5_1 ∧ Aside0 (curtilageref10_Numbers.l0 kq l0 l1 x5_1 = some r) ∧ Aside0 (kq ≤ k) ∧ Drawn0 w w')
  case atStart => exact ⟨(0), uf, H', ⟨Nat.le_refl _⟩, by repeat (first | exact Drawn0.refl _ | apply Drawn0.step)⟩
  case round =>
   clear H'
   clear c3b0 c3b1 c3b2
   obtain ⟨x5_1, rfl, HA, HK1, ⟨m1, rfl⟩⟩ := hrel
   cases gk with
   | zero => exact absurd HA.out (by simp [curtilageref10_Numbers.l0])
   | succ k1 =>
    have H := HA.out
    clear HA
    simp only [curtilageref10_Numbers.l0] at H
    by_cases c4 : x5_1 < (l0.length : Int)
    ·rw [if_pos c4] at H
     have c4b0 := decide_eq_true c4
     clear c4
     obtain ⟨c5, H⟩ := ic H
     have c5b0 : decide (0 ≤ x5_1) = true := decide_eq_true c5
     clear c5
     obtain ⟨c6, H⟩ := ic H
     have c6b0 : decide (x5_1 < (l1.length : Int)) = true := decide_eq_true c6
     clear c6
     by_cases c7 : (rd l0 x5_1) = (rd l1 x5_1)
     ·rw [if_pos c7] at H
      have c7b0 := beq_iff_eq.mpr c7
      have c7b1 := bne_eq_false_iff_eq.mpr c7
      clear c7
      have H' := am H
      clear H
      have p329 : 0 ≤ (x5_1 : Int) := ud
      have q329 : x5_1 < (l0.length : Int) := ud
      obtain ⟨ad329, e329, hx329_0⟩ := Kd.at_int HR0.out x5_1 p329 q329
      cases e329
      replace p329 := eq_true p329
      replace q329 := eq_true q329
      have p330 : 0 ≤ (x5_1 : Int) := ud
      have q330 : x5_1 < (l1.length : Int) := ud
      obtain ⟨ad330, e330, hx330_0⟩ := Kd.at_int HR1.out x5_1 p330 q330
      cases e330
      replace p330 := eq_true p330
      replace q330 := eq_true q330
      go_wp2
      repeat (go_quiet (fail); try go_wp2)
      go_roundg k1
      case measure => have := HK1.out; omega
      case rel => exact ⟨(wrap64 (x5_1 + 1)), uf, H', ⟨by have := HK1.out; omega⟩, by repeat (first | exact Drawn0.refl _ | apply Drawn0.step)⟩
     ·rw [if_neg c7] at H
      have c7b0 := beq_eq_false_iff_ne.mpr c7
      have c7b1 := bne_iff_ne.mpr c7
      obtain rfl := Option.some.inj H
      have p329 : 0 ≤ (x5_1 : Int) := ud
      have q329 : x5_1 < (l0.length : Int) := ud
      obtain ⟨ad329, e329, hx329_0⟩ := Kd.at_int HR0.out x5_1 p329 q329
      cases e329
      replace p329 := eq_true p329
      replace q329 := eq_true q329
      have p330 : 0 ≤ (x5_1 : Int) := ud
      have q330 : x5_1 < (l1.length : Int) := ud
      obtain ⟨ad330, e330, hx330_0⟩ := Kd.at_int HR1.out x5_1 p330 q330
      cases e330
      replace p330 := eq_true p330
      replace q330 := eq_true q330
      go_wp2
      repeat (go_quiet (fail); try go_wp2)
      go_ret
      exact ⟨by first | rfl | (simp; done) | (simp [*]; done), by repeat (first | exact Drawn0.refl _ | apply Drawn0.step)⟩
    ·rw [if_neg c4] at H
     have c4b0 := decide_eq_false c4
     clear c4
     obtain rfl := Option.some.inj H
     go_wp2
     repeat (go_quiet (fail); try go_wp2)
     go_ret
     exact ⟨by first | rfl | (simp; done) | (simp [*]; done), by repeat (first | exact Drawn0.refl _ | apply Drawn0.step)⟩
 ·rw [if_neg c3] at H
  have c3b0 := beq_eq_false_iff_ne.mpr c3
  have c3b1 := bne_iff_ne.mpr c3
  have c3b2 : (l0.length == l1.length) = false := by first | simpa using c3 | (simp at c3 ⊢; omega)
  obtain rfl := Option.some.inj H
  go_enter Try.func21, Try.ntmps21
  go_wp2
  repeat (go_quiet (fail); try go_wp2)
  go_ret
  exact ⟨by first | rfl | (simp; done) | (simp [*]; done), by repeat (first | exact Drawn0.refl _ | apply Drawn0.step)⟩

def curtilagelaw18_awake.f (k : Nat)  : Option (Bool) := (table_Types.f k 3 5).bind fun bt331 => ((curtilagelaw18_lib.f).bind fun bt335 => ((table_Entry.f k bt335.1 bt335.2.1 bt335.2.2.1 bt335.2.2.2.1 bt335.2.2.2.2.1 bt335.2.2.2.2.2.1 bt335.2.2.2.2.2.2 1024 0 5).bind fun bt354 => ((curtilagelaw18_lib.f).bind fun bt368 => ((table_Data.f k bt368.1 bt368.2.1 bt368.2.2.1 bt368.2.2.2.1 bt368.2.2.2.2.1 bt368.2.2.2.2.2.1 bt368.2.2.2.2.2.2 1024 1).bind fun bt387 => (if bt331.2 = 0 then ((curtilageref10_Numbers.f k bt331.1 (([5, 6, 7] : List Int))).bind fun t397 => (if t397 = true then (if (bt354.1 == 1024 && (bt354.2.1 == 1032 && (bt354.2.2.1 == 1028 && (bt354.2.2.2.1 == 141 && (bt354.2.2.2.2.1 == 5 && (bt354.2.2.2.2.2.1)))))) = true then (if (bt354.2.2.2.2.2.2.1 == 1280 && (bt354.2.2.2.2.2.2.2.1 == 1580 && (bt354.2.2.2.2.2.2.2.2.1 == 1280 && (bt354.2.2.2.2.2.2.2.2.2.1 == 155 && (bt354.2.2.2.2.2.2.2.2.2.2.1 == 5 && (bt354.2.2.2.2.2.2.2.2.2.2.2)))))) = true then (some (bt387.1 == 1324 && (bt387.2.1 == 1326 && (bt387.2.2.1 == 1324 && (bt387.2.2.2.1 == 27 && (bt387.2.2.2.2.1 == (-1) && (bt387.2.2.2.2.2))))))) else (some false)) else (some false)) else (some false))) else (some false))))))
theorem curtilagelaw18_awake.mono : ∀ k, LeO (curtilagelaw18_awake.f k ) (curtilagelaw18_awake.f (k + 1) ) := by
  intro  k
  unfold curtilagelaw18_awake.f
  repeat' first
      | (with_reducible exact curtilageref10_Numbers.mono _ _ _)
      | (with_reducible exact table_Data.mono _ _ _ _ _ _ _ _ _ _)
      | (with_reducible exact table_Entry.mono _ _ _ _ _ _ _ _ _ _ _)
      | (with_reducible exact table_Types.mono _ _ _)
      | (with_reducible exact LeO.refl _)
      | (with_reducible exact LeO.none _)
      | (with_reducible refine LeO.ite ?_ ?_)
      | (with_reducible refine LeO.bind ?_ (fun _ => ?_))
      | exact curtilageref10_Numbers.mono _ _ _
      | exact table_Data.mono _ _ _ _ _ _ _ _ _ _
      | exact table_Entry.mono _ _ _ _ _ _ _ _ _ _ _
      | exact table_Types.mono _ _ _
      | exact LeO.none _
      | refine LeO.ite ?_ ?_
      | refine LeO.bind ?_ (fun _ => ?_)
set_option maxHeartbeats 8000000 in
set_option maxRecDepth 100000 in
theorem curtilagelaw18_awake.calls (k : Nat)  (r : Bool) (w : World) (h : curtilagelaw18_awake.f k  = some r) :
  Calls Try.prog 6 #[] w fun e w' => e = .returned (.bool r) ∧ Below w.heap.size w w' := by
 have HT := am (Option.some.inj ((more_rounds (g := curtilagelaw18_awake.f) curtilagelaw18_awake.mono k 40 r h).symm.trans (show curtilagelaw18_awake.f (k + 40) = some true by kernel_rfl)))
 have hu37 := Try.underlying37
 have HB := am (Below.refl w.heap.size w)
 have H : ((table_Types.f k 3 5).bind fun bt331 => ((curtilagelaw18_lib.f).bind fun bt335 => ((table_Entry.f k bt335.1 bt335.2.1 bt335.2.2.1 bt335.2.2.2.1 bt335.2.2.2.2.1 bt335.2.2.2.2.2.1 bt335.2.2.2.2.2.2 1024 0 5).bind fun bt354 => ((curtilagelaw18_lib.f).bind fun bt368 => ((table_Data.f k bt368.1 bt368.2.1 bt368.2.2.1 bt368.2.2.2.1 bt368.2.2.2.2.1 bt368.2.2.2.2.2.1 bt368.2.2.2.2.2.2 1024 1).bind fun bt387 => (if bt331.2 = 0 then ((curtilageref10_Numbers.f k bt331.1 (([5, 6, 7] : List Int))).bind fun t397 => (if t397 = true then (if (bt354.1 == 1024 && (bt354.2.1 == 1032 && (bt354.2.2.1 == 1028 && (bt354.2.2.2.1 == 141 && (bt354.2.2.2.2.1 == 5 && (bt354.2.2.2.2.2.1)))))) = true then (if (bt354.2.2.2.2.2.2.1 == 1280 && (bt354.2.2.2.2.2.2.2.1 == 1580 && (bt354.2.2.2.2.2.2.2.2.1 == 1280 && (bt354.2.2.2.2.2.2.2.2.2.1 == 155 && (bt354.2.2.2.2.2.2.2.2.2.2.1 == 5 && (bt354.2.2.2.2.2.2.2.2.2.2.2)))))) = true then (some (bt387.1 == 1324 && (bt387.2.1 == 1326 && (bt387.2.2.1 == 1324 && (bt387.2.2.2.1 == 27 && (bt387.2.2.2.2.1 == (-1) && (bt387.2.2.2.2.2))))))) else (some false)) else (some false)) else (some false))) else (some false))))))) = some r := h
 clear h
 replace H := Option.bind_eq_some_iff.mp H
 obtain ⟨⟨t331, t332⟩, A10, H⟩ := H
 replace H : ((curtilagelaw18_lib.f).bind fun bt335 => ((table_Entry.f k bt335.1 bt335.2.1 bt335.2.2.1 bt335.2.2.2.1 bt335.2.2.2.2.1 bt335.2.2.2.2.2.1 bt335.2.2.2.2.2.2 1024 0 5).bind fun bt354 => ((curtilagelaw18_lib.f).bind fun bt368 => ((table_Data.f k bt368.1 bt368.2.1 bt368.2.2.1 bt368.2.2.2.1 bt368.2.2.2.2.1 bt368.2.2.2.2.2.1 bt368.2.2.2.2.2.2 1024 1).bind fun bt387 => (if t332 = 0 then ((curtilageref10_Numbers.f k t331 (([5, 6, 7] : List Int))).bind fun t397 => (if t397 = true then (if (bt354.1 == 1024 && (bt354.2.1 == 1032 && (bt354.2.2.1 == 1028 && (bt354.2.2.2.1 == 141 && (bt354.2.2.2.2.1 == 5 && (bt354.2.2.2.2.2.1)))))) = true then (if (bt354.2.2.2.2.2.2.1 == 1280 && (bt354.2.2.2.2.2.2.2.1 == 1580 && (bt354.2.2.2.2.2.2.2.2.1 == 1280 && (bt354.2.2.2.2.2.2.2.2.2.1 == 155 && (bt354.2.2.2.2.2.2.2.2.2.2.1 == 5 && (bt354.2.2.2.2.2.2.2.2.2.2.2)))))) = true then (some (bt387.1 == 1324 && (bt387.2.1 == 1326 && (bt387.2.2.1 == 1324 && (bt387.2.2.2.1 == 27 && (bt387.2.2.2.2.1 == (-1) && (bt387.2.2.2.2.2))))))) else (some false)) else (some false)) else (some false))) else (some false)))))) = some r := H
 have A1 := am A10
 clear A10
 replace H := Option.bind_eq_some_iff.mp H
 obtain ⟨⟨t335, t336, t339, t342, t345, t348, t351⟩, A20, H⟩ := H
 replace H : ((table_Entry.f k t335 t336 t339 t342 t345 t348 t351 1024 0 5).bind fun bt354 => ((curtilagelaw18_lib.f).bind fun bt368 => ((table_Data.f k bt368.1 bt368.2.1 bt368.2.2.1 bt368.2.2.2.1 bt368.2.2.2.2.1 bt368.2.2.2.2.2.1 bt368.2.2.2.2.2.2 1024 1).bind fun bt387 => (if t332 = 0 then ((curtilageref10_Numbers.f k t331 (([5, 6, 7] : List Int))).bind fun t397 => (if t397 = true then (if (bt354.1 == 1024 && (bt354.2.1 == 1032 && (bt354.2.2.1 == 1028 && (bt354.2.2.2.1 == 141 && (bt354.2.2.2.2.1 == 5 && (bt354.2.2.2.2.2.1)))))) = true then (if (bt354.2.2.2.2.2.2.1 == 1280 && (bt354.2.2.2.2.2.2.2.1 == 1580 && (bt354.2.2.2.2.2.2.2.2.1 == 1280 && (bt354.2.2.2.2.2.2.2.2.2.1 == 155 && (bt354.2.2.2.2.2.2.2.2.2.2.1 == 5 && (bt354.2.2.2.2.2.2.2.2.2.2.2)))))) = true then (some (bt387.1 == 1324 && (bt387.2.1 == 1326 && (bt387.2.2.1 == 1324 && (bt387.2.2.2.1 == 27 && (bt387.2.2.2.2.1 == (-1) && (bt387.2.2.2.2.2))))))) else (some false)) else (some false)) else (some false))) else (some false))))) = some r := H
 have A2 := am A20
 clear A20
 replace H := Option.bind_eq_some_iff.mp H
 obtain ⟨⟨t354, t355, t356, t357, t358, t359, t360, t361, t362, t363, t364, t365⟩, A30, H⟩ := H
 replace H : ((curtilagelaw18_lib.f).bind fun bt368 => ((table_Data.f k bt368.1 bt368.2.1 bt368.2.2.1 bt368.2.2.2.1 bt368.2.2.2.2.1 bt368.2.2.2.2.2.1 bt368.2.2.2.2.2.2 1024 1).bind fun bt387 => (if t332 = 0 then ((curtilageref10_Numbers.f k t331 (([5, 6, 7] : List Int))).bind fun t397 => (if t397 = true then (if (t354 == 1024 && (t355 == 1032 && (t356 == 1028 && (t357 == 141 && (t358 == 5 && (t359)))))) = true then (if (t360 == 1280 && (t361 == 1580 && (t362 == 1280 && (t363 == 155 && (t364 == 5 && (t365)))))) = true then (some (bt387.1 == 1324 && (bt387.2.1 == 1326 && (bt387.2.2.1 == 1324 && (bt387.2.2.2.1 == 27 && (bt387.2.2.2.2.1 == (-1) && (bt387.2.2.2.2.2))))))) else (some false)) else (some false)) else (some false))) else (some false)))) = some r := H
 have A3 := am A30
 clear A30
 replace H := Option.bind_eq_some_iff.mp H
 obtain ⟨⟨t368, t369, t372, t375, t378, t381, t384⟩, A40, H⟩ := H
 replace H : ((table_Data.f k t368 t369 t372 t375 t378 t381 t384 1024 1).bind fun bt387 => (if t332 = 0 then ((curtilageref10_Numbers.f k t331 (([5, 6, 7] : List Int))).bind fun t397 => (if t397 = true then (if (t354 == 1024 && (t355 == 1032 && (t356 == 1028 && (t357 == 141 && (t358 == 5 && (t359)))))) = true then (if (t360 == 1280 && (t361 == 1580 && (t362 == 1280 && (t363 == 155 && (t364 == 5 && (t365)))))) = true then (some (bt387.1 == 1324 && (bt387.2.1 == 1326 && (bt387.2.2.1 == 1324 && (bt387.2.2.2.1 == 27 && (bt387.2.2.2.2.1 == (-1) && (bt387.2.2.2.2.2))))))) else (some false)) else (some false)) else (some false))) else (some false))) = some r := H
 have A4 := am A40
 clear A40
 replace H := Option.bind_eq_some_iff.mp H
 obtain ⟨⟨t387, t388, t389, t390, t391, t392⟩, A50, H⟩ := H
 replace H : (if t332 = 0 then ((curtilageref10_Numbers.f k t331 (([5, 6, 7] : List Int))).bind fun t397 => (if t397 = true then (if (t354 == 1024 && (t355 == 1032 && (t356 == 1028 && (t357 == 141 && (t358 == 5 && (t359)))))) = true then (if (t360 == 1280 && (t361 == 1580 && (t362 == 1280 && (t363 == 155 && (t364 == 5 && (t365)))))) = true then (some (t387 == 1324 && (t388 == 1326 && (t389 == 1324 && (t390 == 27 && (t391 == (-1) && (t392))))))) else (some false)) else (some false)) else (some false))) else (some false)) = some r := H
 have A5 := am A50
 clear A50
 by_cases c6 : t332 = 0
 ·rw [if_pos c6] at H
  have c6b0 := beq_iff_eq.mpr c6
  have c6b1 := bne_eq_false_iff_eq.mpr c6
  clear c6
  obtain ⟨y394, hy394⟩ : ∃ y_ : List Int, y_ = (([5, 6, 7] : List Int)) := ⟨_, rfl⟩
  replace H : ((curtilageref10_Numbers.f k t331 y394).bind fun t397 => (if t397 = true then (if (t354 == 1024 && (t355 == 1032 && (t356 == 1028 && (t357 == 141 && (t358 == 5 && (t359)))))) = true then (if (t360 == 1280 && (t361 == 1580 && (t362 == 1280 && (t363 == 155 && (t364 == 5 && (t365)))))) = true then (some (t387 == 1324 && (t388 == 1326 && (t389 == 1324 && (t390 == 27 && (t391 == (-1) && (t392))))))) else (some false)) else (some false)) else (some false))) = some r := by first | (rw [hy394]; with_reducible exact H) | (have H2_ := (Option.bind_some _ _).symm.trans H; rw [hy394]; with_reducible exact H2_) | (have H2_ := (Option.bind_some _ _).symm.trans H; with_reducible exact H2_) | with_reducible exact H | (rw [hy394]; exact H) | exact H
  have Ny394 := am hy394
  clear hy394
  replace H := Option.bind_eq_some_iff.mp H
  obtain ⟨t397, A70, H⟩ := H
  replace H : (if t397 = true then (if (t354 == 1024 && (t355 == 1032 && (t356 == 1028 && (t357 == 141 && (t358 == 5 && (t359)))))) = true then (if (t360 == 1280 && (t361 == 1580 && (t362 == 1280 && (t363 == 155 && (t364 == 5 && (t365)))))) = true then (some (t387 == 1324 && (t388 == 1326 && (t389 == 1324 && (t390 == 27 && (t391 == (-1) && (t392))))))) else (some false)) else (some false)) else (some false)) = some r := H
  have A7 := am A70
  clear A70
  by_cases c8 : t397 = true
  ·subst c8
   have H1 : (if (t354 == 1024 && (t355 == 1032 && (t356 == 1028 && (t357 == 141 && (t358 == 5 && (t359)))))) = true then (if (t360 == 1280 && (t361 == 1580 && (t362 == 1280 && (t363 == 155 && (t364 == 5 && (t365)))))) = true then (some (t387 == 1324 && (t388 == 1326 && (t389 == 1324 && (t390 == 27 && (t391 == (-1) && (t392))))))) else (some false)) else (some false)) = some r := by rw [if_pos rfl] at H; exact H
   clear H
   have H := H1
   clear H1
   by_cases c9 : (t354 == 1024 && (t355 == 1032 && (t356 == 1028 && (t357 == 141 && (t358 == 5 && (t359)))))) = true
   ·rw [if_pos c9] at H
    have c9b0 : (t354 == 1024 && (t355 == 1032 && (t356 == 1028 && (t357 == 141 && (t358 == 5 && (t359)))))) = true := c9
    (try (have c9b1 : decide (t354 = 1024 && (t355 == 1032 && (t356 == 1028 && (t357 == 141 && (t358 == 5 && (t359)))))) = true := by simpa using c9))
    (try (have c9b2 : (t354 == 1024 && (t355 == 1032 && (t356 == 1028 && (t357 == 141 && (t358 == 5 && (t359)))))) = true := by simpa using c9))
    clear c9
    by_cases c10 : (t360 == 1280 && (t361 == 1580 && (t362 == 1280 && (t363 == 155 && (t364 == 5 && (t365)))))) = true
    ·rw [if_pos c10] at H
     have c10b0 : (t360 == 1280 && (t361 == 1580 && (t362 == 1280 && (t363 == 155 && (t364 == 5 && (t365)))))) = true := c10
     (try (have c10b1 : decide (t360 = 1280 && (t361 == 1580 && (t362 == 1280 && (t363 == 155 && (t364 == 5 && (t365)))))) = true := by simpa using c10))
     (try (have c10b2 : (t360 == 1280 && (t361 == 1580 && (t362 == 1280 && (t363 == 155 && (t364 == 5 && (t365)))))) = true := by simpa using c10))
     clear c10
     obtain rfl := Option.some.inj H
     go_enter Try.func6, Try.ntmps6
     go_wp2_with (first | ((with_reducible refine gate_dst (N := 7) rfl ?_); (with_reducible refine gate_callee (f := 19) rfl ?_); refine gl (some 7) Try.func19 #[.int .i64 3, .int .i64 5] ?_; (with_reducible refine (table_Types.calls k 3 5 t331 t332 _ A1.out).mono ?_); rintro e w11 ⟨v333, rfl, ho0, hb⟩; refine ⟨_, rfl, ?_⟩; have n0_ := am (Kd.R_lower ho0 (below_size (uc HB.out))); have n1_ := bs HB hb; revert n0_ n1_; clear HB; intro HO334 HB; (try clear hb); (try clear ho0)) | ((with_reducible refine gate_dst (N := 11) rfl ?_); (with_reducible refine gate_callee (f := 20) rfl ?_); refine gl (some 11) Try.func20 #[] ?_; (with_reducible refine (curtilagelaw18_lib.calls  t335 t336 t339 t342 t345 t348 t351 _ A2.out).mono ?_); rintro e w12 ⟨v337, v340, v343, v346, v349, v352, rfl, ho0, ho1, ho2, ho3, ho4, ho5, hb⟩; refine ⟨_, rfl, ?_⟩; have n0_ := am (Kd.R_mono (Kd.R_told (Kd.R_told (Kd.R_old (ua HO334.out) hb) (Kd.R_base ho4)) (Kd.R_base ho5)) (fun _ h_ => h_.1)); have n1_ := am (Kd.R_lower ho0 (below_size (uc HB.out))); have n2_ := am (Kd.S_lower ho1 (below_size (uc HB.out))); have n3_ := am (Kd.R_lower ho2 (below_size (uc HB.out))); have n4_ := am (Kd.R_lower ho3 (below_size (uc HB.out))); have n5_ := am (Kd.R_lower (Kd.R_new' ho4 (Kd.R_lt (ua HO334.out))) (below_size (uc HB.out))); have n6_ := am (Kd.R_lower (Kd.R_new' ho5 (Kd.R_lt (ua HO334.out))) (below_size (uc HB.out))); have n7_ := bs HB hb; revert n0_ n1_ n2_ n3_ n4_ n5_ n6_ n7_; clear HO334 HB; intro HO334 HO338 HO341 HO344 HO347 HO350 HO353 HB; (try clear hb); (try clear ho0); (try clear ho1); (try clear ho2); (try clear ho3); (try clear ho4); (try clear ho5); obtain ⟨Ao13, co13, eo13⟩ := Kd.R_slice HO338.out; subst eo13; obtain ⟨Ao14, co14, eo14⟩ := Kd.S_slice HO341.out; subst eo14; obtain ⟨Ao15, co15, eo15⟩ := Kd.R_slice HO344.out; subst eo15; obtain ⟨Ao16, co16, eo16⟩ := Kd.R_slice HO347.out; subst eo16; obtain ⟨Ao17, co17, eo17⟩ := Kd.R_slice HO350.out; subst eo17; obtain ⟨Ao18, co18, eo18⟩ := Kd.R_slice HO353.out; subst eo18) | ((with_reducible refine gate_dst (N := 12) rfl ?_); (with_reducible refine gate_callee (f := 10) rfl ?_); refine gl (some 12) Try.func10 #[.agg #[.string t335, .slice Ao13 t336.length co13, .slice Ao14 t339.length co14, .slice Ao15 t342.length co15, .slice Ao16 t345.length co16, .slice Ao17 t348.length co17, .slice Ao18 t351.length co18], .int .u64 1024, .int .i64 0, .int .i64 5] ?_; (with_reducible refine (table_Entry.calls k t335 _ _ t336 _ _ t339 _ _ t342 _ _ t345 _ _ t348 _ _ t351 1024 0 5 t354 t355 t356 t357 t358 t359 t360 t361 t362 t363 t364 t365 _ ?side1 ?side2 ?side3 ?side4 ?side5 ?side6 ?side7 ?side8 ?side9 ?side10 ?side11 ?side12 A3.out).mono ?_); (case side1 => exact us (Kd.R_reads' HO338.out).2.2); (case side2 => exact (Kd.R_reads' HO338.out).2.1); (case side3 => exact us (Kd.S_reads' HO341.out).2.2); (case side4 => exact (Kd.S_reads' HO341.out).2.1); (case side5 => exact us (Kd.R_reads' HO344.out).2.2); (case side6 => exact (Kd.R_reads' HO344.out).2.1); (case side7 => exact us (Kd.R_reads' HO347.out).2.2); (case side8 => exact (Kd.R_reads' HO347.out).2.1); (case side9 => exact us (Kd.R_reads' HO350.out).2.2); (case side10 => exact (Kd.R_reads' HO350.out).2.1); (case side11 => exact us (Kd.R_reads' HO353.out).2.2); (case side12 => exact (Kd.R_reads' HO353.out).2.1); rintro e w19 ⟨rfl, hb⟩; refine ⟨_, rfl, ?_⟩; have n0_ := am (Kd.R_below (ua HO334.out) hb); have n1_ := am (Kd.R_below (ua HO338.out) hb); have n2_ := am (Kd.S_below (by (with_reducible repeat (first | apply Kd.S_alloc | apply Kd.S_drewN | apply Kd.S_drew)); exact HO341.out) hb); have n3_ := am (Kd.R_below (ua HO344.out) hb); have n4_ := am (Kd.R_below (ua HO347.out) hb); have n5_ := am (Kd.R_below (ua HO350.out) hb); have n6_ := am (Kd.R_below (ua HO353.out) hb); have n7_ := bs HB hb; revert n0_ n1_ n2_ n3_ n4_ n5_ n6_ n7_; clear HO334 HO338 HO341 HO344 HO347 HO350 HO353 HB; intro HO334 HO338 HO341 HO344 HO347 HO350 HO353 HB; (try clear hb)) | ((with_reducible refine gate_dst (N := 3) rfl ?_); (try (refine gate_guard (by rfl) ?_; dsimp only)); refine box_event ?hg (N := 3) ?hd (cs := #[.int .u64 0, .int .u64 0, .int .u64 0, .int .i64 0, .int .i64 0, .bool false]) (t := 37) ?hr ?_; (case hd => rfl); (case hg => rfl); (case hr => first | (go_simp; done) | (go_simp; rfl)); intro gb366 hg w20 hbox hb; have n0_ := am (Kd.R_below (ua HO334.out) hb); have n1_ := am (Kd.R_below (ua HO338.out) hb); have n2_ := am (Kd.S_below (by (with_reducible repeat (first | apply Kd.S_alloc | apply Kd.S_drewN | apply Kd.S_drew)); exact HO341.out) hb); have n3_ := am (Kd.R_below (ua HO344.out) hb); have n4_ := am (Kd.R_below (ua HO347.out) hb); have n5_ := am (Kd.R_below (ua HO350.out) hb); have n6_ := am (Kd.R_below (ua HO353.out) hb); have n7_ := bs HB hb; have n8_ := am (hbox); have n9_ := nz HB hg; have n10_ := nz HB hg; revert n0_ n1_ n2_ n3_ n4_ n5_ n6_ n7_ n8_ n9_ n10_; clear HO334 HO338 HO341 HO344 HO347 HO350 HO353 HB; intro HO334 HO338 HO341 HO344 HO347 HO350 HO353 HB BK366 GW366 GE366; clear hb hbox hg) | ((with_reducible refine gate_dst (N := 4) rfl ?_); (try (refine gate_guard (by rfl) ?_; dsimp only)); refine box_event ?hg (N := 4) ?hd (cs := #[.int .u64 0, .int .u64 0, .int .u64 0, .int .i64 0, .int .i64 0, .bool false]) (t := 37) ?hr ?_; (case hd => rfl); (case hg => rfl); (case hr => first | (go_simp; done) | (go_simp; rfl)); intro gb367 hg w21 hbox hb; have n0_ := am (Kd.R_below (ua HO334.out) hb); have n1_ := am (Kd.R_below (ua HO338.out) hb); have n2_ := am (Kd.S_below (by (with_reducible repeat (first | apply Kd.S_alloc | apply Kd.S_drewN | apply Kd.S_drew)); exact HO341.out) hb); have n3_ := am (Kd.R_below (ua HO344.out) hb); have n4_ := am (Kd.R_below (ua HO347.out) hb); have n5_ := am (Kd.R_below (ua HO350.out) hb); have n6_ := am (Kd.R_below (ua HO353.out) hb); have n7_ := bw BK366 hb; have n8_ := bs HB hb; have n9_ := am (hbox); have n10_ := nz HB hg; have n11_ := nz HB hg; have n12_ := nl BK366 hg; have n13_ := nr BK366 hg; revert n0_ n1_ n2_ n3_ n4_ n5_ n6_ n7_ n8_ n9_ n10_ n11_ n12_ n13_; clear HO334 HO338 HO341 HO344 HO347 HO350 HO353 BK366 HB; intro HO334 HO338 HO341 HO344 HO347 HO350 HO353 BK366 HB BK367 GW367 GE367 NB366_367 NB367_366; clear hb hbox hg; have hnb22 := NB366_367.out; have hnc22 := NB367_366.out; obtain ⟨hcz23_0, hcz23_1, hcz23_2, hcz23_3, hcz23_4, hcz23_5, hfz23_0, hfz23_1, hfz23_2, hfz23_3, hfz23_4, hfz23_5⟩ := cells6 BK366.out) | ((with_reducible refine gate_store (t := 37) (p := 3) rfl ?_); refine store_event (t := 37) (p := 3) (v := ?vo_w24) (w1 := ((((((w21.setCell ⟨gb366, 0, none⟩ (.int .u64 t354)).setCell ⟨gb366, 1, none⟩ (.int .u64 t355)).setCell ⟨gb366, 2, none⟩ (.int .u64 t356)).setCell ⟨gb366, 3, none⟩ (.int .i64 t357)).setCell ⟨gb366, 4, none⟩ (.int .i64 t358)).setCell ⟨gb366, 5, none⟩ (.bool t359))) ?hg ?ho ?hn ?hr ?_; (case ho => rfl); (case hg => rfl); (case hn => rfl); (case hr => first | (go_simp; done) | (go_simp; rfl)); intro w24 hw; have n0_ := st6 (fun k_ => nw k_ Ao17 t348 co17 ∧ nw k_ Ao18 t351 co18) hw HO334 BK366 (fun _ h => ⟨h.1.2, h.2⟩); have n1_ : Aside0 (Kd.R Kd.string 9 w24 w.heap.size (fun _ => True) (.slice Ao13 t336.length co13) t336) := ⟨(by rw [hw]; exact (by (with_reducible repeat (first | apply Kd.R_alloc | apply Kd.R_drewN | apply Kd.R_drew)); exact Kd.R_mono (Kd.R_far (p := ⟨gb366, 5, none⟩) (Kd.R_far (p := ⟨gb366, 4, none⟩) (Kd.R_far (p := ⟨gb366, 3, none⟩) (Kd.R_far (p := ⟨gb366, 2, none⟩) (Kd.R_far (p := ⟨gb366, 1, none⟩) (Kd.R_far (p := ⟨gb366, 0, none⟩) (Kd.R_types HO338.out BK366.out (by decide)) (fun _ hk => hk.2) (.int .u64 t354)) (fun _ hk => hk.2) (.int .u64 t355)) (fun _ hk => hk.2) (.int .u64 t356)) (fun _ hk => hk.2) (.int .i64 t357)) (fun _ hk => hk.2) (.int .i64 t358)) (fun _ hk => hk.2) (.bool t359)) (fun _ hk => trivial)))⟩; have n2_ : Aside0 (Kd.S k67 67 w24 w.heap.size (fun _ => True) (.slice Ao14 t339.length co14) t339) := ⟨(by rw [hw]; exact (by (with_reducible repeat (first | apply Kd.S_alloc | apply Kd.S_drewN | apply Kd.S_drew)); exact Kd.S_mono (Kd.S_far (p := ⟨gb366, 5, none⟩) (Kd.S_far (p := ⟨gb366, 4, none⟩) (Kd.S_far (p := ⟨gb366, 3, none⟩) (Kd.S_far (p := ⟨gb366, 2, none⟩) (Kd.S_far (p := ⟨gb366, 1, none⟩) (Kd.S_far (p := ⟨gb366, 0, none⟩) (Kd.S_types HO341.out BK366.out (by decide)) (fun _ hk => hk.2) (.int .u64 t354)) (fun _ hk => hk.2) (.int .u64 t355)) (fun _ hk => hk.2) (.int .u64 t356)) (fun _ hk => hk.2) (.int .i64 t357)) (fun _ hk => hk.2) (.int .i64 t358)) (fun _ hk => hk.2) (.bool t359)) (fun _ hk => trivial)))⟩; have n3_ : Aside0 (Kd.R k35 35 w24 w.heap.size (fun _ => True) (.slice Ao15 t342.length co15) t342) := ⟨(by rw [hw]; exact (by (with_reducible repeat (first | apply Kd.R_alloc | apply Kd.R_drewN | apply Kd.R_drew)); exact Kd.R_mono (Kd.R_far (p := ⟨gb366, 5, none⟩) (Kd.R_far (p := ⟨gb366, 4, none⟩) (Kd.R_far (p := ⟨gb366, 3, none⟩) (Kd.R_far (p := ⟨gb366, 2, none⟩) (Kd.R_far (p := ⟨gb366, 1, none⟩) (Kd.R_far (p := ⟨gb366, 0, none⟩) (Kd.R_types HO344.out BK366.out (by decide)) (fun _ hk => hk.2) (.int .u64 t354)) (fun _ hk => hk.2) (.int .u64 t355)) (fun _ hk => hk.2) (.int .u64 t356)) (fun _ hk => hk.2) (.int .i64 t357)) (fun _ hk => hk.2) (.int .i64 t358)) (fun _ hk => hk.2) (.bool t359)) (fun _ hk => trivial)))⟩; have n4_ : Aside0 (Kd.R k72 72 w24 w.heap.size (fun _ => True) (.slice Ao16 t345.length co16) t345) := ⟨(by rw [hw]; exact (by (with_reducible repeat (first | apply Kd.R_alloc | apply Kd.R_drewN | apply Kd.R_drew)); exact Kd.R_mono (Kd.R_far (p := ⟨gb366, 5, none⟩) (Kd.R_far (p := ⟨gb366, 4, none⟩) (Kd.R_far (p := ⟨gb366, 3, none⟩) (Kd.R_far (p := ⟨gb366, 2, none⟩) (Kd.R_far (p := ⟨gb366, 1, none⟩) (Kd.R_far (p := ⟨gb366, 0, none⟩) (Kd.R_types HO347.out BK366.out (by decide)) (fun _ hk => hk.2) (.int .u64 t354)) (fun _ hk => hk.2) (.int .u64 t355)) (fun _ hk => hk.2) (.int .u64 t356)) (fun _ hk => hk.2) (.int .i64 t357)) (fun _ hk => hk.2) (.int .i64 t358)) (fun _ hk => hk.2) (.bool t359)) (fun _ hk => trivial)))⟩; have n5_ := st6 (fun k_ => nv k_ v333 ∧ nw k_ Ao18 t351 co18) hw HO350 BK366 (fun _ h => ⟨h.2, h.1⟩); have n6_ := st6 (fun k_ => nv k_ v333 ∧ nw k_ Ao17 t348 co17) hw HO353 BK366 (fun _ h => ⟨h.2, h.1⟩); have n7_ := bp6 #[.int .u64 t354, .int .u64 t355, .int .u64 t356, .int .i64 t357, .int .i64 t358, .bool t359] hw BK366; have n8_ := bf6 hw NB367_366 BK367; have n9_ : Aside0 (Below w.heap.size w w24) := ⟨(by rw [hw]; exact (uc HB.out))⟩; revert n0_ n1_ n2_ n3_ n4_ n5_ n6_ n7_ n8_ n9_; clear hw HO334 HO338 HO341 HO344 HO347 HO350 HO353 BK366 BK367 HB; intro HO334 HO338 HO341 HO344 HO347 HO350 HO353 BK366 BK367 HB; obtain ⟨hcz25_0, hcz25_1, hcz25_2, hcz25_3, hcz25_4, hcz25_5, hfz25_0, hfz25_1, hfz25_2, hfz25_3, hfz25_4, hfz25_5⟩ := cells6 BK367.out) | ((with_reducible refine gate_store (t := 37) (p := 4) rfl ?_); refine store_event (t := 37) (p := 4) (v := ?vo_w26) (w1 := ((((((w24.setCell ⟨gb367, 0, none⟩ (.int .u64 t360)).setCell ⟨gb367, 1, none⟩ (.int .u64 t361)).setCell ⟨gb367, 2, none⟩ (.int .u64 t362)).setCell ⟨gb367, 3, none⟩ (.int .i64 t363)).setCell ⟨gb367, 4, none⟩ (.int .i64 t364)).setCell ⟨gb367, 5, none⟩ (.bool t365))) ?hg ?ho ?hn ?hr ?_; (case ho => rfl); (case hg => rfl); (case hn => rfl); (case hr => first | (go_simp; done) | (go_simp; rfl)); intro w26 hw; have n0_ := st6 (fun k_ => nw k_ Ao17 t348 co17 ∧ nw k_ Ao18 t351 co18) hw HO334 BK367 (fun _ h => ⟨h.1, h.2⟩); have n1_ : Aside0 (Kd.R Kd.string 9 w26 w.heap.size (fun _ => True) (.slice Ao13 t336.length co13) t336) := ⟨(by rw [hw]; exact (by (with_reducible repeat (first | apply Kd.R_alloc | apply Kd.R_drewN | apply Kd.R_drew)); exact Kd.R_mono (Kd.R_far (p := ⟨gb367, 5, none⟩) (Kd.R_far (p := ⟨gb367, 4, none⟩) (Kd.R_far (p := ⟨gb367, 3, none⟩) (Kd.R_far (p := ⟨gb367, 2, none⟩) (Kd.R_far (p := ⟨gb367, 1, none⟩) (Kd.R_far (p := ⟨gb367, 0, none⟩) (Kd.R_types HO338.out BK367.out (by decide)) (fun _ hk => hk.2) (.int .u64 t360)) (fun _ hk => hk.2) (.int .u64 t361)) (fun _ hk => hk.2) (.int .u64 t362)) (fun _ hk => hk.2) (.int .i64 t363)) (fun _ hk => hk.2) (.int .i64 t364)) (fun _ hk => hk.2) (.bool t365)) (fun _ hk => trivial)))⟩; have n2_ : Aside0 (Kd.S k67 67 w26 w.heap.size (fun _ => True) (.slice Ao14 t339.length co14) t339) := ⟨(by rw [hw]; exact (by (with_reducible repeat (first | apply Kd.S_alloc | apply Kd.S_drewN | apply Kd.S_drew)); exact Kd.S_mono (Kd.S_far (p := ⟨gb367, 5, none⟩) (Kd.S_far (p := ⟨gb367, 4, none⟩) (Kd.S_far (p := ⟨gb367, 3, none⟩) (Kd.S_far (p := ⟨gb367, 2, none⟩) (Kd.S_far (p := ⟨gb367, 1, none⟩) (Kd.S_far (p := ⟨gb367, 0, none⟩) (Kd.S_types HO341.out BK367.out (by decide)) (fun _ hk => hk.2) (.int .u64 t360)) (fun _ hk => hk.2) (.int .u64 t361)) (fun _ hk => hk.2) (.int .u64 t362)) (fun _ hk => hk.2) (.int .i64 t363)) (fun _ hk => hk.2) (.int .i64 t364)) (fun _ hk => hk.2) (.bool t365)) (fun _ hk => trivial)))⟩; have n3_ : Aside0 (Kd.R k35 35 w26 w.heap.size (fun _ => True) (.slice Ao15 t342.length co15) t342) := ⟨(by rw [hw]; exact (by (with_reducible repeat (first | apply Kd.R_alloc | apply Kd.R_drewN | apply Kd.R_drew)); exact Kd.R_mono (Kd.R_far (p := ⟨gb367, 5, none⟩) (Kd.R_far (p := ⟨gb367, 4, none⟩) (Kd.R_far (p := ⟨gb367, 3, none⟩) (Kd.R_far (p := ⟨gb367, 2, none⟩) (Kd.R_far (p := ⟨gb367, 1, none⟩) (Kd.R_far (p := ⟨gb367, 0, none⟩) (Kd.R_types HO344.out BK367.out (by decide)) (fun _ hk => hk.2) (.int .u64 t360)) (fun _ hk => hk.2) (.int .u64 t361)) (fun _ hk => hk.2) (.int .u64 t362)) (fun _ hk => hk.2) (.int .i64 t363)) (fun _ hk => hk.2) (.int .i64 t364)) (fun _ hk => hk.2) (.bool t365)) (fun _ hk => trivial)))⟩; have n4_ : Aside0 (Kd.R k72 72 w26 w.heap.size (fun _ => True) (.slice Ao16 t345.length co16) t345) := ⟨(by rw [hw]; exact (by (with_reducible repeat (first | apply Kd.R_alloc | apply Kd.R_drewN | apply Kd.R_drew)); exact Kd.R_mono (Kd.R_far (p := ⟨gb367, 5, none⟩) (Kd.R_far (p := ⟨gb367, 4, none⟩) (Kd.R_far (p := ⟨gb367, 3, none⟩) (Kd.R_far (p := ⟨gb367, 2, none⟩) (Kd.R_far (p := ⟨gb367, 1, none⟩) (Kd.R_far (p := ⟨gb367, 0, none⟩) (Kd.R_types HO347.out BK367.out (by decide)) (fun _ hk => hk.2) (.int .u64 t360)) (fun _ hk => hk.2) (.int .u64 t361)) (fun _ hk => hk.2) (.int .u64 t362)) (fun _ hk => hk.2) (.int .i64 t363)) (fun _ hk => hk.2) (.int .i64 t364)) (fun _ hk => hk.2) (.bool t365)) (fun _ hk => trivial)))⟩; have n5_ := st6 (fun k_ => nv k_ v333 ∧ nw k_ Ao18 t351 co18) hw HO350 BK367 (fun _ h => ⟨h.1, h.2⟩); have n6_ := st6 (fun k_ => nv k_ v333 ∧ nw k_ Ao17 t348 co17) hw HO353 BK367 (fun _ h => ⟨h.1, h.2⟩); have n7_ := bf6 hw NB366_367 BK366; have n8_ := bp6 #[.int .u64 t360, .int .u64 t361, .int .u64 t362, .int .i64 t363, .int .i64 t364, .bool t365] hw BK367; have n9_ : Aside0 (Below w.heap.size w w26) := ⟨(by rw [hw]; exact (uc HB.out))⟩; revert n0_ n1_ n2_ n3_ n4_ n5_ n6_ n7_ n8_ n9_; clear hw HO334 HO338 HO341 HO344 HO347 HO350 HO353 BK366 BK367 HB; intro HO334 HO338 HO341 HO344 HO347 HO350 HO353 BK366 BK367 HB) | ((with_reducible refine gate_dst (N := 15) rfl ?_); (with_reducible refine gate_callee (f := 20) rfl ?_); refine gl (some 15) Try.func20 #[] ?_; (with_reducible refine (curtilagelaw18_lib.calls  t368 t369 t372 t375 t378 t381 t384 _ A4.out).mono ?_); rintro e w27 ⟨v370, v373, v376, v379, v382, v385, rfl, ho0, ho1, ho2, ho3, ho4, ho5, hb⟩; refine ⟨_, rfl, ?_⟩; have n0_ := am (Kd.R_mono (Kd.R_told (Kd.R_told (Kd.R_old (ua HO334.out) hb) (Kd.R_base ho4)) (Kd.R_base ho5)) (fun _ h_ => h_.1)); have n1_ := am (Kd.R_elder' (ua HO338.out) (Kd.R_base ho0) hb); have n2_ := am (Kd.S_elder' (by (with_reducible repeat (first | apply Kd.S_alloc | apply Kd.S_drewN | apply Kd.S_drew)); exact HO341.out) (Kd.S_base ho1) hb); have n3_ := am (Kd.R_elder' (ua HO344.out) (Kd.R_base ho2) hb); have n4_ := am (Kd.R_elder' (ua HO347.out) (Kd.R_base ho3) hb); have n5_ := am (Kd.R_mono (Kd.R_told (Kd.R_told (Kd.R_old (ua HO350.out) hb) (Kd.R_base ho4)) (Kd.R_base ho5)) (fun _ h_ => h_.1)); have n6_ := am (Kd.R_mono (Kd.R_told (Kd.R_told (Kd.R_old (ua HO353.out) hb) (Kd.R_base ho4)) (Kd.R_base ho5)) (fun _ h_ => h_.1)); have n7_ := am (Kd.R_lower (Kd.R_new' ho0 (Kd.R_lt (ua HO338.out))) (below_size (uc HB.out))); have n8_ := am (Kd.S_lower (Kd.S_new' ho1 (Kd.S_lt (by (with_reducible repeat (first | apply Kd.S_alloc | apply Kd.S_drewN | apply Kd.S_drew)); exact HO341.out))) (below_size (uc HB.out))); have n9_ := am (Kd.R_lower (Kd.R_new' ho2 (Kd.R_lt (ua HO344.out))) (below_size (uc HB.out))); have n10_ := am (Kd.R_lower (Kd.R_new' ho3 (Kd.R_lt (ua HO347.out))) (below_size (uc HB.out))); have n11_ := am (Kd.R_lower (Kd.R_new' (Kd.R_new' (Kd.R_new' ho4 (Kd.R_lt (ua HO334.out))) (Kd.R_lt (ua HO350.out))) (Kd.R_lt (ua HO353.out))) (below_size (uc HB.out))); have n12_ := am (Kd.R_lower (Kd.R_new' (Kd.R_new' (Kd.R_new' ho5 (Kd.R_lt (ua HO334.out))) (Kd.R_lt (ua HO350.out))) (Kd.R_lt (ua HO353.out))) (below_size (uc HB.out))); have n13_ := bw BK366 hb; have n14_ := bw BK367 hb; have n15_ := bs HB hb; revert n0_ n1_ n2_ n3_ n4_ n5_ n6_ n7_ n8_ n9_ n10_ n11_ n12_ n13_ n14_ n15_; clear HO334 HO338 HO341 HO344 HO347 HO350 HO353 BK366 BK367 HB; intro HO334 HO338 HO341 HO344 HO347 HO350 HO353 HO371 HO374 HO377 HO380 HO383 HO386 BK366 BK367 HB; (try clear hb); (try clear ho0); (try clear ho1); (try clear ho2); (try clear ho3); (try clear ho4); (try clear ho5); obtain ⟨Ao28, co28, eo28⟩ := Kd.R_slice HO371.out; subst eo28; obtain ⟨Ao29, co29, eo29⟩ := Kd.S_slice HO374.out; subst eo29; obtain ⟨Ao30, co30, eo30⟩ := Kd.R_slice HO377.out; subst eo30; obtain ⟨Ao31, co31, eo31⟩ := Kd.R_slice HO380.out; subst eo31; obtain ⟨Ao32, co32, eo32⟩ := Kd.R_slice HO383.out; subst eo32; obtain ⟨Ao33, co33, eo33⟩ := Kd.R_slice HO386.out; subst eo33) | ((with_reducible refine gate_dst (N := 16) rfl ?_); (with_reducible refine gate_callee (f := 8) rfl ?_); refine gl (some 16) Try.func8 #[.agg #[.string t368, .slice Ao28 t369.length co28, .slice Ao29 t372.length co29, .slice Ao30 t375.length co30, .slice Ao31 t378.length co31, .slice Ao32 t381.length co32, .slice Ao33 t384.length co33], .int .u64 1024, .int .i64 1] ?_; (with_reducible refine (table_Data.calls k t368 _ _ t369 _ _ t372 _ _ t375 _ _ t378 _ _ t381 _ _ t384 1024 1 t387 t388 t389 t390 t391 t392 _ ?side1 ?side2 ?side3 ?side4 ?side5 ?side6 ?side7 ?side8 ?side9 ?side10 ?side11 ?side12 A5.out).mono ?_); (case side1 => exact us (Kd.R_reads' HO371.out).2.2); (case side2 => exact (Kd.R_reads' HO371.out).2.1); (case side3 => exact us (Kd.S_reads' HO374.out).2.2); (case side4 => exact (Kd.S_reads' HO374.out).2.1); (case side5 => exact us (Kd.R_reads' HO377.out).2.2); (case side6 => exact (Kd.R_reads' HO377.out).2.1); (case side7 => exact us (Kd.R_reads' HO380.out).2.2); (case side8 => exact (Kd.R_reads' HO380.out).2.1); (case side9 => exact us (Kd.R_reads' HO383.out).2.2); (case side10 => exact (Kd.R_reads' HO383.out).2.1); (case side11 => exact us (Kd.R_reads' HO386.out).2.2); (case side12 => exact (Kd.R_reads' HO386.out).2.1); rintro e w34 ⟨rfl, hb⟩; refine ⟨_, rfl, ?_⟩; have n0_ := am (Kd.R_below (ua HO334.out) hb); have n1_ := am (Kd.R_below (ua HO338.out) hb); have n2_ := am (Kd.S_below (by (with_reducible repeat (first | apply Kd.S_alloc | apply Kd.S_drewN | apply Kd.S_drew)); exact HO341.out) hb); have n3_ := am (Kd.R_below (ua HO344.out) hb); have n4_ := am (Kd.R_below (ua HO347.out) hb); have n5_ := am (Kd.R_below (ua HO350.out) hb); have n6_ := am (Kd.R_below (ua HO353.out) hb); have n7_ := am (Kd.R_below (ua HO371.out) hb); have n8_ := am (Kd.S_below (by (with_reducible repeat (first | apply Kd.S_alloc | apply Kd.S_drewN | apply Kd.S_drew)); exact HO374.out) hb); have n9_ := am (Kd.R_below (ua HO377.out) hb); have n10_ := am (Kd.R_below (ua HO380.out) hb); have n11_ := am (Kd.R_below (ua HO383.out) hb); have n12_ := am (Kd.R_below (ua HO386.out) hb); have n13_ := bw BK366 hb; have n14_ := bw BK367 hb; have n15_ := bs HB hb; revert n0_ n1_ n2_ n3_ n4_ n5_ n6_ n7_ n8_ n9_ n10_ n11_ n12_ n13_ n14_ n15_; clear HO334 HO338 HO341 HO344 HO347 HO350 HO353 HO371 HO374 HO377 HO380 HO383 HO386 BK366 BK367 HB; intro HO334 HO338 HO341 HO344 HO347 HO350 HO353 HO371 HO374 HO377 HO380 HO383 HO386 BK366 BK367 HB; (try clear hb)) | ((with_reducible refine gate_dst (N := 5) rfl ?_); (try (refine gate_guard (by rfl) ?_; dsimp only)); refine box_event ?hg (N := 5) ?hd (cs := #[.int .u64 0, .int .u64 0, .int .u64 0, .int .i64 0, .int .i64 0, .bool false]) (t := 37) ?hr ?_; (case hd => rfl); (case hg => rfl); (case hr => first | (go_simp; done) | (go_simp; rfl)); intro gb393 hg w35 hbox hb; have n0_ := am (Kd.R_below (ua HO334.out) hb); have n1_ := am (Kd.R_below (ua HO338.out) hb); have n2_ := am (Kd.S_below (by (with_reducible repeat (first | apply Kd.S_alloc | apply Kd.S_drewN | apply Kd.S_drew)); exact HO341.out) hb); have n3_ := am (Kd.R_below (ua HO344.out) hb); have n4_ := am (Kd.R_below (ua HO347.out) hb); have n5_ := am (Kd.R_below (ua HO350.out) hb); have n6_ := am (Kd.R_below (ua HO353.out) hb); have n7_ := am (Kd.R_below (ua HO371.out) hb); have n8_ := am (Kd.S_below (by (with_reducible repeat (first | apply Kd.S_alloc | apply Kd.S_drewN | apply Kd.S_drew)); exact HO374.out) hb); have n9_ := am (Kd.R_below (ua HO377.out) hb); have n10_ := am (Kd.R_below (ua HO380.out) hb); have n11_ := am (Kd.R_below (ua HO383.out) hb); have n12_ := am (Kd.R_below (ua HO386.out) hb); have n13_ := bw BK366 hb; have n14_ := bw BK367 hb; have n15_ := bs HB hb; have n16_ := am (hbox); have n17_ := nz HB hg; have n18_ := nz HB hg; have n19_ := nl BK366 hg; have n20_ := nr BK366 hg; have n21_ := nl BK367 hg; have n22_ := nr BK367 hg; revert n0_ n1_ n2_ n3_ n4_ n5_ n6_ n7_ n8_ n9_ n10_ n11_ n12_ n13_ n14_ n15_ n16_ n17_ n18_ n19_ n20_ n21_ n22_; clear HO334 HO338 HO341 HO344 HO347 HO350 HO353 HO371 HO374 HO377 HO380 HO383 HO386 BK366 BK367 HB; intro HO334 HO338 HO341 HO344 HO347 HO350 HO353 HO371 HO374 HO377 HO380 HO383 HO386 BK366 BK367 HB BK393 GW393 GE393 NB366_393 NB393_366 NB367_393 NB393_367; clear hb hbox hg; have hnb36 := NB393_366.out; have hnc36 := NB366_393.out; have hnb37 := NB393_367.out; have hnc37 := NB367_393.out; obtain ⟨hcz38_0, hcz38_1, hcz38_2, hcz38_3, hcz38_4, hcz38_5, hfz38_0, hfz38_1, hfz38_2, hfz38_3, hfz38_4, hfz38_5⟩ := cells6 BK393.out) | ((with_reducible refine gate_store (t := 37) (p := 5) rfl ?_); refine store_event (t := 37) (p := 5) (v := ?vo_w39) (w1 := ((((((w35.setCell ⟨gb393, 0, none⟩ (.int .u64 t387)).setCell ⟨gb393, 1, none⟩ (.int .u64 t388)).setCell ⟨gb393, 2, none⟩ (.int .u64 t389)).setCell ⟨gb393, 3, none⟩ (.int .i64 t390)).setCell ⟨gb393, 4, none⟩ (.int .i64 t391)).setCell ⟨gb393, 5, none⟩ (.bool t392))) ?hg ?ho ?hn ?hr ?_; (case ho => rfl); (case hg => rfl); (case hn => rfl); (case hr => first | (go_simp; done) | (go_simp; rfl)); intro w39 hw; have n0_ := st6 (fun k_ => nw k_ Ao17 t348 co17 ∧ nw k_ Ao18 t351 co18 ∧ nw k_ Ao32 t381 co32 ∧ nw k_ Ao33 t384 co33) hw HO334 BK393 (fun _ h => ⟨h.1.1.1, h.1.1.2, h.1.2, h.2⟩); have n1_ := st6 (fun k_ => nw k_ Ao28 t369 co28) hw HO338 BK393 (fun _ h => h.2); have n2_ : Aside0 (Kd.S k67 67 w39 w.heap.size (fun k_ => nw k_ Ao29 t372 co29) (.slice Ao14 t339.length co14) t339) := ⟨(by rw [hw]; exact (by (with_reducible repeat (first | apply Kd.S_alloc | apply Kd.S_drewN | apply Kd.S_drew)); exact Kd.S_mono (Kd.S_far (p := ⟨gb393, 5, none⟩) (Kd.S_far (p := ⟨gb393, 4, none⟩) (Kd.S_far (p := ⟨gb393, 3, none⟩) (Kd.S_far (p := ⟨gb393, 2, none⟩) (Kd.S_far (p := ⟨gb393, 1, none⟩) (Kd.S_far (p := ⟨gb393, 0, none⟩) (Kd.S_types HO341.out BK393.out (by decide)) (fun _ hk => hk.2) (.int .u64 t387)) (fun _ hk => hk.2) (.int .u64 t388)) (fun _ hk => hk.2) (.int .u64 t389)) (fun _ hk => hk.2) (.int .i64 t390)) (fun _ hk => hk.2) (.int .i64 t391)) (fun _ hk => hk.2) (.bool t392)) (fun _ hk => hk.1.2)))⟩; have n3_ := st6 (fun k_ => nw k_ Ao30 t375 co30) hw HO344 BK393 (fun _ h => h.2); have n4_ := st6 (fun k_ => nw k_ Ao31 t378 co31) hw HO347 BK393 (fun _ h => h.2); have n5_ := st6 (fun k_ => nv k_ v333 ∧ nw k_ Ao18 t351 co18 ∧ nw k_ Ao32 t381 co32 ∧ nw k_ Ao33 t384 co33) hw HO350 BK393 (fun _ h => ⟨h.1.1.1, h.1.1.2, h.1.2, h.2⟩); have n6_ := st6 (fun k_ => nv k_ v333 ∧ nw k_ Ao17 t348 co17 ∧ nw k_ Ao32 t381 co32 ∧ nw k_ Ao33 t384 co33) hw HO353 BK393 (fun _ h => ⟨h.1.1.1, h.1.1.2, h.1.2, h.2⟩); have n7_ := st6 (fun k_ => nw k_ Ao13 t336 co13) hw HO371 BK393 (fun _ h => h.2); have n8_ : Aside0 (Kd.S k67 67 w39 w.heap.size (fun k_ => nw k_ Ao14 t339 co14) (.slice Ao29 t372.length co29) t372) := ⟨(by rw [hw]; exact (by (with_reducible repeat (first | apply Kd.S_alloc | apply Kd.S_drewN | apply Kd.S_drew)); exact Kd.S_mono (Kd.S_far (p := ⟨gb393, 5, none⟩) (Kd.S_far (p := ⟨gb393, 4, none⟩) (Kd.S_far (p := ⟨gb393, 3, none⟩) (Kd.S_far (p := ⟨gb393, 2, none⟩) (Kd.S_far (p := ⟨gb393, 1, none⟩) (Kd.S_far (p := ⟨gb393, 0, none⟩) (Kd.S_types HO374.out BK393.out (by decide)) (fun _ hk => hk.2) (.int .u64 t387)) (fun _ hk => hk.2) (.int .u64 t388)) (fun _ hk => hk.2) (.int .u64 t389)) (fun _ hk => hk.2) (.int .i64 t390)) (fun _ hk => hk.2) (.int .i64 t391)) (fun _ hk => hk.2) (.bool t392)) (fun _ hk => hk.1.2)))⟩; have n9_ := st6 (fun k_ => nw k_ Ao15 t342 co15) hw HO377 BK393 (fun _ h => h.2); have n10_ := st6 (fun k_ => nw k_ Ao16 t345 co16) hw HO380 BK393 (fun _ h => h.2); have n11_ := st6 (fun k_ => nv k_ v333 ∧ nw k_ Ao17 t348 co17 ∧ nw k_ Ao18 t351 co18 ∧ nw k_ Ao33 t384 co33) hw HO383 BK393 (fun _ h => ⟨h.1.1.2, h.1.2, h.2, h.1.1.1⟩); have n12_ := st6 (fun k_ => nv k_ v333 ∧ nw k_ Ao17 t348 co17 ∧ nw k_ Ao18 t351 co18 ∧ nw k_ Ao32 t381 co32) hw HO386 BK393 (fun _ h => ⟨h.1.1.2, h.1.2, h.2, h.1.1.1⟩); have n13_ := bf6 hw NB366_393 BK366; have n14_ := bf6 hw NB367_393 BK367; have n15_ := bp6 #[.int .u64 t387, .int .u64 t388, .int .u64 t389, .int .i64 t390, .int .i64 t391, .bool t392] hw BK393; have n16_ : Aside0 (Below w.heap.size w w39) := ⟨(by rw [hw]; exact (uc HB.out))⟩; revert n0_ n1_ n2_ n3_ n4_ n5_ n6_ n7_ n8_ n9_ n10_ n11_ n12_ n13_ n14_ n15_ n16_; clear hw HO334 HO338 HO341 HO344 HO347 HO350 HO353 HO371 HO374 HO377 HO380 HO383 HO386 BK366 BK367 BK393 HB; intro HO334 HO338 HO341 HO344 HO347 HO350 HO353 HO371 HO374 HO377 HO380 HO383 HO386 BK366 BK367 BK393 HB) | ((with_reducible refine gate_dst (N := 21) rfl ?_); (try (refine gate_guard (by rfl) ?_; dsimp only)); refine Kd.R_lit (Kd.int .i64) _ 3 ?hg (N := 21) ?hd (xs := ([5, 6, 7] : List Int)) (inner := [.int .i64 5, .int .i64 6, .int .i64 7]) (ok := fun _ => True) (okp := fun _ => True) ?hr ?hp (fun _ hk => hk) trivial (Below.refl _ _) (Nat.le_refl _) (by simp) ?_; (case hd => rfl); (case hg => rfl); (case hr => first | (go_simp; done) | (go_simp; rfl)); (case hp => exact (Reps.one (show Kd.M (Kd.int .i64) _ _ _ 5 [.int .i64 5] from rfl) (Reps.one (show Kd.M (Kd.int .i64) _ _ _ 6 [.int .i64 6] from rfl) (Reps.one (show Kd.M (Kd.int .i64) _ _ _ 7 [.int .i64 7] from rfl) (Reps.none _ _))))); intro v395 w40 ho41 hb hg_ hnew_; clear hg_ hnew_; (first | rw [← Ny394.out] at ho41 | (simp only [Int.reduceToNat] at ho41; rw [← Ny394.out] at ho41)); have n0_ := am (Kd.R_elder' (ua HO334.out) (Kd.R_base ho41) hb); have n1_ := am (Kd.R_below (ua HO338.out) hb); have n2_ := am (Kd.S_below (by (with_reducible repeat (first | apply Kd.S_alloc | apply Kd.S_drewN | apply Kd.S_drew)); exact HO341.out) hb); have n3_ := am (Kd.R_below (ua HO344.out) hb); have n4_ := am (Kd.R_below (ua HO347.out) hb); have n5_ := am (Kd.R_elder' (ua HO350.out) (Kd.R_base ho41) hb); have n6_ := am (Kd.R_elder' (ua HO353.out) (Kd.R_base ho41) hb); have n7_ := am (Kd.R_below (ua HO371.out) hb); have n8_ := am (Kd.S_below (by (with_reducible repeat (first | apply Kd.S_alloc | apply Kd.S_drewN | apply Kd.S_drew)); exact HO374.out) hb); have n9_ := am (Kd.R_below (ua HO377.out) hb); have n10_ := am (Kd.R_below (ua HO380.out) hb); have n11_ := am (Kd.R_elder' (ua HO383.out) (Kd.R_base ho41) hb); have n12_ := am (Kd.R_elder' (ua HO386.out) (Kd.R_base ho41) hb); have n13_ := am (Kd.R_lower (Kd.R_new' (Kd.R_new' (Kd.R_new' (Kd.R_new' (Kd.R_new' ho41 (Kd.R_lt (ua HO334.out))) (Kd.R_lt (ua HO350.out))) (Kd.R_lt (ua HO353.out))) (Kd.R_lt (ua HO383.out))) (Kd.R_lt (ua HO386.out))) (below_size (uc HB.out))); have n14_ := bw BK366 hb; have n15_ := bw BK367 hb; have n16_ := bw BK393 hb; have n17_ := bs HB hb; revert n0_ n1_ n2_ n3_ n4_ n5_ n6_ n7_ n8_ n9_ n10_ n11_ n12_ n13_ n14_ n15_ n16_ n17_; clear HO334 HO338 HO341 HO344 HO347 HO350 HO353 HO371 HO374 HO377 HO380 HO383 HO386 BK366 BK367 BK393 HB; intro HO334 HO338 HO341 HO344 HO347 HO350 HO353 HO371 HO374 HO377 HO380 HO383 HO386 HO396 BK366 BK367 BK393 HB; clear hb ho41; obtain ⟨Ao42, co42, eo42⟩ := Kd.R_slice HO334.out; subst eo42; obtain ⟨Ao43, co43, eo43⟩ := Kd.R_slice HO396.out; subst eo43) | (go_at_call 21; (with_reducible refine (curtilageref10_Numbers.calls k _ _ t331 _ _ y394 true _ ?side1 ?side2 ?side3 ?side4 A7.out).mono ?_); (case side1 => exact us (Kd.R_reads' HO334.out).2.2); (case side2 => exact (Kd.R_reads' HO334.out).2.1); (case side3 => exact us (Kd.R_reads' HO396.out).2.2); (case side4 => exact (Kd.R_reads' HO396.out).2.1); rintro e w' ⟨rfl, ⟨nd, rfl⟩⟩; obtain ⟨hcz44_0, hcz44_1, hcz44_2, hcz44_3, hcz44_4, hcz44_5, hfz44_0, hfz44_1, hfz44_2, hfz44_3, hfz44_4, hfz44_5⟩ := cells6 BK366.out; obtain ⟨hcz45_0, hcz45_1, hcz45_2, hcz45_3, hcz45_4, hcz45_5, hfz45_0, hfz45_1, hfz45_2, hfz45_3, hfz45_4, hfz45_5⟩ := cells6 BK367.out; obtain ⟨hcz46_0, hcz46_1, hcz46_2, hcz46_3, hcz46_4, hcz46_5, hfz46_0, hfz46_1, hfz46_2, hfz46_3, hfz46_4, hfz46_5⟩ := cells6 BK393.out))
     go_ret
     exact ur (uc HB.out)
    ·rw [if_neg c10] at H
     have c10b0 : (t360 == 1280 && (t361 == 1580 && (t362 == 1280 && (t363 == 155 && (t364 == 5 && (t365)))))) = false := by simpa using c10
     (try (have c10b1 : decide (t360 = 1280 && (t361 == 1580 && (t362 == 1280 && (t363 == 155 && (t364 == 5 && (t365)))))) = false := by simpa using c10))
     (try (have c10b2 : (t360 == 1280 && (t361 == 1580 && (t362 == 1280 && (t363 == 155 && (t364 == 5 && (t365)))))) = false := by simpa using c10))
     (try (have c10b3 : ¬ (t360 = 1280 && (t361 == 1580 && (t362 == 1280 && (t363 == 155 && (t364 == 5 && (t365)))))) := by simpa using c10))
     clear c10
     exact absurd ((Option.some.inj H).trans HT.out) (by decide)
   ·rw [if_neg c9] at H
    have c9b0 : (t354 == 1024 && (t355 == 1032 && (t356 == 1028 && (t357 == 141 && (t358 == 5 && (t359)))))) = false := by simpa using c9
    (try (have c9b1 : decide (t354 = 1024 && (t355 == 1032 && (t356 == 1028 && (t357 == 141 && (t358 == 5 && (t359)))))) = false := by simpa using c9))
    (try (have c9b2 : (t354 == 1024 && (t355 == 1032 && (t356 == 1028 && (t357 == 141 && (t358 == 5 && (t359)))))) = false := by simpa using c9))
    (try (have c9b3 : ¬ (t354 = 1024 && (t355 == 1032 && (t356 == 1028 && (t357 == 141 && (t358 == 5 && (t359)))))) := by simpa using c9))
    clear c9
    exact absurd ((Option.some.inj H).trans HT.out) (by decide)
  ·replace c8 := Bool.eq_false_iff.mpr c8
   subst c8
   have H1 : (some false) = some r := by rw [if_neg (show ¬ (false = true) by decide)] at H; exact H
   clear H
   have H := H1
   clear H1
   exact absurd ((Option.some.inj H).trans HT.out) (by decide)
 ·rw [if_neg c6] at H
  have c6b0 := beq_eq_false_iff_ne.mpr c6
  have c6b1 := bne_iff_ne.mpr c6
  exact absurd ((Option.some.inj H).trans HT.out) (by decide)

end Go.Proofs.Ytlbfeklpncoccaa.P
