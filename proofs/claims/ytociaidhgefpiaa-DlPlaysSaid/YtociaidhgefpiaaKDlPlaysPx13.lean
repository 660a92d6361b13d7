/- What functions of the program, and of its laws, give, each proved of its code by a walk; no condition. -/
import Derived.Test.YtociaidhgefpiaaKDlPlaysPx0
import Derived.Test.YtociaidhgefpiaaKDlPlaysPx1
import Derived.Test.YtociaidhgefpiaaKDlPlaysPx12
import Derived.Test.YtociaidhgefpiaaKDlPlaysSq
import Derived.Test.YtociaidhgefpiaaKDlPlaysUsh
namespace Go.Proofs.Ytociaidhgefpiaa.P
open Go.RowKit Go.Proofs.YtociaidhgefpiaaW.PrintWords Go.Proofs.YtociaidhgefpiaaW.PrintLast Go.Proofs.YtociaidhgefpiaaW.PrintMore
attribute [local go_sem] max2_int min2_int max_two min_two max_three min_three max_four min_four   -- for this text's walks alone
set_option linter.unusedVariables false
set_option linter.unusedSimpArgs false

mutual
def curtilageref13_Reach.j0 : Nat → List (S38) → Int → Bool → Option (List Int)
  | 0, _, _, _ => none
  | k + 1, x0, x1, x18 => if x18 = true then (some ([] : List Int)) else (if 0 ≤ (x0.length : Int) then (if ((x0.length : Int) : Int).toNat ≤ 281474976710656 then ((some (List.replicate ((x0.length : Int) : Int).toNat false : List Bool)).bind fun y414 => (if 0 ≤ x1 then (if x1 < (y414.length : Int) then (curtilageref13_Reach.l0 k x0 (y414.set (x1 : Int).toNat true) 0) else (none)) else (none))) else (none)) else (none))
def curtilageref13_Reach.l0 : Nat → List (S38) → List Bool → Int → Option (List Int)
  | 0, _, _, _ => none
  | k + 1, x0, x5, x6 => if x6 < (x0.length : Int) then (curtilageref13_Reach.l1 k x0 x5 x6 0) else (curtilageref13_Reach.l3 k x0 x5 ([] : List Int) 0)
def curtilageref13_Reach.l1 : Nat → List (S38) → List Bool → Int → Int → Option (List Int)
  | 0, _, _, _, _ => none
  | k + 1, x0, x5, x6, x7 => if x7 < (x0.length : Int) then (curtilageref13_Reach.l2 k x0 x5 x6 x7 0) else (curtilageref13_Reach.l0 k x0 x5 (wrap64 (x6 + 1)))
def curtilageref13_Reach.l2 : Nat → List (S38) → List Bool → Int → Int → Int → Option (List Int)
  | 0, _, _, _, _, _ => none
  | k + 1, x0, x5, x6, x7, x8 => if x8 < (x0.length : Int) then (if 0 ≤ x7 then (if x7 < (x5.length : Int) then (if rdOf false x5 x7 = true then ((curtilageref13_Needs.f k x0 x7 x8).bind fun t419 => (if t419 = true then (if 0 ≤ x8 then (if x8 < (x5.length : Int) then (curtilageref13_Reach.l2 k x0 (x5.set (x8 : Int).toNat true) x6 x7 (wrap64 (x8 + 1))) else (none)) else (none)) else (curtilageref13_Reach.l2 k x0 x5 x6 x7 (wrap64 (x8 + 1))))) else (curtilageref13_Reach.l2 k x0 x5 x6 x7 (wrap64 (x8 + 1)))) else (none)) else (none)) else (curtilageref13_Reach.l1 k x0 x5 x6 (wrap64 (x7 + 1)))
def curtilageref13_Reach.l3 : Nat → List (S38) → List Bool → List Int → Int → Option (List Int)
  | 0, _, _, _, _ => none
  | k + 1, x0, x5, x9, x10 => if x10 < (x0.length : Int) then (if 0 ≤ x10 then (if x10 < (x5.length : Int) then (if rdOf false x5 x10 = true then (if x9.length < 17592186044416 then (curtilageref13_Reach.l3 k x0 x5 (x9 ++ [x10]) (wrap64 (x10 + 1))) else (none)) else (curtilageref13_Reach.l3 k x0 x5 x9 (wrap64 (x10 + 1)))) else (none)) else (none)) else (some x9)
end
def curtilageref13_Reach.f (k : Nat) (l0 : List (S38)) (a1 : Int) : Option (List Int) := if a1 < 0 then (curtilageref13_Reach.j0 k l0 a1 true) else (curtilageref13_Reach.j0 k l0 a1 (decide (a1 ≥ (l0.length : Int))))
theorem curtilageref13_Reach.mono_l : ∀ k, (∀ y0 y1 y2, LeO (curtilageref13_Reach.j0 k y0 y1 y2) (curtilageref13_Reach.j0 (k + 1) y0 y1 y2)) ∧ (∀ y0 y1 y2, LeO (curtilageref13_Reach.l0 k y0 y1 y2) (curtilageref13_Reach.l0 (k + 1) y0 y1 y2)) ∧ (∀ y0 y1 y2 y3, LeO (curtilageref13_Reach.l1 k y0 y1 y2 y3) (curtilageref13_Reach.l1 (k + 1) y0 y1 y2 y3)) ∧ (∀ y0 y1 y2 y3 y4, LeO (curtilageref13_Reach.l2 k y0 y1 y2 y3 y4) (curtilageref13_Reach.l2 (k + 1) y0 y1 y2 y3 y4)) ∧ (∀ y0 y1 y2 y3, LeO (curtilageref13_Reach.l3 k y0 y1 y2 y3) (curtilageref13_Reach.l3 (k + 1) y0 y1 y2 y3))
  | 0 => ⟨fun _ _ _ r h => by simp [curtilageref13_Reach.j0] at h, fun _ _ _ r h => by simp [curtilageref13_Reach.l0] at h, fun _ _ _ _ r h => by simp [curtilageref13_Reach.l1] at h, fun _ _ _ _ _ r h => by simp [curtilageref13_Reach.l2] at h, fun _ _ _ _ r h => by simp [curtilageref13_Reach.l3] at h⟩
  | k + 1 => by
    obtain ⟨ih0, ih1, ih2, ih3, ih4⟩ := curtilageref13_Reach.mono_l k
    refine ⟨?_, ?_, ?_, ?_, ?_⟩
    · intro y0 y1 y2
      unfold curtilageref13_Reach.j0
      repeat' first
      | (with_reducible exact ih0 _ _ _)
      | (with_reducible exact ih1 _ _ _)
      | (with_reducible exact ih2 _ _ _ _)
      | (with_reducible exact ih3 _ _ _ _ _)
      | (with_reducible exact ih4 _ _ _ _)
      | (with_reducible exact curtilageref13_Needs.mono _ _ _ _)
      | (with_reducible exact LeO.refl _)
      | (with_reducible exact LeO.none _)
      | (with_reducible refine LeO.ite ?_ ?_)
      | (with_reducible refine LeO.bind ?_ (fun _ => ?_))
      | exact ih0 _ _ _
      | exact ih1 _ _ _
      | exact ih2 _ _ _ _
      | exact ih3 _ _ _ _ _
      | exact ih4 _ _ _ _
      | exact curtilageref13_Needs.mono _ _ _ _
      | exact LeO.none _
      | refine LeO.ite ?_ ?_
      | refine LeO.bind ?_ (fun _ => ?_)
    · intro y0 y1 y2
      unfold curtilageref13_Reach.l0
      repeat' first
      | (with_reducible exact ih0 _ _ _)
      | (with_reducible exact ih1 _ _ _)
      | (with_reducible exact ih2 _ _ _ _)
      | (with_reducible exact ih3 _ _ _ _ _)
      | (with_reducible exact ih4 _ _ _ _)
      | (with_reducible exact curtilageref13_Needs.mono _ _ _ _)
      | (with_reducible exact LeO.refl _)
      | (with_reducible exact LeO.none _)
      | (with_reducible refine LeO.ite ?_ ?_)
      | (with_reducible refine LeO.bind ?_ (fun _ => ?_))
      | exact ih0 _ _ _
      | exact ih1 _ _ _
      | exact ih2 _ _ _ _
      | exact ih3 _ _ _ _ _
      | exact ih4 _ _ _ _
      | exact curtilageref13_Needs.mono _ _ _ _
      | exact LeO.none _
      | refine LeO.ite ?_ ?_
      | refine LeO.bind ?_ (fun _ => ?_)
    · intro y0 y1 y2 y3
      unfold curtilageref13_Reach.l1
      repeat' first
      | (with_reducible exact ih0 _ _ _)
      | (with_reducible exact ih1 _ _ _)
      | (with_reducible exact ih2 _ _ _ _)
      | (with_reducible exact ih3 _ _ _ _ _)
      | (with_reducible exact ih4 _ _ _ _)
      | (with_reducible exact curtilageref13_Needs.mono _ _ _ _)
      | (with_reducible exact LeO.refl _)
      | (with_reducible exact LeO.none _)
      | (with_reducible refine LeO.ite ?_ ?_)
      | (with_reducible refine LeO.bind ?_ (fun _ => ?_))
      | exact ih0 _ _ _
      | exact ih1 _ _ _
      | exact ih2 _ _ _ _
      | exact ih3 _ _ _ _ _
      | exact ih4 _ _ _ _
      | exact curtilageref13_Needs.mono _ _ _ _
      | exact LeO.none _
      | refine LeO.ite ?_ ?_
      | refine LeO.bind ?_ (fun _ => ?_)
    · intro y0 y1 y2 y3 y4
      unfold curtilageref13_Reach.l2
      repeat' first
      | (with_reducible exact ih0 _ _ _)
      | (with_reducible exact ih1 _ _ _)
      | (with_reducible exact ih2 _ _ _ _)
      | (with_reducible exact ih3 _ _ _ _ _)
      | (with_reducible exact ih4 _ _ _ _)
      | (with_reducible exact curtilageref13_Needs.mono _ _ _ _)
      | (with_reducible exact LeO.refl _)
      | (with_reducible exact LeO.none _)
      | (with_reducible refine LeO.ite ?_ ?_)
      | (with_reducible refine LeO.bind ?_ (fun _ => ?_))
      | exact ih0 _ _ _
      | exact ih1 _ _ _
      | exact ih2 _ _ _ _
      | exact ih3 _ _ _ _ _
      | exact ih4 _ _ _ _
      | exact curtilageref13_Needs.mono _ _ _ _
      | exact LeO.none _
      | refine LeO.ite ?_ ?_
      | refine LeO.bind ?_ (fun _ => ?_)
    · intro y0 y1 y2 y3
      unfold curtilageref13_Reach.l3
      repeat' first
      | (with_reducible exact ih0 _ _ _)
      | (with_reducible exact ih1 _ _ _)
      | (with_reducible exact ih2 _ _ _ _)
      | (with_reducible exact ih3 _ _ _ _ _)
      | (with_reducible exact ih4 _ _ _ _)
      | (with_reducible exact curtilageref13_Needs.mono _ _ _ _)
      | (with_reducible exact LeO.refl _)
      | (with_reducible exact LeO.none _)
      | (with_reducible refine LeO.ite ?_ ?_)
      | (with_reducible refine LeO.bind ?_ (fun _ => ?_))
      | exact ih0 _ _ _
      | exact ih1 _ _ _
      | exact ih2 _ _ _ _
      | exact ih3 _ _ _ _ _
      | exact ih4 _ _ _ _
      | exact curtilageref13_Needs.mono _ _ _ _
      | exact LeO.none _
      | refine LeO.ite ?_ ?_
      | refine LeO.bind ?_ (fun _ => ?_)
theorem curtilageref13_Reach.mono : ∀ a0 a1 k, LeO (curtilageref13_Reach.f k a0 a1) (curtilageref13_Reach.f (k + 1) a0 a1) := by
  intro a0 a1 k
  obtain ⟨ih0, ih1, ih2, ih3, ih4⟩ := curtilageref13_Reach.mono_l k
  unfold curtilageref13_Reach.f
  repeat' first
      | (with_reducible exact ih0 _ _ _)
      | (with_reducible exact ih1 _ _ _)
      | (with_reducible exact ih2 _ _ _ _)
      | (with_reducible exact ih3 _ _ _ _ _)
      | (with_reducible exact ih4 _ _ _ _)
      | (with_reducible exact curtilageref13_Needs.mono _ _ _ _)
      | (with_reducible exact LeO.refl _)
      | (with_reducible exact LeO.none _)
      | (with_reducible refine LeO.ite ?_ ?_)
      | (with_reducible refine LeO.bind ?_ (fun _ => ?_))
      | exact ih0 _ _ _
      | exact ih1 _ _ _
      | exact ih2 _ _ _ _
      | exact ih3 _ _ _ _ _
      | exact ih4 _ _ _ _
      | exact curtilageref13_Needs.mono _ _ _ _
      | exact LeO.none _
      | refine LeO.ite ?_ ?_
      | refine LeO.bind ?_ (fun _ => ?_)
set_option maxHeartbeats 8000000 in
set_option maxRecDepth 100000 in
theorem curtilageref13_Reach.calls (k : Nat) (A0 : Option Addr) (c0 : Nat) (l0 : List (S38)) (a1 : Int) (r : List Int) (w : World) (hr0 : Kd.C k38 w A0 l0.length l0) (hc0 : l0.length ≤ c0) (h : curtilageref13_Reach.f k l0 a1 = some r) :
  Calls Try.prog 19 #[.slice A0 l0.length c0, .int .i64 a1] w fun e w' => ∃ v0_ : Value, e = .returned (v0_) ∧ Kd.R (Kd.int .i64) 3 w' w.heap.size (fun _ => True) v0_ r ∧ Below w.heap.size w w' := by
 have HR0 := am hr0
 have HC0 := am hc0
 clear hr0 hc0
 have HB := am (Below.refl w.heap.size w)
 have H : (if a1 < 0 then (curtilageref13_Reach.j0 k l0 a1 true) else (curtilageref13_Reach.j0 k l0 a1 (decide (a1 ≥ (l0.length : Int))))) = some r := h
 clear h
 have HC3 := am H
 clear H
 go_enter Try.func19, Try.ntmps19
 go_upto_region 1 with (fail)
 go_cut [18] (fun v18 wc => ∃ (kq : Nat) (x18_2 : Bool), v18 = .bool x18_2 ∧ Aside0 (curtilageref13_Reach.j0 kq l0 a1 x18_2 = some r) ∧ Aside0 (kq ≤ k) ∧ Aside0 (Below w.heap.size w wc))
 case first =>
  have H := HC3.out
  clear HC3
  by_cases c4 : a1 < 0
  ·rw [if_pos c4] at H
   have c4b0 : decide (a1 < 0) = true := decide_eq_true c4
   clear c4
   (first | rw [c4b0] | (simp only [i64_w, i32_w]; rw [c4b0]) | skip)
   have H' := am H
   clear H
   go_wp2
   go_meet
   case rel => exact ⟨_, (true), uf, H', ⟨by first | omega | exact Nat.le_refl _⟩, ⟨uc HB.out⟩⟩
  ·rw [if_neg c4] at H
   have c4b0 : decide (a1 < 0) = false := decide_eq_false c4
   clear c4
   (first | rw [c4b0] | (simp only [i64_w, i32_w]; rw [c4b0]) | skip)
   have H' := am H
   clear H
   go_wp2
   go_meet
   case rel => exact ⟨_, (decide (a1 ≥ (l0.length : Int))), uf, H', ⟨by first | omega | exact Nat.le_refl _⟩, ⟨uc HB.out⟩⟩
 case rest =>
  clear HC3
  try clear c1
  try clear p2
  try clear c4
  try clear c4b0
  obtain ⟨kq, x18_2, rfl, HA, HJ2, HB⟩ := hcut
  cases kq with
  | zero => exact absurd HA.out (by simp [curtilageref13_Reach.j0])
  | succ kj2 =>
   have H := HA.out
   clear HA
   simp only [curtilageref13_Reach.j0] at H
   by_cases c5 : x18_2 = true
   ·subst c5
    have H1 : (some ([] : List Int)) = some r := by rw [if_pos rfl] at H; exact H
    clear H
    have H := H1
    clear H1
    obtain rfl := Option.some.inj H
    go_wp2
    go_ret
    exact ⟨_, by first | rfl | (simp [errW_none, errW_some] <;> rfl) | (simp [*, errW_none, errW_some] <;> rfl), by first | exact Kd.R_nil _ _ _ _ _ | exact Kd.N_nil _ _ _ _ _ | exact Kd.V_nil _ _ _ _ _ | exact Kd.Q_nil _ _ _ _ _ | exact Kd.S_nil _ _ _ _ _, uc HB.out⟩
   ·replace c5 := Bool.eq_false_iff.mpr c5
    subst c5
    have H1 : (if 0 ≤ (l0.length : Int) then (if ((l0.length : Int) : Int).toNat ≤ 281474976710656 then ((some (List.replicate ((l0.length : Int) : Int).toNat false : List Bool)).bind fun y414 => (if 0 ≤ a1 then (if a1 < (y414.length : Int) then (curtilageref13_Reach.l0 kj2 l0 (y414.set (a1 : Int).toNat true) 0) else (none)) else (none))) else (none)) else (none)) = some r := by rw [if_neg (show ¬ (false = true) by decide)] at H; exact H
    clear H
    have H := H1
    clear H1
    by_cases c6 : 0 ≤ (l0.length : Int)
    ·rw [if_pos c6] at H
     have c6b0 := eq_true c6
     have c6b1 : decide (0 ≤ (l0.length : Int)) = true := decide_eq_true c6
     clear c6
     by_cases c7 : ((l0.length : Int) : Int).toNat ≤ 281474976710656
     ·rw [if_pos c7] at H
      have c7b0 := eq_true c7
      have c7b1 : decide (((l0.length : Int) : Int).toNat ≤ 281474976710656) = true := decide_eq_true c7
      clear c7
      obtain ⟨y414, hy414⟩ : ∃ y_ : List Bool, y_ = (List.replicate ((l0.length : Int) : Int).toNat false) := ⟨_, rfl⟩
      replace H : (if 0 ≤ a1 then (if a1 < (y414.length : Int) then (curtilageref13_Reach.l0 kj2 l0 (y414.set (a1 : Int).toNat true) 0) else (none)) else (none)) = some r := by first | (rw [hy414]; with_reducible exact H) | (have H2_ := (Option.bind_some _ _).symm.trans H; rw [hy414]; with_reducible exact H2_) | (have H2_ := (Option.bind_some _ _).symm.trans H; with_reducible exact H2_) | with_reducible exact H | (rw [hy414]; exact H) | exact H
      have Ny414 := am hy414
      clear hy414
      by_cases c8 : 0 ≤ a1
      ·rw [if_pos c8] at H
       have c8b0 : decide (0 ≤ a1) = true := decide_eq_true c8
       clear c8
       by_cases c9 : a1 < (y414.length : Int)
       ·rw [if_pos c9] at H
        have c9b0 : decide (a1 < (y414.length : Int)) = true := decide_eq_true c9
        clear c9
        obtain ⟨y417, hy417⟩ : ∃ y_ : List Bool, y_ = (y414.set (a1 : Int).toNat true) := ⟨_, rfl⟩
        replace H : (curtilageref13_Reach.l0 kj2 l0 y417 0) = some r := by first | (rw [hy417]; with_reducible exact H) | (have H2_ := (Option.bind_some _ _).symm.trans H; rw [hy417]; with_reducible exact H2_) | (have H2_ := (Option.bind_some _ _).symm.trans H; with_reducible exact H2_) | with_reducible exact H | (rw [hy417]; exact H) | exact H
        have Ny417 := am hy417
        clear hy417
        have H' := am H
        clear H
        go_wp2_with (first | ((with_reducible refine gate_dst (N := 21) rfl ?_); (try (refine gate_guard (by rfl) ?_; dsimp only)); refine Kd.R_make Kd.bool _ 4 rfl (N := 21) rfl 67 _ _ rfl (l0.length : Int) rfl rfl Try.underlying67 (.bool false) 1 info4 rfl (by decide) (by omega) false (ok := fun _ => True) (okp := fun _ => True) rfl (fun _ hk => hk) trivial (ud) (Nat.le_trans (Nat.mul_le_mul_right _ (ud : (l0.length : Int).toNat ≤ 281474976710656)) (by omega)) (Below.refl _ _) (Nat.le_refl _) ?_; intro v415 w11 ho12 hb hg_ hnew_; clear hg_ hnew_; (first | rw [← Ny414.out] at ho12 | (simp only [Int.reduceToNat] at ho12; rw [← Ny414.out] at ho12)); have n0_ := am (Kd.R_lower ho12 (below_size (uc HB.out))); have n1_ := am (below_step (uc HB.out) hb); revert n0_ n1_; clear HB; intro HO416 HB; clear hb ho12; have p10 : 0 ≤ (a1 : Int) := ud; have q10 : (a1 : Int) < ((y414.length : Int) : Int) := ud; obtain ⟨go10, co10, eo10, gb10, gl10, cl10, HG10⟩ := Kd.R_form HO416.out (by omega); (first | cases eo10 | (injection eo10 with ea_ en_ ec_; (first | subst ea_ | (injection ea_ with ea_; subst ea_)); subst ec_; clear en_)); have GB10 := am gb10; have GG10 := am HG10; clear gb10 gl10 HG10; obtain ⟨hx10_0, hf10_0⟩ := Kd.R_celln false HO416.out (a1 : Int) p10 q10; replace p10 := eq_true p10; replace q10 := eq_true q10; obtain ⟨hy13_, hz13_⟩ := Kd.R_celln false HO416.out (a1 : Int) (ud) (ud); have HP13 := Kd.R_putg HO416.out (a1 : Int) true) | ((with_reducible refine gate_store (t := 4) (p := 24) rfl ?_); refine store_event (t := 4) (p := 24) (v := ?vo_w14) (w1 := (w11.setCell ⟨go10, (a1 : Int).toNat, none⟩ (.bool true))) ?hg ?ho ?hn ?hr ?_; (case ho => rfl); (case hg => rfl); (case hn => rfl); (case hr => first | (go_simp; done) | (go_simp; rfl)); intro w14 hw; have hg : w11.grownBy w14 (some go10) := (by rw [hw]; exact HP13.2); have hp_ : Kd.R Kd.bool 4 w14 w.heap.size (fun _ => True) (.slice (some ⟨go10, 0, none⟩) y414.length co10) y417 := (by rw [hw, Ny417.out]; exact HP13.1); clear HP13; have n0_ := am (hp_); have n1_ := am ((by rw [hw]; exact below_set (HB.out) GB10.out : Below w.heap.size w w14)); revert n0_ n1_; clear HO416 HB; intro HO416 HB; clear hg hw hp_))
        go_loopg [6] kj2 (fun kq v6 w' => ∃ (x5_2 : List Bool) (x6_2 : Int), v6 = .int .i64 x6_2 ∧ Aside0 (curtilageref13_Reach.l0 kq l0 x5_2 x6_2 = some r) ∧ Aside0 (kq ≤ kj2) ∧ Aside0 (Kd.R Kd.bool 4 w' w.heap.size (fun _ => True) (.slice (some ⟨go10, 0, none⟩) y414.length co10) x5_2) ∧ Aside0 (Below w.heap.size w w'))
        case atStart => exact ⟨(y417), (0), uf, H', ⟨Nat.le_refl _⟩, ⟨ua HO416.out⟩, ⟨uc HB.out⟩⟩
        case round =>
         clear H'
         try clear c1
         try clear p1
         try clear q1
         try clear hx1
         try clear p2
         try clear c4
         try clear c4b0
         try clear c5
         try clear c6
         try clear c6b0
         try clear c6b1
         try clear c7
         try clear c7b0
         try clear c7b1
         try clear c8
         try clear c8b0
         try clear c9
         try clear c9b0
         try clear p10
         try clear q10
         try clear hx10
         try clear hf10
         try clear hx10_0
         try clear p10
         try clear p2
         try clear q10
         obtain ⟨x5_2, x6_2, rfl, HA, HK2, HO_5, HB⟩ := hrel
         have hl5_2 := (Kd.R_reads' HO_5.out).1
         rw [hl5_2] at HO_5
         (try simp only [hl5_2])
         cases gk with
         | zero => exact absurd HA.out (by simp [curtilageref13_Reach.l0])
         | succ k2 =>
          have H := HA.out
          clear HA
          simp only [curtilageref13_Reach.l0] at H
          by_cases c15 : x6_2 < (l0.length : Int)
          ·rw [if_pos c15] at H
           have c15b0 : decide (x6_2 < (l0.length : Int)) = true := decide_eq_true c15
           clear c15
           have H' := am H
           clear H
           go_wp2
           go_loopg [7] k2 (fun kq v7 w' => ∃ (x5_3 : List Bool) (x7_3 : Int), v7 = .int .i64 x7_3 ∧ Aside0 (curtilageref13_Reach.l1 kq l0 x5_3 x6_2 x7_3 = some r) ∧ Aside0 (kq ≤ k2) ∧ Aside0 (Kd.R Kd.bool 4 w' w.heap.size (fun _ => True) (.slice (some ⟨go10, 0, none⟩) x5_2.length co10) x5_3) ∧ Aside0 (Below w.heap.size w w'))
           case atStart => exact ⟨(x5_2), (0), uf, H', ⟨Nat.le_refl _⟩, ⟨by (try simp only [hl5_2]); (with_reducible repeat (first | apply Kd.R_alloc | apply Kd.R_drewN | apply Kd.R_drew)); exact HO_5.out⟩, ⟨uc HB.out⟩⟩
           case round =>
            clear H'
            try clear c1
            try clear p1
            try clear q1
            try clear hx1
            try clear p2
            try clear c4
            try clear c4b0
            try clear c5
            try clear c6
            try clear c6b0
            try clear c6b1
            try clear c7
            try clear c7b0
            try clear c7b1
            try clear c8
            try clear c8b0
            try clear c9
            try clear c9b0
            try clear p10
            try clear q10
            try clear hx10
            try clear hf10
            try clear c15
            try clear c15b0
            try clear hx10_0
            try clear p1
            try clear p10
            try clear p2
            try clear q1
            try clear q10
            obtain ⟨x5_3, x7_3, rfl, HA, HK3, HO_5, HB⟩ := hrel
            have hl5_3 := (Kd.R_reads' HO_5.out).1
            rw [hl5_3] at HO_5
            (try simp only [hl5_3])
            cases gk with
            | zero => exact absurd HA.out (by simp [curtilageref13_Reach.l1])
            | succ k3 =>
             have H := HA.out
             clear HA
             simp only [curtilageref13_Reach.l1] at H
             by_cases c16 : x7_3 < (l0.length : Int)
             ·rw [if_pos c16] at H
              have c16b0 : decide (x7_3 < (l0.length : Int)) = true := decide_eq_true c16
              clear c16
              have H' := am H
              clear H
              go_wp2
              go_loopg [8] k3 (fun kq v8 w' => ∃ (x5_4 : List Bool) (x8_4 : Int), v8 = .int .i64 x8_4 ∧ Aside0 (curtilageref13_Reach.l2 kq l0 x5_4 x6_2 x7_3 x8_4 = some r) ∧ Aside0 (kq ≤ k3) ∧ Aside0 (Kd.R Kd.bool 4 w' w.heap.size (fun _ => True) (.slice (some ⟨go10, 0, none⟩) x5_3.length co10) x5_4) ∧ Aside0 (Below w.heap.size w w'))
              case atStart => exact ⟨(x5_3), (0), uf, H', ⟨Nat.le_refl _⟩, ⟨by (try simp only [hl5_2]); (try simp only [hl5_3]); (with_reducible repeat (first | apply Kd.R_alloc | apply Kd.R_drewN | apply Kd.R_drew)); exact HO_5.out⟩, ⟨uc HB.out⟩⟩
              case round =>
               clear H'
               try clear c1
               try clear p1
               try clear q1
               try clear hx1
               try clear p2
               try clear c4
               try clear c4b0
               try clear c5
               try clear c6
               try clear c6b0
               try clear c6b1
               try clear c7
               try clear c7b0
               try clear c7b1
               try clear c8
               try clear c8b0
               try clear c9
               try clear c9b0
               try clear p10
               try clear q10
               try clear hx10
               try clear hf10
               try clear c15
               try clear c15b0
               try clear c16
               try clear c16b0
               try clear hx10_0
               try clear p1
               try clear p10
               try clear p2
               try clear q1
               try clear q10
               obtain ⟨x5_4, x8_4, rfl, HA, HK4, HO_5, HB⟩ := hrel
               have hl5_4 := (Kd.R_reads' HO_5.out).1
               rw [hl5_4] at HO_5
               (try simp only [hl5_4])
               cases gk with
               | zero => exact absurd HA.out (by simp [curtilageref13_Reach.l2])
               | succ k4 =>
                have H := HA.out
                clear HA
                simp only [curtilageref13_Reach.l2] at H
                by_cases c17 : x8_4 < (l0.length : Int)
                ·rw [if_pos c17] at H
                 have c17b0 : decide (x8_4 < (l0.length : Int)) = true := decide_eq_true c17
                 clear c17
                 by_cases c18 : 0 ≤ x7_3
                 ·rw [if_pos c18] at H
                  have c18b0 : decide (0 ≤ x7_3) = true := decide_eq_true c18
                  clear c18
                  by_cases c19 : x7_3 < (x5_4.length : Int)
                  ·rw [if_pos c19] at H
                   have c19b0 : decide (x7_3 < (x5_4.length : Int)) = true := decide_eq_true c19
                   clear c19
                   obtain ⟨bq20, hbq20⟩ : ∃ b_ : Bool, b_ = (rdOf false x5_4 x7_3) := ⟨_, rfl⟩
                   replace H : (if bq20 = true then ((curtilageref13_Needs.f k4 l0 x7_3 x8_4).bind fun t419 => (if t419 = true then (if 0 ≤ x8_4 then (if x8_4 < (x5_4.length : Int) then (curtilageref13_Reach.l2 k4 l0 (x5_4.set (x8_4 : Int).toNat true) x6_2 x7_3 (wrap64 (x8_4 + 1))) else (none)) else (none)) else (curtilageref13_Reach.l2 k4 l0 x5_4 x6_2 x7_3 (wrap64 (x8_4 + 1))))) else (curtilageref13_Reach.l2 k4 l0 x5_4 x6_2 x7_3 (wrap64 (x8_4 + 1)))) = some r := by rw [← hbq20] at H; exact H
                   have Nbq20 := am hbq20
                   clear hbq20
                   by_cases c21 : bq20 = true
                   ·subst c21
                    have H1 : ((curtilageref13_Needs.f k4 l0 x7_3 x8_4).bind fun t419 => (if t419 = true then (if 0 ≤ x8_4 then (if x8_4 < (x5_4.length : Int) then (curtilageref13_Reach.l2 k4 l0 (x5_4.set (x8_4 : Int).toNat true) x6_2 x7_3 (wrap64 (x8_4 + 1))) else (none)) else (none)) else (curtilageref13_Reach.l2 k4 l0 x5_4 x6_2 x7_3 (wrap64 (x8_4 + 1))))) = some r := by rw [if_pos rfl] at H; exact H
                    clear H
                    have H := H1
                    clear H1
                    replace H := Option.bind_eq_some_iff.mp H
                    obtain ⟨t419, A220, H⟩ := H
                    replace H : (if t419 = true then (if 0 ≤ x8_4 then (if x8_4 < (x5_4.length : Int) then (curtilageref13_Reach.l2 k4 l0 (x5_4.set (x8_4 : Int).toNat true) x6_2 x7_3 (wrap64 (x8_4 + 1))) else (none)) else (none)) else (curtilageref13_Reach.l2 k4 l0 x5_4 x6_2 x7_3 (wrap64 (x8_4 + 1)))) = some r := H
                    have A22 := am A220
                    clear A220
                    by_cases c23 : t419 = true
                    ·subst c23
                     have H1 : (if 0 ≤ x8_4 then (if x8_4 < (x5_4.length : Int) then (curtilageref13_Reach.l2 k4 l0 (x5_4.set (x8_4 : Int).toNat true) x6_2 x7_3 (wrap64 (x8_4 + 1))) else (none)) else (none)) = some r := by rw [if_pos rfl] at H; exact H
                     clear H
                     have H := H1
                     clear H1
                     by_cases c24 : 0 ≤ x8_4
                     ·rw [if_pos c24] at H
                      have c24b0 : decide (0 ≤ x8_4) = true := decide_eq_true c24
                      clear c24
                      by_cases c25 : x8_4 < (x5_4.length : Int)
                      ·rw [if_pos c25] at H
                       have c25b0 : decide (x8_4 < (x5_4.length : Int)) = true := decide_eq_true c25
                       clear c25
                       obtain ⟨y420, hy420⟩ : ∃ y_ : List Bool, y_ = (x5_4.set (x8_4 : Int).toNat true) := ⟨_, rfl⟩
                       replace H : (curtilageref13_Reach.l2 k4 l0 y420 x6_2 x7_3 (wrap64 (x8_4 + 1))) = some r := by first | (rw [hy420]; with_reducible exact H) | (have H2_ := (Option.bind_some _ _).symm.trans H; rw [hy420]; with_reducible exact H2_) | (have H2_ := (Option.bind_some _ _).symm.trans H; with_reducible exact H2_) | with_reducible exact H | (rw [hy420]; exact H) | exact H
                       have Ny420 := am hy420
                       clear hy420
                       have H' := am H
                       clear H
                       have p418 : 0 ≤ (x7_3 : Int) := ud
                       have q418 : x7_3 < (x5_4.length : Int) := ud
                       obtain ⟨ad418, e418, hx418_0⟩ := Kd.at_bool (Kd.R_reads' HO_5.out).2.2 x7_3 p418 q418
                       (try rw [← Nbq20.out] at hx418_0)
                       (try rw [← Nbq20.out] at hw418_0)
                       obtain rfl : (⟨go10, 0, none⟩ : Addr) = ad418 := (by injection e418)
                       (first | simp only [add_plain] at hx418_0 | simp only [add_at] at hx418_0 | simp only [Addr.add, Nat.zero_add] at hx418_0 | skip)
                       replace p418 := eq_true p418
                       replace q418 := eq_true q418
                       go_wp2_with (first | (go_at_call 18; (with_reducible refine (curtilageref13_Needs.calls k4 _ _ l0 x7_3 x8_4 true _ ?side1 ?side2 A22.out).mono ?_); (case side1 => exact us (Kd.C_below HR0.out HB.out)); (case side2 => exact HC0.out); rintro e w' ⟨rfl, ⟨nd, rfl⟩⟩; (try (rw [drewN_self wr]; generalize hq_ : World.drewN wr _ = wr; have n0_ : Aside0 (Kd.R Kd.bool 4 wr w.heap.size (fun _ => True) (.slice (some ⟨go10, 0, none⟩) x5_4.length co10) x5_4) := ⟨by rw [← hq_]; exact (ua HO_5.out)⟩; have n1_ : Aside0 (Below w.heap.size w wr) := ⟨by rw [← hq_]; exact (uc HB.out)⟩; clear HO_5 HB hq_; revert n0_ n1_; intro HO_5 HB)); have p26 : 0 ≤ (x8_4 : Int) := ud; have q26 : (x8_4 : Int) < ((x5_4.length : Int) : Int) := ud; obtain ⟨hx26_0, hf26_0⟩ := Kd.R_celln false HO_5.out (x8_4 : Int) p26 q26; replace p26 := eq_true p26; replace q26 := eq_true q26; obtain ⟨hy27_, hz27_⟩ := Kd.R_celln false HO_5.out (x8_4 : Int) (ud) (ud); have HP27 := Kd.R_putg HO_5.out (x8_4 : Int) true) | ((with_reducible refine gate_store (t := 4) (p := 55) rfl ?_); refine store_event (t := 4) (p := 55) (v := ?vo_w28) (w1 := (wr.setCell ⟨go10, (x8_4 : Int).toNat, none⟩ (.bool true))) ?hg ?ho ?hn ?hr ?_; (case ho => rfl); (case hg => rfl); (case hn => rfl); (case hr => first | (go_simp; done) | (go_simp; rfl)); intro w28 hw; have hg : wr.grownBy w28 (some go10) := (by rw [hw]; exact HP27.2); have hp_ : Kd.R Kd.bool 4 w28 w.heap.size (fun _ => True) (.slice (some ⟨go10, 0, none⟩) x5_4.length co10) y420 := (by rw [hw, Ny420.out]; exact HP27.1); clear HP27; have n0_ := am (hp_); have n1_ := am ((by rw [hw]; exact below_set (HB.out) GB10.out : Below w.heap.size w w28)); revert n0_ n1_; clear HO_5 HB; intro HO_5 HB; clear hg hw hp_))
                       (try simp only [← hl5_4])
                       go_roundg k4
                       case measure => have := HJ2.out; have := HK2.out; have := HK3.out; have := HK4.out; omega
                       case rel => exact ⟨(y420), (wrap64 (x8_4 + 1)), uf, (by first | exact H' | (rw [← Nbq20.out]; exact H')), ⟨by have := HJ2.out; have := HK2.out; have := HK3.out; have := HK4.out; omega⟩, ⟨by (try simp only [hl5_2]); (try simp only [hl5_3]); (try simp only [hl5_4]); (with_reducible repeat (first | apply Kd.R_alloc | apply Kd.R_drewN | apply Kd.R_drew)); exact HO_5.out⟩, ⟨uc HB.out⟩⟩
                      ·rw [if_neg c25] at H
                       exact absurd H (by simp)
                     ·rw [if_neg c24] at H
                      exact absurd H (by simp)
                    ·replace c23 := Bool.eq_false_iff.mpr c23
                     subst c23
                     have H1 : (curtilageref13_Reach.l2 k4 l0 x5_4 x6_2 x7_3 (wrap64 (x8_4 + 1))) = some r := by rw [if_neg (show ¬ (false = true) by decide)] at H; exact H
                     clear H
                     have H := H1
                     clear H1
                     have H' := am H
                     clear H
                     have p418 : 0 ≤ (x7_3 : Int) := ud
                     have q418 : x7_3 < (x5_4.length : Int) := ud
                     obtain ⟨ad418, e418, hx418_0⟩ := Kd.at_bool (Kd.R_reads' HO_5.out).2.2 x7_3 p418 q418
                     (try rw [← Nbq20.out] at hx418_0)
                     (try rw [← Nbq20.out] at hw418_0)
                     obtain rfl : (⟨go10, 0, none⟩ : Addr) = ad418 := (by injection e418)
                     (first | simp only [add_plain] at hx418_0 | simp only [add_at] at hx418_0 | simp only [Addr.add, Nat.zero_add] at hx418_0 | skip)
                     replace p418 := eq_true p418
                     replace q418 := eq_true q418
                     go_wp2_with (first | (go_at_call 18; (with_reducible refine (curtilageref13_Needs.calls k4 _ _ l0 x7_3 x8_4 false _ ?side1 ?side2 A22.out).mono ?_); (case side1 => exact us (Kd.C_below HR0.out HB.out)); (case side2 => exact HC0.out); rintro e w' ⟨rfl, ⟨nd, rfl⟩⟩))
                     (try simp only [← hl5_4])
                     go_roundg k4
                     case measure => have := HJ2.out; have := HK2.out; have := HK3.out; have := HK4.out; omega
                     case rel => exact ⟨(x5_4), (wrap64 (x8_4 + 1)), uf, (by first | exact H' | (rw [← Nbq20.out]; exact H')), ⟨by have := HJ2.out; have := HK2.out; have := HK3.out; have := HK4.out; omega⟩, ⟨by (try simp only [hl5_2]); (try simp only [hl5_3]); (try simp only [hl5_4]); (with_reducible repeat (first | apply Kd.R_alloc | apply Kd.R_drewN | apply Kd.R_drew)); exact HO_5.out⟩, ⟨uc HB.out⟩⟩
                   ·replace c21 := Bool.eq_false_iff.mpr c21
                    subst c21
                    have H1 : (curtilageref13_Reach.l2 k4 l0 x5_4 x6_2 x7_3 (wrap64 (x8_4 + 1))) = some r := by rw [if_neg (show ¬ (false = true) by decide)] at H; exact H
                    clear H
                    have H := H1
                    clear H1
                    have H' := am H
                    clear H
                    have p418 : 0 ≤ (x7_3 : Int) := ud
                    have q418 : x7_3 < (x5_4.length : Int) := ud
                    obtain ⟨ad418, e418, hx418_0⟩ := Kd.at_bool (Kd.R_reads' HO_5.out).2.2 x7_3 p418 q418
                    (try rw [← Nbq20.out] at hx418_0)
                    (try rw [← Nbq20.out] at hw418_0)
                    obtain rfl : (⟨go10, 0, none⟩ : Addr) = ad418 := (by injection e418)
                    (first | simp only [add_plain] at hx418_0 | simp only [add_at] at hx418_0 | simp only [Addr.add, Nat.zero_add] at hx418_0 | skip)
                    replace p418 := eq_true p418
                    replace q418 := eq_true q418
                    go_wp2
                    (try simp only [← hl5_4])
                    go_roundg k4
                    case measure => have := HJ2.out; have := HK2.out; have := HK3.out; have := HK4.out; omega
                    case rel => exact ⟨(x5_4), (wrap64 (x8_4 + 1)), uf, (by first | exact H' | (rw [← Nbq20.out]; exact H')), ⟨by have := HJ2.out; have := HK2.out; have := HK3.out; have := HK4.out; omega⟩, ⟨by (try simp only [hl5_2]); (try simp only [hl5_3]); (try simp only [hl5_4]); (with_reducible repeat (first | apply Kd.R_alloc | apply Kd.R_drewN | apply Kd.R_drew)); exact HO_5.out⟩, ⟨uc HB.out⟩⟩
                  ·rw [if_neg c19] at H
                   exact absurd H (by simp)
                 ·rw [if_neg c18] at H
                  exact absurd H (by simp)
                ·rw [if_neg c17] at H
                 have c17b0 : decide (x8_4 < (l0.length : Int)) = false := decide_eq_false c17
                 clear c17
                 have H' := am H
                 clear H
                 go_wp2
                 (try simp only [← hl5_3, ← hl5_4])
                 go_roundg k4
                 case measure => have := HJ2.out; have := HK2.out; have := HK3.out; have := HK4.out; omega
                 case rel => exact ⟨(x5_4), (wrap64 (x7_3 + 1)), uf, (by first | exact H' | (rw [← Nbq20.out]; exact H')), ⟨by have := HJ2.out; have := HK2.out; have := HK3.out; have := HK4.out; omega⟩, ⟨by (try simp only [hl5_2]); (try simp only [hl5_3]); (try simp only [hl5_4]); (with_reducible repeat (first | apply Kd.R_alloc | apply Kd.R_drewN | apply Kd.R_drew)); exact HO_5.out⟩, ⟨uc HB.out⟩⟩
             ·rw [if_neg c16] at H
              have c16b0 : decide (x7_3 < (l0.length : Int)) = false := decide_eq_false c16
              clear c16
              have H' := am H
              clear H
              go_wp2
              (try simp only [← hl5_2, ← hl5_3])
              go_roundg k3
              case measure => have := HJ2.out; have := HK2.out; have := HK3.out; omega
              case rel => exact ⟨(x5_3), (wrap64 (x6_2 + 1)), uf, (by first | exact H' | (rw [← Nbq20.out]; exact H')), ⟨by have := HJ2.out; have := HK2.out; have := HK3.out; omega⟩, ⟨by (try simp only [hl5_2]); (try simp only [hl5_3]); (with_reducible repeat (first | apply Kd.R_alloc | apply Kd.R_drewN | apply Kd.R_drew)); exact HO_5.out⟩, ⟨uc HB.out⟩⟩
          ·rw [if_neg c15] at H
           have c15b0 : decide (x6_2 < (l0.length : Int)) = false := decide_eq_false c15
           clear c15
           have H' := am H
           clear H
           go_wp2
           go_loopg [9, 10] k2 (fun kq v9 v10 w' => ∃ (x9_3 : List Int) (x10_3 : Int), v10 = .int .i64 x10_3 ∧ Aside0 (curtilageref13_Reach.l3 kq l0 x5_2 x9_3 x10_3 = some r) ∧ Aside0 (kq ≤ k2) ∧ Aside0 (Kd.R Kd.bool 4 w' w.heap.size (fun _ => True) (.slice (some ⟨go10, 0, none⟩) x5_2.length co10) x5_2) ∧ Aside0 (Kd.R (Kd.int .i64) 3 w' w.heap.size (fun _ => True) v9 x9_3) ∧ Aside0 (Below w.heap.size w w'))
           case atStart => exact ⟨(([] : List Int)), (0), uf, H', ⟨Nat.le_refl _⟩, ⟨by (try simp only [hl5_2]); (with_reducible repeat (first | apply Kd.R_alloc | apply Kd.R_drewN | apply Kd.R_drew)); exact HO_5.out⟩, ⟨by (try simp only [hl5_2]); first | exact Kd.R_nil _ _ _ _ _ | exact Kd.N_nil _ _ _ _ _ | exact Kd.V_nil _ _ _ _ _ | exact Kd.Q_nil _ _ _ _ _ | exact Kd.S_nil _ _ _ _ _⟩, ⟨uc HB.out⟩⟩
           case round =>
            clear H'
            try clear c1
            try clear p1
            try clear q1
            try clear hx1
            try clear c2
            try clear p2
            try clear q2
            try clear hx2
            try clear hf2
            try clear c4
            try clear c4b0
            try clear p4
            try clear q4
            try clear hx4
            try clear c5
            try clear c6
            try clear c6b0
            try clear c6b1
            try clear p6
            try clear c7
            try clear c7b0
            try clear c7b1
            try clear c8
            try clear c8b0
            try clear c9
            try clear c9b0
            try clear p10
            try clear q10
            try clear hx10
            try clear hf10
            try clear c15
            try clear c15b0
            try clear c16
            try clear c16b0
            try clear c17
            try clear c17b0
            try clear c18
            try clear c18b0
            try clear c19
            try clear c19b0
            try clear q20
            try clear c21
            try clear c23
            try clear c24
            try clear c24b0
            try clear c25
            try clear c25b0
            try clear p26
            try clear q26
            try clear hx26
            try clear hf26
            try clear hx10_0
            try clear hx26_0
            try clear hx418_0
            try clear p1
            try clear p10
            try clear p2
            try clear p26
            try clear p418
            try clear q1
            try clear q10
            try clear q26
            try clear q418
            obtain ⟨x9_3, x10_3, rfl, HA, HK3, HO_5, HO_9, HB⟩ := hrel
            cases gk with
            | zero => exact absurd HA.out (by simp [curtilageref13_Reach.l3])
            | succ k3 =>
             have H := HA.out
             clear HA
             simp only [curtilageref13_Reach.l3] at H
             by_cases c29 : x10_3 < (l0.length : Int)
             ·rw [if_pos c29] at H
              have c29b0 : decide (x10_3 < (l0.length : Int)) = true := decide_eq_true c29
              clear c29
              by_cases c30 : 0 ≤ x10_3
              ·rw [if_pos c30] at H
               have c30b0 : decide (0 ≤ x10_3) = true := decide_eq_true c30
               clear c30
               by_cases c31 : x10_3 < (x5_2.length : Int)
               ·rw [if_pos c31] at H
                have c31b0 : decide (x10_3 < (x5_2.length : Int)) = true := decide_eq_true c31
                clear c31
                obtain ⟨bq32, hbq32⟩ : ∃ b_ : Bool, b_ = (rdOf false x5_2 x10_3) := ⟨_, rfl⟩
                replace H : (if bq32 = true then (if x9_3.length < 17592186044416 then (curtilageref13_Reach.l3 k3 l0 x5_2 (x9_3 ++ [x10_3]) (wrap64 (x10_3 + 1))) else (none)) else (curtilageref13_Reach.l3 k3 l0 x5_2 x9_3 (wrap64 (x10_3 + 1)))) = some r := by rw [← hbq32] at H; exact H
                have Nbq32 := am hbq32
                clear hbq32
                by_cases c33 : bq32 = true
                ·subst c33
                 have H1 : (if x9_3.length < 17592186044416 then (curtilageref13_Reach.l3 k3 l0 x5_2 (x9_3 ++ [x10_3]) (wrap64 (x10_3 + 1))) else (none)) = some r := by rw [if_pos rfl] at H; exact H
                 clear H
                 have H := H1
                 clear H1
                 by_cases c34 : x9_3.length < 17592186044416
                 ·rw [if_pos c34] at H
                  have LMc34 := am c34
                  clear c34
                  obtain ⟨y422, hy422⟩ : ∃ y_ : List Int, y_ = (x9_3 ++ [x10_3]) := ⟨_, rfl⟩
                  replace H : (curtilageref13_Reach.l3 k3 l0 x5_2 y422 (wrap64 (x10_3 + 1))) = some r := by first | (rw [hy422]; with_reducible exact H) | (have H2_ := (Option.bind_some _ _).symm.trans H; rw [hy422]; with_reducible exact H2_) | (have H2_ := (Option.bind_some _ _).symm.trans H; with_reducible exact H2_) | with_reducible exact H | (rw [hy422]; exact H) | exact H
                  have Ny422 := am hy422
                  clear hy422
                  have H' := am H
                  clear H
                  have p421 : 0 ≤ (x10_3 : Int) := ud
                  have q421 : x10_3 < (x5_2.length : Int) := ud
                  obtain ⟨ad421, e421, hx421_0⟩ := Kd.at_bool (Kd.R_reads' HO_5.out).2.2 x10_3 p421 q421
                  (try rw [← Nbq32.out] at hx421_0)
                  (try rw [← Nbq32.out] at hw421_0)
                  obtain rfl : (⟨go10, 0, none⟩ : Addr) = ad421 := (by injection e421)
                  (first | simp only [add_plain] at hx421_0 | simp only [add_at] at hx421_0 | simp only [Addr.add, Nat.zero_add] at hx421_0 | skip)
                  replace p421 := eq_true p421
                  replace q421 := eq_true q421
                  go_wp2_with (first | ((with_reducible refine gate_builtin (b := .append) (xs := #[.tmp 66, .tmp 68]) rfl ?_); (try (refine gate_guard (by rfl) ?_; dsimp only)); at_builtin; refine Kd.R_append (Kd.int .i64) (w0 := w) w.heap.size rfl (.tmp 66) (.tmp 68) 26 3 (.int .i64 0) 8 rfl Try.underlying26 info3 rfl (by decide) (by omega) u9 x9_3 x10_3 [.int .i64 x10_3] (fun _ => True) (fun _ => False) rfl rfl ?aP (fun _ hk => hk.elim) ?aF ?aO ?aB ?aS ?aL ?_; (case aP => exact rfl); (case aB => exact (uc HB.out)); (case aF => exact (fun _ _ => trivial)); (case aO => exact (ua HO_9.out)); (case aS => exact (below_size (uc HB.out))); (case aL => have := LMc34.out; omega); intro v423 w35 ho hb hg hat; rw [← Ny422.out] at ho; have n0_ := am (Kd.R_over' (ua HO_5.out) (Kd.R_typed (ua HO_9.out)) (by decide) hg); have n1_ := am (hb); have n2_ := am (ho); revert n0_ n1_ n2_; clear HO_5 HB HO_9; intro HO_5 HB HO424; clear ho hb hg hat))
                  go_roundg k3
                  case measure => have := HJ2.out; have := HK2.out; have := HK3.out; omega
                  case rel => exact ⟨(y422), (wrap64 (x10_3 + 1)), uf, (by first | exact H' | (rw [← Nbq32.out]; exact H') | (rw [← Nbq20.out]; exact H')), ⟨by have := HJ2.out; have := HK2.out; have := HK3.out; omega⟩, ⟨by (try simp only [hl5_2]); (with_reducible repeat (first | apply Kd.R_alloc | apply Kd.R_drewN | apply Kd.R_drew)); exact HO_5.out⟩, ⟨by (try simp only [hl5_2]); (with_reducible repeat (first | apply Kd.R_alloc | apply Kd.R_drewN | apply Kd.R_drew)); exact HO424.out⟩, ⟨uc HB.out⟩⟩
                 ·rw [if_neg c34] at H
                  exact absurd H (by simp)
                ·replace c33 := Bool.eq_false_iff.mpr c33
                 subst c33
                 have H1 : (curtilageref13_Reach.l3 k3 l0 x5_2 x9_3 (wrap64 (x10_3 + 1))) = some r := by rw [if_neg (show ¬ (false = true) by decide)] at H; exact H
                 clear H
                 have H := H1
                 clear H1
                 have H' := am H
                 clear H
                 have p421 : 0 ≤ (x10_3 : Int) := ud
                 have q421 : x10_3 < (x5_2.length : Int) := ud
                 obtain ⟨ad421, e421, hx421_0⟩ := Kd.at_bool (Kd.R_reads' HO_5.out).2.2 x10_3 p421 q421
                 (try rw [← Nbq32.out] at hx421_0)
                 (try rw [← Nbq32.out] at hw421_0)
                 obtain rfl : (⟨go10, 0, none⟩ : Addr) = ad421 := (by injection e421)
                 (first | simp only [add_plain] at hx421_0 | simp only [add_at] at hx421_0 | simp only [Addr.add, Nat.zero_add] at hx421_0 | skip)
                 replace p421 := eq_true p421
                 replace q421 := eq_true q421
                 go_wp2
                 go_roundg k3
                 case measure => have := HJ2.out; have := HK2.out; have := HK3.out; omega
                 case rel => exact ⟨(x9_3), (wrap64 (x10_3 + 1)), uf, (by first | exact H' | (rw [← Nbq32.out]; exact H') | (rw [← Nbq20.out]; exact H')), ⟨by have := HJ2.out; have := HK2.out; have := HK3.out; omega⟩, ⟨by (try simp only [hl5_2]); (with_reducible repeat (first | apply Kd.R_alloc | apply Kd.R_drewN | apply Kd.R_drew)); exact HO_5.out⟩, ⟨by (try simp only [hl5_2]); (with_reducible repeat (first | apply Kd.R_alloc | apply Kd.R_drewN | apply Kd.R_drew)); exact HO_9.out⟩, ⟨uc HB.out⟩⟩
               ·rw [if_neg c31] at H
                exact absurd H (by simp)
              ·rw [if_neg c30] at H
               exact absurd H (by simp)
             ·rw [if_neg c29] at H
              have c29b0 : decide (x10_3 < (l0.length : Int)) = false := decide_eq_false c29
              clear c29
              obtain rfl := Option.some.inj H
              go_wp2
              go_ret
              exact ⟨_, by first | rfl | (simp [errW_none, errW_some] <;> rfl) | (simp [*, errW_none, errW_some] <;> rfl), ua HO_9.out, uc HB.out⟩
       ·rw [if_neg c9] at H
        exact absurd H (by simp)
      ·rw [if_neg c8] at H
       exact absurd H (by simp)
     ·rw [if_neg c7] at H
      exact absurd H (by simp)
    ·rw [if_neg c6] at H
     exact absurd H (by simp)

def curtilageref21_Needed.l0 : Nat → List (S38) → List Int → Int → Int → Option (Bool)
  | 0, _, _, _, _ => none
  | k + 1, x0, x1, x2, x7 => if x7 < (x1.length : Int) then (if 0 ≤ x7 then ((curtilageref13_Reach.f k x0 (rd x1 x7)).bind fun t426 => ((curtilageref13_Has.f k t426 x2).bind fun t429 => (if t429 = true then (some true) else (curtilageref21_Needed.l0 k x0 x1 x2 (wrap64 (x7 + 1)))))) else (none)) else (some false)
def curtilageref21_Needed.f (k : Nat) (l0 : List (S38)) (l1 : List Int) (a2 : Int) : Option (Bool) := curtilageref21_Needed.l0 k l0 l1 a2 0
theorem curtilageref21_Needed.mono_l : ∀ k, (∀ y0 y1 y2 y3, LeO (curtilageref21_Needed.l0 k y0 y1 y2 y3) (curtilageref21_Needed.l0 (k + 1) y0 y1 y2 y3))
  | 0 => fun _ _ _ _ r h => by simp [curtilageref21_Needed.l0] at h
  | k + 1 => by
    have ih0 := curtilageref21_Needed.mono_l k
    · intro y0 y1 y2 y3
      unfold curtilageref21_Needed.l0
      repeat' first
      | (with_reducible exact ih0 _ _ _ _)
      | (with_reducible exact curtilageref13_Has.mono _ _ _)
      | (with_reducible exact curtilageref13_Reach.mono _ _ _)
      | (with_reducible exact LeO.refl _)
      | (with_reducible exact LeO.none _)
      | (with_reducible refine LeO.ite ?_ ?_)
      | (with_reducible refine LeO.bind ?_ (fun _ => ?_))
      | exact ih0 _ _ _ _
      | exact curtilageref13_Has.mono _ _ _
      | exact curtilageref13_Reach.mono _ _ _
      | exact LeO.none _
      | refine LeO.ite ?_ ?_
      | refine LeO.bind ?_ (fun _ => ?_)
theorem curtilageref21_Needed.mono : ∀ a0 a1 a2 k, LeO (curtilageref21_Needed.f k a0 a1 a2) (curtilageref21_Needed.f (k + 1) a0 a1 a2) := by
  intro a0 a1 a2 k
  have ih0 := curtilageref21_Needed.mono_l k
  unfold curtilageref21_Needed.f
  repeat' first
      | (with_reducible exact ih0 _ _ _ _)
      | (with_reducible exact curtilageref13_Has.mono _ _ _)
      | (with_reducible exact curtilageref13_Reach.mono _ _ _)
      | (with_reducible exact LeO.refl _)
      | (with_reducible exact LeO.none _)
      | (with_reducible refine LeO.ite ?_ ?_)
      | (with_reducible refine LeO.bind ?_ (fun _ => ?_))
      | exact ih0 _ _ _ _
      | exact curtilageref13_Has.mono _ _ _
      | exact curtilageref13_Reach.mono _ _ _
      | exact LeO.none _
      | refine LeO.ite ?_ ?_
      | refine LeO.bind ?_ (fun _ => ?_)
set_option maxHeartbeats 8000000 in
set_option maxRecDepth 100000 in
theorem curtilageref21_Needed.calls (k : Nat) (A0 : Option Addr) (c0 : Nat) (l0 : List (S38)) (A1 : Option Addr) (c1 : Nat) (l1 : List Int) (a2 : Int) (r : Bool) (w : World) (hr0 : Kd.C k38 w A0 l0.length l0) (hc0 : l0.length ≤ c0) (hr1 : Kd.C (Kd.int .i64) w A1 l1.length l1) (hc1 : l1.length ≤ c1) (h : curtilageref21_Needed.f k l0 l1 a2 = some r) :
  Calls Try.prog 14 #[.slice A0 l0.length c0, .slice A1 l1.length c1, .int .i64 a2] w fun e w' => e = .returned (.bool r) ∧ Below w.heap.size w w' := by
 have HR0 := am hr0
 have HC0 := am hc0
 clear hr0 hc0
 have HR1 := am hr1
 have HC1 := am hc1
 clear hr1 hc1
 have HB := am (Below.refl w.heap.size w)
 have H : (curtilageref21_Needed.l0 k l0 l1 a2 0) = some r := h
 clear h
 have H' := am H
 clear H
 go_enter Try.func14, Try.ntmps14
 go_wp2
 go_loopg [7] k (fun kq v7 w' => ∃ (x7_1 : Int), v7 = .int .i64 x7_1 ∧ Aside0 (curtilageref21_Needed.l0 kq l0 l1 a2 x7_1 = some r) ∧ Aside0 (kq ≤ k) ∧ Aside0 (Below w.heap.size w w'))
 case atStart => exact ⟨(0), uf, H', ⟨Nat.le_refl _⟩, ⟨uc HB.out⟩⟩
 case round =>
  clear H'
  try clear c1
  try clear p2
  obtain ⟨x7_1, rfl, HA, HK1, HB⟩ := hrel
  cases gk with
  | zero => exact absurd HA.out (by simp [curtilageref21_Needed.l0])
  | succ k1 =>
   have H := HA.out
   clear HA
   simp only [curtilageref21_Needed.l0] at H
   by_cases c4 : x7_1 < (l1.length : Int)
   ·rw [if_pos c4] at H
    have c4b0 : decide (x7_1 < (l1.length : Int)) = true := decide_eq_true c4
    clear c4
    by_cases c5 : 0 ≤ x7_1
    ·rw [if_pos c5] at H
     have c5b0 : decide (0 ≤ x7_1) = true := decide_eq_true c5
     clear c5
     replace H := Option.bind_eq_some_iff.mp H
     obtain ⟨t426, A60, H⟩ := H
     replace H : ((curtilageref13_Has.f k1 t426 a2).bind fun t429 => (if t429 = true then (some true) else (curtilageref21_Needed.l0 k1 l0 l1 a2 (wrap64 (x7_1 + 1))))) = some r := H
     have A6 := am A60
     clear A60
     replace H := Option.bind_eq_some_iff.mp H
     obtain ⟨t429, A70, H⟩ := H
     replace H : (if t429 = true then (some true) else (curtilageref21_Needed.l0 k1 l0 l1 a2 (wrap64 (x7_1 + 1)))) = some r := H
     have A7 := am A70
     clear A70
     by_cases c8 : t429 = true
     ·subst c8
      have H1 : (some true) = some r := by rw [if_pos rfl] at H; exact H
      clear H
      have H := H1
      clear H1
      obtain rfl := Option.some.inj H
      have p425 : 0 ≤ (x7_1 : Int) := ud
      have q425 : x7_1 < (l1.length : Int) := ud
      obtain ⟨ad425, e425, hx425_0⟩ := Kd.at_int HR1.out x7_1 p425 q425
      cases e425
      replace hx425_0 := bcel HB hx425_0
      replace p425 := eq_true p425
      replace q425 := eq_true q425
      go_wp2_with (first | ((with_reducible refine gate_dst (N := 20) rfl ?_); (with_reducible refine gate_callee (f := 19) rfl ?_); refine gl (some 20) Try.func19 #[.slice A0 l0.length c0, .int .i64 (rd l1 x7_1)] ?_; (with_reducible refine (curtilageref13_Reach.calls k1 _ _ l0 (rd l1 x7_1) t426 _ ?side1 ?side2 A6.out).mono ?_); (case side1 => exact us (Kd.C_below HR0.out HB.out)); (case side2 => exact HC0.out); rintro e w9 ⟨v427, rfl, ho0, hb⟩; refine ⟨_, rfl, ?_⟩; have n0_ := am (Kd.R_lower ho0 (below_size (uc HB.out))); have n1_ := am (below_step (uc HB.out) hb); revert n0_ n1_; clear HB; intro HO428 HB; (try clear hb); (try clear hb2); (try clear hk); (try clear hi); (try clear ho0); obtain ⟨Ao10, co10, eo10⟩ := Kd.R_slice HO428.out; subst eo10) | ((with_reducible refine gate_dst (N := 22) rfl ?_); (with_reducible refine gate_callee (f := 13) rfl ?_); refine gl (some 22) Try.func13 #[.slice Ao10 t426.length co10, .int .i64 a2] ?_; (with_reducible refine (curtilageref13_Has.calls k1 _ _ t426 a2 true _ ?side1 ?side2 A7.out).mono ?_); (case side1 => exact us (Kd.R_reads' HO428.out).2.2); (case side2 => exact (Kd.R_reads' HO428.out).2.1); rintro e w' ⟨rfl, ⟨nd, rfl⟩⟩; refine ⟨_, rfl, ?_⟩))
      go_ret
      exact ⟨by first | rfl | (simp [errW_none, errW_some] <;> rfl) | (simp [*, errW_none, errW_some] <;> rfl), uc HB.out⟩
     ·replace c8 := Bool.eq_false_iff.mpr c8
      subst c8
      have H1 : (curtilageref21_Needed.l0 k1 l0 l1 a2 (wrap64 (x7_1 + 1))) = some r := by rw [if_neg (show ¬ (false = true) by decide)] at H; exact H
      clear H
      have H := H1
      clear H1
      have H' := am H
      clear H
      have p425 : 0 ≤ (x7_1 : Int) := ud
      have q425 : x7_1 < (l1.length : Int) := ud
      obtain ⟨ad425, e425, hx425_0⟩ := Kd.at_int HR1.out x7_1 p425 q425
      cases e425
      replace hx425_0 := bcel HB hx425_0
      replace p425 := eq_true p425
      replace q425 := eq_true q425
      go_wp2_with (first | ((with_reducible refine gate_dst (N := 20) rfl ?_); (with_reducible refine gate_callee (f := 19) rfl ?_); refine gl (some 20) Try.func19 #[.slice A0 l0.length c0, .int .i64 (rd l1 x7_1)] ?_; (with_reducible refine (curtilageref13_Reach.calls k1 _ _ l0 (rd l1 x7_1) t426 _ ?side1 ?side2 A6.out).mono ?_); (case side1 => exact us (Kd.C_below HR0.out HB.out)); (case side2 => exact HC0.out); rintro e w11 ⟨v427, rfl, ho0, hb⟩; refine ⟨_, rfl, ?_⟩; have n0_ := am (Kd.R_lower ho0 (below_size (uc HB.out))); have n1_ := am (below_step (uc HB.out) hb); revert n0_ n1_; clear HB; intro HO428 HB; (try clear hb); (try clear hb2); (try clear hk); (try clear hi); (try clear ho0); obtain ⟨Ao12, co12, eo12⟩ := Kd.R_slice HO428.out; subst eo12) | ((with_reducible refine gate_dst (N := 22) rfl ?_); (with_reducible refine gate_callee (f := 13) rfl ?_); refine gl (some 22) Try.func13 #[.slice Ao12 t426.length co12, .int .i64 a2] ?_; (with_reducible refine (curtilageref13_Has.calls k1 _ _ t426 a2 false _ ?side1 ?side2 A7.out).mono ?_); (case side1 => exact us (Kd.R_reads' HO428.out).2.2); (case side2 => exact (Kd.R_reads' HO428.out).2.1); rintro e w' ⟨rfl, ⟨nd, rfl⟩⟩; refine ⟨_, rfl, ?_⟩))
      go_roundg k1
      case measure => have := HK1.out; omega
      case rel => exact ⟨(wrap64 (x7_1 + 1)), uf, H', ⟨by have := HK1.out; omega⟩, ⟨uc HB.out⟩⟩
    ·rw [if_neg c5] at H
     exact absurd H (by simp)
   ·rw [if_neg c4] at H
    have c4b0 : decide (x7_1 < (l1.length : Int)) = false := decide_eq_false c4
    clear c4
    obtain rfl := Option.some.inj H
    go_wp2
    go_ret
    exact ⟨by first | rfl | (simp [errW_none, errW_some] <;> rfl) | (simp [*, errW_none, errW_some] <;> rfl), uc HB.out⟩

end Go.Proofs.Ytociaidhgefpiaa.P
