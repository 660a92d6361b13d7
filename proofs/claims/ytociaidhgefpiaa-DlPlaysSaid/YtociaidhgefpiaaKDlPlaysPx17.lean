/- What functions of the program, and of its laws, give, each proved of its code by a walk; no condition. -/
import Derived.Test.YtociaidhgefpiaaKDlPlaysPx0
import Derived.Test.YtociaidhgefpiaaKDlPlaysPx1
import Derived.Test.YtociaidhgefpiaaKDlPlaysPx6
import Derived.Test.YtociaidhgefpiaaKDlPlaysPx9
import Derived.Test.YtociaidhgefpiaaKDlPlaysPx10
import Derived.Test.YtociaidhgefpiaaKDlPlaysSq
import Derived.Test.YtociaidhgefpiaaKDlPlaysUsh
namespace Go.Proofs.Ytociaidhgefpiaa.P
open Go.RowKit Go.Proofs.YtociaidhgefpiaaW.PrintWords Go.Proofs.YtociaidhgefpiaaW.PrintLast Go.Proofs.YtociaidhgefpiaaW.PrintMore
attribute [local go_sem] max2_int min2_int max_two min_two max_three min_three max_four min_four   -- for this text's walks alone
set_option linter.unusedVariables false
set_option linter.unusedSimpArgs false

def dl_Count.l0 : Nat → Int → Int → List Int → Int → Int → Option (Int)
  | 0, _, _, _, _, _ => none
  | k + 1, x1, x5, x9, x10, x11 => if x11 < x10 then (if 0 ≤ x11 then (if x11 < (x9.length : Int) then (if (rd x9 x11) = x1 then (dl_Count.l0 k x1 (wrap64 (x5 + 1)) x9 x10 (wrap64 (x11 + 1))) else (dl_Count.l0 k x1 x5 x9 x10 (wrap64 (x11 + 1)))) else (none)) else (none)) else (some x5)
def dl_Count.f (k : Nat) (l0_0 : List Int) (l0_1 : List Int) (a1 : Int) : Option (Int) := dl_Count.l0 k a1 0 l0_1 (l0_1.length : Int) 0
theorem dl_Count.mono_l : ∀ k, (∀ y0 y1 y2 y3 y4, LeO (dl_Count.l0 k y0 y1 y2 y3 y4) (dl_Count.l0 (k + 1) y0 y1 y2 y3 y4))
  | 0 => fun _ _ _ _ _ r h => by simp [dl_Count.l0] at h
  | k + 1 => by
    have ih0 := dl_Count.mono_l k
    · intro y0 y1 y2 y3 y4
      unfold dl_Count.l0
      repeat' first
      | (with_reducible exact ih0 _ _ _ _ _)
      | (with_reducible exact LeO.refl _)
      | (with_reducible exact LeO.none _)
      | (with_reducible refine LeO.ite ?_ ?_)
      | (with_reducible refine LeO.bind ?_ (fun _ => ?_))
      | exact ih0 _ _ _ _ _
      | exact LeO.none _
      | refine LeO.ite ?_ ?_
      | refine LeO.bind ?_ (fun _ => ?_)
theorem dl_Count.mono : ∀ a0 a1 a2 k, LeO (dl_Count.f k a0 a1 a2) (dl_Count.f (k + 1) a0 a1 a2) := by
  intro a0 a1 a2 k
  have ih0 := dl_Count.mono_l k
  unfold dl_Count.f
  repeat' first
      | (with_reducible exact ih0 _ _ _ _ _)
      | (with_reducible exact LeO.refl _)
      | (with_reducible exact LeO.none _)
      | (with_reducible refine LeO.ite ?_ ?_)
      | (with_reducible refine LeO.bind ?_ (fun _ => ?_))
      | exact ih0 _ _ _ _ _
      | exact LeO.none _
      | refine LeO.ite ?_ ?_
      | refine LeO.bind ?_ (fun _ => ?_)
set_option maxHeartbeats 8000000 in
set_option maxRecDepth 100000 in
theorem dl_Count.calls (k : Nat) (A0_0 : Option Addr) (c0_0 : Nat) (l0_0 : List Int) (A0_1 : Option Addr) (c0_1 : Nat) (l0_1 : List Int) (a1 : Int) (r : Int) (w : World) (hr0_0 : Kd.C (Kd.int .i64) w A0_0 l0_0.length l0_0) (hc0_0 : l0_0.length ≤ c0_0) (hr0_1 : Kd.C (Kd.int .i64) w A0_1 l0_1.length l0_1) (hc0_1 : l0_1.length ≤ c0_1) (h : dl_Count.f k l0_0 l0_1 a1 = some r) :
  Calls Try.prog 22 #[.agg #[.slice A0_0 l0_0.length c0_0, .slice A0_1 l0_1.length c0_1], .int .i64 a1] w fun e w' => e = .returned (.int .i64 r) ∧ Below w.heap.size w w' := by
 have hu28 := Try.underlying28
 have HR0_0 := am hr0_0
 have HC0_0 := am hc0_0
 clear hr0_0 hc0_0
 have HR0_1 := am hr0_1
 have HC0_1 := am hc0_1
 clear hr0_1 hc0_1
 have HB := am (Below.refl w.heap.size w)
 have H : (dl_Count.l0 k a1 0 l0_1 (l0_1.length : Int) 0) = some r := h
 clear h
 have H' := am H
 clear H
 go_enter Try.func22, Try.ntmps22
 go_wp2_with (first | ((with_reducible refine gate_dst (N := 2) rfl ?_); refine box_event ?hg (N := 2) ?hd (cs := #[.slice A0_0 l0_0.length c0_0, .slice A0_1 l0_1.length c0_1]) (t := 28) ?hr ?_; (case hd => rfl); (case hg => rfl); (case hr => first | (go_simp; done) | (go_simp; rfl)); intro gb505 hg w3 hbox hb; have n0_ := am (below_step (uc HB.out) hb); have n1_ := am (hbox); have n2_ := am ((by rw [hg]; exact (below_size (uc HB.out)) : w.heap.size ≤ gb505)); have n3_ := am ((by rw [hg]; exact (below_size (uc HB.out)) : w.heap.size ≤ gb505)); revert n0_ n1_ n2_ n3_; clear HB; intro HB BK505 GW505 GE505; clear hb hbox hg; obtain ⟨hcz4_0, hcz4_1, hfz4_0, hfz4_1⟩ := cells2 BK505.out))
 go_loopg [5, 11] k (fun kq v5 v11 w' => ∃ (x5_1 : Int) (x11_1 : Int), v5 = .int .i64 x5_1 ∧ v11 = .int .i64 x11_1 ∧ Aside0 (dl_Count.l0 kq a1 x5_1 l0_1 (l0_1.length : Int) x11_1 = some r) ∧ Aside0 (kq ≤ k) ∧ Aside0 (w'.heap[gb505]? = some (.cells #[(.slice A0_0 l0_0.length c0_0), (.slice A0_1 l0_1.length c0_1)] 28 (0, 0))) ∧ Aside0 (Below w.heap.size w w'))
 case atStart => exact ⟨(0), (0), uf, uf, H', ⟨Nat.le_refl _⟩, ⟨ub BK505.out⟩, ⟨uc HB.out⟩⟩
 case round =>
  clear H'
  try clear c2
  try clear p2
  try clear hcz4_0
  try clear hcz4_1
  try clear hfz4_0
  try clear hfz4_1
  obtain ⟨x5_1, x11_1, rfl, rfl, HA, HK1, BK505, HB⟩ := hrel
  cases gk with
  | zero => exact absurd HA.out (by simp [dl_Count.l0])
  | succ k1 =>
   have H := HA.out
   clear HA
   simp only [dl_Count.l0] at H
   by_cases c5 : x11_1 < (l0_1.length : Int)
   ·rw [if_pos c5] at H
    have c5b0 : decide (x11_1 < (l0_1.length : Int)) = true := decide_eq_true c5
    clear c5
    by_cases c6 : 0 ≤ x11_1
    ·rw [if_pos c6] at H
     have c6b0 : decide (0 ≤ x11_1) = true := decide_eq_true c6
     clear c6
     by_cases c7 : x11_1 < (l0_1.length : Int)
     ·rw [if_pos c7] at H
      have c7b0 : decide (x11_1 < (l0_1.length : Int)) = true := decide_eq_true c7
      clear c7
      by_cases c8 : (rd l0_1 x11_1) = a1
      ·rw [if_pos c8] at H
       have c8b0 : ((rd l0_1 x11_1) == a1) = true := beq_iff_eq.mpr c8
       have c8b1 : ((rd l0_1 x11_1) != a1) = false := bne_eq_false_iff_eq.mpr c8
       clear c8
       have H' := am H
       clear H
       have p506 : 0 ≤ (x11_1 : Int) := ud
       have q506 : x11_1 < (l0_1.length : Int) := ud
       obtain ⟨ad506, e506, hx506_0⟩ := Kd.at_int HR0_1.out x11_1 p506 q506
       cases e506
       replace hx506_0 := bcel HB hx506_0
       replace p506 := eq_true p506
       replace q506 := eq_true q506
       go_wp2
       go_roundg k1
       case measure => have := HK1.out; omega
       case rel => exact ⟨(wrap64 (x5_1 + 1)), (wrap64 (x11_1 + 1)), uf, uf, H', ⟨by have := HK1.out; omega⟩, ⟨ub BK505.out⟩, ⟨uc HB.out⟩⟩
      ·rw [if_neg c8] at H
       have c8b0 : ((rd l0_1 x11_1) == a1) = false := beq_eq_false_iff_ne.mpr c8
       have c8b1 : ((rd l0_1 x11_1) != a1) = true := bne_iff_ne.mpr c8
       have H' := am H
       clear H
       have p506 : 0 ≤ (x11_1 : Int) := ud
       have q506 : x11_1 < (l0_1.length : Int) := ud
       obtain ⟨ad506, e506, hx506_0⟩ := Kd.at_int HR0_1.out x11_1 p506 q506
       cases e506
       replace hx506_0 := bcel HB hx506_0
       replace p506 := eq_true p506
       replace q506 := eq_true q506
       go_wp2
       go_roundg k1
       case measure => have := HK1.out; omega
       case rel => exact ⟨(x5_1), (wrap64 (x11_1 + 1)), uf, uf, H', ⟨by have := HK1.out; omega⟩, ⟨ub BK505.out⟩, ⟨uc HB.out⟩⟩
     ·rw [if_neg c7] at H
      exact absurd H (by simp)
    ·rw [if_neg c6] at H
     exact absurd H (by simp)
   ·rw [if_neg c5] at H
    have c5b0 : decide (x11_1 < (l0_1.length : Int)) = false := decide_eq_false c5
    clear c5
    obtain rfl := Option.some.inj H
    go_wp2
    go_ret
    exact ⟨by first | rfl | (simp [errW_none, errW_some] <;> rfl) | (simp [*, errW_none, errW_some] <;> rfl), uc HB.out⟩

mutual
def curtilagelaw21_DlCounts.j0 : Nat → List (S38) → ByteArray → ByteArray → Int → Bool → Bool → Option (Bool)
  | 0, _, _, _, _, _, _ => none
  | k + 1, x0, x1, x2, x3, x9, x41 => if x41 = true then (some x9) else ((dl_Begun.f k x0 x1).bind fun bt509 => ((curtilageref13_Find.f k x0 x2).bind fun t517 => (if bt509.2.2 = 0 then (curtilagelaw21_DlCounts.j1 k x0 x2 x3 x9 t517 (decide (t517 < 0)) bt509.1 bt509.2.1) else (curtilagelaw21_DlCounts.j1 k x0 x2 x3 x9 t517 true bt509.1 bt509.2.1))))
def curtilagelaw21_DlCounts.j1 : Nat → List (S38) → ByteArray → Int → Bool → Int → Bool → List Int → List Int → Option (Bool)
  | 0, _, _, _, _, _, _, _, _ => none
  | k + 1, x0, x2, x3, x9, x13, x57, x517000, x517001 => if x57 = true then (some x9) else ((dl_Count.f k x517000 x517001 x13).bind fun t518 => (curtilagelaw21_DlCounts.l0 k x0 x2 x3 x9 x13 t518 0 x517000 x517001 x517000 x517001))
def curtilagelaw21_DlCounts.l0 : Nat → List (S38) → ByteArray → Int → Bool → Int → Int → Int → List Int → List Int → List Int → List Int → Option (Bool)
  | 0, _, _, _, _, _, _, _, _, _, _, _ => none
  | k + 1, x0, x2, x3, x9, x13, x14, x16, x517000, x517001, x520000, x520001 => if x16 < x3 then ((dl_Open.f k x0 x520000 x520001 x2).bind fun bt520 => (if bt520.2.2.2 = 0 then ((dl_Count.f k bt520.1 bt520.2.1 x13).bind fun t531 => (if t531 = (wrap64 ((wrap64 (x14 + x16)) + 1)) then (curtilagelaw21_DlCounts.l0 k x0 x2 x3 x9 x13 x14 (wrap64 (x16 + 1)) x517000 x517001 bt520.1 bt520.2.1) else (some false))) else (if x9 = true then (some (x16 == 0)) else (some false)))) else (curtilagelaw21_DlCounts.l1 k x0 x2 x9 x13 x3 x517000 x517001 x520000 x520001)
def curtilagelaw21_DlCounts.l1 : Nat → List (S38) → ByteArray → Bool → Int → Int → List Int → List Int → List Int → List Int → Option (Bool)
  | 0, _, _, _, _, _, _, _, _, _ => none
  | k + 1, x0, x2, x9, x13, x21, x517000, x517001, x520000, x520001 => if x21 > 0 then ((curtilageref13_Has.f k x520000 x13).bind fun t545 => ((dl_Close.f k x0 x520000 x520001 x2).bind fun bt546 => (if bt546.2.2.2 = 0 then (if t545 = true then (curtilagelaw21_DlCounts.l1 k x0 x2 x9 x13 (wrap64 (x21 - 1)) x517000 x517001 bt546.1 bt546.2.1) else (some false)) else (some false)))) else ((dl_Close.f k x0 x520000 x520001 x2).bind fun bt532 => (if x9 = true then (if bt532.2.2.2 = 210 then ((curtilageref10_Numbers.f k x520000 x517000).bind fun t543 => (if t543 = true then ((curtilageref10_Numbers.f k x520001 x517001).bind fun t544 => (some t544)) else (some false))) else (some false)) else (some false)))
end
def curtilagelaw21_DlCounts.f (k : Nat) (l0 : List (S38)) (a1 : ByteArray) (a2 : ByteArray) (a3 : Int) : Option (Bool) := (curtilagelaw21_awake.f k).bind fun t507 => ((curtilageref13_Short.f k l0 12).bind fun t508 => (if t508 = true then (if a3 < 0 then (curtilagelaw21_DlCounts.j0 k l0 a1 a2 a3 t507 true) else (curtilagelaw21_DlCounts.j0 k l0 a1 a2 a3 t507 (decide (a3 > 10)))) else (curtilagelaw21_DlCounts.j0 k l0 a1 a2 a3 t507 true)))
theorem curtilagelaw21_DlCounts.mono_l : ∀ k, (∀ y0 y1 y2 y3 y4 y5, LeO (curtilagelaw21_DlCounts.j0 k y0 y1 y2 y3 y4 y5) (curtilagelaw21_DlCounts.j0 (k + 1) y0 y1 y2 y3 y4 y5)) ∧ (∀ y0 y1 y2 y3 y4 y5 y6 y7, LeO (curtilagelaw21_DlCounts.j1 k y0 y1 y2 y3 y4 y5 y6 y7) (curtilagelaw21_DlCounts.j1 (k + 1) y0 y1 y2 y3 y4 y5 y6 y7)) ∧ (∀ y0 y1 y2 y3 y4 y5 y6 y7 y8 y9 y10, LeO (curtilagelaw21_DlCounts.l0 k y0 y1 y2 y3 y4 y5 y6 y7 y8 y9 y10) (curtilagelaw21_DlCounts.l0 (k + 1) y0 y1 y2 y3 y4 y5 y6 y7 y8 y9 y10)) ∧ (∀ y0 y1 y2 y3 y4 y5 y6 y7 y8, LeO (curtilagelaw21_DlCounts.l1 k y0 y1 y2 y3 y4 y5 y6 y7 y8) (curtilagelaw21_DlCounts.l1 (k + 1) y0 y1 y2 y3 y4 y5 y6 y7 y8))
  | 0 => ⟨fun _ _ _ _ _ _ r h => by simp [curtilagelaw21_DlCounts.j0] at h, fun _ _ _ _ _ _ _ _ r h => by simp [curtilagelaw21_DlCounts.j1] at h, fun _ _ _ _ _ _ _ _ _ _ _ r h => by simp [curtilagelaw21_DlCounts.l0] at h, fun _ _ _ _ _ _ _ _ _ r h => by simp [curtilagelaw21_DlCounts.l1] at h⟩
  | k + 1 => by
    obtain ⟨ih0, ih1, ih2, ih3⟩ := curtilagelaw21_DlCounts.mono_l k
    refine ⟨?_, ?_, ?_, ?_⟩
    · intro y0 y1 y2 y3 y4 y5
      unfold curtilagelaw21_DlCounts.j0
      repeat' first
      | (with_reducible exact ih0 _ _ _ _ _ _)
      | (with_reducible exact ih1 _ _ _ _ _ _ _ _)
      | (with_reducible exact ih2 _ _ _ _ _ _ _ _ _ _ _)
      | (with_reducible exact ih3 _ _ _ _ _ _ _ _ _)
      | (with_reducible exact curtilagelaw21_awake.mono _)
      | (with_reducible exact curtilageref10_Numbers.mono _ _ _)
      | (with_reducible exact curtilageref13_Find.mono _ _ _)
      | (with_reducible exact curtilageref13_Has.mono _ _ _)
      | (with_reducible exact curtilageref13_Short.mono _ _ _)
      | (with_reducible exact dl_Begun.mono _ _ _)
      | (with_reducible exact dl_Close.mono _ _ _ _ _)
      | (with_reducible exact dl_Count.mono _ _ _ _)
      | (with_reducible exact dl_Open.mono _ _ _ _ _)
      | (with_reducible exact LeO.refl _)
      | (with_reducible exact LeO.none _)
      | (with_reducible refine LeO.ite ?_ ?_)
      | (with_reducible refine LeO.bind ?_ (fun _ => ?_))
      | exact ih0 _ _ _ _ _ _
      | exact ih1 _ _ _ _ _ _ _ _
      | exact ih2 _ _ _ _ _ _ _ _ _ _ _
      | exact ih3 _ _ _ _ _ _ _ _ _
      | exact curtilagelaw21_awake.mono _
      | exact curtilageref10_Numbers.mono _ _ _
      | exact curtilageref13_Find.mono _ _ _
      | exact curtilageref13_Has.mono _ _ _
      | exact curtilageref13_Short.mono _ _ _
      | exact dl_Begun.mono _ _ _
      | exact dl_Close.mono _ _ _ _ _
      | exact dl_Count.mono _ _ _ _
      | exact dl_Open.mono _ _ _ _ _
      | exact LeO.none _
      | refine LeO.ite ?_ ?_
      | refine LeO.bind ?_ (fun _ => ?_)
    · intro y0 y1 y2 y3 y4 y5 y6 y7
      unfold curtilagelaw21_DlCounts.j1
      repeat' first
      | (with_reducible exact ih0 _ _ _ _ _ _)
      | (with_reducible exact ih1 _ _ _ _ _ _ _ _)
      | (with_reducible exact ih2 _ _ _ _ _ _ _ _ _ _ _)
      | (with_reducible exact ih3 _ _ _ _ _ _ _ _ _)
      | (with_reducible exact curtilagelaw21_awake.mono _)
      | (with_reducible exact curtilageref10_Numbers.mono _ _ _)
      | (with_reducible exact curtilageref13_Find.mono _ _ _)
      | (with_reducible exact curtilageref13_Has.mono _ _ _)
      | (with_reducible exact curtilageref13_Short.mono _ _ _)
      | (with_reducible exact dl_Begun.mono _ _ _)
      | (with_reducible exact dl_Close.mono _ _ _ _ _)
      | (with_reducible exact dl_Count.mono _ _ _ _)
      | (with_reducible exact dl_Open.mono _ _ _ _ _)
      | (with_reducible exact LeO.refl _)
      | (with_reducible exact LeO.none _)
      | (with_reducible refine LeO.ite ?_ ?_)
      | (with_reducible refine LeO.bind ?_ (fun _ => ?_))
      | exact ih0 _ _ _ _ _ _
      | exact ih1 _ _ _ _ _ _ _ _
      | exact ih2 _ _ _ _ _ _ _ _ _ _ _
      | exact ih3 _ _ _ _ _ _ _ _ _
      | exact curtilagelaw21_awake.mono _
      | exact curtilageref10_Numbers.mono _ _ _
      | exact curtilageref13_Find.mono _ _ _
      | exact curtilageref13_Has.mono _ _ _
      | exact curtilageref13_Short.mono _ _ _
      | exact dl_Begun.mono _ _ _
      | exact dl_Close.mono _ _ _ _ _
      | exact dl_Count.mono _ _ _ _
      | exact dl_Open.mono _ _ _ _ _
      | exact LeO.none _
      | refine LeO.ite ?_ ?_
      | refine LeO.bind ?_ (fun _ => ?_)
    · intro y0 y1 y2 y3 y4 y5 y6 y7 y8 y9 y10
      unfold curtilagelaw21_DlCounts.l0
      repeat' first
      | (with_reducible exact ih0 _ _ _ _ _ _)
      | (with_reducible exact ih1 _ _ _ _ _ _ _ _)
      | (with_reducible exact ih2 _ _ _ _ _ _ _ _ _ _ _)
      | (with_reducible exact ih3 _ _ _ _ _ _ _ _ _)
      | (with_reducible exact curtilagelaw21_awake.mono _)
      | (with_reducible exact curtilageref10_Numbers.mono _ _ _)
      | (with_reducible exact curtilageref13_Find.mono _ _ _)
      | (with_reducible exact curtilageref13_Has.mono _ _ _)
      | (with_reducible exact curtilageref13_Short.mono _ _ _)
      | (with_reducible exact dl_Begun.mono _ _ _)
      | (with_reducible exact dl_Close.mono _ _ _ _ _)
      | (with_reducible exact dl_Count.mono _ _ _ _)
      | (with_reducible exact dl_Open.mono _ _ _ _ _)
      | (with_reducible exact LeO.refl _)
      | (with_reducible exact LeO.none _)
      | (with_reducible refine LeO.ite ?_ ?_)
      | (with_reducible refine LeO.bind ?_ (fun _ => ?_))
      | exact ih0 _ _ _ _ _ _
      | exact ih1 _ _ _ _ _ _ _ _
      | exact ih2 _ _ _ _ _ _ _ _ _ _ _
      | exact ih3 _ _ _ _ _ _ _ _ _
      | exact curtilagelaw21_awake.mono _
      | exact curtilageref10_Numbers.mono _ _ _
      | exact curtilageref13_Find.mono _ _ _
      | exact curtilageref13_Has.mono _ _ _
      | exact curtilageref13_Short.mono _ _ _
      | exact dl_Begun.mono _ _ _
      | exact dl_Close.mono _ _ _ _ _
      | exact dl_Count.mono _ _ _ _
      | exact dl_Open.mono _ _ _ _ _
      | exact LeO.none _
      | refine LeO.ite ?_ ?_
      | refine LeO.bind ?_ (fun _ => ?_)
    · intro y0 y1 y2 y3 y4 y5 y6 y7 y8
      unfold curtilagelaw21_DlCounts.l1
      repeat' first
      | (with_reducible exact ih0 _ _ _ _ _ _)
      | (with_reducible exact ih1 _ _ _ _ _ _ _ _)
      | (with_reducible exact ih2 _ _ _ _ _ _ _ _ _ _ _)
      | (with_reducible exact ih3 _ _ _ _ _ _ _ _ _)
      | (with_reducible exact curtilagelaw21_awake.mono _)
      | (with_reducible exact curtilageref10_Numbers.mono _ _ _)
      | (with_reducible exact curtilageref13_Find.mono _ _ _)
      | (with_reducible exact curtilageref13_Has.mono _ _ _)
      | (with_reducible exact curtilageref13_Short.mono _ _ _)
      | (with_reducible exact dl_Begun.mono _ _ _)
      | (with_reducible exact dl_Close.mono _ _ _ _ _)
      | (with_reducible exact dl_Count.mono _ _ _ _)
      | (with_reducible exact dl_Open.mono _ _ _ _ _)
      | (with_reducible exact LeO.refl _)
      | (with_reducible exact LeO.none _)
      | (with_reducible refine LeO.ite ?_ ?_)
      | (with_reducible refine LeO.bind ?_ (fun _ => ?_))
      | exact ih0 _ _ _ _ _ _
      | exact ih1 _ _ _ _ _ _ _ _
      | exact ih2 _ _ _ _ _ _ _ _ _ _ _
      | exact ih3 _ _ _ _ _ _ _ _ _
      | exact curtilagelaw21_awake.mono _
      | exact curtilageref10_Numbers.mono _ _ _
      | exact curtilageref13_Find.mono _ _ _
      | exact curtilageref13_Has.mono _ _ _
      | exact curtilageref13_Short.mono _ _ _
      | exact dl_Begun.mono _ _ _
      | exact dl_Close.mono _ _ _ _ _
      | exact dl_Count.mono _ _ _ _
      | exact dl_Open.mono _ _ _ _ _
      | exact LeO.none _
      | refine LeO.ite ?_ ?_
      | refine LeO.bind ?_ (fun _ => ?_)
theorem curtilagelaw21_DlCounts.mono : ∀ a0 a1 a2 a3 k, LeO (curtilagelaw21_DlCounts.f k a0 a1 a2 a3) (curtilagelaw21_DlCounts.f (k + 1) a0 a1 a2 a3) := by
  intro a0 a1 a2 a3 k
  obtain ⟨ih0, ih1, ih2, ih3⟩ := curtilagelaw21_DlCounts.mono_l k
  unfold curtilagelaw21_DlCounts.f
  repeat' first
      | (with_reducible exact ih0 _ _ _ _ _ _)
      | (with_reducible exact ih1 _ _ _ _ _ _ _ _)
      | (with_reducible exact ih2 _ _ _ _ _ _ _ _ _ _ _)
      | (with_reducible exact ih3 _ _ _ _ _ _ _ _ _)
      | (with_reducible exact curtilagelaw21_awake.mono _)
      | (with_reducible exact curtilageref10_Numbers.mono _ _ _)
      | (with_reducible exact curtilageref13_Find.mono _ _ _)
      | (with_reducible exact curtilageref13_Has.mono _ _ _)
      | (with_reducible exact curtilageref13_Short.mono _ _ _)
      | (with_reducible exact dl_Begun.mono _ _ _)
      | (with_reducible exact dl_Close.mono _ _ _ _ _)
      | (with_reducible exact dl_Count.mono _ _ _ _)
      | (with_reducible exact dl_Open.mono _ _ _ _ _)
      | (with_reducible exact LeO.refl _)
      | (with_reducible exact LeO.none _)
      | (with_reducible refine LeO.ite ?_ ?_)
      | (with_reducible refine LeO.bind ?_ (fun _ => ?_))
      | exact ih0 _ _ _ _ _ _
      | exact ih1 _ _ _ _ _ _ _ _
      | exact ih2 _ _ _ _ _ _ _ _ _ _ _
      | exact ih3 _ _ _ _ _ _ _ _ _
      | exact curtilagelaw21_awake.mono _
      | exact curtilageref10_Numbers.mono _ _ _
      | exact curtilageref13_Find.mono _ _ _
      | exact curtilageref13_Has.mono _ _ _
      | exact curtilageref13_Short.mono _ _ _
      | exact dl_Begun.mono _ _ _
      | exact dl_Close.mono _ _ _ _ _
      | exact dl_Count.mono _ _ _ _
      | exact dl_Open.mono _ _ _ _ _
      | exact LeO.none _
      | refine LeO.ite ?_ ?_
      | refine LeO.bind ?_ (fun _ => ?_)
end Go.Proofs.Ytociaidhgefpiaa.P
