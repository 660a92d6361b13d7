/- What functions of the program, and of its laws, give, each proved of its code by a walk; no condition. -/
import Derived.Test.YtcoknhomlbbimaaPx0
import Derived.Test.YtcoknhomlbbimaaPx2
import Derived.Test.YtcoknhomlbbimaaPx3
import Derived.Test.YtcoknhomlbbimaaPx4
namespace Go.Proofs.Ytcoknhomlbbimaa.P
open Go.RowKit Go.Proofs.YtcoknhomlbbimaaW.PrintWords Go.Proofs.YtcoknhomlbbimaaW.PrintLast Go.Proofs.YtcoknhomlbbimaaW.PrintMore
attribute [local go_sem] max2_int min2_int max_two min_two max_three min_three max_four min_four   -- for this text's walks alone
set_option linter.unusedVariables false
set_option linter.unusedSimpArgs false

/-! ### curtilagelaw12_HashMore: function 6 -/
mutual
def curtilagelaw12_HashMore.j0 : Nat → List (S24) → List (S24) → Int → ByteArray → ByteArray → Bool → Bool → Option (Bool)
  | 0, _, _, _, _, _, _, _ => none
  | k + 1, x0, x1, x2, x3, x4, x11, x35 => if x35 = true then (some x11) else ((some (([] : List (S24)) : List (S24))).bind fun y185 => (if y185.length + x0.length < 1759218604441 then ((some (y185 ++ x0 : List (S24))).bind fun y188 => (if y188.length + x1.length < 1759218604441 then ((some (y188 ++ x1 : List (S24))).bind fun y191 => ((hash_Make.f x0 x2).bind fun bt194 => ((hash_Make.f y191 x2).bind fun bt202 => (if bt194.2.2 = 0 then (if bt202.2.2 = 0 then (if (bt194.1.length : Int) = x2 then (if (bt202.1.length : Int) = x2 then (if (bt194.2.1.length : Int) = (x0.length : Int) then (curtilagelaw12_HashMore.j1 k x0 x3 x4 x11 y191 ((bt202.2.1.length : Int) != (y191.length : Int)) bt194.1 bt194.2.1 bt202.1 bt202.2.1) else (curtilagelaw12_HashMore.j1 k x0 x3 x4 x11 y191 true bt194.1 bt194.2.1 bt202.1 bt202.2.1)) else (curtilagelaw12_HashMore.j1 k x0 x3 x4 x11 y191 true bt194.1 bt194.2.1 bt202.1 bt202.2.1)) else (curtilagelaw12_HashMore.j1 k x0 x3 x4 x11 y191 true bt194.1 bt194.2.1 bt202.1 bt202.2.1)) else (curtilagelaw12_HashMore.j1 k x0 x3 x4 x11 y191 true bt194.1 bt194.2.1 bt202.1 bt202.2.1)) else (curtilagelaw12_HashMore.j1 k x0 x3 x4 x11 y191 true bt194.1 bt194.2.1 bt202.1 bt202.2.1))))) else (none))) else (none)))
def curtilagelaw12_HashMore.j1 : Nat → List (S24) → ByteArray → ByteArray → Bool → List (S24) → Bool → List Int → List Int → List Int → List Int → Option (Bool)
  | 0, _, _, _, _, _, _, _, _, _, _ => none
  | k + 1, x0, x3, x4, x11, x12, x89, x202000, x202001, x210000, x210001 => if x89 = true then (some false) else ((hash_Find.f k x202000 x202001 x0 x3 x4).bind fun t210 => ((hash_Find.f k x210000 x210001 x12 x3 x4).bind fun t211 => (if x11 = true then (if t210 < 0 then (if t211 < 0 then (some true) else (if t211 ≥ (x0.length : Int) then (some true) else (if t210 ≥ 0 then (some (t211 == t210)) else (some false)))) else (if t210 ≥ 0 then (some (t211 == t210)) else (some false))) else (some false))))
end
def curtilagelaw12_HashMore.f (k : Nat) (l0 : List (S24)) (l1 : List (S24)) (a2 : Int) (a3 : ByteArray) (a4 : ByteArray) : Option (Bool) := (curtilagelaw12_awake.f k).bind fun t184 => (if (l0.length : Int) > 20 then (curtilagelaw12_HashMore.j0 k l0 l1 a2 a3 a4 t184 true) else (if (l1.length : Int) > 20 then (curtilagelaw12_HashMore.j0 k l0 l1 a2 a3 a4 t184 true) else (if a2 < 1 then (curtilagelaw12_HashMore.j0 k l0 l1 a2 a3 a4 t184 true) else (curtilagelaw12_HashMore.j0 k l0 l1 a2 a3 a4 t184 (decide (a2 > 64))))))
theorem curtilagelaw12_HashMore.mono_l : ∀ k, (∀ y0 y1 y2 y3 y4 y5 y6, LeO (curtilagelaw12_HashMore.j0 k y0 y1 y2 y3 y4 y5 y6) (curtilagelaw12_HashMore.j0 (k + 1) y0 y1 y2 y3 y4 y5 y6)) ∧ (∀ y0 y1 y2 y3 y4 y5 y6 y7 y8 y9, LeO (curtilagelaw12_HashMore.j1 k y0 y1 y2 y3 y4 y5 y6 y7 y8 y9) (curtilagelaw12_HashMore.j1 (k + 1) y0 y1 y2 y3 y4 y5 y6 y7 y8 y9))
  | 0 => ⟨fun _ _ _ _ _ _ _ r h => by simp [curtilagelaw12_HashMore.j0] at h, fun _ _ _ _ _ _ _ _ _ _ r h => by simp [curtilagelaw12_HashMore.j1] at h⟩
  | k + 1 => by
    obtain ⟨ih0, ih1⟩ := curtilagelaw12_HashMore.mono_l k
    refine ⟨?_, ?_⟩
    · intro y0 y1 y2 y3 y4 y5 y6
      unfold curtilagelaw12_HashMore.j0
      repeat' first
      | (with_reducible exact ih0 _ _ _ _ _ _ _)
      | (with_reducible exact ih1 _ _ _ _ _ _ _ _ _ _)
      | (with_reducible exact curtilagelaw12_awake.mono _)
      | (with_reducible exact hash_Find.mono _ _ _ _ _ _)
      | (with_reducible exact LeO.refl _)
      | (with_reducible exact LeO.none _)
      | (with_reducible refine LeO.ite ?_ ?_)
      | (with_reducible refine LeO.bind ?_ (fun _ => ?_))
      | exact ih0 _ _ _ _ _ _ _
      | exact ih1 _ _ _ _ _ _ _ _ _ _
      | exact curtilagelaw12_awake.mono _
      | exact hash_Find.mono _ _ _ _ _ _
      | exact LeO.none _
      | refine LeO.ite ?_ ?_
      | refine LeO.bind ?_ (fun _ => ?_)
    · intro y0 y1 y2 y3 y4 y5 y6 y7 y8 y9
      unfold curtilagelaw12_HashMore.j1
      repeat' first
      | (with_reducible exact ih0 _ _ _ _ _ _ _)
      | (with_reducible exact ih1 _ _ _ _ _ _ _ _ _ _)
      | (with_reducible exact curtilagelaw12_awake.mono _)
      | (with_reducible exact hash_Find.mono _ _ _ _ _ _)
      | (with_reducible exact LeO.refl _)
      | (with_reducible exact LeO.none _)
      | (with_reducible refine LeO.ite ?_ ?_)
      | (with_reducible refine LeO.bind ?_ (fun _ => ?_))
      | exact ih0 _ _ _ _ _ _ _
      | exact ih1 _ _ _ _ _ _ _ _ _ _
      | exact curtilagelaw12_awake.mono _
      | exact hash_Find.mono _ _ _ _ _ _
      | exact LeO.none _
      | refine LeO.ite ?_ ?_
      | refine LeO.bind ?_ (fun _ => ?_)
theorem curtilagelaw12_HashMore.mono : ∀ a0 a1 a2 a3 a4 k, LeO (curtilagelaw12_HashMore.f k a0 a1 a2 a3 a4) (curtilagelaw12_HashMore.f (k + 1) a0 a1 a2 a3 a4) := by
  intro a0 a1 a2 a3 a4 k
  obtain ⟨ih0, ih1⟩ := curtilagelaw12_HashMore.mono_l k
  unfold curtilagelaw12_HashMore.f
  repeat' first
      | (with_reducible exact ih0 _ _ _ _ _ _ _)
      | (with_reducible exact ih1 _ _ _ _ _ _ _ _ _ _)
      | (with_reducible exact curtilagelaw12_awake.mono _)
      | (with_reducible exact hash_Find.mono _ _ _ _ _ _)
      | (with_reducible exact LeO.refl _)
      | (with_reducible exact LeO.none _)
      | (with_reducible refine LeO.ite ?_ ?_)
      | (with_reducible refine LeO.bind ?_ (fun _ => ?_))
      | exact ih0 _ _ _ _ _ _ _
      | exact ih1 _ _ _ _ _ _ _ _ _ _
      | exact curtilagelaw12_awake.mono _
      | exact hash_Find.mono _ _ _ _ _ _
      | exact LeO.none _
      | refine LeO.ite ?_ ?_
      | refine LeO.bind ?_ (fun _ => ?_)
set_option maxHeartbeats 8000000 in
set_option maxRecDepth 100000 in
theorem curtilagelaw12_HashMore.calls (k : Nat) (A0 : Option Addr) (c0 : Nat) (l0 : List (S24)) (A1 : Option Addr) (c1 : Nat) (l1 : List (S24)) (a2 : Int) (a3 : ByteArray) (a4 : ByteArray) (r : Bool) (w : World) (hr0 : Kd.C k24 w A0 l0.length l0) (hc0 : l0.length ≤ c0) (hr1 : Kd.C k24 w A1 l1.length l1) (hc1 : l1.length ≤ c1) (h : curtilagelaw12_HashMore.f k l0 l1 a2 a3 a4 = some r) (hr0 : r = true) :
    Calls Try.prog 6 #[.slice A0 l0.length c0, .slice A1 l1.length c1, .int .i64 a2, .string a3, .string a4] w fun e w' => e = .returned (.bool r) ∧ Below w.heap.size w w' := by
  have HT := Aside0.mk hr0
  clear hr0
  have hu33 := Try.underlying33
  have HR0 := Aside0.mk hr0
  have HC0 := Aside0.mk hc0
  clear hr0 hc0
  have HR1 := Aside0.mk hr1
  have HC1 := Aside0.mk hc1
  clear hr1 hc1
  have HB := Aside0.mk (Below.refl w.heap.size w)
  have H : ((curtilagelaw12_awake.f k).bind fun t184 => (if (l0.length : Int) > 20 then (curtilagelaw12_HashMore.j0 k l0 l1 a2 a3 a4 t184 true) else (if (l1.length : Int) > 20 then (curtilagelaw12_HashMore.j0 k l0 l1 a2 a3 a4 t184 true) else (if a2 < 1 then (curtilagelaw12_HashMore.j0 k l0 l1 a2 a3 a4 t184 true) else (curtilagelaw12_HashMore.j0 k l0 l1 a2 a3 a4 t184 (decide (a2 > 64))))))) = some r := h
  clear h
  replace H := Option.bind_eq_some_iff.mp H
  obtain ⟨t184, A60, H⟩ := H
  replace H : (if (l0.length : Int) > 20 then (curtilagelaw12_HashMore.j0 k l0 l1 a2 a3 a4 t184 true) else (if (l1.length : Int) > 20 then (curtilagelaw12_HashMore.j0 k l0 l1 a2 a3 a4 t184 true) else (if a2 < 1 then (curtilagelaw12_HashMore.j0 k l0 l1 a2 a3 a4 t184 true) else (curtilagelaw12_HashMore.j0 k l0 l1 a2 a3 a4 t184 (decide (a2 > 64)))))) = some r := H
  have A6 := Aside0.mk A60
  clear A60
  have HC7 := Aside0.mk H
  clear H
  go_enter Try.func6, Try.ntmps6
  go_upto_region 2 with (first | ((with_reducible refine gate_callee (f := 9) rfl ?_); refine goesL_ (some 19) rfl rfl Try.func9 (by kernel_rfl) rfl #[] rfl (by (try simp only [List.map_toArray, List.map_cons, List.map_nil]); first | done | rfl | (simp only [List.length_drop, List.length_take]; rfl)) ?_; (with_reducible refine (curtilagelaw12_awake.calls k  t184 _ A6.out).mono ?_); rintro e w8 ⟨rfl, hb⟩; refine ⟨_, rfl, ?_⟩; have n0_ := Aside0.mk (below_step (by repeat (first | (with_reducible first | exact HB.out | apply below_alloc | apply pw_below_drewN | apply below_drew1) | exact HB.out)) hb); clear HB; have HB := n0_; clear n0_; (try clear hb); (try clear hb2); (try clear hk); (try clear hi)))
  (try simp only [Act.put, List.setIfInBounds_toArray, List.set_cons_zero, List.set_cons_succ])
  go_cut [35] (fun v35 wc => ∃ (kq : Nat) (x35_6 : Bool), v35 = .bool x35_6 ∧ Aside0 (curtilagelaw12_HashMore.j0 kq l0 l1 a2 a3 a4 t184 x35_6 = some r) ∧ Aside0 (kq ≤ k) ∧ Aside0 (Below w.heap.size w wc))
  case first =>
    have H := HC7.out
    clear HC7
    by_cases c9 : (l0.length : Int) > 20
    · rw [if_pos c9] at H
      have c9b0 : decide (20 < (l0.length : Int)) = true := decide_eq_true c9
      have c9b1 : decide (20 < l0.length) = true := decide_eq_true (by omega)
      clear c9
      (first | rw [c9b0] | (simp only [i64_w, i32_w]; rw [c9b0]) | skip)
      have H' := Aside0.mk H
      clear H
      go_wp2
      go_meet
      case rel => exact ⟨_, (true), (by first | rfl | (simp; done) | (simp [*]; done)), H', ⟨by first | omega | exact Nat.le_refl _⟩, ⟨by repeat (first | (with_reducible first | exact HB.out | apply below_alloc | apply pw_below_drewN | apply below_drew1) | exact HB.out)⟩⟩
    · rw [if_neg c9] at H
      have c9b0 : decide (20 < (l0.length : Int)) = false := decide_eq_false c9
      have c9b1 : decide (20 < l0.length) = false := decide_eq_false (by omega)
      clear c9
      (first | rw [c9b0] | (simp only [i64_w, i32_w]; rw [c9b0]) | skip)
      by_cases c10 : (l1.length : Int) > 20
      · rw [if_pos c10] at H
        have c10b0 : decide (20 < (l1.length : Int)) = true := decide_eq_true c10
        have c10b1 : decide (20 < l1.length) = true := decide_eq_true (by omega)
        clear c10
        have H' := Aside0.mk H
        clear H
        go_wp2
        go_meet
        case rel => exact ⟨_, (true), (by first | rfl | (simp; done) | (simp [*]; done)), H', ⟨by first | omega | exact Nat.le_refl _⟩, ⟨by repeat (first | (with_reducible first | exact HB.out | apply below_alloc | apply pw_below_drewN | apply below_drew1) | exact HB.out)⟩⟩
      · rw [if_neg c10] at H
        have c10b0 : decide (20 < (l1.length : Int)) = false := decide_eq_false c10
        have c10b1 : decide (20 < l1.length) = false := decide_eq_false (by omega)
        clear c10
        by_cases c11 : a2 < 1
        · rw [if_pos c11] at H
          have c11b0 : decide (a2 < 1) = true := decide_eq_true c11
          clear c11
          have H' := Aside0.mk H
          clear H
          go_wp2
          go_meet
          case rel => exact ⟨_, (true), (by first | rfl | (simp; done) | (simp [*]; done)), H', ⟨by first | omega | exact Nat.le_refl _⟩, ⟨by repeat (first | (with_reducible first | exact HB.out | apply below_alloc | apply pw_below_drewN | apply below_drew1) | exact HB.out)⟩⟩
        · rw [if_neg c11] at H
          have c11b0 : decide (a2 < 1) = false := decide_eq_false c11
          clear c11
          have H' := Aside0.mk H
          clear H
          go_wp2
          go_meet
          case rel => exact ⟨_, (decide (a2 > 64)), (by first | rfl | (simp; done) | (simp [*]; done)), H', ⟨by first | omega | exact Nat.le_refl _⟩, ⟨by repeat (first | (with_reducible first | exact HB.out | apply below_alloc | apply pw_below_drewN | apply below_drew1) | exact HB.out)⟩⟩
  case rest =>
    clear HC7
    try clear c1
    try clear p2
    try clear c6
    try clear c9
    try clear c9b0
    try clear c9b1
    try clear c10
    try clear c10b0
    try clear c10b1
    try clear c11
    try clear c11b0
    obtain ⟨kq, x35_6, rfl, HA, HJ6, HB⟩ := hcut
    cases kq with
    | zero => exact absurd HA.out (by simp [curtilagelaw12_HashMore.j0])
    | succ kj6 =>
      have H := HA.out
      clear HA
      simp only [curtilagelaw12_HashMore.j0] at H
      by_cases c12 : x35_6 = true
      · subst c12
        have H1 : (some t184) = some r := by rw [if_pos rfl] at H; exact H
        clear H
        have H := H1
        clear H1
        obtain rfl := Option.some.inj H
        go_wp2
        go_ret
        exact ⟨by first | rfl | (simp [errW_none, errW_some] <;> rfl) | (simp [*, errW_none, errW_some] <;> rfl), by repeat (first | (with_reducible first | exact HB.out | apply below_alloc | apply pw_below_drewN | apply below_drew1) | exact HB.out)⟩
      · replace c12 := Bool.eq_false_iff.mpr c12
        subst c12
        have H1 : ((some (([] : List (S24)) : List (S24))).bind fun y185 => (if y185.length + l0.length < 1759218604441 then ((some (y185 ++ l0 : List (S24))).bind fun y188 => (if y188.length + l1.length < 1759218604441 then ((some (y188 ++ l1 : List (S24))).bind fun y191 => ((hash_Make.f l0 a2).bind fun bt194 => ((hash_Make.f y191 a2).bind fun bt202 => (if bt194.2.2 = 0 then (if bt202.2.2 = 0 then (if (bt194.1.length : Int) = a2 then (if (bt202.1.length : Int) = a2 then (if (bt194.2.1.length : Int) = (l0.length : Int) then (curtilagelaw12_HashMore.j1 kj6 l0 a3 a4 t184 y191 ((bt202.2.1.length : Int) != (y191.length : Int)) bt194.1 bt194.2.1 bt202.1 bt202.2.1) else (curtilagelaw12_HashMore.j1 kj6 l0 a3 a4 t184 y191 true bt194.1 bt194.2.1 bt202.1 bt202.2.1)) else (curtilagelaw12_HashMore.j1 kj6 l0 a3 a4 t184 y191 true bt194.1 bt194.2.1 bt202.1 bt202.2.1)) else (curtilagelaw12_HashMore.j1 kj6 l0 a3 a4 t184 y191 true bt194.1 bt194.2.1 bt202.1 bt202.2.1)) else (curtilagelaw12_HashMore.j1 kj6 l0 a3 a4 t184 y191 true bt194.1 bt194.2.1 bt202.1 bt202.2.1)) else (curtilagelaw12_HashMore.j1 kj6 l0 a3 a4 t184 y191 true bt194.1 bt194.2.1 bt202.1 bt202.2.1))))) else (none))) else (none))) = some r := by rw [if_neg (show ¬ (false = true) by decide)] at H; exact H
        clear H
        have H := H1
        clear H1
        obtain ⟨y185, hy185⟩ : ∃ y_ : List (S24), y_ = (([] : List (S24))) := ⟨_, rfl⟩
        replace H : (if y185.length + l0.length < 1759218604441 then ((some (y185 ++ l0 : List (S24))).bind fun y188 => (if y188.length + l1.length < 1759218604441 then ((some (y188 ++ l1 : List (S24))).bind fun y191 => ((hash_Make.f l0 a2).bind fun bt194 => ((hash_Make.f y191 a2).bind fun bt202 => (if bt194.2.2 = 0 then (if bt202.2.2 = 0 then (if (bt194.1.length : Int) = a2 then (if (bt202.1.length : Int) = a2 then (if (bt194.2.1.length : Int) = (l0.length : Int) then (curtilagelaw12_HashMore.j1 kj6 l0 a3 a4 t184 y191 ((bt202.2.1.length : Int) != (y191.length : Int)) bt194.1 bt194.2.1 bt202.1 bt202.2.1) else (curtilagelaw12_HashMore.j1 kj6 l0 a3 a4 t184 y191 true bt194.1 bt194.2.1 bt202.1 bt202.2.1)) else (curtilagelaw12_HashMore.j1 kj6 l0 a3 a4 t184 y191 true bt194.1 bt194.2.1 bt202.1 bt202.2.1)) else (curtilagelaw12_HashMore.j1 kj6 l0 a3 a4 t184 y191 true bt194.1 bt194.2.1 bt202.1 bt202.2.1)) else (curtilagelaw12_HashMore.j1 kj6 l0 a3 a4 t184 y191 true bt194.1 bt194.2.1 bt202.1 bt202.2.1)) else (curtilagelaw12_HashMore.j1 kj6 l0 a3 a4 t184 y191 true bt194.1 bt194.2.1 bt202.1 bt202.2.1))))) else (none))) else (none)) = some r := by first | (rw [hy185]; with_reducible exact H) | (have H2_ := (Option.bind_some _ _).symm.trans H; rw [hy185]; with_reducible exact H2_) | (have H2_ := (Option.bind_some _ _).symm.trans H; with_reducible exact H2_) | with_reducible exact H | (rw [hy185]; exact H) | exact H
        have Ny185 := Aside0.mk hy185
        clear hy185
        by_cases c13 : y185.length + l0.length < 1759218604441
        · rw [if_pos c13] at H
          have LMc13 := Aside0.mk c13
          clear c13
          obtain ⟨y188, hy188⟩ : ∃ y_ : List (S24), y_ = (y185 ++ l0) := ⟨_, rfl⟩
          replace H : (if y188.length + l1.length < 1759218604441 then ((some (y188 ++ l1 : List (S24))).bind fun y191 => ((hash_Make.f l0 a2).bind fun bt194 => ((hash_Make.f y191 a2).bind fun bt202 => (if bt194.2.2 = 0 then (if bt202.2.2 = 0 then (if (bt194.1.length : Int) = a2 then (if (bt202.1.length : Int) = a2 then (if (bt194.2.1.length : Int) = (l0.length : Int) then (curtilagelaw12_HashMore.j1 kj6 l0 a3 a4 t184 y191 ((bt202.2.1.length : Int) != (y191.length : Int)) bt194.1 bt194.2.1 bt202.1 bt202.2.1) else (curtilagelaw12_HashMore.j1 kj6 l0 a3 a4 t184 y191 true bt194.1 bt194.2.1 bt202.1 bt202.2.1)) else (curtilagelaw12_HashMore.j1 kj6 l0 a3 a4 t184 y191 true bt194.1 bt194.2.1 bt202.1 bt202.2.1)) else (curtilagelaw12_HashMore.j1 kj6 l0 a3 a4 t184 y191 true bt194.1 bt194.2.1 bt202.1 bt202.2.1)) else (curtilagelaw12_HashMore.j1 kj6 l0 a3 a4 t184 y191 true bt194.1 bt194.2.1 bt202.1 bt202.2.1)) else (curtilagelaw12_HashMore.j1 kj6 l0 a3 a4 t184 y191 true bt194.1 bt194.2.1 bt202.1 bt202.2.1))))) else (none)) = some r := by first | (rw [hy188]; with_reducible exact H) | (have H2_ := (Option.bind_some _ _).symm.trans H; rw [hy188]; with_reducible exact H2_) | (have H2_ := (Option.bind_some _ _).symm.trans H; with_reducible exact H2_) | with_reducible exact H | (rw [hy188]; exact H) | exact H
          have Ny188 := Aside0.mk hy188
          clear hy188
          by_cases c14 : y188.length + l1.length < 1759218604441
          · rw [if_pos c14] at H
            have LMc14 := Aside0.mk c14
            clear c14
            obtain ⟨y191, hy191⟩ : ∃ y_ : List (S24), y_ = (y188 ++ l1) := ⟨_, rfl⟩
            replace H : ((hash_Make.f l0 a2).bind fun bt194 => ((hash_Make.f y191 a2).bind fun bt202 => (if bt194.2.2 = 0 then (if bt202.2.2 = 0 then (if (bt194.1.length : Int) = a2 then (if (bt202.1.length : Int) = a2 then (if (bt194.2.1.length : Int) = (l0.length : Int) then (curtilagelaw12_HashMore.j1 kj6 l0 a3 a4 t184 y191 ((bt202.2.1.length : Int) != (y191.length : Int)) bt194.1 bt194.2.1 bt202.1 bt202.2.1) else (curtilagelaw12_HashMore.j1 kj6 l0 a3 a4 t184 y191 true bt194.1 bt194.2.1 bt202.1 bt202.2.1)) else (curtilagelaw12_HashMore.j1 kj6 l0 a3 a4 t184 y191 true bt194.1 bt194.2.1 bt202.1 bt202.2.1)) else (curtilagelaw12_HashMore.j1 kj6 l0 a3 a4 t184 y191 true bt194.1 bt194.2.1 bt202.1 bt202.2.1)) else (curtilagelaw12_HashMore.j1 kj6 l0 a3 a4 t184 y191 true bt194.1 bt194.2.1 bt202.1 bt202.2.1)) else (curtilagelaw12_HashMore.j1 kj6 l0 a3 a4 t184 y191 true bt194.1 bt194.2.1 bt202.1 bt202.2.1)))) = some r := by first | (rw [hy191]; with_reducible exact H) | (have H2_ := (Option.bind_some _ _).symm.trans H; rw [hy191]; with_reducible exact H2_) | (have H2_ := (Option.bind_some _ _).symm.trans H; with_reducible exact H2_) | with_reducible exact H | (rw [hy191]; exact H) | exact H
            have Ny191 := Aside0.mk hy191
            clear hy191
            replace H := Option.bind_eq_some_iff.mp H
            obtain ⟨⟨t194, t197, t200⟩, A150, H⟩ := H
            replace H : ((hash_Make.f y191 a2).bind fun bt202 => (if t200 = 0 then (if bt202.2.2 = 0 then (if (t194.length : Int) = a2 then (if (bt202.1.length : Int) = a2 then (if (t197.length : Int) = (l0.length : Int) then (curtilagelaw12_HashMore.j1 kj6 l0 a3 a4 t184 y191 ((bt202.2.1.length : Int) != (y191.length : Int)) t194 t197 bt202.1 bt202.2.1) else (curtilagelaw12_HashMore.j1 kj6 l0 a3 a4 t184 y191 true t194 t197 bt202.1 bt202.2.1)) else (curtilagelaw12_HashMore.j1 kj6 l0 a3 a4 t184 y191 true t194 t197 bt202.1 bt202.2.1)) else (curtilagelaw12_HashMore.j1 kj6 l0 a3 a4 t184 y191 true t194 t197 bt202.1 bt202.2.1)) else (curtilagelaw12_HashMore.j1 kj6 l0 a3 a4 t184 y191 true t194 t197 bt202.1 bt202.2.1)) else (curtilagelaw12_HashMore.j1 kj6 l0 a3 a4 t184 y191 true t194 t197 bt202.1 bt202.2.1))) = some r := H
            have A15 := Aside0.mk A150
            clear A150
            replace H := Option.bind_eq_some_iff.mp H
            obtain ⟨⟨t202, t205, t208⟩, A160, H⟩ := H
            replace H : (if t200 = 0 then (if t208 = 0 then (if (t194.length : Int) = a2 then (if (t202.length : Int) = a2 then (if (t197.length : Int) = (l0.length : Int) then (curtilagelaw12_HashMore.j1 kj6 l0 a3 a4 t184 y191 ((t205.length : Int) != (y191.length : Int)) t194 t197 t202 t205) else (curtilagelaw12_HashMore.j1 kj6 l0 a3 a4 t184 y191 true t194 t197 t202 t205)) else (curtilagelaw12_HashMore.j1 kj6 l0 a3 a4 t184 y191 true t194 t197 t202 t205)) else (curtilagelaw12_HashMore.j1 kj6 l0 a3 a4 t184 y191 true t194 t197 t202 t205)) else (curtilagelaw12_HashMore.j1 kj6 l0 a3 a4 t184 y191 true t194 t197 t202 t205)) else (curtilagelaw12_HashMore.j1 kj6 l0 a3 a4 t184 y191 true t194 t197 t202 t205)) = some r := H
            have A16 := Aside0.mk A160
            clear A160
            have HC17 := Aside0.mk H
            clear H
            go_upto_region 7 with (first | ((with_reducible refine gate_dst (N := 37) rfl ?_); (try (refine gate_guard (by rfl) ?_; dsimp only)); refine Kd.R_lit k24 _ 24 ?hg (N := 37) ?hd (xs := ([] : List (S24))) (inner := []) (ok := fun _ => True) (okp := fun _ => True) ?hr ?hp (fun _ hk => hk) trivial (Below.refl _ _) (Nat.le_refl _) (by simp) ?_; (case hd => rfl); (case hg => rfl); (case hr => first | (go_simp; done) | (go_simp; rfl)); (case hp => exact (Reps.none _ _)); intro v186 w18 ho19 hb hg_ hnew_; clear hg_ hnew_; (first | rw [← Ny185.out] at ho19 | (simp only [Int.reduceToNat] at ho19; rw [← Ny185.out] at ho19)); have n0_ := Aside0.mk (Kd.R_lower ho19 (below_size (by repeat (first | (with_reducible first | exact HB.out | apply below_alloc | apply pw_below_drewN | apply below_drew1) | exact HB.out)))); have n1_ := Aside0.mk (below_step (by repeat (first | (with_reducible first | exact HB.out | apply below_alloc | apply pw_below_drewN | apply below_drew1) | exact HB.out)) hb); clear HB; have HO187 := n0_; have HB := n1_; clear n0_ n1_; clear hb ho19) | ((with_reducible refine gate_builtin (b := .append) (xs := #[.tmp 37, .tmp 38]) rfl ?_); (try (refine gate_guard (by rfl) ?_; dsimp only)); at_builtin; refine Kd.R_append_rows k24 (w0 := w) w.heap.size rfl (.tmp 37) (.tmp 38) 30 24 (.agg #[(.string ⟨#[]⟩), (.string ⟨#[]⟩), (.int .u64 0), (.int .u64 0), (.int .i64 0), (.int .i64 0), (.int .i64 0), (.bool false)]) 80 rfl Try.underlying30 info24 rfl (by decide) (by omega) v186 y185 l0 _ _ _ (fun _ => True) (fun _ => False) rfl rfl ?aO ?aR (fun _ _ h => h) (fun _ h => h.elim) ?aF ?aB ?aS ?aL ?_; (case aR => repeat (first | exact (Kd.C_below HR0.out HB.out) | (with_reducible refine Kd.C_alloc ?_ _) | (with_reducible refine Kd.C_drewN ?_ _) | (with_reducible refine Kd.C_drew ?_))); (case aB => exact (by repeat (first | (with_reducible first | exact HB.out | apply below_alloc | apply pw_below_drewN | apply below_drew1) | exact HB.out))); (case aF => exact (fun _ _ => trivial)); (case aO => exact (by (with_reducible repeat (first | apply Kd.R_alloc | apply Kd.R_drewN | apply Kd.R_drew)); exact HO187.out)); (case aS => exact (below_size (by repeat (first | (with_reducible first | exact HB.out | apply below_alloc | apply pw_below_drewN | apply below_drew1) | exact HB.out)))); (case aL => have := LMc13.out; omega); intro v189 w20 ho hb hg hat; rw [← Ny188.out] at ho; have n0_ := Aside0.mk (hb); have n1_ := Aside0.mk (ho); clear HB; clear HO187; have HB := n0_; have HO190 := n1_; clear n0_ n1_; clear ho hb hg hat) | ((with_reducible refine gate_builtin (b := .append) (xs := #[.tmp 39, .tmp 40]) rfl ?_); (try (refine gate_guard (by rfl) ?_; dsimp only)); at_builtin; refine Kd.R_append_rows k24 (w0 := w) w.heap.size rfl (.tmp 39) (.tmp 40) 30 24 (.agg #[(.string ⟨#[]⟩), (.string ⟨#[]⟩), (.int .u64 0), (.int .u64 0), (.int .i64 0), (.int .i64 0), (.int .i64 0), (.bool false)]) 80 rfl Try.underlying30 info24 rfl (by decide) (by omega) v189 y188 l1 _ _ _ (fun _ => True) (fun _ => False) rfl rfl ?aO ?aR (fun _ _ h => h) (fun _ h => h.elim) ?aF ?aB ?aS ?aL ?_; (case aR => repeat (first | exact (Kd.C_below HR1.out HB.out) | (with_reducible refine Kd.C_alloc ?_ _) | (with_reducible refine Kd.C_drewN ?_ _) | (with_reducible refine Kd.C_drew ?_))); (case aB => exact (by repeat (first | (with_reducible first | exact HB.out | apply below_alloc | apply pw_below_drewN | apply below_drew1) | exact HB.out))); (case aF => exact (fun _ _ => trivial)); (case aO => exact (by (with_reducible repeat (first | apply Kd.R_alloc | apply Kd.R_drewN | apply Kd.R_drew)); exact HO190.out)); (case aS => exact (below_size (by repeat (first | (with_reducible first | exact HB.out | apply below_alloc | apply pw_below_drewN | apply below_drew1) | exact HB.out)))); (case aL => have := LMc14.out; omega); intro v192 w21 ho hb hg hat; rw [← Ny191.out] at ho; have n0_ := Aside0.mk (hb); have n1_ := Aside0.mk (ho); clear HB; clear HO190; have HB := n0_; have HO193 := n1_; clear n0_ n1_; clear ho hb hg hat) | ((with_reducible refine gate_callee (f := 14) rfl ?_); refine goesL_ (some 45) rfl rfl Try.func14 (by kernel_rfl) rfl #[.slice A0 l0.length c0, .int .i64 a2] rfl (by (try simp only [List.map_toArray, List.map_cons, List.map_nil]); first | done | rfl | (simp only [List.length_drop, List.length_take]; rfl)) ?_; (with_reducible refine (hash_Make.calls _ _ l0 a2 t194 t197 t200 _ ?side1 ?side2 A15.out).mono ?_); (case side1 => repeat (first | exact (Kd.C_below HR0.out HB.out) | (with_reducible refine Kd.C_alloc ?_ _) | (with_reducible refine Kd.C_drewN ?_ _) | (with_reducible refine Kd.C_drew ?_))); (case side2 => exact HC0.out); rintro e w22 ⟨v195, v198, rfl, ho0, ho1, hb⟩; refine ⟨_, rfl, ?_⟩; have n0_ := Aside0.mk (Kd.R_below (by (with_reducible repeat (first | apply Kd.R_alloc | apply Kd.R_drewN | apply Kd.R_drew)); exact HO193.out) hb); have n1_ := Aside0.mk (Kd.R_lower ho0 (below_size (by repeat (first | (with_reducible first | exact HB.out | apply below_alloc | apply pw_below_drewN | apply below_drew1) | exact HB.out)))); have n2_ := Aside0.mk (Kd.R_lower ho1 (below_size (by repeat (first | (with_reducible first | exact HB.out | apply below_alloc | apply pw_below_drewN | apply below_drew1) | exact HB.out)))); have n3_ := Aside0.mk (below_step (by repeat (first | (with_reducible first | exact HB.out | apply below_alloc | apply pw_below_drewN | apply below_drew1) | exact HB.out)) hb); clear HO193; clear HB; have HO193 := n0_; have HO196 := n1_; have HO199 := n2_; have HB := n3_; clear n0_ n1_ n2_ n3_; (try clear hb); (try clear hb2); (try clear hk); (try clear hi); (try clear ho0); (try clear ho1)) | ((with_reducible refine gate_dst (N := 13) rfl ?_); (try (refine gate_guard (by rfl) ?_; dsimp only)); refine box_event ?hg (N := 13) ?hd (cs := #[.slice none 0 0, .slice none 0 0]) (t := 33) ?hr ?_; (case hd => rfl); (case hg => rfl); (case hr => first | (go_simp; done) | (go_simp; rfl)); intro gb201 hg w23 hbox hb; have n0_ := Aside0.mk (Kd.R_below (by (with_reducible repeat (first | apply Kd.R_alloc | apply Kd.R_drewN | apply Kd.R_drew)); exact HO193.out) hb); have n1_ := Aside0.mk (Kd.R_below (by (with_reducible repeat (first | apply Kd.R_alloc | apply Kd.R_drewN | apply Kd.R_drew)); exact HO196.out) hb); have n2_ := Aside0.mk (Kd.R_below (by (with_reducible repeat (first | apply Kd.R_alloc | apply Kd.R_drewN | apply Kd.R_drew)); exact HO199.out) hb); have n3_ := Aside0.mk (below_step (by repeat (first | (with_reducible first | exact HB.out | apply below_alloc | apply pw_below_drewN | apply below_drew1) | exact HB.out)) hb); have n4_ := Aside0.mk (hbox); have n5_ := Aside0.mk ((by rw [hg]; exact (below_size (by repeat (first | (with_reducible first | exact HB.out | apply below_alloc | apply pw_below_drewN | apply below_drew1) | exact HB.out))) : w.heap.size ≤ gb201)); have n6_ := Aside0.mk ((by rw [hg]; exact (below_size (by repeat (first | (with_reducible first | exact HB.out | apply below_alloc | apply pw_below_drewN | apply below_drew1) | exact HB.out))) : w.heap.size ≤ gb201)); clear HO193; clear HO196; clear HO199; clear HB; have HO193 := n0_; have HO196 := n1_; have HO199 := n2_; have HB := n3_; have BK201 := n4_; have GW201 := n5_; have GE201 := n6_; clear n0_ n1_ n2_ n3_ n4_ n5_ n6_; clear hb hbox hg; obtain ⟨Ao24, co24, eo24⟩ := Kd.R_slice HO196.out; subst eo24; have hcz25_0 : w23.cell? ⟨gb201, 0, none⟩ = some (.slice none 0 0) := (blk_cell BK201.out 0).trans rfl; have hcz25_1 : w23.cell? ⟨gb201, 1, none⟩ = some (.slice none 0 0) := (blk_cell BK201.out 1).trans rfl; have hfz25_0 := blk_frozen BK201.out 0; have hfz25_1 := blk_frozen BK201.out 1; obtain ⟨Ao26, co26, eo26⟩ := Kd.R_slice HO199.out; subst eo26; obtain ⟨Ao27, co27, eo27⟩ := Kd.R_slice HO193.out; subst eo27) | ((with_reducible refine gate_callee (f := 14) rfl ?_); refine goesL_ (some 51) rfl rfl Try.func14 (by kernel_rfl) rfl #[.slice Ao27 y191.length co27, .int .i64 a2] rfl (by (try simp only [List.map_toArray, List.map_cons, List.map_nil]); first | done | rfl | (simp only [List.length_drop, List.length_take]; rfl)) ?_; (with_reducible refine (hash_Make.calls _ _ y191 a2 t202 t205 t208 _ ?side1 ?side2 A16.out).mono ?_); (case side1 => refine (Kd.R_reads' (e := 24) (base := w.heap.size) (ok := fun k_ => True) (n := y191.length) (c := co27) ?_).2.2; exact (by (with_reducible repeat (first | apply Kd.R_alloc | apply Kd.R_drewN | apply Kd.R_drew)); exact (Kd.R_mono (Kd.R_far (p := ⟨gb201, 1, none⟩) (Kd.R_far (p := ⟨gb201, 0, none⟩) (Kd.R_types HO193.out BK201.out (by decide)) (fun _ hk => hk.2) (.slice Ao24 t194.length co24)) (fun _ hk => hk.2) (.slice Ao26 t197.length co26)) (fun _ h_ => h_.1)))); (case side2 => exact (Kd.R_reads' HO193.out).2.1); rintro e w28 ⟨v203, v206, rfl, ho0, ho1, hb⟩; refine ⟨_, rfl, ?_⟩; have n0_ := Aside0.mk (Kd.R_below (by (with_reducible repeat (first | apply Kd.R_alloc | apply Kd.R_drewN | apply Kd.R_drew)); exact (Kd.R_mono (Kd.R_far (p := ⟨gb201, 1, none⟩) (Kd.R_far (p := ⟨gb201, 0, none⟩) (Kd.R_types HO193.out BK201.out (by decide)) (fun _ hk => hk.2) (.slice Ao24 t194.length co24)) (fun _ hk => hk.2) (.slice Ao26 t197.length co26)) (fun _ h_ => h_.1))) hb); have n1_ := Aside0.mk (Kd.R_mono (Kd.R_told (Kd.R_told (Kd.R_old (by (with_reducible repeat (first | apply Kd.R_alloc | apply Kd.R_drewN | apply Kd.R_drew)); exact (Kd.R_mono (Kd.R_far (p := ⟨gb201, 1, none⟩) (Kd.R_far (p := ⟨gb201, 0, none⟩) (Kd.R_types HO196.out BK201.out (by decide)) (fun _ hk => hk.2) (.slice Ao24 t194.length co24)) (fun _ hk => hk.2) (.slice Ao26 t197.length co26)) (fun _ h_ => h_.1))) hb) (Kd.R_base ho0)) (Kd.R_base ho1)) (fun _ h_ => h_.1)); have n2_ := Aside0.mk (Kd.R_mono (Kd.R_told (Kd.R_told (Kd.R_old (by (with_reducible repeat (first | apply Kd.R_alloc | apply Kd.R_drewN | apply Kd.R_drew)); exact (Kd.R_mono (Kd.R_far (p := ⟨gb201, 1, none⟩) (Kd.R_far (p := ⟨gb201, 0, none⟩) (Kd.R_types HO199.out BK201.out (by decide)) (fun _ hk => hk.2) (.slice Ao24 t194.length co24)) (fun _ hk => hk.2) (.slice Ao26 t197.length co26)) (fun _ h_ => h_.1))) hb) (Kd.R_base ho0)) (Kd.R_base ho1)) (fun _ h_ => h_.1)); have n3_ := Aside0.mk (Kd.R_lower (Kd.R_new' (Kd.R_new' ho0 (Kd.R_lt (by (with_reducible repeat (first | apply Kd.R_alloc | apply Kd.R_drewN | apply Kd.R_drew)); exact (Kd.R_mono (Kd.R_far (p := ⟨gb201, 1, none⟩) (Kd.R_far (p := ⟨gb201, 0, none⟩) (Kd.R_types HO196.out BK201.out (by decide)) (fun _ hk => hk.2) (.slice Ao24 t194.length co24)) (fun _ hk => hk.2) (.slice Ao26 t197.length co26)) (fun _ h_ => h_.1))))) (Kd.R_lt (by (with_reducible repeat (first | apply Kd.R_alloc | apply Kd.R_drewN | apply Kd.R_drew)); exact (Kd.R_mono (Kd.R_far (p := ⟨gb201, 1, none⟩) (Kd.R_far (p := ⟨gb201, 0, none⟩) (Kd.R_types HO199.out BK201.out (by decide)) (fun _ hk => hk.2) (.slice Ao24 t194.length co24)) (fun _ hk => hk.2) (.slice Ao26 t197.length co26)) (fun _ h_ => h_.1))))) (below_size (by repeat (first | (with_reducible first | exact HB.out | apply below_alloc | apply pw_below_drewN | apply below_drew1 | refine below_set ?_ GE201.out) | exact HB.out)))); have n4_ := Aside0.mk (Kd.R_lower (Kd.R_new' (Kd.R_new' ho1 (Kd.R_lt (by (with_reducible repeat (first | apply Kd.R_alloc | apply Kd.R_drewN | apply Kd.R_drew)); exact (Kd.R_mono (Kd.R_far (p := ⟨gb201, 1, none⟩) (Kd.R_far (p := ⟨gb201, 0, none⟩) (Kd.R_types HO196.out BK201.out (by decide)) (fun _ hk => hk.2) (.slice Ao24 t194.length co24)) (fun _ hk => hk.2) (.slice Ao26 t197.length co26)) (fun _ h_ => h_.1))))) (Kd.R_lt (by (with_reducible repeat (first | apply Kd.R_alloc | apply Kd.R_drewN | apply Kd.R_drew)); exact (Kd.R_mono (Kd.R_far (p := ⟨gb201, 1, none⟩) (Kd.R_far (p := ⟨gb201, 0, none⟩) (Kd.R_types HO199.out BK201.out (by decide)) (fun _ hk => hk.2) (.slice Ao24 t194.length co24)) (fun _ hk => hk.2) (.slice Ao26 t197.length co26)) (fun _ h_ => h_.1))))) (below_size (by repeat (first | (with_reducible first | exact HB.out | apply below_alloc | apply pw_below_drewN | apply below_drew1 | refine below_set ?_ GE201.out) | exact HB.out)))); have n5_ := Aside0.mk (blk_below (g := gb201) (o := .cells #[.slice Ao24 t194.length co24, .slice Ao26 t197.length co26] 33 (0, 0)) (by (with_reducible repeat (first | refine blk_drewN ?_ _ | refine blk_drew ?_ | refine blk_alloc ?_ _)); refine blk_put (cs := #[.slice Ao24 t194.length co24, .slice none 0 0]) ?_ 1 _ rfl; (with_reducible repeat (first | refine blk_drewN ?_ _ | refine blk_drew ?_ | refine blk_alloc ?_ _)); refine blk_put (cs := #[.slice none 0 0, .slice none 0 0]) ?_ 0 _ rfl; (with_reducible repeat (first | refine blk_drewN ?_ _ | refine blk_drew ?_ | refine blk_alloc ?_ _)); exact BK201.out) hb); have n6_ := Aside0.mk (below_step (by repeat (first | (with_reducible first | exact HB.out | apply below_alloc | apply pw_below_drewN | apply below_drew1 | refine below_set ?_ GE201.out) | exact HB.out)) hb); clear HO193; clear HO196; clear HO199; clear BK201; clear HB; have HO193 := n0_; have HO196 := n1_; have HO199 := n2_; have HO204 := n3_; have HO207 := n4_; have BK201 := n5_; have HB := n6_; clear n0_ n1_ n2_ n3_ n4_ n5_ n6_; (try clear hb); (try clear hb2); (try clear hk); (try clear hi); (try clear ho0); (try clear ho1)) | ((with_reducible refine gate_dst (N := 15) rfl ?_); (try (refine gate_guard (by rfl) ?_; dsimp only)); refine box_event ?hg (N := 15) ?hd (cs := #[.slice none 0 0, .slice none 0 0]) (t := 33) ?hr ?_; (case hd => rfl); (case hg => rfl); (case hr => first | (go_simp; done) | (go_simp; rfl)); intro gb209 hg w29 hbox hb; have n0_ := Aside0.mk (Kd.R_below (by (with_reducible repeat (first | apply Kd.R_alloc | apply Kd.R_drewN | apply Kd.R_drew)); exact HO193.out) hb); have n1_ := Aside0.mk (Kd.R_below (by (with_reducible repeat (first | apply Kd.R_alloc | apply Kd.R_drewN | apply Kd.R_drew)); exact HO196.out) hb); have n2_ := Aside0.mk (Kd.R_below (by (with_reducible repeat (first | apply Kd.R_alloc | apply Kd.R_drewN | apply Kd.R_drew)); exact HO199.out) hb); have n3_ := Aside0.mk (Kd.R_below (by (with_reducible repeat (first | apply Kd.R_alloc | apply Kd.R_drewN | apply Kd.R_drew)); exact HO204.out) hb); have n4_ := Aside0.mk (Kd.R_below (by (with_reducible repeat (first | apply Kd.R_alloc | apply Kd.R_drewN | apply Kd.R_drew)); exact HO207.out) hb); have n5_ := Aside0.mk (blk_below (g := gb201) (o := .cells #[.slice Ao24 t194.length co24, .slice Ao26 t197.length co26] 33 (0, 0)) (by (with_reducible repeat (first | refine blk_drewN ?_ _ | refine blk_drew ?_ | refine blk_alloc ?_ _)); exact BK201.out) hb); have n6_ := Aside0.mk (below_step (by repeat (first | (with_reducible first | exact HB.out | apply below_alloc | apply pw_below_drewN | apply below_drew1 | refine below_set ?_ GE201.out) | exact HB.out)) hb); have n7_ := Aside0.mk (hbox); have n8_ := Aside0.mk ((by rw [hg]; exact (below_size (by repeat (first | (with_reducible first | exact HB.out | apply below_alloc | apply pw_below_drewN | apply below_drew1 | refine below_set ?_ GE201.out) | exact HB.out))) : w.heap.size ≤ gb209)); have n9_ := Aside0.mk ((by rw [hg]; exact (below_size (by repeat (first | (with_reducible first | exact HB.out | apply below_alloc | apply pw_below_drewN | apply below_drew1 | refine below_set ?_ GE201.out) | exact HB.out))) : w.heap.size ≤ gb209)); have n10_ := Aside0.mk ((by rw [hg]; exact Nat.ne_of_lt (blk_lt (g := gb201) (o := .cells #[.slice Ao24 t194.length co24, .slice Ao26 t197.length co26] 33 (0, 0)) (by (with_reducible repeat (first | refine blk_drewN ?_ _ | refine blk_drew ?_ | refine blk_alloc ?_ _)); exact BK201.out)) : gb201 ≠ gb209)); have n11_ := Aside0.mk ((by rw [hg]; exact Nat.ne_of_gt (blk_lt (g := gb201) (o := .cells #[.slice Ao24 t194.length co24, .slice Ao26 t197.length co26] 33 (0, 0)) (by (with_reducible repeat (first | refine blk_drewN ?_ _ | refine blk_drew ?_ | refine blk_alloc ?_ _)); exact BK201.out)) : gb209 ≠ gb201)); clear HO193; clear HO196; clear HO199; clear HO204; clear HO207; clear BK201; clear HB; have HO193 := n0_; have HO196 := n1_; have HO199 := n2_; have HO204 := n3_; have HO207 := n4_; have BK201 := n5_; have HB := n6_; have BK209 := n7_; have GW209 := n8_; have GE209 := n9_; have NB201_209 := n10_; have NB209_201 := n11_; clear n0_ n1_ n2_ n3_ n4_ n5_ n6_ n7_ n8_ n9_ n10_ n11_; clear hb hbox hg; obtain ⟨Ao30, co30, eo30⟩ := Kd.R_slice HO204.out; subst eo30; have hnb31 := NB209_201.out; have hnc31 := NB201_209.out; have hcz32_0 : w29.cell? ⟨gb209, 0, none⟩ = some (.slice none 0 0) := (blk_cell BK209.out 0).trans rfl; have hcz32_1 : w29.cell? ⟨gb209, 1, none⟩ = some (.slice none 0 0) := (blk_cell BK209.out 1).trans rfl; have hfz32_0 := blk_frozen BK209.out 0; have hfz32_1 := blk_frozen BK209.out 1; obtain ⟨Ao33, co33, eo33⟩ := Kd.R_slice HO207.out; subst eo33))
            (try simp only [Act.put, List.setIfInBounds_toArray, List.set_cons_zero, List.set_cons_succ])
            go_cut [89] (fun v89 wc => ∃ (kq : Nat) (x89_16 : Bool), v89 = .bool x89_16 ∧ Aside0 (curtilagelaw12_HashMore.j1 kq l0 a3 a4 t184 y191 x89_16 t194 t197 t202 t205 = some r) ∧ Aside0 (kq ≤ kj6) ∧ Aside0 (Kd.R k24 24 wc w.heap.size (fun _ => True) (.slice Ao27 y191.length co27) y191) ∧ Aside0 (Kd.R (Kd.int .i64) 3 wc w.heap.size (fun k_ => some k_ ≠ ((.slice Ao26 t197.length co26) : Value).ownBlock ∧ some k_ ≠ ((.slice Ao30 t202.length co30) : Value).ownBlock ∧ some k_ ≠ ((.slice Ao33 t205.length co33) : Value).ownBlock) (.slice Ao24 t194.length co24) t194) ∧ Aside0 (Kd.R (Kd.int .i64) 3 wc w.heap.size (fun k_ => some k_ ≠ ((.slice Ao24 t194.length co24) : Value).ownBlock ∧ some k_ ≠ ((.slice Ao30 t202.length co30) : Value).ownBlock ∧ some k_ ≠ ((.slice Ao33 t205.length co33) : Value).ownBlock) (.slice Ao26 t197.length co26) t197) ∧ Aside0 (Kd.R (Kd.int .i64) 3 wc w.heap.size (fun k_ => some k_ ≠ ((.slice Ao24 t194.length co24) : Value).ownBlock ∧ some k_ ≠ ((.slice Ao26 t197.length co26) : Value).ownBlock ∧ some k_ ≠ ((.slice Ao33 t205.length co33) : Value).ownBlock) (.slice Ao30 t202.length co30) t202) ∧ Aside0 (Kd.R (Kd.int .i64) 3 wc w.heap.size (fun k_ => some k_ ≠ ((.slice Ao24 t194.length co24) : Value).ownBlock ∧ some k_ ≠ ((.slice Ao26 t197.length co26) : Value).ownBlock ∧ some k_ ≠ ((.slice Ao30 t202.length co30) : Value).ownBlock) (.slice Ao33 t205.length co33) t205) ∧ Aside0 (wc.heap[gb201]? = some (.cells #[(.slice Ao24 t194.length co24), (.slice Ao26 t197.length co26)] 33 (0, 0))) ∧ Aside0 (wc.heap[gb209]? = some (.cells #[(.slice Ao30 t202.length co30), (.slice Ao33 t205.length co33)] 33 (0, 0))) ∧ Aside0 (Below w.heap.size w wc))
            case first =>
              have H := HC17.out
              clear HC17
              by_cases c34 : t200 = 0
              · rw [if_pos c34] at H
                have c34b0 : (t200 == 0) = true := beq_iff_eq.mpr c34
                have c34b1 : (t200 != 0) = false := bne_eq_false_iff_eq.mpr c34
                clear c34
                (first | rw [c34b0] | (simp only [i64_w, i32_w]; rw [c34b0]) | skip)
                by_cases c35 : t208 = 0
                · rw [if_pos c35] at H
                  have c35b0 : (t208 == 0) = true := beq_iff_eq.mpr c35
                  have c35b1 : (t208 != 0) = false := bne_eq_false_iff_eq.mpr c35
                  clear c35
                  by_cases c36 : (t194.length : Int) = a2
                  · rw [if_pos c36] at H
                    have c36b0 : ((t194.length : Int) == a2) = true := beq_iff_eq.mpr c36
                    have c36b1 : ((t194.length : Int) != a2) = false := bne_eq_false_iff_eq.mpr c36
                    clear c36
                    by_cases c37 : (t202.length : Int) = a2
                    · rw [if_pos c37] at H
                      have c37b0 : ((t202.length : Int) == a2) = true := beq_iff_eq.mpr c37
                      have c37b1 : ((t202.length : Int) != a2) = false := bne_eq_false_iff_eq.mpr c37
                      clear c37
                      by_cases c38 : (t197.length : Int) = (l0.length : Int)
                      · rw [if_pos c38] at H
                        have c38b0 : ((t197.length : Int) == (l0.length : Int)) = true := beq_iff_eq.mpr c38
                        have c38b1 : ((t197.length : Int) != (l0.length : Int)) = false := bne_eq_false_iff_eq.mpr c38
                        have c38b2 : (t197.length == l0.length) = true := by first | simpa using c38 | (simp at c38 ⊢; omega)
                        clear c38
                        have H' := Aside0.mk H
                        clear H
                        have hnb39 := NB201_209.out
                        have hnc39 := NB209_201.out
                        have hcz40_0 : w29.cell? ⟨gb201, 0, none⟩ = some (.slice Ao24 t194.length co24) := (blk_cell BK201.out 0).trans rfl
                        have hcz40_1 : w29.cell? ⟨gb201, 1, none⟩ = some (.slice Ao26 t197.length co26) := (blk_cell BK201.out 1).trans rfl
                        have hfz40_0 := blk_frozen BK201.out 0
                        have hfz40_1 := blk_frozen BK201.out 1
                        have hcz41_0 : w29.cell? ⟨gb209, 0, none⟩ = some (.slice none 0 0) := (blk_cell BK209.out 0).trans rfl
                        have hcz41_1 : w29.cell? ⟨gb209, 1, none⟩ = some (.slice none 0 0) := (blk_cell BK209.out 1).trans rfl
                        have hfz41_0 := blk_frozen BK209.out 0
                        have hfz41_1 := blk_frozen BK209.out 1
                        go_wp2
                        go_meet
                        case rel => exact ⟨_, (((t205.length : Int) != (y191.length : Int))), (by first | rfl | (simp; done) | (simp [*]; done)), H', ⟨by have := HJ6.out; first | omega | exact Nat.le_refl _⟩, ⟨by (with_reducible repeat (first | apply Kd.R_alloc | apply Kd.R_drewN | apply Kd.R_drew)); exact Kd.R_mono (Kd.R_far (p := ⟨gb209, 1, none⟩) (Kd.R_far (p := ⟨gb209, 0, none⟩) (Kd.R_types HO193.out BK209.out (by decide)) (fun _ hk => hk.2) (.slice Ao30 t202.length co30)) (fun _ hk => hk.2) (.slice Ao33 t205.length co33)) (fun _ hk => trivial)⟩, ⟨by (with_reducible repeat (first | apply Kd.R_alloc | apply Kd.R_drewN | apply Kd.R_drew)); exact Kd.R_mono (Kd.R_far (p := ⟨gb209, 1, none⟩) (Kd.R_far (p := ⟨gb209, 0, none⟩) (Kd.R_types HO196.out BK209.out (by decide)) (fun _ hk => hk.2) (.slice Ao30 t202.length co30)) (fun _ hk => hk.2) (.slice Ao33 t205.length co33)) (fun _ hk => ⟨hk.1.1.1, ⟨hk.1.1.2, hk.1.2⟩⟩)⟩, ⟨by (with_reducible repeat (first | apply Kd.R_alloc | apply Kd.R_drewN | apply Kd.R_drew)); exact Kd.R_mono (Kd.R_far (p := ⟨gb209, 1, none⟩) (Kd.R_far (p := ⟨gb209, 0, none⟩) (Kd.R_types HO199.out BK209.out (by decide)) (fun _ hk => hk.2) (.slice Ao30 t202.length co30)) (fun _ hk => hk.2) (.slice Ao33 t205.length co33)) (fun _ hk => ⟨hk.1.1.1, ⟨hk.1.1.2, hk.1.2⟩⟩)⟩, ⟨by (with_reducible repeat (first | apply Kd.R_alloc | apply Kd.R_drewN | apply Kd.R_drew)); exact Kd.R_mono (Kd.R_far (p := ⟨gb209, 1, none⟩) (Kd.R_far (p := ⟨gb209, 0, none⟩) (Kd.R_types HO204.out BK209.out (by decide)) (fun _ hk => hk.2) (.slice Ao30 t202.length co30)) (fun _ hk => hk.2) (.slice Ao33 t205.length co33)) (fun _ hk => ⟨hk.1.1.2, ⟨hk.1.2, hk.1.1.1⟩⟩)⟩, ⟨by (with_reducible repeat (first | apply Kd.R_alloc | apply Kd.R_drewN | apply Kd.R_drew)); exact Kd.R_mono (Kd.R_far (p := ⟨gb209, 1, none⟩) (Kd.R_far (p := ⟨gb209, 0, none⟩) (Kd.R_types HO207.out BK209.out (by decide)) (fun _ hk => hk.2) (.slice Ao30 t202.length co30)) (fun _ hk => hk.2) (.slice Ao33 t205.length co33)) (fun _ hk => ⟨hk.1.1.2, ⟨hk.1.2, hk.1.1.1⟩⟩)⟩, ⟨by (with_reducible repeat (first | refine blk_drewN ?_ _ | refine blk_drew ?_ | refine blk_alloc ?_ _)); refine blk_far ?_ NB201_209.out _; (with_reducible repeat (first | refine blk_drewN ?_ _ | refine blk_drew ?_ | refine blk_alloc ?_ _)); refine blk_far ?_ NB201_209.out _; (with_reducible repeat (first | refine blk_drewN ?_ _ | refine blk_drew ?_ | refine blk_alloc ?_ _)); exact BK201.out⟩, ⟨by (with_reducible repeat (first | refine blk_drewN ?_ _ | refine blk_drew ?_ | refine blk_alloc ?_ _)); refine blk_put (cs := #[.slice Ao30 t202.length co30, .slice none 0 0]) ?_ 1 _ rfl; (with_reducible repeat (first | refine blk_drewN ?_ _ | refine blk_drew ?_ | refine blk_alloc ?_ _)); refine blk_put (cs := #[.slice none 0 0, .slice none 0 0]) ?_ 0 _ rfl; (with_reducible repeat (first | refine blk_drewN ?_ _ | refine blk_drew ?_ | refine blk_alloc ?_ _)); exact BK209.out⟩, ⟨by repeat (first | (with_reducible first | exact HB.out | apply below_alloc | apply pw_below_drewN | apply below_drew1 | refine below_set ?_ GE201.out | refine below_set ?_ GE209.out) | exact HB.out)⟩⟩
                      · rw [if_neg c38] at H
                        have c38b0 : ((t197.length : Int) == (l0.length : Int)) = false := beq_eq_false_iff_ne.mpr c38
                        have c38b1 : ((t197.length : Int) != (l0.length : Int)) = true := bne_iff_ne.mpr c38
                        have c38b2 : (t197.length == l0.length) = false := by first | simpa using c38 | (simp at c38 ⊢; omega)
                        have H' := Aside0.mk H
                        clear H
                        have hnb42 := NB201_209.out
                        have hnc42 := NB209_201.out
                        have hcz43_0 : w29.cell? ⟨gb201, 0, none⟩ = some (.slice Ao24 t194.length co24) := (blk_cell BK201.out 0).trans rfl
                        have hcz43_1 : w29.cell? ⟨gb201, 1, none⟩ = some (.slice Ao26 t197.length co26) := (blk_cell BK201.out 1).trans rfl
                        have hfz43_0 := blk_frozen BK201.out 0
                        have hfz43_1 := blk_frozen BK201.out 1
                        have hcz44_0 : w29.cell? ⟨gb209, 0, none⟩ = some (.slice none 0 0) := (blk_cell BK209.out 0).trans rfl
                        have hcz44_1 : w29.cell? ⟨gb209, 1, none⟩ = some (.slice none 0 0) := (blk_cell BK209.out 1).trans rfl
                        have hfz44_0 := blk_frozen BK209.out 0
                        have hfz44_1 := blk_frozen BK209.out 1
                        go_wp2
                        go_meet
                        case rel => exact ⟨_, (true), (by first | rfl | (simp; done) | (simp [*]; done)), H', ⟨by have := HJ6.out; first | omega | exact Nat.le_refl _⟩, ⟨by (with_reducible repeat (first | apply Kd.R_alloc | apply Kd.R_drewN | apply Kd.R_drew)); exact Kd.R_mono (Kd.R_far (p := ⟨gb209, 1, none⟩) (Kd.R_far (p := ⟨gb209, 0, none⟩) (Kd.R_types HO193.out BK209.out (by decide)) (fun _ hk => hk.2) (.slice Ao30 t202.length co30)) (fun _ hk => hk.2) (.slice Ao33 t205.length co33)) (fun _ hk => trivial)⟩, ⟨by (with_reducible repeat (first | apply Kd.R_alloc | apply Kd.R_drewN | apply Kd.R_drew)); exact Kd.R_mono (Kd.R_far (p := ⟨gb209, 1, none⟩) (Kd.R_far (p := ⟨gb209, 0, none⟩) (Kd.R_types HO196.out BK209.out (by decide)) (fun _ hk => hk.2) (.slice Ao30 t202.length co30)) (fun _ hk => hk.2) (.slice Ao33 t205.length co33)) (fun _ hk => ⟨hk.1.1.1, ⟨hk.1.1.2, hk.1.2⟩⟩)⟩, ⟨by (with_reducible repeat (first | apply Kd.R_alloc | apply Kd.R_drewN | apply Kd.R_drew)); exact Kd.R_mono (Kd.R_far (p := ⟨gb209, 1, none⟩) (Kd.R_far (p := ⟨gb209, 0, none⟩) (Kd.R_types HO199.out BK209.out (by decide)) (fun _ hk => hk.2) (.slice Ao30 t202.length co30)) (fun _ hk => hk.2) (.slice Ao33 t205.length co33)) (fun _ hk => ⟨hk.1.1.1, ⟨hk.1.1.2, hk.1.2⟩⟩)⟩, ⟨by (with_reducible repeat (first | apply Kd.R_alloc | apply Kd.R_drewN | apply Kd.R_drew)); exact Kd.R_mono (Kd.R_far (p := ⟨gb209, 1, none⟩) (Kd.R_far (p := ⟨gb209, 0, none⟩) (Kd.R_types HO204.out BK209.out (by decide)) (fun _ hk => hk.2) (.slice Ao30 t202.length co30)) (fun _ hk => hk.2) (.slice Ao33 t205.length co33)) (fun _ hk => ⟨hk.1.1.2, ⟨hk.1.2, hk.1.1.1⟩⟩)⟩, ⟨by (with_reducible repeat (first | apply Kd.R_alloc | apply Kd.R_drewN | apply Kd.R_drew)); exact Kd.R_mono (Kd.R_far (p := ⟨gb209, 1, none⟩) (Kd.R_far (p := ⟨gb209, 0, none⟩) (Kd.R_types HO207.out BK209.out (by decide)) (fun _ hk => hk.2) (.slice Ao30 t202.length co30)) (fun _ hk => hk.2) (.slice Ao33 t205.length co33)) (fun _ hk => ⟨hk.1.1.2, ⟨hk.1.2, hk.1.1.1⟩⟩)⟩, ⟨by (with_reducible repeat (first | refine blk_drewN ?_ _ | refine blk_drew ?_ | refine blk_alloc ?_ _)); refine blk_far ?_ NB201_209.out _; (with_reducible repeat (first | refine blk_drewN ?_ _ | refine blk_drew ?_ | refine blk_alloc ?_ _)); refine blk_far ?_ NB201_209.out _; (with_reducible repeat (first | refine blk_drewN ?_ _ | refine blk_drew ?_ | refine blk_alloc ?_ _)); exact BK201.out⟩, ⟨by (with_reducible repeat (first | refine blk_drewN ?_ _ | refine blk_drew ?_ | refine blk_alloc ?_ _)); refine blk_put (cs := #[.slice Ao30 t202.length co30, .slice none 0 0]) ?_ 1 _ rfl; (with_reducible repeat (first | refine blk_drewN ?_ _ | refine blk_drew ?_ | refine blk_alloc ?_ _)); refine blk_put (cs := #[.slice none 0 0, .slice none 0 0]) ?_ 0 _ rfl; (with_reducible repeat (first | refine blk_drewN ?_ _ | refine blk_drew ?_ | refine blk_alloc ?_ _)); exact BK209.out⟩, ⟨by repeat (first | (with_reducible first | exact HB.out | apply below_alloc | apply pw_below_drewN | apply below_drew1 | refine below_set ?_ GE201.out | refine below_set ?_ GE209.out) | exact HB.out)⟩⟩
                    · rw [if_neg c37] at H
                      have c37b0 : ((t202.length : Int) == a2) = false := beq_eq_false_iff_ne.mpr c37
                      have c37b1 : ((t202.length : Int) != a2) = true := bne_iff_ne.mpr c37
                      have H' := Aside0.mk H
                      clear H
                      have hnb45 := NB201_209.out
                      have hnc45 := NB209_201.out
                      have hcz46_0 : w29.cell? ⟨gb201, 0, none⟩ = some (.slice Ao24 t194.length co24) := (blk_cell BK201.out 0).trans rfl
                      have hcz46_1 : w29.cell? ⟨gb201, 1, none⟩ = some (.slice Ao26 t197.length co26) := (blk_cell BK201.out 1).trans rfl
                      have hfz46_0 := blk_frozen BK201.out 0
                      have hfz46_1 := blk_frozen BK201.out 1
                      have hcz47_0 : w29.cell? ⟨gb209, 0, none⟩ = some (.slice none 0 0) := (blk_cell BK209.out 0).trans rfl
                      have hcz47_1 : w29.cell? ⟨gb209, 1, none⟩ = some (.slice none 0 0) := (blk_cell BK209.out 1).trans rfl
                      have hfz47_0 := blk_frozen BK209.out 0
                      have hfz47_1 := blk_frozen BK209.out 1
                      go_wp2
                      go_meet
                      case rel => exact ⟨_, (true), (by first | rfl | (simp; done) | (simp [*]; done)), H', ⟨by have := HJ6.out; first | omega | exact Nat.le_refl _⟩, ⟨by (with_reducible repeat (first | apply Kd.R_alloc | apply Kd.R_drewN | apply Kd.R_drew)); exact Kd.R_mono (Kd.R_far (p := ⟨gb209, 1, none⟩) (Kd.R_far (p := ⟨gb209, 0, none⟩) (Kd.R_types HO193.out BK209.out (by decide)) (fun _ hk => hk.2) (.slice Ao30 t202.length co30)) (fun _ hk => hk.2) (.slice Ao33 t205.length co33)) (fun _ hk => trivial)⟩, ⟨by (with_reducible repeat (first | apply Kd.R_alloc | apply Kd.R_drewN | apply Kd.R_drew)); exact Kd.R_mono (Kd.R_far (p := ⟨gb209, 1, none⟩) (Kd.R_far (p := ⟨gb209, 0, none⟩) (Kd.R_types HO196.out BK209.out (by decide)) (fun _ hk => hk.2) (.slice Ao30 t202.length co30)) (fun _ hk => hk.2) (.slice Ao33 t205.length co33)) (fun _ hk => ⟨hk.1.1.1, ⟨hk.1.1.2, hk.1.2⟩⟩)⟩, ⟨by (with_reducible repeat (first | apply Kd.R_alloc | apply Kd.R_drewN | apply Kd.R_drew)); exact Kd.R_mono (Kd.R_far (p := ⟨gb209, 1, none⟩) (Kd.R_far (p := ⟨gb209, 0, none⟩) (Kd.R_types HO199.out BK209.out (by decide)) (fun _ hk => hk.2) (.slice Ao30 t202.length co30)) (fun _ hk => hk.2) (.slice Ao33 t205.length co33)) (fun _ hk => ⟨hk.1.1.1, ⟨hk.1.1.2, hk.1.2⟩⟩)⟩, ⟨by (with_reducible repeat (first | apply Kd.R_alloc | apply Kd.R_drewN | apply Kd.R_drew)); exact Kd.R_mono (Kd.R_far (p := ⟨gb209, 1, none⟩) (Kd.R_far (p := ⟨gb209, 0, none⟩) (Kd.R_types HO204.out BK209.out (by decide)) (fun _ hk => hk.2) (.slice Ao30 t202.length co30)) (fun _ hk => hk.2) (.slice Ao33 t205.length co33)) (fun _ hk => ⟨hk.1.1.2, ⟨hk.1.2, hk.1.1.1⟩⟩)⟩, ⟨by (with_reducible repeat (first | apply Kd.R_alloc | apply Kd.R_drewN | apply Kd.R_drew)); exact Kd.R_mono (Kd.R_far (p := ⟨gb209, 1, none⟩) (Kd.R_far (p := ⟨gb209, 0, none⟩) (Kd.R_types HO207.out BK209.out (by decide)) (fun _ hk => hk.2) (.slice Ao30 t202.length co30)) (fun _ hk => hk.2) (.slice Ao33 t205.length co33)) (fun _ hk => ⟨hk.1.1.2, ⟨hk.1.2, hk.1.1.1⟩⟩)⟩, ⟨by (with_reducible repeat (first | refine blk_drewN ?_ _ | refine blk_drew ?_ | refine blk_alloc ?_ _)); refine blk_far ?_ NB201_209.out _; (with_reducible repeat (first | refine blk_drewN ?_ _ | refine blk_drew ?_ | refine blk_alloc ?_ _)); refine blk_far ?_ NB201_209.out _; (with_reducible repeat (first | refine blk_drewN ?_ _ | refine blk_drew ?_ | refine blk_alloc ?_ _)); exact BK201.out⟩, ⟨by (with_reducible repeat (first | refine blk_drewN ?_ _ | refine blk_drew ?_ | refine blk_alloc ?_ _)); refine blk_put (cs := #[.slice Ao30 t202.length co30, .slice none 0 0]) ?_ 1 _ rfl; (with_reducible repeat (first | refine blk_drewN ?_ _ | refine blk_drew ?_ | refine blk_alloc ?_ _)); refine blk_put (cs := #[.slice none 0 0, .slice none 0 0]) ?_ 0 _ rfl; (with_reducible repeat (first | refine blk_drewN ?_ _ | refine blk_drew ?_ | refine blk_alloc ?_ _)); exact BK209.out⟩, ⟨by repeat (first | (with_reducible first | exact HB.out | apply below_alloc | apply pw_below_drewN | apply below_drew1 | refine below_set ?_ GE201.out | refine below_set ?_ GE209.out) | exact HB.out)⟩⟩
                  · rw [if_neg c36] at H
                    have c36b0 : ((t194.length : Int) == a2) = false := beq_eq_false_iff_ne.mpr c36
                    have c36b1 : ((t194.length : Int) != a2) = true := bne_iff_ne.mpr c36
                    have H' := Aside0.mk H
                    clear H
                    have hnb48 := NB201_209.out
                    have hnc48 := NB209_201.out
                    have hcz49_0 : w29.cell? ⟨gb201, 0, none⟩ = some (.slice Ao24 t194.length co24) := (blk_cell BK201.out 0).trans rfl
                    have hcz49_1 : w29.cell? ⟨gb201, 1, none⟩ = some (.slice Ao26 t197.length co26) := (blk_cell BK201.out 1).trans rfl
                    have hfz49_0 := blk_frozen BK201.out 0
                    have hfz49_1 := blk_frozen BK201.out 1
                    go_wp2
                    go_meet
                    case rel => exact ⟨_, (true), (by first | rfl | (simp; done) | (simp [*]; done)), H', ⟨by have := HJ6.out; first | omega | exact Nat.le_refl _⟩, ⟨by (with_reducible repeat (first | apply Kd.R_alloc | apply Kd.R_drewN | apply Kd.R_drew)); exact Kd.R_mono (Kd.R_far (p := ⟨gb209, 1, none⟩) (Kd.R_far (p := ⟨gb209, 0, none⟩) (Kd.R_types HO193.out BK209.out (by decide)) (fun _ hk => hk.2) (.slice Ao30 t202.length co30)) (fun _ hk => hk.2) (.slice Ao33 t205.length co33)) (fun _ hk => trivial)⟩, ⟨by (with_reducible repeat (first | apply Kd.R_alloc | apply Kd.R_drewN | apply Kd.R_drew)); exact Kd.R_mono (Kd.R_far (p := ⟨gb209, 1, none⟩) (Kd.R_far (p := ⟨gb209, 0, none⟩) (Kd.R_types HO196.out BK209.out (by decide)) (fun _ hk => hk.2) (.slice Ao30 t202.length co30)) (fun _ hk => hk.2) (.slice Ao33 t205.length co33)) (fun _ hk => ⟨hk.1.1.1, ⟨hk.1.1.2, hk.1.2⟩⟩)⟩, ⟨by (with_reducible repeat (first | apply Kd.R_alloc | apply Kd.R_drewN | apply Kd.R_drew)); exact Kd.R_mono (Kd.R_far (p := ⟨gb209, 1, none⟩) (Kd.R_far (p := ⟨gb209, 0, none⟩) (Kd.R_types HO199.out BK209.out (by decide)) (fun _ hk => hk.2) (.slice Ao30 t202.length co30)) (fun _ hk => hk.2) (.slice Ao33 t205.length co33)) (fun _ hk => ⟨hk.1.1.1, ⟨hk.1.1.2, hk.1.2⟩⟩)⟩, ⟨by (with_reducible repeat (first | apply Kd.R_alloc | apply Kd.R_drewN | apply Kd.R_drew)); exact Kd.R_mono (Kd.R_far (p := ⟨gb209, 1, none⟩) (Kd.R_far (p := ⟨gb209, 0, none⟩) (Kd.R_types HO204.out BK209.out (by decide)) (fun _ hk => hk.2) (.slice Ao30 t202.length co30)) (fun _ hk => hk.2) (.slice Ao33 t205.length co33)) (fun _ hk => ⟨hk.1.1.2, ⟨hk.1.2, hk.1.1.1⟩⟩)⟩, ⟨by (with_reducible repeat (first | apply Kd.R_alloc | apply Kd.R_drewN | apply Kd.R_drew)); exact Kd.R_mono (Kd.R_far (p := ⟨gb209, 1, none⟩) (Kd.R_far (p := ⟨gb209, 0, none⟩) (Kd.R_types HO207.out BK209.out (by decide)) (fun _ hk => hk.2) (.slice Ao30 t202.length co30)) (fun _ hk => hk.2) (.slice Ao33 t205.length co33)) (fun _ hk => ⟨hk.1.1.2, ⟨hk.1.2, hk.1.1.1⟩⟩)⟩, ⟨by (with_reducible repeat (first | refine blk_drewN ?_ _ | refine blk_drew ?_ | refine blk_alloc ?_ _)); refine blk_far ?_ NB201_209.out _; (with_reducible repeat (first | refine blk_drewN ?_ _ | refine blk_drew ?_ | refine blk_alloc ?_ _)); refine blk_far ?_ NB201_209.out _; (with_reducible repeat (first | refine blk_drewN ?_ _ | refine blk_drew ?_ | refine blk_alloc ?_ _)); exact BK201.out⟩, ⟨by (with_reducible repeat (first | refine blk_drewN ?_ _ | refine blk_drew ?_ | refine blk_alloc ?_ _)); refine blk_put (cs := #[.slice Ao30 t202.length co30, .slice none 0 0]) ?_ 1 _ rfl; (with_reducible repeat (first | refine blk_drewN ?_ _ | refine blk_drew ?_ | refine blk_alloc ?_ _)); refine blk_put (cs := #[.slice none 0 0, .slice none 0 0]) ?_ 0 _ rfl; (with_reducible repeat (first | refine blk_drewN ?_ _ | refine blk_drew ?_ | refine blk_alloc ?_ _)); exact BK209.out⟩, ⟨by repeat (first | (with_reducible first | exact HB.out | apply below_alloc | apply pw_below_drewN | apply below_drew1 | refine below_set ?_ GE201.out | refine below_set ?_ GE209.out) | exact HB.out)⟩⟩
                · rw [if_neg c35] at H
                  have c35b0 : (t208 == 0) = false := beq_eq_false_iff_ne.mpr c35
                  have c35b1 : (t208 != 0) = true := bne_iff_ne.mpr c35
                  have H' := Aside0.mk H
                  clear H
                  go_wp2
                  go_meet
                  case rel => exact ⟨_, (true), (by first | rfl | (simp; done) | (simp [*]; done)), H', ⟨by have := HJ6.out; first | omega | exact Nat.le_refl _⟩, ⟨by (with_reducible repeat (first | apply Kd.R_alloc | apply Kd.R_drewN | apply Kd.R_drew)); exact Kd.R_mono (Kd.R_far (p := ⟨gb209, 1, none⟩) (Kd.R_far (p := ⟨gb209, 0, none⟩) (Kd.R_types HO193.out BK209.out (by decide)) (fun _ hk => hk.2) (.slice Ao30 t202.length co30)) (fun _ hk => hk.2) (.slice Ao33 t205.length co33)) (fun _ hk => trivial)⟩, ⟨by (with_reducible repeat (first | apply Kd.R_alloc | apply Kd.R_drewN | apply Kd.R_drew)); exact Kd.R_mono (Kd.R_far (p := ⟨gb209, 1, none⟩) (Kd.R_far (p := ⟨gb209, 0, none⟩) (Kd.R_types HO196.out BK209.out (by decide)) (fun _ hk => hk.2) (.slice Ao30 t202.length co30)) (fun _ hk => hk.2) (.slice Ao33 t205.length co33)) (fun _ hk => ⟨hk.1.1.1, ⟨hk.1.1.2, hk.1.2⟩⟩)⟩, ⟨by (with_reducible repeat (first | apply Kd.R_alloc | apply Kd.R_drewN | apply Kd.R_drew)); exact Kd.R_mono (Kd.R_far (p := ⟨gb209, 1, none⟩) (Kd.R_far (p := ⟨gb209, 0, none⟩) (Kd.R_types HO199.out BK209.out (by decide)) (fun _ hk => hk.2) (.slice Ao30 t202.length co30)) (fun _ hk => hk.2) (.slice Ao33 t205.length co33)) (fun _ hk => ⟨hk.1.1.1, ⟨hk.1.1.2, hk.1.2⟩⟩)⟩, ⟨by (with_reducible repeat (first | apply Kd.R_alloc | apply Kd.R_drewN | apply Kd.R_drew)); exact Kd.R_mono (Kd.R_far (p := ⟨gb209, 1, none⟩) (Kd.R_far (p := ⟨gb209, 0, none⟩) (Kd.R_types HO204.out BK209.out (by decide)) (fun _ hk => hk.2) (.slice Ao30 t202.length co30)) (fun _ hk => hk.2) (.slice Ao33 t205.length co33)) (fun _ hk => ⟨hk.1.1.2, ⟨hk.1.2, hk.1.1.1⟩⟩)⟩, ⟨by (with_reducible repeat (first | apply Kd.R_alloc | apply Kd.R_drewN | apply Kd.R_drew)); exact Kd.R_mono (Kd.R_far (p := ⟨gb209, 1, none⟩) (Kd.R_far (p := ⟨gb209, 0, none⟩) (Kd.R_types HO207.out BK209.out (by decide)) (fun _ hk => hk.2) (.slice Ao30 t202.length co30)) (fun _ hk => hk.2) (.slice Ao33 t205.length co33)) (fun _ hk => ⟨hk.1.1.2, ⟨hk.1.2, hk.1.1.1⟩⟩)⟩, ⟨by (with_reducible repeat (first | refine blk_drewN ?_ _ | refine blk_drew ?_ | refine blk_alloc ?_ _)); refine blk_far ?_ NB201_209.out _; (with_reducible repeat (first | refine blk_drewN ?_ _ | refine blk_drew ?_ | refine blk_alloc ?_ _)); refine blk_far ?_ NB201_209.out _; (with_reducible repeat (first | refine blk_drewN ?_ _ | refine blk_drew ?_ | refine blk_alloc ?_ _)); exact BK201.out⟩, ⟨by (with_reducible repeat (first | refine blk_drewN ?_ _ | refine blk_drew ?_ | refine blk_alloc ?_ _)); refine blk_put (cs := #[.slice Ao30 t202.length co30, .slice none 0 0]) ?_ 1 _ rfl; (with_reducible repeat (first | refine blk_drewN ?_ _ | refine blk_drew ?_ | refine blk_alloc ?_ _)); refine blk_put (cs := #[.slice none 0 0, .slice none 0 0]) ?_ 0 _ rfl; (with_reducible repeat (first | refine blk_drewN ?_ _ | refine blk_drew ?_ | refine blk_alloc ?_ _)); exact BK209.out⟩, ⟨by repeat (first | (with_reducible first | exact HB.out | apply below_alloc | apply pw_below_drewN | apply below_drew1 | refine below_set ?_ GE201.out | refine below_set ?_ GE209.out) | exact HB.out)⟩⟩
              · rw [if_neg c34] at H
                have c34b0 : (t200 == 0) = false := beq_eq_false_iff_ne.mpr c34
                have c34b1 : (t200 != 0) = true := bne_iff_ne.mpr c34
                (first | rw [c34b0] | (simp only [i64_w, i32_w]; rw [c34b0]) | skip)
                have H' := Aside0.mk H
                clear H
                go_wp2
                go_meet
                case rel => exact ⟨_, (true), (by first | rfl | (simp; done) | (simp [*]; done)), H', ⟨by have := HJ6.out; first | omega | exact Nat.le_refl _⟩, ⟨by (with_reducible repeat (first | apply Kd.R_alloc | apply Kd.R_drewN | apply Kd.R_drew)); exact Kd.R_mono (Kd.R_far (p := ⟨gb209, 1, none⟩) (Kd.R_far (p := ⟨gb209, 0, none⟩) (Kd.R_types HO193.out BK209.out (by decide)) (fun _ hk => hk.2) (.slice Ao30 t202.length co30)) (fun _ hk => hk.2) (.slice Ao33 t205.length co33)) (fun _ hk => trivial)⟩, ⟨by (with_reducible repeat (first | apply Kd.R_alloc | apply Kd.R_drewN | apply Kd.R_drew)); exact Kd.R_mono (Kd.R_far (p := ⟨gb209, 1, none⟩) (Kd.R_far (p := ⟨gb209, 0, none⟩) (Kd.R_types HO196.out BK209.out (by decide)) (fun _ hk => hk.2) (.slice Ao30 t202.length co30)) (fun _ hk => hk.2) (.slice Ao33 t205.length co33)) (fun _ hk => ⟨hk.1.1.1, ⟨hk.1.1.2, hk.1.2⟩⟩)⟩, ⟨by (with_reducible repeat (first | apply Kd.R_alloc | apply Kd.R_drewN | apply Kd.R_drew)); exact Kd.R_mono (Kd.R_far (p := ⟨gb209, 1, none⟩) (Kd.R_far (p := ⟨gb209, 0, none⟩) (Kd.R_types HO199.out BK209.out (by decide)) (fun _ hk => hk.2) (.slice Ao30 t202.length co30)) (fun _ hk => hk.2) (.slice Ao33 t205.length co33)) (fun _ hk => ⟨hk.1.1.1, ⟨hk.1.1.2, hk.1.2⟩⟩)⟩, ⟨by (with_reducible repeat (first | apply Kd.R_alloc | apply Kd.R_drewN | apply Kd.R_drew)); exact Kd.R_mono (Kd.R_far (p := ⟨gb209, 1, none⟩) (Kd.R_far (p := ⟨gb209, 0, none⟩) (Kd.R_types HO204.out BK209.out (by decide)) (fun _ hk => hk.2) (.slice Ao30 t202.length co30)) (fun _ hk => hk.2) (.slice Ao33 t205.length co33)) (fun _ hk => ⟨hk.1.1.2, ⟨hk.1.2, hk.1.1.1⟩⟩)⟩, ⟨by (with_reducible repeat (first | apply Kd.R_alloc | apply Kd.R_drewN | apply Kd.R_drew)); exact Kd.R_mono (Kd.R_far (p := ⟨gb209, 1, none⟩) (Kd.R_far (p := ⟨gb209, 0, none⟩) (Kd.R_types HO207.out BK209.out (by decide)) (fun _ hk => hk.2) (.slice Ao30 t202.length co30)) (fun _ hk => hk.2) (.slice Ao33 t205.length co33)) (fun _ hk => ⟨hk.1.1.2, ⟨hk.1.2, hk.1.1.1⟩⟩)⟩, ⟨by (with_reducible repeat (first | refine blk_drewN ?_ _ | refine blk_drew ?_ | refine blk_alloc ?_ _)); refine blk_far ?_ NB201_209.out _; (with_reducible repeat (first | refine blk_drewN ?_ _ | refine blk_drew ?_ | refine blk_alloc ?_ _)); refine blk_far ?_ NB201_209.out _; (with_reducible repeat (first | refine blk_drewN ?_ _ | refine blk_drew ?_ | refine blk_alloc ?_ _)); exact BK201.out⟩, ⟨by (with_reducible repeat (first | refine blk_drewN ?_ _ | refine blk_drew ?_ | refine blk_alloc ?_ _)); refine blk_put (cs := #[.slice Ao30 t202.length co30, .slice none 0 0]) ?_ 1 _ rfl; (with_reducible repeat (first | refine blk_drewN ?_ _ | refine blk_drew ?_ | refine blk_alloc ?_ _)); refine blk_put (cs := #[.slice none 0 0, .slice none 0 0]) ?_ 0 _ rfl; (with_reducible repeat (first | refine blk_drewN ?_ _ | refine blk_drew ?_ | refine blk_alloc ?_ _)); exact BK209.out⟩, ⟨by repeat (first | (with_reducible first | exact HB.out | apply below_alloc | apply pw_below_drewN | apply below_drew1 | refine below_set ?_ GE201.out | refine below_set ?_ GE209.out) | exact HB.out)⟩⟩
            case rest =>
              clear HC17
              try clear c1
              try clear p2
              try clear c3
              try clear c4
              try clear c6
              try clear c9
              try clear c9b0
              try clear c9b1
              try clear c10
              try clear c10b0
              try clear c10b1
              try clear c11
              try clear c11b0
              try clear c12
              try clear c13
              try clear c14
              try clear c31
              try clear c34
              try clear c34b0
              try clear c34b1
              try clear c35
              try clear c35b0
              try clear c35b1
              try clear c36
              try clear c36b0
              try clear c36b1
              try clear c37
              try clear c37b0
              try clear c37b1
              try clear c38
              try clear c38b0
              try clear c38b1
              try clear c38b2
              try clear c39
              try clear c42
              try clear c45
              try clear c48
              try clear hcz25_0
              try clear hcz25_1
              try clear hcz32_0
              try clear hcz32_1
              try clear hcz40_0
              try clear hcz40_1
              try clear hcz41_0
              try clear hcz41_1
              try clear hcz43_0
              try clear hcz43_1
              try clear hcz44_0
              try clear hcz44_1
              try clear hcz46_0
              try clear hcz46_1
              try clear hcz47_0
              try clear hcz47_1
              try clear hcz49_0
              try clear hcz49_1
              try clear hfz25_0
              try clear hfz25_1
              try clear hfz32_0
              try clear hfz32_1
              try clear hfz40_0
              try clear hfz40_1
              try clear hfz41_0
              try clear hfz41_1
              try clear hfz43_0
              try clear hfz43_1
              try clear hfz44_0
              try clear hfz44_1
              try clear hfz46_0
              try clear hfz46_1
              try clear hfz47_0
              try clear hfz47_1
              try clear hfz49_0
              try clear hfz49_1
              try clear p2
              obtain ⟨kq, x89_16, rfl, HA, HJ16, HO_12, HO_202000, HO_202001, HO_210000, HO_210001, BK201, BK209, HB⟩ := hcut
              cases kq with
              | zero => exact absurd HA.out (by simp [curtilagelaw12_HashMore.j1])
              | succ kj16 =>
                have H := HA.out
                clear HA
                simp only [curtilagelaw12_HashMore.j1] at H
                by_cases c50 : x89_16 = true
                · subst c50
                  have H1 : (some false) = some r := by rw [if_pos rfl] at H; exact H
                  clear H
                  have H := H1
                  clear H1
                  exact absurd ((Option.some.inj H).trans HT.out) (by decide)
                · replace c50 := Bool.eq_false_iff.mpr c50
                  subst c50
                  have H1 : ((hash_Find.f kj16 t194 t197 l0 a3 a4).bind fun t210 => ((hash_Find.f kj16 t202 t205 y191 a3 a4).bind fun t211 => (if t184 = true then (if t210 < 0 then (if t211 < 0 then (some true) else (if t211 ≥ (l0.length : Int) then (some true) else (if t210 ≥ 0 then (some (t211 == t210)) else (some false)))) else (if t210 ≥ 0 then (some (t211 == t210)) else (some false))) else (some false)))) = some r := by rw [if_neg (show ¬ (false = true) by decide)] at H; exact H
                  clear H
                  have H := H1
                  clear H1
                  replace H := Option.bind_eq_some_iff.mp H
                  obtain ⟨t210, A510, H⟩ := H
                  replace H : ((hash_Find.f kj16 t202 t205 y191 a3 a4).bind fun t211 => (if t184 = true then (if t210 < 0 then (if t211 < 0 then (some true) else (if t211 ≥ (l0.length : Int) then (some true) else (if t210 ≥ 0 then (some (t211 == t210)) else (some false)))) else (if t210 ≥ 0 then (some (t211 == t210)) else (some false))) else (some false))) = some r := H
                  have A51 := Aside0.mk A510
                  clear A510
                  replace H := Option.bind_eq_some_iff.mp H
                  obtain ⟨t211, A520, H⟩ := H
                  replace H : (if t184 = true then (if t210 < 0 then (if t211 < 0 then (some true) else (if t211 ≥ (l0.length : Int) then (some true) else (if t210 ≥ 0 then (some (t211 == t210)) else (some false)))) else (if t210 ≥ 0 then (some (t211 == t210)) else (some false))) else (some false)) = some r := H
                  have A52 := Aside0.mk A520
                  clear A520
                  by_cases c53 : t184 = true
                  · subst c53
                    have H1 : (if t210 < 0 then (if t211 < 0 then (some true) else (if t211 ≥ (l0.length : Int) then (some true) else (if t210 ≥ 0 then (some (t211 == t210)) else (some false)))) else (if t210 ≥ 0 then (some (t211 == t210)) else (some false))) = some r := by rw [if_pos rfl] at H; exact H
                    clear H
                    have H := H1
                    clear H1
                    by_cases c54 : t210 < 0
                    · rw [if_pos c54] at H
                      have c54b0 : decide (t210 < 0) = true := decide_eq_true c54
                      clear c54
                      by_cases c55 : t211 < 0
                      · rw [if_pos c55] at H
                        have c55b0 : decide (t211 < 0) = true := decide_eq_true c55
                        clear c55
                        obtain rfl := Option.some.inj H
                        have hnb56 := NB201_209.out
                        have hnc56 := NB209_201.out
                        have hcz57_0 : wc.cell? ⟨gb201, 0, none⟩ = some (.slice Ao24 t194.length co24) := (blk_cell BK201.out 0).trans rfl
                        have hcz57_1 : wc.cell? ⟨gb201, 1, none⟩ = some (.slice Ao26 t197.length co26) := (blk_cell BK201.out 1).trans rfl
                        have hfz57_0 := blk_frozen BK201.out 0
                        have hfz57_1 := blk_frozen BK201.out 1
                        go_wp2_with (first | ((with_reducible refine gate_callee (f := 15) rfl ?_); refine goesL_ (some 94) rfl rfl Try.func15 (by kernel_rfl) rfl #[.agg #[.slice Ao24 t194.length co24, .slice Ao26 t197.length co26], .slice A0 l0.length c0, .string a3, .string a4] rfl (by (try simp only [List.map_toArray, List.map_cons, List.map_nil]); first | done | rfl | (simp only [List.length_drop, List.length_take]; rfl)) ?_; (with_reducible refine (hash_Find.calls kj16 _ _ t194 _ _ t197 _ _ l0 a3 a4 t210 _ ?side1 ?side2 ?side3 ?side4 ?side5 ?side6 A51.out).mono ?_); (case side1 => repeat (first | exact (Kd.R_reads' HO_202000.out).2.2 | (with_reducible refine Kd.C_alloc ?_ _) | (with_reducible refine Kd.C_drewN ?_ _) | (with_reducible refine Kd.C_drew ?_))); (case side2 => exact (Kd.R_reads' HO_202000.out).2.1); (case side3 => repeat (first | exact (Kd.R_reads' HO_202001.out).2.2 | (with_reducible refine Kd.C_alloc ?_ _) | (with_reducible refine Kd.C_drewN ?_ _) | (with_reducible refine Kd.C_drew ?_))); (case side4 => exact (Kd.R_reads' HO_202001.out).2.1); (case side5 => repeat (first | exact (Kd.C_below HR0.out HB.out) | (with_reducible refine Kd.C_alloc ?_ _) | (with_reducible refine Kd.C_drewN ?_ _) | (with_reducible refine Kd.C_drew ?_))); (case side6 => exact HC0.out); rintro e w58 ⟨rfl, hb⟩; refine ⟨_, rfl, ?_⟩; have n0_ := Aside0.mk (Kd.R_below (by (with_reducible repeat (first | apply Kd.R_alloc | apply Kd.R_drewN | apply Kd.R_drew)); exact HO_12.out) hb); have n1_ := Aside0.mk (Kd.R_below (by (with_reducible repeat (first | apply Kd.R_alloc | apply Kd.R_drewN | apply Kd.R_drew)); exact HO_202000.out) hb); have n2_ := Aside0.mk (Kd.R_below (by (with_reducible repeat (first | apply Kd.R_alloc | apply Kd.R_drewN | apply Kd.R_drew)); exact HO_202001.out) hb); have n3_ := Aside0.mk (Kd.R_below (by (with_reducible repeat (first | apply Kd.R_alloc | apply Kd.R_drewN | apply Kd.R_drew)); exact HO_210000.out) hb); have n4_ := Aside0.mk (Kd.R_below (by (with_reducible repeat (first | apply Kd.R_alloc | apply Kd.R_drewN | apply Kd.R_drew)); exact HO_210001.out) hb); have n5_ := Aside0.mk (blk_below (g := gb201) (o := .cells #[.slice Ao24 t194.length co24, .slice Ao26 t197.length co26] 33 (0, 0)) (by (with_reducible repeat (first | refine blk_drewN ?_ _ | refine blk_drew ?_ | refine blk_alloc ?_ _)); exact BK201.out) hb); have n6_ := Aside0.mk (blk_below (g := gb209) (o := .cells #[.slice Ao30 t202.length co30, .slice Ao33 t205.length co33] 33 (0, 0)) (by (with_reducible repeat (first | refine blk_drewN ?_ _ | refine blk_drew ?_ | refine blk_alloc ?_ _)); exact BK209.out) hb); have n7_ := Aside0.mk (below_step (by repeat (first | (with_reducible first | exact HB.out | apply below_alloc | apply pw_below_drewN | apply below_drew1 | refine below_set ?_ GE201.out | refine below_set ?_ GE209.out) | exact HB.out)) hb); clear HO_12; clear HO_202000; clear HO_202001; clear HO_210000; clear HO_210001; clear BK201; clear BK209; clear HB; have HO_12 := n0_; have HO_202000 := n1_; have HO_202001 := n2_; have HO_210000 := n3_; have HO_210001 := n4_; have BK201 := n5_; have BK209 := n6_; have HB := n7_; clear n0_ n1_ n2_ n3_ n4_ n5_ n6_ n7_; (try clear hb); (try clear hb2); (try clear hk); (try clear hi); have hcz59_0 : w58.cell? ⟨gb209, 0, none⟩ = some (.slice Ao30 t202.length co30) := (blk_cell BK209.out 0).trans rfl; have hcz59_1 : w58.cell? ⟨gb209, 1, none⟩ = some (.slice Ao33 t205.length co33) := (blk_cell BK209.out 1).trans rfl; have hfz59_0 := blk_frozen BK209.out 0; have hfz59_1 := blk_frozen BK209.out 1) | ((with_reducible refine gate_callee (f := 15) rfl ?_); refine goesL_ (some 99) rfl rfl Try.func15 (by kernel_rfl) rfl #[.agg #[.slice Ao30 t202.length co30, .slice Ao33 t205.length co33], .slice Ao27 y191.length co27, .string a3, .string a4] rfl (by (try simp only [List.map_toArray, List.map_cons, List.map_nil]); first | done | rfl | (simp only [List.length_drop, List.length_take]; rfl)) ?_; (with_reducible refine (hash_Find.calls kj16 _ _ t202 _ _ t205 _ _ y191 a3 a4 t211 _ ?side1 ?side2 ?side3 ?side4 ?side5 ?side6 A52.out).mono ?_); (case side1 => repeat (first | exact (Kd.R_reads' HO_210000.out).2.2 | (with_reducible refine Kd.C_alloc ?_ _) | (with_reducible refine Kd.C_drewN ?_ _) | (with_reducible refine Kd.C_drew ?_))); (case side2 => exact (Kd.R_reads' HO_210000.out).2.1); (case side3 => repeat (first | exact (Kd.R_reads' HO_210001.out).2.2 | (with_reducible refine Kd.C_alloc ?_ _) | (with_reducible refine Kd.C_drewN ?_ _) | (with_reducible refine Kd.C_drew ?_))); (case side4 => exact (Kd.R_reads' HO_210001.out).2.1); (case side5 => repeat (first | exact (Kd.R_reads' HO_12.out).2.2 | (with_reducible refine Kd.C_alloc ?_ _) | (with_reducible refine Kd.C_drewN ?_ _) | (with_reducible refine Kd.C_drew ?_))); (case side6 => exact (Kd.R_reads' HO_12.out).2.1); rintro e w60 ⟨rfl, hb⟩; refine ⟨_, rfl, ?_⟩; have n0_ := Aside0.mk (Kd.R_below (by (with_reducible repeat (first | apply Kd.R_alloc | apply Kd.R_drewN | apply Kd.R_drew)); exact HO_12.out) hb); have n1_ := Aside0.mk (Kd.R_below (by (with_reducible repeat (first | apply Kd.R_alloc | apply Kd.R_drewN | apply Kd.R_drew)); exact HO_202000.out) hb); have n2_ := Aside0.mk (Kd.R_below (by (with_reducible repeat (first | apply Kd.R_alloc | apply Kd.R_drewN | apply Kd.R_drew)); exact HO_202001.out) hb); have n3_ := Aside0.mk (Kd.R_below (by (with_reducible repeat (first | apply Kd.R_alloc | apply Kd.R_drewN | apply Kd.R_drew)); exact HO_210000.out) hb); have n4_ := Aside0.mk (Kd.R_below (by (with_reducible repeat (first | apply Kd.R_alloc | apply Kd.R_drewN | apply Kd.R_drew)); exact HO_210001.out) hb); have n5_ := Aside0.mk (blk_below (g := gb201) (o := .cells #[.slice Ao24 t194.length co24, .slice Ao26 t197.length co26] 33 (0, 0)) (by (with_reducible repeat (first | refine blk_drewN ?_ _ | refine blk_drew ?_ | refine blk_alloc ?_ _)); exact BK201.out) hb); have n6_ := Aside0.mk (blk_below (g := gb209) (o := .cells #[.slice Ao30 t202.length co30, .slice Ao33 t205.length co33] 33 (0, 0)) (by (with_reducible repeat (first | refine blk_drewN ?_ _ | refine blk_drew ?_ | refine blk_alloc ?_ _)); exact BK209.out) hb); have n7_ := Aside0.mk (below_step (by repeat (first | (with_reducible first | exact HB.out | apply below_alloc | apply pw_below_drewN | apply below_drew1 | refine below_set ?_ GE201.out | refine below_set ?_ GE209.out) | exact HB.out)) hb); clear HO_12; clear HO_202000; clear HO_202001; clear HO_210000; clear HO_210001; clear BK201; clear BK209; clear HB; have HO_12 := n0_; have HO_202000 := n1_; have HO_202001 := n2_; have HO_210000 := n3_; have HO_210001 := n4_; have BK201 := n5_; have BK209 := n6_; have HB := n7_; clear n0_ n1_ n2_ n3_ n4_ n5_ n6_ n7_; (try clear hb); (try clear hb2); (try clear hk); (try clear hi)))
                        go_ret
                        exact ⟨by first | rfl | (simp [errW_none, errW_some] <;> rfl) | (simp [*, errW_none, errW_some] <;> rfl), by repeat (first | (with_reducible first | exact HB.out | apply below_alloc | apply pw_below_drewN | apply below_drew1 | refine below_set ?_ GE201.out | refine below_set ?_ GE209.out) | exact HB.out)⟩
                      · rw [if_neg c55] at H
                        have c55b0 : decide (t211 < 0) = false := decide_eq_false c55
                        clear c55
                        by_cases c61 : t211 ≥ (l0.length : Int)
                        · rw [if_pos c61] at H
                          have c61b0 : decide ((l0.length : Int) ≤ t211) = true := decide_eq_true c61
                          clear c61
                          obtain rfl := Option.some.inj H
                          have hnb62 := NB201_209.out
                          have hnc62 := NB209_201.out
                          have hcz63_0 : wc.cell? ⟨gb201, 0, none⟩ = some (.slice Ao24 t194.length co24) := (blk_cell BK201.out 0).trans rfl
                          have hcz63_1 : wc.cell? ⟨gb201, 1, none⟩ = some (.slice Ao26 t197.length co26) := (blk_cell BK201.out 1).trans rfl
                          have hfz63_0 := blk_frozen BK201.out 0
                          have hfz63_1 := blk_frozen BK201.out 1
                          go_wp2_with (first | ((with_reducible refine gate_callee (f := 15) rfl ?_); refine goesL_ (some 94) rfl rfl Try.func15 (by kernel_rfl) rfl #[.agg #[.slice Ao24 t194.length co24, .slice Ao26 t197.length co26], .slice A0 l0.length c0, .string a3, .string a4] rfl (by (try simp only [List.map_toArray, List.map_cons, List.map_nil]); first | done | rfl | (simp only [List.length_drop, List.length_take]; rfl)) ?_; (with_reducible refine (hash_Find.calls kj16 _ _ t194 _ _ t197 _ _ l0 a3 a4 t210 _ ?side1 ?side2 ?side3 ?side4 ?side5 ?side6 A51.out).mono ?_); (case side1 => repeat (first | exact (Kd.R_reads' HO_202000.out).2.2 | (with_reducible refine Kd.C_alloc ?_ _) | (with_reducible refine Kd.C_drewN ?_ _) | (with_reducible refine Kd.C_drew ?_))); (case side2 => exact (Kd.R_reads' HO_202000.out).2.1); (case side3 => repeat (first | exact (Kd.R_reads' HO_202001.out).2.2 | (with_reducible refine Kd.C_alloc ?_ _) | (with_reducible refine Kd.C_drewN ?_ _) | (with_reducible refine Kd.C_drew ?_))); (case side4 => exact (Kd.R_reads' HO_202001.out).2.1); (case side5 => repeat (first | exact (Kd.C_below HR0.out HB.out) | (with_reducible refine Kd.C_alloc ?_ _) | (with_reducible refine Kd.C_drewN ?_ _) | (with_reducible refine Kd.C_drew ?_))); (case side6 => exact HC0.out); rintro e w64 ⟨rfl, hb⟩; refine ⟨_, rfl, ?_⟩; have n0_ := Aside0.mk (Kd.R_below (by (with_reducible repeat (first | apply Kd.R_alloc | apply Kd.R_drewN | apply Kd.R_drew)); exact HO_12.out) hb); have n1_ := Aside0.mk (Kd.R_below (by (with_reducible repeat (first | apply Kd.R_alloc | apply Kd.R_drewN | apply Kd.R_drew)); exact HO_202000.out) hb); have n2_ := Aside0.mk (Kd.R_below (by (with_reducible repeat (first | apply Kd.R_alloc | apply Kd.R_drewN | apply Kd.R_drew)); exact HO_202001.out) hb); have n3_ := Aside0.mk (Kd.R_below (by (with_reducible repeat (first | apply Kd.R_alloc | apply Kd.R_drewN | apply Kd.R_drew)); exact HO_210000.out) hb); have n4_ := Aside0.mk (Kd.R_below (by (with_reducible repeat (first | apply Kd.R_alloc | apply Kd.R_drewN | apply Kd.R_drew)); exact HO_210001.out) hb); have n5_ := Aside0.mk (blk_below (g := gb201) (o := .cells #[.slice Ao24 t194.length co24, .slice Ao26 t197.length co26] 33 (0, 0)) (by (with_reducible repeat (first | refine blk_drewN ?_ _ | refine blk_drew ?_ | refine blk_alloc ?_ _)); exact BK201.out) hb); have n6_ := Aside0.mk (blk_below (g := gb209) (o := .cells #[.slice Ao30 t202.length co30, .slice Ao33 t205.length co33] 33 (0, 0)) (by (with_reducible repeat (first | refine blk_drewN ?_ _ | refine blk_drew ?_ | refine blk_alloc ?_ _)); exact BK209.out) hb); have n7_ := Aside0.mk (below_step (by repeat (first | (with_reducible first | exact HB.out | apply below_alloc | apply pw_below_drewN | apply below_drew1 | refine below_set ?_ GE201.out | refine below_set ?_ GE209.out) | exact HB.out)) hb); clear HO_12; clear HO_202000; clear HO_202001; clear HO_210000; clear HO_210001; clear BK201; clear BK209; clear HB; have HO_12 := n0_; have HO_202000 := n1_; have HO_202001 := n2_; have HO_210000 := n3_; have HO_210001 := n4_; have BK201 := n5_; have BK209 := n6_; have HB := n7_; clear n0_ n1_ n2_ n3_ n4_ n5_ n6_ n7_; (try clear hb); (try clear hb2); (try clear hk); (try clear hi); have hcz65_0 : w64.cell? ⟨gb209, 0, none⟩ = some (.slice Ao30 t202.length co30) := (blk_cell BK209.out 0).trans rfl; have hcz65_1 : w64.cell? ⟨gb209, 1, none⟩ = some (.slice Ao33 t205.length co33) := (blk_cell BK209.out 1).trans rfl; have hfz65_0 := blk_frozen BK209.out 0; have hfz65_1 := blk_frozen BK209.out 1) | ((with_reducible refine gate_callee (f := 15) rfl ?_); refine goesL_ (some 99) rfl rfl Try.func15 (by kernel_rfl) rfl #[.agg #[.slice Ao30 t202.length co30, .slice Ao33 t205.length co33], .slice Ao27 y191.length co27, .string a3, .string a4] rfl (by (try simp only [List.map_toArray, List.map_cons, List.map_nil]); first | done | rfl | (simp only [List.length_drop, List.length_take]; rfl)) ?_; (with_reducible refine (hash_Find.calls kj16 _ _ t202 _ _ t205 _ _ y191 a3 a4 t211 _ ?side1 ?side2 ?side3 ?side4 ?side5 ?side6 A52.out).mono ?_); (case side1 => repeat (first | exact (Kd.R_reads' HO_210000.out).2.2 | (with_reducible refine Kd.C_alloc ?_ _) | (with_reducible refine Kd.C_drewN ?_ _) | (with_reducible refine Kd.C_drew ?_))); (case side2 => exact (Kd.R_reads' HO_210000.out).2.1); (case side3 => repeat (first | exact (Kd.R_reads' HO_210001.out).2.2 | (with_reducible refine Kd.C_alloc ?_ _) | (with_reducible refine Kd.C_drewN ?_ _) | (with_reducible refine Kd.C_drew ?_))); (case side4 => exact (Kd.R_reads' HO_210001.out).2.1); (case side5 => repeat (first | exact (Kd.R_reads' HO_12.out).2.2 | (with_reducible refine Kd.C_alloc ?_ _) | (with_reducible refine Kd.C_drewN ?_ _) | (with_reducible refine Kd.C_drew ?_))); (case side6 => exact (Kd.R_reads' HO_12.out).2.1); rintro e w66 ⟨rfl, hb⟩; refine ⟨_, rfl, ?_⟩; have n0_ := Aside0.mk (Kd.R_below (by (with_reducible repeat (first | apply Kd.R_alloc | apply Kd.R_drewN | apply Kd.R_drew)); exact HO_12.out) hb); have n1_ := Aside0.mk (Kd.R_below (by (with_reducible repeat (first | apply Kd.R_alloc | apply Kd.R_drewN | apply Kd.R_drew)); exact HO_202000.out) hb); have n2_ := Aside0.mk (Kd.R_below (by (with_reducible repeat (first | apply Kd.R_alloc | apply Kd.R_drewN | apply Kd.R_drew)); exact HO_202001.out) hb); have n3_ := Aside0.mk (Kd.R_below (by (with_reducible repeat (first | apply Kd.R_alloc | apply Kd.R_drewN | apply Kd.R_drew)); exact HO_210000.out) hb); have n4_ := Aside0.mk (Kd.R_below (by (with_reducible repeat (first | apply Kd.R_alloc | apply Kd.R_drewN | apply Kd.R_drew)); exact HO_210001.out) hb); have n5_ := Aside0.mk (blk_below (g := gb201) (o := .cells #[.slice Ao24 t194.length co24, .slice Ao26 t197.length co26] 33 (0, 0)) (by (with_reducible repeat (first | refine blk_drewN ?_ _ | refine blk_drew ?_ | refine blk_alloc ?_ _)); exact BK201.out) hb); have n6_ := Aside0.mk (blk_below (g := gb209) (o := .cells #[.slice Ao30 t202.length co30, .slice Ao33 t205.length co33] 33 (0, 0)) (by (with_reducible repeat (first | refine blk_drewN ?_ _ | refine blk_drew ?_ | refine blk_alloc ?_ _)); exact BK209.out) hb); have n7_ := Aside0.mk (below_step (by repeat (first | (with_reducible first | exact HB.out | apply below_alloc | apply pw_below_drewN | apply below_drew1 | refine below_set ?_ GE201.out | refine below_set ?_ GE209.out) | exact HB.out)) hb); clear HO_12; clear HO_202000; clear HO_202001; clear HO_210000; clear HO_210001; clear BK201; clear BK209; clear HB; have HO_12 := n0_; have HO_202000 := n1_; have HO_202001 := n2_; have HO_210000 := n3_; have HO_210001 := n4_; have BK201 := n5_; have BK209 := n6_; have HB := n7_; clear n0_ n1_ n2_ n3_ n4_ n5_ n6_ n7_; (try clear hb); (try clear hb2); (try clear hk); (try clear hi)))
                          go_ret
                          exact ⟨by first | rfl | (simp [errW_none, errW_some] <;> rfl) | (simp [*, errW_none, errW_some] <;> rfl), by repeat (first | (with_reducible first | exact HB.out | apply below_alloc | apply pw_below_drewN | apply below_drew1 | refine below_set ?_ GE201.out | refine below_set ?_ GE209.out) | exact HB.out)⟩
                        · rw [if_neg c61] at H
                          have c61b0 : decide ((l0.length : Int) ≤ t211) = false := decide_eq_false c61
                          clear c61
                          by_cases c67 : t210 ≥ 0
                          · rw [if_pos c67] at H
                            have c67b0 : decide (0 ≤ t210) = true := decide_eq_true c67
                            clear c67
                            obtain rfl := Option.some.inj H
                            have hnb68 := NB201_209.out
                            have hnc68 := NB209_201.out
                            have hcz69_0 : wc.cell? ⟨gb201, 0, none⟩ = some (.slice Ao24 t194.length co24) := (blk_cell BK201.out 0).trans rfl
                            have hcz69_1 : wc.cell? ⟨gb201, 1, none⟩ = some (.slice Ao26 t197.length co26) := (blk_cell BK201.out 1).trans rfl
                            have hfz69_0 := blk_frozen BK201.out 0
                            have hfz69_1 := blk_frozen BK201.out 1
                            go_wp2_with (first | ((with_reducible refine gate_callee (f := 15) rfl ?_); refine goesL_ (some 94) rfl rfl Try.func15 (by kernel_rfl) rfl #[.agg #[.slice Ao24 t194.length co24, .slice Ao26 t197.length co26], .slice A0 l0.length c0, .string a3, .string a4] rfl (by (try simp only [List.map_toArray, List.map_cons, List.map_nil]); first | done | rfl | (simp only [List.length_drop, List.length_take]; rfl)) ?_; (with_reducible refine (hash_Find.calls kj16 _ _ t194 _ _ t197 _ _ l0 a3 a4 t210 _ ?side1 ?side2 ?side3 ?side4 ?side5 ?side6 A51.out).mono ?_); (case side1 => repeat (first | exact (Kd.R_reads' HO_202000.out).2.2 | (with_reducible refine Kd.C_alloc ?_ _) | (with_reducible refine Kd.C_drewN ?_ _) | (with_reducible refine Kd.C_drew ?_))); (case side2 => exact (Kd.R_reads' HO_202000.out).2.1); (case side3 => repeat (first | exact (Kd.R_reads' HO_202001.out).2.2 | (with_reducible refine Kd.C_alloc ?_ _) | (with_reducible refine Kd.C_drewN ?_ _) | (with_reducible refine Kd.C_drew ?_))); (case side4 => exact (Kd.R_reads' HO_202001.out).2.1); (case side5 => repeat (first | exact (Kd.C_below HR0.out HB.out) | (with_reducible refine Kd.C_alloc ?_ _) | (with_reducible refine Kd.C_drewN ?_ _) | (with_reducible refine Kd.C_drew ?_))); (case side6 => exact HC0.out); rintro e w70 ⟨rfl, hb⟩; refine ⟨_, rfl, ?_⟩; have n0_ := Aside0.mk (Kd.R_below (by (with_reducible repeat (first | apply Kd.R_alloc | apply Kd.R_drewN | apply Kd.R_drew)); exact HO_12.out) hb); have n1_ := Aside0.mk (Kd.R_below (by (with_reducible repeat (first | apply Kd.R_alloc | apply Kd.R_drewN | apply Kd.R_drew)); exact HO_202000.out) hb); have n2_ := Aside0.mk (Kd.R_below (by (with_reducible repeat (first | apply Kd.R_alloc | apply Kd.R_drewN | apply Kd.R_drew)); exact HO_202001.out) hb); have n3_ := Aside0.mk (Kd.R_below (by (with_reducible repeat (first | apply Kd.R_alloc | apply Kd.R_drewN | apply Kd.R_drew)); exact HO_210000.out) hb); have n4_ := Aside0.mk (Kd.R_below (by (with_reducible repeat (first | apply Kd.R_alloc | apply Kd.R_drewN | apply Kd.R_drew)); exact HO_210001.out) hb); have n5_ := Aside0.mk (blk_below (g := gb201) (o := .cells #[.slice Ao24 t194.length co24, .slice Ao26 t197.length co26] 33 (0, 0)) (by (with_reducible repeat (first | refine blk_drewN ?_ _ | refine blk_drew ?_ | refine blk_alloc ?_ _)); exact BK201.out) hb); have n6_ := Aside0.mk (blk_below (g := gb209) (o := .cells #[.slice Ao30 t202.length co30, .slice Ao33 t205.length co33] 33 (0, 0)) (by (with_reducible repeat (first | refine blk_drewN ?_ _ | refine blk_drew ?_ | refine blk_alloc ?_ _)); exact BK209.out) hb); have n7_ := Aside0.mk (below_step (by repeat (first | (with_reducible first | exact HB.out | apply below_alloc | apply pw_below_drewN | apply below_drew1 | refine below_set ?_ GE201.out | refine below_set ?_ GE209.out) | exact HB.out)) hb); clear HO_12; clear HO_202000; clear HO_202001; clear HO_210000; clear HO_210001; clear BK201; clear BK209; clear HB; have HO_12 := n0_; have HO_202000 := n1_; have HO_202001 := n2_; have HO_210000 := n3_; have HO_210001 := n4_; have BK201 := n5_; have BK209 := n6_; have HB := n7_; clear n0_ n1_ n2_ n3_ n4_ n5_ n6_ n7_; (try clear hb); (try clear hb2); (try clear hk); (try clear hi); have hcz71_0 : w70.cell? ⟨gb209, 0, none⟩ = some (.slice Ao30 t202.length co30) := (blk_cell BK209.out 0).trans rfl; have hcz71_1 : w70.cell? ⟨gb209, 1, none⟩ = some (.slice Ao33 t205.length co33) := (blk_cell BK209.out 1).trans rfl; have hfz71_0 := blk_frozen BK209.out 0; have hfz71_1 := blk_frozen BK209.out 1) | ((with_reducible refine gate_callee (f := 15) rfl ?_); refine goesL_ (some 99) rfl rfl Try.func15 (by kernel_rfl) rfl #[.agg #[.slice Ao30 t202.length co30, .slice Ao33 t205.length co33], .slice Ao27 y191.length co27, .string a3, .string a4] rfl (by (try simp only [List.map_toArray, List.map_cons, List.map_nil]); first | done | rfl | (simp only [List.length_drop, List.length_take]; rfl)) ?_; (with_reducible refine (hash_Find.calls kj16 _ _ t202 _ _ t205 _ _ y191 a3 a4 t211 _ ?side1 ?side2 ?side3 ?side4 ?side5 ?side6 A52.out).mono ?_); (case side1 => repeat (first | exact (Kd.R_reads' HO_210000.out).2.2 | (with_reducible refine Kd.C_alloc ?_ _) | (with_reducible refine Kd.C_drewN ?_ _) | (with_reducible refine Kd.C_drew ?_))); (case side2 => exact (Kd.R_reads' HO_210000.out).2.1); (case side3 => repeat (first | exact (Kd.R_reads' HO_210001.out).2.2 | (with_reducible refine Kd.C_alloc ?_ _) | (with_reducible refine Kd.C_drewN ?_ _) | (with_reducible refine Kd.C_drew ?_))); (case side4 => exact (Kd.R_reads' HO_210001.out).2.1); (case side5 => repeat (first | exact (Kd.R_reads' HO_12.out).2.2 | (with_reducible refine Kd.C_alloc ?_ _) | (with_reducible refine Kd.C_drewN ?_ _) | (with_reducible refine Kd.C_drew ?_))); (case side6 => exact (Kd.R_reads' HO_12.out).2.1); rintro e w72 ⟨rfl, hb⟩; refine ⟨_, rfl, ?_⟩; have n0_ := Aside0.mk (Kd.R_below (by (with_reducible repeat (first | apply Kd.R_alloc | apply Kd.R_drewN | apply Kd.R_drew)); exact HO_12.out) hb); have n1_ := Aside0.mk (Kd.R_below (by (with_reducible repeat (first | apply Kd.R_alloc | apply Kd.R_drewN | apply Kd.R_drew)); exact HO_202000.out) hb); have n2_ := Aside0.mk (Kd.R_below (by (with_reducible repeat (first | apply Kd.R_alloc | apply Kd.R_drewN | apply Kd.R_drew)); exact HO_202001.out) hb); have n3_ := Aside0.mk (Kd.R_below (by (with_reducible repeat (first | apply Kd.R_alloc | apply Kd.R_drewN | apply Kd.R_drew)); exact HO_210000.out) hb); have n4_ := Aside0.mk (Kd.R_below (by (with_reducible repeat (first | apply Kd.R_alloc | apply Kd.R_drewN | apply Kd.R_drew)); exact HO_210001.out) hb); have n5_ := Aside0.mk (blk_below (g := gb201) (o := .cells #[.slice Ao24 t194.length co24, .slice Ao26 t197.length co26] 33 (0, 0)) (by (with_reducible repeat (first | refine blk_drewN ?_ _ | refine blk_drew ?_ | refine blk_alloc ?_ _)); exact BK201.out) hb); have n6_ := Aside0.mk (blk_below (g := gb209) (o := .cells #[.slice Ao30 t202.length co30, .slice Ao33 t205.length co33] 33 (0, 0)) (by (with_reducible repeat (first | refine blk_drewN ?_ _ | refine blk_drew ?_ | refine blk_alloc ?_ _)); exact BK209.out) hb); have n7_ := Aside0.mk (below_step (by repeat (first | (with_reducible first | exact HB.out | apply below_alloc | apply pw_below_drewN | apply below_drew1 | refine below_set ?_ GE201.out | refine below_set ?_ GE209.out) | exact HB.out)) hb); clear HO_12; clear HO_202000; clear HO_202001; clear HO_210000; clear HO_210001; clear BK201; clear BK209; clear HB; have HO_12 := n0_; have HO_202000 := n1_; have HO_202001 := n2_; have HO_210000 := n3_; have HO_210001 := n4_; have BK201 := n5_; have BK209 := n6_; have HB := n7_; clear n0_ n1_ n2_ n3_ n4_ n5_ n6_ n7_; (try clear hb); (try clear hb2); (try clear hk); (try clear hi)))
                            go_ret
                            exact ⟨by first | rfl | (simp [errW_none, errW_some] <;> rfl) | (simp [*, errW_none, errW_some] <;> rfl), by repeat (first | (with_reducible first | exact HB.out | apply below_alloc | apply pw_below_drewN | apply below_drew1 | refine below_set ?_ GE201.out | refine below_set ?_ GE209.out) | exact HB.out)⟩
                          · rw [if_neg c67] at H
                            have c67b0 : decide (0 ≤ t210) = false := decide_eq_false c67
                            clear c67
                            exact absurd ((Option.some.inj H).trans HT.out) (by decide)
                    · rw [if_neg c54] at H
                      have c54b0 : decide (t210 < 0) = false := decide_eq_false c54
                      clear c54
                      by_cases c78 : t210 ≥ 0
                      · rw [if_pos c78] at H
                        have c78b0 : decide (0 ≤ t210) = true := decide_eq_true c78
                        clear c78
                        obtain rfl := Option.some.inj H
                        have hnb79 := NB201_209.out
                        have hnc79 := NB209_201.out
                        have hcz80_0 : wc.cell? ⟨gb201, 0, none⟩ = some (.slice Ao24 t194.length co24) := (blk_cell BK201.out 0).trans rfl
                        have hcz80_1 : wc.cell? ⟨gb201, 1, none⟩ = some (.slice Ao26 t197.length co26) := (blk_cell BK201.out 1).trans rfl
                        have hfz80_0 := blk_frozen BK201.out 0
                        have hfz80_1 := blk_frozen BK201.out 1
                        go_wp2_with (first | ((with_reducible refine gate_callee (f := 15) rfl ?_); refine goesL_ (some 94) rfl rfl Try.func15 (by kernel_rfl) rfl #[.agg #[.slice Ao24 t194.length co24, .slice Ao26 t197.length co26], .slice A0 l0.length c0, .string a3, .string a4] rfl (by (try simp only [List.map_toArray, List.map_cons, List.map_nil]); first | done | rfl | (simp only [List.length_drop, List.length_take]; rfl)) ?_; (with_reducible refine (hash_Find.calls kj16 _ _ t194 _ _ t197 _ _ l0 a3 a4 t210 _ ?side1 ?side2 ?side3 ?side4 ?side5 ?side6 A51.out).mono ?_); (case side1 => repeat (first | exact (Kd.R_reads' HO_202000.out).2.2 | (with_reducible refine Kd.C_alloc ?_ _) | (with_reducible refine Kd.C_drewN ?_ _) | (with_reducible refine Kd.C_drew ?_))); (case side2 => exact (Kd.R_reads' HO_202000.out).2.1); (case side3 => repeat (first | exact (Kd.R_reads' HO_202001.out).2.2 | (with_reducible refine Kd.C_alloc ?_ _) | (with_reducible refine Kd.C_drewN ?_ _) | (with_reducible refine Kd.C_drew ?_))); (case side4 => exact (Kd.R_reads' HO_202001.out).2.1); (case side5 => repeat (first | exact (Kd.C_below HR0.out HB.out) | (with_reducible refine Kd.C_alloc ?_ _) | (with_reducible refine Kd.C_drewN ?_ _) | (with_reducible refine Kd.C_drew ?_))); (case side6 => exact HC0.out); rintro e w81 ⟨rfl, hb⟩; refine ⟨_, rfl, ?_⟩; have n0_ := Aside0.mk (Kd.R_below (by (with_reducible repeat (first | apply Kd.R_alloc | apply Kd.R_drewN | apply Kd.R_drew)); exact HO_12.out) hb); have n1_ := Aside0.mk (Kd.R_below (by (with_reducible repeat (first | apply Kd.R_alloc | apply Kd.R_drewN | apply Kd.R_drew)); exact HO_202000.out) hb); have n2_ := Aside0.mk (Kd.R_below (by (with_reducible repeat (first | apply Kd.R_alloc | apply Kd.R_drewN | apply Kd.R_drew)); exact HO_202001.out) hb); have n3_ := Aside0.mk (Kd.R_below (by (with_reducible repeat (first | apply Kd.R_alloc | apply Kd.R_drewN | apply Kd.R_drew)); exact HO_210000.out) hb); have n4_ := Aside0.mk (Kd.R_below (by (with_reducible repeat (first | apply Kd.R_alloc | apply Kd.R_drewN | apply Kd.R_drew)); exact HO_210001.out) hb); have n5_ := Aside0.mk (blk_below (g := gb201) (o := .cells #[.slice Ao24 t194.length co24, .slice Ao26 t197.length co26] 33 (0, 0)) (by (with_reducible repeat (first | refine blk_drewN ?_ _ | refine blk_drew ?_ | refine blk_alloc ?_ _)); exact BK201.out) hb); have n6_ := Aside0.mk (blk_below (g := gb209) (o := .cells #[.slice Ao30 t202.length co30, .slice Ao33 t205.length co33] 33 (0, 0)) (by (with_reducible repeat (first | refine blk_drewN ?_ _ | refine blk_drew ?_ | refine blk_alloc ?_ _)); exact BK209.out) hb); have n7_ := Aside0.mk (below_step (by repeat (first | (with_reducible first | exact HB.out | apply below_alloc | apply pw_below_drewN | apply below_drew1 | refine below_set ?_ GE201.out | refine below_set ?_ GE209.out) | exact HB.out)) hb); clear HO_12; clear HO_202000; clear HO_202001; clear HO_210000; clear HO_210001; clear BK201; clear BK209; clear HB; have HO_12 := n0_; have HO_202000 := n1_; have HO_202001 := n2_; have HO_210000 := n3_; have HO_210001 := n4_; have BK201 := n5_; have BK209 := n6_; have HB := n7_; clear n0_ n1_ n2_ n3_ n4_ n5_ n6_ n7_; (try clear hb); (try clear hb2); (try clear hk); (try clear hi); have hcz82_0 : w81.cell? ⟨gb209, 0, none⟩ = some (.slice Ao30 t202.length co30) := (blk_cell BK209.out 0).trans rfl; have hcz82_1 : w81.cell? ⟨gb209, 1, none⟩ = some (.slice Ao33 t205.length co33) := (blk_cell BK209.out 1).trans rfl; have hfz82_0 := blk_frozen BK209.out 0; have hfz82_1 := blk_frozen BK209.out 1) | ((with_reducible refine gate_callee (f := 15) rfl ?_); refine goesL_ (some 99) rfl rfl Try.func15 (by kernel_rfl) rfl #[.agg #[.slice Ao30 t202.length co30, .slice Ao33 t205.length co33], .slice Ao27 y191.length co27, .string a3, .string a4] rfl (by (try simp only [List.map_toArray, List.map_cons, List.map_nil]); first | done | rfl | (simp only [List.length_drop, List.length_take]; rfl)) ?_; (with_reducible refine (hash_Find.calls kj16 _ _ t202 _ _ t205 _ _ y191 a3 a4 t211 _ ?side1 ?side2 ?side3 ?side4 ?side5 ?side6 A52.out).mono ?_); (case side1 => repeat (first | exact (Kd.R_reads' HO_210000.out).2.2 | (with_reducible refine Kd.C_alloc ?_ _) | (with_reducible refine Kd.C_drewN ?_ _) | (with_reducible refine Kd.C_drew ?_))); (case side2 => exact (Kd.R_reads' HO_210000.out).2.1); (case side3 => repeat (first | exact (Kd.R_reads' HO_210001.out).2.2 | (with_reducible refine Kd.C_alloc ?_ _) | (with_reducible refine Kd.C_drewN ?_ _) | (with_reducible refine Kd.C_drew ?_))); (case side4 => exact (Kd.R_reads' HO_210001.out).2.1); (case side5 => repeat (first | exact (Kd.R_reads' HO_12.out).2.2 | (with_reducible refine Kd.C_alloc ?_ _) | (with_reducible refine Kd.C_drewN ?_ _) | (with_reducible refine Kd.C_drew ?_))); (case side6 => exact (Kd.R_reads' HO_12.out).2.1); rintro e w83 ⟨rfl, hb⟩; refine ⟨_, rfl, ?_⟩; have n0_ := Aside0.mk (Kd.R_below (by (with_reducible repeat (first | apply Kd.R_alloc | apply Kd.R_drewN | apply Kd.R_drew)); exact HO_12.out) hb); have n1_ := Aside0.mk (Kd.R_below (by (with_reducible repeat (first | apply Kd.R_alloc | apply Kd.R_drewN | apply Kd.R_drew)); exact HO_202000.out) hb); have n2_ := Aside0.mk (Kd.R_below (by (with_reducible repeat (first | apply Kd.R_alloc | apply Kd.R_drewN | apply Kd.R_drew)); exact HO_202001.out) hb); have n3_ := Aside0.mk (Kd.R_below (by (with_reducible repeat (first | apply Kd.R_alloc | apply Kd.R_drewN | apply Kd.R_drew)); exact HO_210000.out) hb); have n4_ := Aside0.mk (Kd.R_below (by (with_reducible repeat (first | apply Kd.R_alloc | apply Kd.R_drewN | apply Kd.R_drew)); exact HO_210001.out) hb); have n5_ := Aside0.mk (blk_below (g := gb201) (o := .cells #[.slice Ao24 t194.length co24, .slice Ao26 t197.length co26] 33 (0, 0)) (by (with_reducible repeat (first | refine blk_drewN ?_ _ | refine blk_drew ?_ | refine blk_alloc ?_ _)); exact BK201.out) hb); have n6_ := Aside0.mk (blk_below (g := gb209) (o := .cells #[.slice Ao30 t202.length co30, .slice Ao33 t205.length co33] 33 (0, 0)) (by (with_reducible repeat (first | refine blk_drewN ?_ _ | refine blk_drew ?_ | refine blk_alloc ?_ _)); exact BK209.out) hb); have n7_ := Aside0.mk (below_step (by repeat (first | (with_reducible first | exact HB.out | apply below_alloc | apply pw_below_drewN | apply below_drew1 | refine below_set ?_ GE201.out | refine below_set ?_ GE209.out) | exact HB.out)) hb); clear HO_12; clear HO_202000; clear HO_202001; clear HO_210000; clear HO_210001; clear BK201; clear BK209; clear HB; have HO_12 := n0_; have HO_202000 := n1_; have HO_202001 := n2_; have HO_210000 := n3_; have HO_210001 := n4_; have BK201 := n5_; have BK209 := n6_; have HB := n7_; clear n0_ n1_ n2_ n3_ n4_ n5_ n6_ n7_; (try clear hb); (try clear hb2); (try clear hk); (try clear hi)))
                        go_ret
                        exact ⟨by first | rfl | (simp [errW_none, errW_some] <;> rfl) | (simp [*, errW_none, errW_some] <;> rfl), by repeat (first | (with_reducible first | exact HB.out | apply below_alloc | apply pw_below_drewN | apply below_drew1 | refine below_set ?_ GE201.out | refine below_set ?_ GE209.out) | exact HB.out)⟩
                      · rw [if_neg c78] at H
                        have c78b0 : decide (0 ≤ t210) = false := decide_eq_false c78
                        clear c78
                        exact absurd ((Option.some.inj H).trans HT.out) (by decide)
                  · replace c53 := Bool.eq_false_iff.mpr c53
                    subst c53
                    have H1 : (some false) = some r := by rw [if_neg (show ¬ (false = true) by decide)] at H; exact H
                    clear H
                    have H := H1
                    clear H1
                    exact absurd ((Option.some.inj H).trans HT.out) (by decide)
          · rw [if_neg c14] at H
            exact absurd H (by simp)
        · rw [if_neg c13] at H
          exact absurd H (by simp)

/-! ### slices_Equal_int_int: function 22 -/
def slices_Equal_int_int.l0 : Nat → List Int → List Int → Int → Int → Option (Bool)
  | 0, _, _, _, _ => none
  | k + 1, x0, x1, x12, x13 => if x13 < x12 then (if 0 ≤ x13 then (if x13 < (x0.length : Int) then (if x13 < (x1.length : Int) then (if (rd x0 x13) = (rd x1 x13) then (slices_Equal_int_int.l0 k x0 x1 x12 (wrap64 (x13 + 1))) else (some false)) else (none)) else (none)) else (none)) else (some true)
def slices_Equal_int_int.f (k : Nat) (l0 : List Int) (l1 : List Int) : Option (Bool) := if (l0.length : Int) = (l1.length : Int) then (slices_Equal_int_int.l0 k l0 l1 (l0.length : Int) 0) else (some false)
theorem slices_Equal_int_int.mono_l : ∀ k, (∀ y0 y1 y2 y3, LeO (slices_Equal_int_int.l0 k y0 y1 y2 y3) (slices_Equal_int_int.l0 (k + 1) y0 y1 y2 y3))
  | 0 => fun _ _ _ _ r h => by simp [slices_Equal_int_int.l0] at h
  | k + 1 => by
    have ih0 := slices_Equal_int_int.mono_l k
    · intro y0 y1 y2 y3
      unfold slices_Equal_int_int.l0
      repeat' first
      | (with_reducible exact ih0 _ _ _ _)
      | (with_reducible exact LeO.refl _)
      | (with_reducible exact LeO.none _)
      | (with_reducible refine LeO.ite ?_ ?_)
      | (with_reducible refine LeO.bind ?_ (fun _ => ?_))
      | exact ih0 _ _ _ _
      | exact LeO.none _
      | refine LeO.ite ?_ ?_
      | refine LeO.bind ?_ (fun _ => ?_)
theorem slices_Equal_int_int.mono : ∀ a0 a1 k, LeO (slices_Equal_int_int.f k a0 a1) (slices_Equal_int_int.f (k + 1) a0 a1) := by
  intro a0 a1 k
  have ih0 := slices_Equal_int_int.mono_l k
  unfold slices_Equal_int_int.f
  repeat' first
      | (with_reducible exact ih0 _ _ _ _)
      | (with_reducible exact LeO.refl _)
      | (with_reducible exact LeO.none _)
      | (with_reducible refine LeO.ite ?_ ?_)
      | (with_reducible refine LeO.bind ?_ (fun _ => ?_))
      | exact ih0 _ _ _ _
      | exact LeO.none _
      | refine LeO.ite ?_ ?_
      | refine LeO.bind ?_ (fun _ => ?_)
set_option maxHeartbeats 8000000 in
set_option maxRecDepth 100000 in
theorem slices_Equal_int_int.calls (k : Nat) (A0 : Option Addr) (c0 : Nat) (l0 : List Int) (A1 : Option Addr) (c1 : Nat) (l1 : List Int) (r : Bool) (w : World) (hr0 : Kd.C (Kd.int .i64) w A0 l0.length l0) (hc0 : l0.length ≤ c0) (hr1 : Kd.C (Kd.int .i64) w A1 l1.length l1) (hc1 : l1.length ≤ c1) (h : slices_Equal_int_int.f k l0 l1 = some r) :
    Calls Try.prog 22 #[.slice A0 l0.length c0, .slice A1 l1.length c1] w fun e w' => e = .returned (.bool r) ∧ Drawn0 w w' := by
  have HR0 := Aside0.mk hr0
  have HC0 := Aside0.mk hc0
  clear hr0 hc0
  have HR1 := Aside0.mk hr1
  have HC1 := Aside0.mk hc1
  clear hr1 hc1
  have H : (if (l0.length : Int) = (l1.length : Int) then (slices_Equal_int_int.l0 k l0 l1 (l0.length : Int) 0) else (some false)) = some r := h
  clear h
  by_cases c3 : (l0.length : Int) = (l1.length : Int)
  · rw [if_pos c3] at H
    have c3b0 : ((l0.length : Int) == (l1.length : Int)) = true := beq_iff_eq.mpr c3
    have c3b1 : ((l0.length : Int) != (l1.length : Int)) = false := bne_eq_false_iff_eq.mpr c3
    have c3b2 : (l0.length == l1.length) = true := by first | simpa using c3 | (simp at c3 ⊢; omega)
    clear c3
    have H' := Aside0.mk H
    clear H
    go_enter Try.func22, Try.ntmps22
    go_wp2
    repeat (go_quiet (fail); try go_wp2)
    go_loopg [13] k (fun kq v13 w' => ∃ (x13_1 : Int), v13 = .int .i64 x13_1 ∧ Aside0 (slices_Equal_int_int.l0 kq l0 l1 (l0.length : Int) x13_1 = some r) ∧ Aside0 (kq ≤ k) ∧ Drawn0 w w')
    case atStart => exact ⟨(0), (by first | rfl | (simp; done) | (simp [*]; done)), H', ⟨Nat.le_refl _⟩, by repeat (first | exact Drawn0.refl _ | apply Drawn0.step)⟩
    case round =>
      clear H'
      try clear c1
      try clear c2
      try clear p2
      try clear c3
      try clear c3b0
      try clear c3b1
      try clear c3b2
      obtain ⟨x13_1, rfl, HA, HK1, ⟨m1, rfl⟩⟩ := hrel
      cases gk with
      | zero => exact absurd HA.out (by simp [slices_Equal_int_int.l0])
      | succ k1 =>
        have H := HA.out
        clear HA
        simp only [slices_Equal_int_int.l0] at H
        by_cases c4 : x13_1 < (l0.length : Int)
        · rw [if_pos c4] at H
          have c4b0 : decide (x13_1 < (l0.length : Int)) = true := decide_eq_true c4
          clear c4
          by_cases c5 : 0 ≤ x13_1
          · rw [if_pos c5] at H
            have c5b0 : decide (0 ≤ x13_1) = true := decide_eq_true c5
            clear c5
            by_cases c6 : x13_1 < (l0.length : Int)
            · rw [if_pos c6] at H
              have c6b0 : decide (x13_1 < (l0.length : Int)) = true := decide_eq_true c6
              clear c6
              by_cases c7 : x13_1 < (l1.length : Int)
              · rw [if_pos c7] at H
                have c7b0 : decide (x13_1 < (l1.length : Int)) = true := decide_eq_true c7
                clear c7
                by_cases c8 : (rd l0 x13_1) = (rd l1 x13_1)
                · rw [if_pos c8] at H
                  have c8b0 : ((rd l0 x13_1) == (rd l1 x13_1)) = true := beq_iff_eq.mpr c8
                  have c8b1 : ((rd l0 x13_1) != (rd l1 x13_1)) = false := bne_eq_false_iff_eq.mpr c8
                  clear c8
                  have H' := Aside0.mk H
                  clear H
                  have p212 : 0 ≤ (x13_1 : Int) := of_decide_eq_true (by first | (with_reducible assumption) | assumption)
                  have q212 : x13_1 < (l0.length : Int) := of_decide_eq_true (by first | (with_reducible assumption) | assumption)
                  obtain ⟨ad212, e212, hx212_0⟩ := Kd.at_int HR0.out x13_1 p212 q212
                  cases e212
                  replace p212 := eq_true p212
                  replace q212 := eq_true q212
                  have p213 : 0 ≤ (x13_1 : Int) := of_decide_eq_true (by first | (with_reducible assumption) | assumption)
                  have q213 : x13_1 < (l1.length : Int) := of_decide_eq_true (by first | (with_reducible assumption) | assumption)
                  obtain ⟨ad213, e213, hx213_0⟩ := Kd.at_int HR1.out x13_1 p213 q213
                  cases e213
                  replace p213 := eq_true p213
                  replace q213 := eq_true q213
                  go_wp2
                  repeat (go_quiet (fail); try go_wp2)
                  go_roundg k1
                  case measure => have := HK1.out; omega
                  case rel => exact ⟨(wrap64 (x13_1 + 1)), (by first | rfl | (simp; done) | (simp [*]; done)), H', ⟨by have := HK1.out; omega⟩, by repeat (first | exact Drawn0.refl _ | apply Drawn0.step)⟩
                · rw [if_neg c8] at H
                  have c8b0 : ((rd l0 x13_1) == (rd l1 x13_1)) = false := beq_eq_false_iff_ne.mpr c8
                  have c8b1 : ((rd l0 x13_1) != (rd l1 x13_1)) = true := bne_iff_ne.mpr c8
                  obtain rfl := Option.some.inj H
                  have p212 : 0 ≤ (x13_1 : Int) := of_decide_eq_true (by first | (with_reducible assumption) | assumption)
                  have q212 : x13_1 < (l0.length : Int) := of_decide_eq_true (by first | (with_reducible assumption) | assumption)
                  obtain ⟨ad212, e212, hx212_0⟩ := Kd.at_int HR0.out x13_1 p212 q212
                  cases e212
                  replace p212 := eq_true p212
                  replace q212 := eq_true q212
                  have p213 : 0 ≤ (x13_1 : Int) := of_decide_eq_true (by first | (with_reducible assumption) | assumption)
                  have q213 : x13_1 < (l1.length : Int) := of_decide_eq_true (by first | (with_reducible assumption) | assumption)
                  obtain ⟨ad213, e213, hx213_0⟩ := Kd.at_int HR1.out x13_1 p213 q213
                  cases e213
                  replace p213 := eq_true p213
                  replace q213 := eq_true q213
                  go_wp2
                  repeat (go_quiet (fail); try go_wp2)
                  go_ret
                  exact ⟨by first | rfl | (simp; done) | (simp [*]; done), by repeat (first | exact Drawn0.refl _ | apply Drawn0.step)⟩
              · rw [if_neg c7] at H
                exact absurd H (by simp)
            · rw [if_neg c6] at H
              exact absurd H (by simp)
          · rw [if_neg c5] at H
            exact absurd H (by simp)
        · rw [if_neg c4] at H
          have c4b0 : decide (x13_1 < (l0.length : Int)) = false := decide_eq_false c4
          clear c4
          obtain rfl := Option.some.inj H
          go_wp2
          repeat (go_quiet (fail); try go_wp2)
          go_ret
          exact ⟨by first | rfl | (simp; done) | (simp [*]; done), by repeat (first | exact Drawn0.refl _ | apply Drawn0.step)⟩
  · rw [if_neg c3] at H
    have c3b0 : ((l0.length : Int) == (l1.length : Int)) = false := beq_eq_false_iff_ne.mpr c3
    have c3b1 : ((l0.length : Int) != (l1.length : Int)) = true := bne_iff_ne.mpr c3
    have c3b2 : (l0.length == l1.length) = false := by first | simpa using c3 | (simp at c3 ⊢; omega)
    obtain rfl := Option.some.inj H
    go_enter Try.func22, Try.ntmps22
    go_wp2
    repeat (go_quiet (fail); try go_wp2)
    go_ret
    exact ⟨by first | rfl | (simp; done) | (simp [*]; done), by repeat (first | exact Drawn0.refl _ | apply Drawn0.step)⟩

/-! ### hash_Valid: function 17 -/
def hash_Valid.f (k : Nat) (l0_0 : List Int) (l0_1 : List Int) (l1 : List (S24)) : Option (Bool) := (hash_Make.f l1 (l0_0.length : Int)).bind fun bt215 => (if bt215.2.2 = 0 then ((slices_Equal_int_int.f k l0_0 bt215.1).bind fun t223 => (if t223 = true then ((slices_Equal_int_int.f k l0_1 bt215.2.1).bind fun t224 => (some t224)) else (some false))) else (some false))
theorem hash_Valid.mono : ∀ a0 a1 a2 k, LeO (hash_Valid.f k a0 a1 a2) (hash_Valid.f (k + 1) a0 a1 a2) := by
  intro a0 a1 a2 k
  unfold hash_Valid.f
  repeat' first
      | (with_reducible exact slices_Equal_int_int.mono _ _ _)
      | (with_reducible exact LeO.refl _)
      | (with_reducible exact LeO.none _)
      | (with_reducible refine LeO.ite ?_ ?_)
      | (with_reducible refine LeO.bind ?_ (fun _ => ?_))
      | exact slices_Equal_int_int.mono _ _ _
      | exact LeO.none _
      | refine LeO.ite ?_ ?_
      | refine LeO.bind ?_ (fun _ => ?_)
set_option maxHeartbeats 8000000 in
set_option maxRecDepth 100000 in
theorem hash_Valid.calls (k : Nat) (A0_0 : Option Addr) (c0_0 : Nat) (l0_0 : List Int) (A0_1 : Option Addr) (c0_1 : Nat) (l0_1 : List Int) (A1 : Option Addr) (c1 : Nat) (l1 : List (S24)) (r : Bool) (w : World) (hr0_0 : Kd.C (Kd.int .i64) w A0_0 l0_0.length l0_0) (hc0_0 : l0_0.length ≤ c0_0) (hr0_1 : Kd.C (Kd.int .i64) w A0_1 l0_1.length l0_1) (hc0_1 : l0_1.length ≤ c0_1) (hr1 : Kd.C k24 w A1 l1.length l1) (hc1 : l1.length ≤ c1) (h : hash_Valid.f k l0_0 l0_1 l1 = some r) :
    Calls Try.prog 17 #[.agg #[.slice A0_0 l0_0.length c0_0, .slice A0_1 l0_1.length c0_1], .slice A1 l1.length c1] w fun e w' => e = .returned (.bool r) ∧ Below w.heap.size w w' := by
  have hu33 := Try.underlying33
  have HR0_0 := Aside0.mk hr0_0
  have HC0_0 := Aside0.mk hc0_0
  clear hr0_0 hc0_0
  have HR0_1 := Aside0.mk hr0_1
  have HC0_1 := Aside0.mk hc0_1
  clear hr0_1 hc0_1
  have HR1 := Aside0.mk hr1
  have HC1 := Aside0.mk hc1
  clear hr1 hc1
  have HB := Aside0.mk (Below.refl w.heap.size w)
  have H : ((hash_Make.f l1 (l0_0.length : Int)).bind fun bt215 => (if bt215.2.2 = 0 then ((slices_Equal_int_int.f k l0_0 bt215.1).bind fun t223 => (if t223 = true then ((slices_Equal_int_int.f k l0_1 bt215.2.1).bind fun t224 => (some t224)) else (some false))) else (some false))) = some r := h
  clear h
  replace H := Option.bind_eq_some_iff.mp H
  obtain ⟨⟨t215, t218, t221⟩, A30, H⟩ := H
  replace H : (if t221 = 0 then ((slices_Equal_int_int.f k l0_0 t215).bind fun t223 => (if t223 = true then ((slices_Equal_int_int.f k l0_1 t218).bind fun t224 => (some t224)) else (some false))) else (some false)) = some r := H
  have A3 := Aside0.mk A30
  clear A30
  by_cases c4 : t221 = 0
  · rw [if_pos c4] at H
    have c4b0 : (t221 == 0) = true := beq_iff_eq.mpr c4
    have c4b1 : (t221 != 0) = false := bne_eq_false_iff_eq.mpr c4
    clear c4
    replace H := Option.bind_eq_some_iff.mp H
    obtain ⟨t223, A50, H⟩ := H
    replace H : (if t223 = true then ((slices_Equal_int_int.f k l0_1 t218).bind fun t224 => (some t224)) else (some false)) = some r := H
    have A5 := Aside0.mk A50
    clear A50
    by_cases c6 : t223 = true
    · subst c6
      have H1 : ((slices_Equal_int_int.f k l0_1 t218).bind fun t224 => (some t224)) = some r := by rw [if_pos rfl] at H; exact H
      clear H
      have H := H1
      clear H1
      replace H := Option.bind_eq_some_iff.mp H
      obtain ⟨t224, A70, H⟩ := H
      replace H : (some t224) = some r := H
      have A7 := Aside0.mk A70
      clear A70
      obtain rfl := Option.some.inj H
      go_enter Try.func17, Try.ntmps17
      go_wp2_with (first | ((with_reducible refine gate_dst (N := 2) rfl ?_); refine box_event ?hg (N := 2) ?hd (cs := #[.slice A0_0 l0_0.length c0_0, .slice A0_1 l0_1.length c0_1]) (t := 33) ?hr ?_; (case hd => rfl); (case hg => rfl); (case hr => first | (go_simp; done) | (go_simp; rfl)); intro gb214 hg w8 hbox hb; have n0_ := Aside0.mk (below_step (by repeat (first | (with_reducible first | exact HB.out | apply below_alloc | apply pw_below_drewN | apply below_drew1) | exact HB.out)) hb); have n1_ := Aside0.mk (hbox); have n2_ := Aside0.mk ((by rw [hg]; exact (below_size (by repeat (first | (with_reducible first | exact HB.out | apply below_alloc | apply pw_below_drewN | apply below_drew1) | exact HB.out))) : w.heap.size ≤ gb214)); have n3_ := Aside0.mk ((by rw [hg]; exact (below_size (by repeat (first | (with_reducible first | exact HB.out | apply below_alloc | apply pw_below_drewN | apply below_drew1) | exact HB.out))) : w.heap.size ≤ gb214)); clear HB; have HB := n0_; have BK214 := n1_; have GW214 := n2_; have GE214 := n3_; clear n0_ n1_ n2_ n3_; clear hb hbox hg; have hcz9_0 : w8.cell? ⟨gb214, 0, none⟩ = some (.slice A0_0 l0_0.length c0_0) := (blk_cell BK214.out 0).trans rfl; have hcz9_1 : w8.cell? ⟨gb214, 1, none⟩ = some (.slice A0_1 l0_1.length c0_1) := (blk_cell BK214.out 1).trans rfl; have hfz9_0 := blk_frozen BK214.out 0; have hfz9_1 := blk_frozen BK214.out 1) | ((with_reducible refine gate_callee (f := 14) rfl ?_); refine goesL_ (some 12) rfl rfl Try.func14 (by kernel_rfl) rfl #[.slice A1 l1.length c1, .int .i64 (l0_0.length : Int)] rfl (by (try simp only [List.map_toArray, List.map_cons, List.map_nil]); first | done | rfl | (simp only [List.length_drop, List.length_take]; rfl)) ?_; (with_reducible refine (hash_Make.calls _ _ l1 (l0_0.length : Int) t215 t218 t221 _ ?side1 ?side2 A3.out).mono ?_); (case side1 => repeat (first | exact (Kd.C_below HR1.out HB.out) | (with_reducible refine Kd.C_alloc ?_ _) | (with_reducible refine Kd.C_drewN ?_ _) | (with_reducible refine Kd.C_drew ?_))); (case side2 => exact HC1.out); rintro e w10 ⟨v216, v219, rfl, ho0, ho1, hb⟩; refine ⟨_, rfl, ?_⟩; have n0_ := Aside0.mk (Kd.R_lower ho0 (below_size (by repeat (first | (with_reducible first | exact HB.out | apply below_alloc | apply pw_below_drewN | apply below_drew1 | refine below_set ?_ GE214.out) | exact HB.out)))); have n1_ := Aside0.mk (Kd.R_lower ho1 (below_size (by repeat (first | (with_reducible first | exact HB.out | apply below_alloc | apply pw_below_drewN | apply below_drew1 | refine below_set ?_ GE214.out) | exact HB.out)))); have n2_ := Aside0.mk (blk_below (g := gb214) (o := .cells #[.slice A0_0 l0_0.length c0_0, .slice A0_1 l0_1.length c0_1] 33 (0, 0)) (by (with_reducible repeat (first | refine blk_drewN ?_ _ | refine blk_drew ?_ | refine blk_alloc ?_ _)); exact BK214.out) hb); have n3_ := Aside0.mk (below_step (by repeat (first | (with_reducible first | exact HB.out | apply below_alloc | apply pw_below_drewN | apply below_drew1 | refine below_set ?_ GE214.out) | exact HB.out)) hb); clear BK214; clear HB; have HO217 := n0_; have HO220 := n1_; have BK214 := n2_; have HB := n3_; clear n0_ n1_ n2_ n3_; (try clear hb); (try clear hb2); (try clear hk); (try clear hi); (try clear ho0); (try clear ho1)) | ((with_reducible refine gate_dst (N := 5) rfl ?_); refine box_event ?hg (N := 5) ?hd (cs := #[.slice none 0 0, .slice none 0 0]) (t := 33) ?hr ?_; (case hd => rfl); (case hg => rfl); (case hr => first | (go_simp; done) | (go_simp; rfl)); intro gb222 hg w11 hbox hb; have n0_ := Aside0.mk (Kd.R_below (by (with_reducible repeat (first | apply Kd.R_alloc | apply Kd.R_drewN | apply Kd.R_drew)); exact HO217.out) hb); have n1_ := Aside0.mk (Kd.R_below (by (with_reducible repeat (first | apply Kd.R_alloc | apply Kd.R_drewN | apply Kd.R_drew)); exact HO220.out) hb); have n2_ := Aside0.mk (blk_below (g := gb214) (o := .cells #[.slice A0_0 l0_0.length c0_0, .slice A0_1 l0_1.length c0_1] 33 (0, 0)) (by (with_reducible repeat (first | refine blk_drewN ?_ _ | refine blk_drew ?_ | refine blk_alloc ?_ _)); exact BK214.out) hb); have n3_ := Aside0.mk (below_step (by repeat (first | (with_reducible first | exact HB.out | apply below_alloc | apply pw_below_drewN | apply below_drew1 | refine below_set ?_ GE214.out) | exact HB.out)) hb); have n4_ := Aside0.mk (hbox); have n5_ := Aside0.mk ((by rw [hg]; exact (below_size (by repeat (first | (with_reducible first | exact HB.out | apply below_alloc | apply pw_below_drewN | apply below_drew1 | refine below_set ?_ GE214.out) | exact HB.out))) : w.heap.size ≤ gb222)); have n6_ := Aside0.mk ((by rw [hg]; exact (below_size (by repeat (first | (with_reducible first | exact HB.out | apply below_alloc | apply pw_below_drewN | apply below_drew1 | refine below_set ?_ GE214.out) | exact HB.out))) : w.heap.size ≤ gb222)); have n7_ := Aside0.mk ((by rw [hg]; exact Nat.ne_of_lt (blk_lt (g := gb214) (o := .cells #[.slice A0_0 l0_0.length c0_0, .slice A0_1 l0_1.length c0_1] 33 (0, 0)) (by (with_reducible repeat (first | refine blk_drewN ?_ _ | refine blk_drew ?_ | refine blk_alloc ?_ _)); exact BK214.out)) : gb214 ≠ gb222)); have n8_ := Aside0.mk ((by rw [hg]; exact Nat.ne_of_gt (blk_lt (g := gb214) (o := .cells #[.slice A0_0 l0_0.length c0_0, .slice A0_1 l0_1.length c0_1] 33 (0, 0)) (by (with_reducible repeat (first | refine blk_drewN ?_ _ | refine blk_drew ?_ | refine blk_alloc ?_ _)); exact BK214.out)) : gb222 ≠ gb214)); clear HO217; clear HO220; clear BK214; clear HB; have HO217 := n0_; have HO220 := n1_; have BK214 := n2_; have HB := n3_; have BK222 := n4_; have GW222 := n5_; have GE222 := n6_; have NB214_222 := n7_; have NB222_214 := n8_; clear n0_ n1_ n2_ n3_ n4_ n5_ n6_ n7_ n8_; clear hb hbox hg; obtain ⟨Ao12, co12, eo12⟩ := Kd.R_slice HO217.out; subst eo12; have hnb13 := NB222_214.out; have hnc13 := NB214_222.out; have hcz14_0 : w11.cell? ⟨gb222, 0, none⟩ = some (.slice none 0 0) := (blk_cell BK222.out 0).trans rfl; have hcz14_1 : w11.cell? ⟨gb222, 1, none⟩ = some (.slice none 0 0) := (blk_cell BK222.out 1).trans rfl; have hfz14_0 := blk_frozen BK222.out 0; have hfz14_1 := blk_frozen BK222.out 1; obtain ⟨Ao15, co15, eo15⟩ := Kd.R_slice HO220.out; subst eo15; have hcz16_0 : w11.cell? ⟨gb214, 0, none⟩ = some (.slice A0_0 l0_0.length c0_0) := (blk_cell BK214.out 0).trans rfl; have hcz16_1 : w11.cell? ⟨gb214, 1, none⟩ = some (.slice A0_1 l0_1.length c0_1) := (blk_cell BK214.out 1).trans rfl; have hfz16_0 := blk_frozen BK214.out 0; have hfz16_1 := blk_frozen BK214.out 1) | (go_at_call 22; (with_reducible refine (slices_Equal_int_int.calls k _ _ l0_0 _ _ t215 true _ ?side1 ?side2 ?side3 ?side4 A5.out).mono ?_); (case side1 => exact Kd.C_below HR0_0.out (by repeat (first | (with_reducible first | exact HB.out | apply below_alloc | apply pw_below_drewN | apply below_drew1 | refine below_set ?_ GE214.out | refine below_set ?_ GE222.out) | exact HB.out))); (case side2 => exact HC0_0.out); (case side3 => refine (Kd.R_reads' (e := 3) (base := w.heap.size) (ok := fun k_ => some k_ ≠ (.slice Ao15 t218.length co15 : Value).ownBlock) (n := t215.length) (c := co12) ?_).2.2; exact (by (with_reducible repeat (first | apply Kd.R_alloc | apply Kd.R_drewN | apply Kd.R_drew)); exact (Kd.R_mono (Kd.R_far (p := ⟨gb222, 1, none⟩) (Kd.R_far (p := ⟨gb222, 0, none⟩) (Kd.R_types HO217.out BK222.out (by decide)) (fun _ hk => hk.2) (.slice Ao12 t215.length co12)) (fun _ hk => hk.2) (.slice Ao15 t218.length co15)) (fun _ h_ => h_.1)))); (case side4 => exact (Kd.R_reads' HO217.out).2.1); rintro e w' ⟨rfl, ⟨nd, rfl⟩⟩) | (go_at_call 22; (with_reducible refine (slices_Equal_int_int.calls k _ _ l0_1 _ _ t218 t224 _ ?side1 ?side2 ?side3 ?side4 A7.out).mono ?_); (case side1 => exact Kd.C_below HR0_1.out (by repeat (first | (with_reducible first | exact HB.out | apply below_alloc | apply pw_below_drewN | apply below_drew1 | refine below_set ?_ GE214.out | refine below_set ?_ GE222.out) | exact HB.out))); (case side2 => exact HC0_1.out); (case side3 => refine (Kd.R_reads' (e := 3) (base := w.heap.size) (ok := fun k_ => some k_ ≠ (.slice Ao12 t215.length co12 : Value).ownBlock) (n := t218.length) (c := co15) ?_).2.2; exact (by (with_reducible repeat (first | apply Kd.R_alloc | apply Kd.R_drewN | apply Kd.R_drew)); exact (Kd.R_mono (Kd.R_far (p := ⟨gb222, 1, none⟩) (Kd.R_far (p := ⟨gb222, 0, none⟩) (Kd.R_types HO220.out BK222.out (by decide)) (fun _ hk => hk.2) (.slice Ao12 t215.length co12)) (fun _ hk => hk.2) (.slice Ao15 t218.length co15)) (fun _ h_ => h_.1)))); (case side4 => exact (Kd.R_reads' HO220.out).2.1); rintro e w' ⟨rfl, ⟨nd, rfl⟩⟩))
      go_ret
      exact ⟨by first | rfl | (simp [errW_none, errW_some] <;> rfl) | (simp [*, errW_none, errW_some] <;> rfl), by repeat (first | (with_reducible first | exact HB.out | apply below_alloc | apply pw_below_drewN | apply below_drew1 | refine below_set ?_ GE214.out | refine below_set ?_ GE222.out) | exact HB.out)⟩
    · replace c6 := Bool.eq_false_iff.mpr c6
      subst c6
      have H1 : (some false) = some r := by rw [if_neg (show ¬ (false = true) by decide)] at H; exact H
      clear H
      have H := H1
      clear H1
      obtain rfl := Option.some.inj H
      go_enter Try.func17, Try.ntmps17
      go_wp2_with (first | ((with_reducible refine gate_dst (N := 2) rfl ?_); refine box_event ?hg (N := 2) ?hd (cs := #[.slice A0_0 l0_0.length c0_0, .slice A0_1 l0_1.length c0_1]) (t := 33) ?hr ?_; (case hd => rfl); (case hg => rfl); (case hr => first | (go_simp; done) | (go_simp; rfl)); intro gb214 hg w17 hbox hb; have n0_ := Aside0.mk (below_step (by repeat (first | (with_reducible first | exact HB.out | apply below_alloc | apply pw_below_drewN | apply below_drew1) | exact HB.out)) hb); have n1_ := Aside0.mk (hbox); have n2_ := Aside0.mk ((by rw [hg]; exact (below_size (by repeat (first | (with_reducible first | exact HB.out | apply below_alloc | apply pw_below_drewN | apply below_drew1) | exact HB.out))) : w.heap.size ≤ gb214)); have n3_ := Aside0.mk ((by rw [hg]; exact (below_size (by repeat (first | (with_reducible first | exact HB.out | apply below_alloc | apply pw_below_drewN | apply below_drew1) | exact HB.out))) : w.heap.size ≤ gb214)); clear HB; have HB := n0_; have BK214 := n1_; have GW214 := n2_; have GE214 := n3_; clear n0_ n1_ n2_ n3_; clear hb hbox hg; have hcz18_0 : w17.cell? ⟨gb214, 0, none⟩ = some (.slice A0_0 l0_0.length c0_0) := (blk_cell BK214.out 0).trans rfl; have hcz18_1 : w17.cell? ⟨gb214, 1, none⟩ = some (.slice A0_1 l0_1.length c0_1) := (blk_cell BK214.out 1).trans rfl; have hfz18_0 := blk_frozen BK214.out 0; have hfz18_1 := blk_frozen BK214.out 1) | ((with_reducible refine gate_callee (f := 14) rfl ?_); refine goesL_ (some 12) rfl rfl Try.func14 (by kernel_rfl) rfl #[.slice A1 l1.length c1, .int .i64 (l0_0.length : Int)] rfl (by (try simp only [List.map_toArray, List.map_cons, List.map_nil]); first | done | rfl | (simp only [List.length_drop, List.length_take]; rfl)) ?_; (with_reducible refine (hash_Make.calls _ _ l1 (l0_0.length : Int) t215 t218 t221 _ ?side1 ?side2 A3.out).mono ?_); (case side1 => repeat (first | exact (Kd.C_below HR1.out HB.out) | (with_reducible refine Kd.C_alloc ?_ _) | (with_reducible refine Kd.C_drewN ?_ _) | (with_reducible refine Kd.C_drew ?_))); (case side2 => exact HC1.out); rintro e w19 ⟨v216, v219, rfl, ho0, ho1, hb⟩; refine ⟨_, rfl, ?_⟩; have n0_ := Aside0.mk (Kd.R_lower ho0 (below_size (by repeat (first | (with_reducible first | exact HB.out | apply below_alloc | apply pw_below_drewN | apply below_drew1 | refine below_set ?_ GE214.out) | exact HB.out)))); have n1_ := Aside0.mk (Kd.R_lower ho1 (below_size (by repeat (first | (with_reducible first | exact HB.out | apply below_alloc | apply pw_below_drewN | apply below_drew1 | refine below_set ?_ GE214.out) | exact HB.out)))); have n2_ := Aside0.mk (blk_below (g := gb214) (o := .cells #[.slice A0_0 l0_0.length c0_0, .slice A0_1 l0_1.length c0_1] 33 (0, 0)) (by (with_reducible repeat (first | refine blk_drewN ?_ _ | refine blk_drew ?_ | refine blk_alloc ?_ _)); exact BK214.out) hb); have n3_ := Aside0.mk (below_step (by repeat (first | (with_reducible first | exact HB.out | apply below_alloc | apply pw_below_drewN | apply below_drew1 | refine below_set ?_ GE214.out) | exact HB.out)) hb); clear BK214; clear HB; have HO217 := n0_; have HO220 := n1_; have BK214 := n2_; have HB := n3_; clear n0_ n1_ n2_ n3_; (try clear hb); (try clear hb2); (try clear hk); (try clear hi); (try clear ho0); (try clear ho1)) | ((with_reducible refine gate_dst (N := 5) rfl ?_); refine box_event ?hg (N := 5) ?hd (cs := #[.slice none 0 0, .slice none 0 0]) (t := 33) ?hr ?_; (case hd => rfl); (case hg => rfl); (case hr => first | (go_simp; done) | (go_simp; rfl)); intro gb222 hg w20 hbox hb; have n0_ := Aside0.mk (Kd.R_below (by (with_reducible repeat (first | apply Kd.R_alloc | apply Kd.R_drewN | apply Kd.R_drew)); exact HO217.out) hb); have n1_ := Aside0.mk (Kd.R_below (by (with_reducible repeat (first | apply Kd.R_alloc | apply Kd.R_drewN | apply Kd.R_drew)); exact HO220.out) hb); have n2_ := Aside0.mk (blk_below (g := gb214) (o := .cells #[.slice A0_0 l0_0.length c0_0, .slice A0_1 l0_1.length c0_1] 33 (0, 0)) (by (with_reducible repeat (first | refine blk_drewN ?_ _ | refine blk_drew ?_ | refine blk_alloc ?_ _)); exact BK214.out) hb); have n3_ := Aside0.mk (below_step (by repeat (first | (with_reducible first | exact HB.out | apply below_alloc | apply pw_below_drewN | apply below_drew1 | refine below_set ?_ GE214.out) | exact HB.out)) hb); have n4_ := Aside0.mk (hbox); have n5_ := Aside0.mk ((by rw [hg]; exact (below_size (by repeat (first | (with_reducible first | exact HB.out | apply below_alloc | apply pw_below_drewN | apply below_drew1 | refine below_set ?_ GE214.out) | exact HB.out))) : w.heap.size ≤ gb222)); have n6_ := Aside0.mk ((by rw [hg]; exact (below_size (by repeat (first | (with_reducible first | exact HB.out | apply below_alloc | apply pw_below_drewN | apply below_drew1 | refine below_set ?_ GE214.out) | exact HB.out))) : w.heap.size ≤ gb222)); have n7_ := Aside0.mk ((by rw [hg]; exact Nat.ne_of_lt (blk_lt (g := gb214) (o := .cells #[.slice A0_0 l0_0.length c0_0, .slice A0_1 l0_1.length c0_1] 33 (0, 0)) (by (with_reducible repeat (first | refine blk_drewN ?_ _ | refine blk_drew ?_ | refine blk_alloc ?_ _)); exact BK214.out)) : gb214 ≠ gb222)); have n8_ := Aside0.mk ((by rw [hg]; exact Nat.ne_of_gt (blk_lt (g := gb214) (o := .cells #[.slice A0_0 l0_0.length c0_0, .slice A0_1 l0_1.length c0_1] 33 (0, 0)) (by (with_reducible repeat (first | refine blk_drewN ?_ _ | refine blk_drew ?_ | refine blk_alloc ?_ _)); exact BK214.out)) : gb222 ≠ gb214)); clear HO217; clear HO220; clear BK214; clear HB; have HO217 := n0_; have HO220 := n1_; have BK214 := n2_; have HB := n3_; have BK222 := n4_; have GW222 := n5_; have GE222 := n6_; have NB214_222 := n7_; have NB222_214 := n8_; clear n0_ n1_ n2_ n3_ n4_ n5_ n6_ n7_ n8_; clear hb hbox hg; obtain ⟨Ao21, co21, eo21⟩ := Kd.R_slice HO217.out; subst eo21; have hnb22 := NB222_214.out; have hnc22 := NB214_222.out; have hcz23_0 : w20.cell? ⟨gb222, 0, none⟩ = some (.slice none 0 0) := (blk_cell BK222.out 0).trans rfl; have hcz23_1 : w20.cell? ⟨gb222, 1, none⟩ = some (.slice none 0 0) := (blk_cell BK222.out 1).trans rfl; have hfz23_0 := blk_frozen BK222.out 0; have hfz23_1 := blk_frozen BK222.out 1; obtain ⟨Ao24, co24, eo24⟩ := Kd.R_slice HO220.out; subst eo24; have hcz25_0 : w20.cell? ⟨gb214, 0, none⟩ = some (.slice A0_0 l0_0.length c0_0) := (blk_cell BK214.out 0).trans rfl; have hcz25_1 : w20.cell? ⟨gb214, 1, none⟩ = some (.slice A0_1 l0_1.length c0_1) := (blk_cell BK214.out 1).trans rfl; have hfz25_0 := blk_frozen BK214.out 0; have hfz25_1 := blk_frozen BK214.out 1) | (go_at_call 22; (with_reducible refine (slices_Equal_int_int.calls k _ _ l0_0 _ _ t215 false _ ?side1 ?side2 ?side3 ?side4 A5.out).mono ?_); (case side1 => exact Kd.C_below HR0_0.out (by repeat (first | (with_reducible first | exact HB.out | apply below_alloc | apply pw_below_drewN | apply below_drew1 | refine below_set ?_ GE214.out | refine below_set ?_ GE222.out) | exact HB.out))); (case side2 => exact HC0_0.out); (case side3 => refine (Kd.R_reads' (e := 3) (base := w.heap.size) (ok := fun k_ => some k_ ≠ (.slice Ao24 t218.length co24 : Value).ownBlock) (n := t215.length) (c := co21) ?_).2.2; exact (by (with_reducible repeat (first | apply Kd.R_alloc | apply Kd.R_drewN | apply Kd.R_drew)); exact (Kd.R_mono (Kd.R_far (p := ⟨gb222, 1, none⟩) (Kd.R_far (p := ⟨gb222, 0, none⟩) (Kd.R_types HO217.out BK222.out (by decide)) (fun _ hk => hk.2) (.slice Ao21 t215.length co21)) (fun _ hk => hk.2) (.slice Ao24 t218.length co24)) (fun _ h_ => h_.1)))); (case side4 => exact (Kd.R_reads' HO217.out).2.1); rintro e w' ⟨rfl, ⟨nd, rfl⟩⟩))
      go_ret
      exact ⟨by first | rfl | (simp [errW_none, errW_some] <;> rfl) | (simp [*, errW_none, errW_some] <;> rfl), by repeat (first | (with_reducible first | exact HB.out | apply below_alloc | apply pw_below_drewN | apply below_drew1 | refine below_set ?_ GE214.out | refine below_set ?_ GE222.out) | exact HB.out)⟩
  · rw [if_neg c4] at H
    have c4b0 : (t221 == 0) = false := beq_eq_false_iff_ne.mpr c4
    have c4b1 : (t221 != 0) = true := bne_iff_ne.mpr c4
    obtain rfl := Option.some.inj H
    go_enter Try.func17, Try.ntmps17
    go_wp2_with (first | ((with_reducible refine gate_dst (N := 2) rfl ?_); refine box_event ?hg (N := 2) ?hd (cs := #[.slice A0_0 l0_0.length c0_0, .slice A0_1 l0_1.length c0_1]) (t := 33) ?hr ?_; (case hd => rfl); (case hg => rfl); (case hr => first | (go_simp; done) | (go_simp; rfl)); intro gb214 hg w26 hbox hb; have n0_ := Aside0.mk (below_step (by repeat (first | (with_reducible first | exact HB.out | apply below_alloc | apply pw_below_drewN | apply below_drew1) | exact HB.out)) hb); have n1_ := Aside0.mk (hbox); have n2_ := Aside0.mk ((by rw [hg]; exact (below_size (by repeat (first | (with_reducible first | exact HB.out | apply below_alloc | apply pw_below_drewN | apply below_drew1) | exact HB.out))) : w.heap.size ≤ gb214)); have n3_ := Aside0.mk ((by rw [hg]; exact (below_size (by repeat (first | (with_reducible first | exact HB.out | apply below_alloc | apply pw_below_drewN | apply below_drew1) | exact HB.out))) : w.heap.size ≤ gb214)); clear HB; have HB := n0_; have BK214 := n1_; have GW214 := n2_; have GE214 := n3_; clear n0_ n1_ n2_ n3_; clear hb hbox hg; have hcz27_0 : w26.cell? ⟨gb214, 0, none⟩ = some (.slice A0_0 l0_0.length c0_0) := (blk_cell BK214.out 0).trans rfl; have hcz27_1 : w26.cell? ⟨gb214, 1, none⟩ = some (.slice A0_1 l0_1.length c0_1) := (blk_cell BK214.out 1).trans rfl; have hfz27_0 := blk_frozen BK214.out 0; have hfz27_1 := blk_frozen BK214.out 1) | ((with_reducible refine gate_callee (f := 14) rfl ?_); refine goesL_ (some 12) rfl rfl Try.func14 (by kernel_rfl) rfl #[.slice A1 l1.length c1, .int .i64 (l0_0.length : Int)] rfl (by (try simp only [List.map_toArray, List.map_cons, List.map_nil]); first | done | rfl | (simp only [List.length_drop, List.length_take]; rfl)) ?_; (with_reducible refine (hash_Make.calls _ _ l1 (l0_0.length : Int) t215 t218 t221 _ ?side1 ?side2 A3.out).mono ?_); (case side1 => repeat (first | exact (Kd.C_below HR1.out HB.out) | (with_reducible refine Kd.C_alloc ?_ _) | (with_reducible refine Kd.C_drewN ?_ _) | (with_reducible refine Kd.C_drew ?_))); (case side2 => exact HC1.out); rintro e w28 ⟨v216, v219, rfl, ho0, ho1, hb⟩; refine ⟨_, rfl, ?_⟩; have n0_ := Aside0.mk (Kd.R_lower ho0 (below_size (by repeat (first | (with_reducible first | exact HB.out | apply below_alloc | apply pw_below_drewN | apply below_drew1 | refine below_set ?_ GE214.out) | exact HB.out)))); have n1_ := Aside0.mk (Kd.R_lower ho1 (below_size (by repeat (first | (with_reducible first | exact HB.out | apply below_alloc | apply pw_below_drewN | apply below_drew1 | refine below_set ?_ GE214.out) | exact HB.out)))); have n2_ := Aside0.mk (blk_below (g := gb214) (o := .cells #[.slice A0_0 l0_0.length c0_0, .slice A0_1 l0_1.length c0_1] 33 (0, 0)) (by (with_reducible repeat (first | refine blk_drewN ?_ _ | refine blk_drew ?_ | refine blk_alloc ?_ _)); exact BK214.out) hb); have n3_ := Aside0.mk (below_step (by repeat (first | (with_reducible first | exact HB.out | apply below_alloc | apply pw_below_drewN | apply below_drew1 | refine below_set ?_ GE214.out) | exact HB.out)) hb); clear BK214; clear HB; have HO217 := n0_; have HO220 := n1_; have BK214 := n2_; have HB := n3_; clear n0_ n1_ n2_ n3_; (try clear hb); (try clear hb2); (try clear hk); (try clear hi); (try clear ho0); (try clear ho1)) | ((with_reducible refine gate_dst (N := 5) rfl ?_); refine box_event ?hg (N := 5) ?hd (cs := #[.slice none 0 0, .slice none 0 0]) (t := 33) ?hr ?_; (case hd => rfl); (case hg => rfl); (case hr => first | (go_simp; done) | (go_simp; rfl)); intro gb222 hg w29 hbox hb; have n0_ := Aside0.mk (Kd.R_below (by (with_reducible repeat (first | apply Kd.R_alloc | apply Kd.R_drewN | apply Kd.R_drew)); exact HO217.out) hb); have n1_ := Aside0.mk (Kd.R_below (by (with_reducible repeat (first | apply Kd.R_alloc | apply Kd.R_drewN | apply Kd.R_drew)); exact HO220.out) hb); have n2_ := Aside0.mk (blk_below (g := gb214) (o := .cells #[.slice A0_0 l0_0.length c0_0, .slice A0_1 l0_1.length c0_1] 33 (0, 0)) (by (with_reducible repeat (first | refine blk_drewN ?_ _ | refine blk_drew ?_ | refine blk_alloc ?_ _)); exact BK214.out) hb); have n3_ := Aside0.mk (below_step (by repeat (first | (with_reducible first | exact HB.out | apply below_alloc | apply pw_below_drewN | apply below_drew1 | refine below_set ?_ GE214.out) | exact HB.out)) hb); have n4_ := Aside0.mk (hbox); have n5_ := Aside0.mk ((by rw [hg]; exact (below_size (by repeat (first | (with_reducible first | exact HB.out | apply below_alloc | apply pw_below_drewN | apply below_drew1 | refine below_set ?_ GE214.out) | exact HB.out))) : w.heap.size ≤ gb222)); have n6_ := Aside0.mk ((by rw [hg]; exact (below_size (by repeat (first | (with_reducible first | exact HB.out | apply below_alloc | apply pw_below_drewN | apply below_drew1 | refine below_set ?_ GE214.out) | exact HB.out))) : w.heap.size ≤ gb222)); have n7_ := Aside0.mk ((by rw [hg]; exact Nat.ne_of_lt (blk_lt (g := gb214) (o := .cells #[.slice A0_0 l0_0.length c0_0, .slice A0_1 l0_1.length c0_1] 33 (0, 0)) (by (with_reducible repeat (first | refine blk_drewN ?_ _ | refine blk_drew ?_ | refine blk_alloc ?_ _)); exact BK214.out)) : gb214 ≠ gb222)); have n8_ := Aside0.mk ((by rw [hg]; exact Nat.ne_of_gt (blk_lt (g := gb214) (o := .cells #[.slice A0_0 l0_0.length c0_0, .slice A0_1 l0_1.length c0_1] 33 (0, 0)) (by (with_reducible repeat (first | refine blk_drewN ?_ _ | refine blk_drew ?_ | refine blk_alloc ?_ _)); exact BK214.out)) : gb222 ≠ gb214)); clear HO217; clear HO220; clear BK214; clear HB; have HO217 := n0_; have HO220 := n1_; have BK214 := n2_; have HB := n3_; have BK222 := n4_; have GW222 := n5_; have GE222 := n6_; have NB214_222 := n7_; have NB222_214 := n8_; clear n0_ n1_ n2_ n3_ n4_ n5_ n6_ n7_ n8_; clear hb hbox hg; obtain ⟨Ao30, co30, eo30⟩ := Kd.R_slice HO217.out; subst eo30; have hnb31 := NB222_214.out; have hnc31 := NB214_222.out; have hcz32_0 : w29.cell? ⟨gb222, 0, none⟩ = some (.slice none 0 0) := (blk_cell BK222.out 0).trans rfl; have hcz32_1 : w29.cell? ⟨gb222, 1, none⟩ = some (.slice none 0 0) := (blk_cell BK222.out 1).trans rfl; have hfz32_0 := blk_frozen BK222.out 0; have hfz32_1 := blk_frozen BK222.out 1; obtain ⟨Ao33, co33, eo33⟩ := Kd.R_slice HO220.out; subst eo33))
    go_ret
    exact ⟨by first | rfl | (simp [errW_none, errW_some] <;> rfl) | (simp [*, errW_none, errW_some] <;> rfl), by repeat (first | (with_reducible first | exact HB.out | apply below_alloc | apply pw_below_drewN | apply below_drew1 | refine below_set ?_ GE214.out | refine below_set ?_ GE222.out) | exact HB.out)⟩

end Go.Proofs.Ytcoknhomlbbimaa.P
