/- What functions of the program, and of its laws, give, each proved of its code by a walk; no condition. -/
import Derived.Test.YtlbfeklpncoccaaKTableLessPx0
import Derived.Test.YtlbfeklpncoccaaKTableLessPx8
import Derived.Test.YtlbfeklpncoccaaKTableLessSq
import Derived.Test.YtlbfeklpncoccaaKTableLessUsh
import Derived.Test.YtlbfeklpncoccaaKTableLessUs4
namespace Go.Proofs.Ytlbfeklpncoccaa.P
open Go.RowKit Go.Proofs.YtlbfeklpncoccaaW.PrintWords Go.Proofs.YtlbfeklpncoccaaW.PrintLast Go.Proofs.YtlbfeklpncoccaaW.PrintMore
attribute [local go_sem] max2_int min2_int max_two min_two max_three min_three max_four min_four   -- for this text's walks alone
set_option linter.unusedVariables false
set_option linter.unusedSimpArgs false

mutual
def curtilageref10_names.l0 : Nat → Int → ByteArray → List ByteArray → List (S67) → List (S35) → List (S72) → List Int → List Int → Option (Bool)
  | 0, _, _, _, _, _, _, _, _ => none
  | k + 1, x4, x399000, x399001, x399002, x399003, x399004, x399005, x399006 => if x4 < (x399001.length : Int) then (if 0 ≤ x4 then ((curtilageref10_Name.f k (rdOf ByteArray.empty x399001 x4)).bind fun t401 => (if t401 = true then (curtilageref10_names.j1 k x4 ((rdOf ByteArray.empty x399001 x4).toList == x399000.toList) x399000 x399001 x399002 x399003 x399004 x399005 x399006) else (curtilageref10_names.j1 k x4 true x399000 x399001 x399002 x399003 x399004 x399005 x399006))) else (none)) else (some true)
def curtilageref10_names.j1 : Nat → Int → Bool → ByteArray → List ByteArray → List (S67) → List (S35) → List (S72) → List Int → List Int → Option (Bool)
  | 0, _, _, _, _, _, _, _, _, _ => none
  | k + 1, x4, x36, x399000, x399001, x399002, x399003, x399004, x399005, x399006 => if x36 = true then (some false) else (curtilageref10_names.l1 k x4 0 x399000 x399001 x399002 x399003 x399004 x399005 x399006)
def curtilageref10_names.l1 : Nat → Int → Int → ByteArray → List ByteArray → List (S67) → List (S35) → List (S72) → List Int → List Int → Option (Bool)
  | 0, _, _, _, _, _, _, _, _, _ => none
  | k + 1, x4, x6, x399000, x399001, x399002, x399003, x399004, x399005, x399006 => if x6 < x4 then (if 0 ≤ x6 then (if x6 < (x399001.length : Int) then (if 0 ≤ x4 then (if x4 < (x399001.length : Int) then (if (rdOf ByteArray.empty x399001 x6).toList = (rdOf ByteArray.empty x399001 x4).toList then (some false) else (curtilageref10_names.l1 k x4 (wrap64 (x6 + 1)) x399000 x399001 x399002 x399003 x399004 x399005 x399006)) else (none)) else (none)) else (none)) else (none)) else (curtilageref10_names.l0 k (wrap64 (x4 + 1)) x399000 x399001 x399002 x399003 x399004 x399005 x399006)
end
def curtilageref10_names.f (k : Nat) (a0_0 : ByteArray) (l0_1 : List ByteArray) (l0_2 : List (S67)) (l0_3 : List (S35)) (l0_4 : List (S72)) (l0_5 : List Int) (l0_6 : List Int) : Option (Bool) := (curtilageref10_Name.f k a0_0).bind fun t399 => (if t399 = true then (curtilageref10_names.l0 k 0 a0_0 l0_1 l0_2 l0_3 l0_4 l0_5 l0_6) else (some false))
theorem curtilageref10_names.mono_l : ∀ k, (∀ y0 y1 y2 y3 y4 y5 y6 y7, LeO (curtilageref10_names.l0 k y0 y1 y2 y3 y4 y5 y6 y7) (curtilageref10_names.l0 (k + 1) y0 y1 y2 y3 y4 y5 y6 y7)) ∧ (∀ y0 y1 y2 y3 y4 y5 y6 y7 y8, LeO (curtilageref10_names.j1 k y0 y1 y2 y3 y4 y5 y6 y7 y8) (curtilageref10_names.j1 (k + 1) y0 y1 y2 y3 y4 y5 y6 y7 y8)) ∧ (∀ y0 y1 y2 y3 y4 y5 y6 y7 y8, LeO (curtilageref10_names.l1 k y0 y1 y2 y3 y4 y5 y6 y7 y8) (curtilageref10_names.l1 (k + 1) y0 y1 y2 y3 y4 y5 y6 y7 y8))
  | 0 => ⟨fun _ _ _ _ _ _ _ _ r h => by simp [curtilageref10_names.l0] at h, fun _ _ _ _ _ _ _ _ _ r h => by simp [curtilageref10_names.j1] at h, fun _ _ _ _ _ _ _ _ _ r h => by simp [curtilageref10_names.l1] at h⟩
  | k + 1 => by
    obtain ⟨ih0, ih1, ih2⟩ := curtilageref10_names.mono_l k
    refine ⟨?_, ?_, ?_⟩
    · intro y0 y1 y2 y3 y4 y5 y6 y7
      unfold curtilageref10_names.l0
      repeat' first
      | (with_reducible exact ih0 _ _ _ _ _ _ _ _)
      | (with_reducible exact ih1 _ _ _ _ _ _ _ _ _)
      | (with_reducible exact ih2 _ _ _ _ _ _ _ _ _)
      | (with_reducible exact curtilageref10_Name.mono _ _)
      | (with_reducible exact LeO.refl _)
      | (with_reducible exact LeO.none _)
      | (with_reducible refine LeO.ite ?_ ?_)
      | (with_reducible refine LeO.bind ?_ (fun _ => ?_))
      | exact ih0 _ _ _ _ _ _ _ _
      | exact ih1 _ _ _ _ _ _ _ _ _
      | exact ih2 _ _ _ _ _ _ _ _ _
      | exact curtilageref10_Name.mono _ _
      | exact LeO.none _
      | refine LeO.ite ?_ ?_
      | refine LeO.bind ?_ (fun _ => ?_)
    · intro y0 y1 y2 y3 y4 y5 y6 y7 y8
      unfold curtilageref10_names.j1
      repeat' first
      | (with_reducible exact ih0 _ _ _ _ _ _ _ _)
      | (with_reducible exact ih1 _ _ _ _ _ _ _ _ _)
      | (with_reducible exact ih2 _ _ _ _ _ _ _ _ _)
      | (with_reducible exact curtilageref10_Name.mono _ _)
      | (with_reducible exact LeO.refl _)
      | (with_reducible exact LeO.none _)
      | (with_reducible refine LeO.ite ?_ ?_)
      | (with_reducible refine LeO.bind ?_ (fun _ => ?_))
      | exact ih0 _ _ _ _ _ _ _ _
      | exact ih1 _ _ _ _ _ _ _ _ _
      | exact ih2 _ _ _ _ _ _ _ _ _
      | exact curtilageref10_Name.mono _ _
      | exact LeO.none _
      | refine LeO.ite ?_ ?_
      | refine LeO.bind ?_ (fun _ => ?_)
    · intro y0 y1 y2 y3 y4 y5 y6 y7 y8
      unfold curtilageref10_names.l1
      repeat' first
      | (with_reducible exact ih0 _ _ _ _ _ _ _ _)
      | (with_reducible exact ih1 _ _ _ _ _ _ _ _ _)
      | (with_reducible exact ih2 _ _ _ _ _ _ _ _ _)
      | (with_reducible exact curtilageref10_Name.mono _ _)
      | (with_reducible exact LeO.refl _)
      | (with_reducible exact LeO.none _)
      | (with_reducible refine LeO.ite ?_ ?_)
      | (with_reducible refine LeO.bind ?_ (fun _ => ?_))
      | exact ih0 _ _ _ _ _ _ _ _
      | exact ih1 _ _ _ _ _ _ _ _ _
      | exact ih2 _ _ _ _ _ _ _ _ _
      | exact curtilageref10_Name.mono _ _
      | exact LeO.none _
      | refine LeO.ite ?_ ?_
      | refine LeO.bind ?_ (fun _ => ?_)
theorem curtilageref10_names.mono : ∀ a0 a1 a2 a3 a4 a5 a6 k, LeO (curtilageref10_names.f k a0 a1 a2 a3 a4 a5 a6) (curtilageref10_names.f (k + 1) a0 a1 a2 a3 a4 a5 a6) := by
  intro a0 a1 a2 a3 a4 a5 a6 k
  obtain ⟨ih0, ih1, ih2⟩ := curtilageref10_names.mono_l k
  unfold curtilageref10_names.f
  repeat' first
      | (with_reducible exact ih0 _ _ _ _ _ _ _ _)
      | (with_reducible exact ih1 _ _ _ _ _ _ _ _ _)
      | (with_reducible exact ih2 _ _ _ _ _ _ _ _ _)
      | (with_reducible exact curtilageref10_Name.mono _ _)
      | (with_reducible exact LeO.refl _)
      | (with_reducible exact LeO.none _)
      | (with_reducible refine LeO.ite ?_ ?_)
      | (with_reducible refine LeO.bind ?_ (fun _ => ?_))
      | exact ih0 _ _ _ _ _ _ _ _
      | exact ih1 _ _ _ _ _ _ _ _ _
      | exact ih2 _ _ _ _ _ _ _ _ _
      | exact curtilageref10_Name.mono _ _
      | exact LeO.none _
      | refine LeO.ite ?_ ?_
      | refine LeO.bind ?_ (fun _ => ?_)
set_option maxHeartbeats 8000000 in
set_option maxRecDepth 100000 in
theorem curtilageref10_names.calls (k : Nat) (a0_0 : ByteArray) (A0_1 : Option Addr) (c0_1 : Nat) (l0_1 : List ByteArray) (A0_2 : Option Addr) (c0_2 : Nat) (l0_2 : List (S67)) (A0_3 : Option Addr) (c0_3 : Nat) (l0_3 : List (S35)) (A0_4 : Option Addr) (c0_4 : Nat) (l0_4 : List (S72)) (A0_5 : Option Addr) (c0_5 : Nat) (l0_5 : List Int) (A0_6 : Option Addr) (c0_6 : Nat) (l0_6 : List Int) (r : Bool) (w : World) (hr0_1 : Kd.C Kd.string w A0_1 l0_1.length l0_1) (hc0_1 : l0_1.length ≤ c0_1) (hr0_2 : Kd.C k67 w A0_2 l0_2.length l0_2) (hc0_2 : l0_2.length ≤ c0_2) (hr0_3 : Kd.C k35 w A0_3 l0_3.length l0_3) (hc0_3 : l0_3.length ≤ c0_3) (hr0_4 : Kd.C k72 w A0_4 l0_4.length l0_4) (hc0_4 : l0_4.length ≤ c0_4) (hr0_5 : Kd.C (Kd.int .i64) w A0_5 l0_5.length l0_5) (hc0_5 : l0_5.length ≤ c0_5) (hr0_6 : Kd.C (Kd.int .i64) w A0_6 l0_6.length l0_6) (hc0_6 : l0_6.length ≤ c0_6) (h : curtilageref10_names.f k a0_0 l0_1 l0_2 l0_3 l0_4 l0_5 l0_6 = some r) :
  Calls Try.prog 40 #[.agg #[.string a0_0, .slice A0_1 l0_1.length c0_1, .slice A0_2 l0_2.length c0_2, .slice A0_3 l0_3.length c0_3, .slice A0_4 l0_4.length c0_4, .slice A0_5 l0_5.length c0_5, .slice A0_6 l0_6.length c0_6]] w fun e w' => e = .returned (.bool r) ∧ Below w.heap.size w w' := by
 have hu28 := Try.underlying28
 have HR0_1 := am hr0_1
 have HC0_1 := am hc0_1
 clear hr0_1 hc0_1
 have HR0_2 := am hr0_2
 have HC0_2 := am hc0_2
 clear hr0_2 hc0_2
 have HR0_3 := am hr0_3
 have HC0_3 := am hc0_3
 clear hr0_3 hc0_3
 have HR0_4 := am hr0_4
 have HC0_4 := am hc0_4
 clear hr0_4 hc0_4
 have HR0_5 := am hr0_5
 have HC0_5 := am hc0_5
 clear hr0_5 hc0_5
 have HR0_6 := am hr0_6
 have HC0_6 := am hc0_6
 clear hr0_6 hc0_6
 have HB := am (Below.refl w.heap.size w)
 have H : ((curtilageref10_Name.f k a0_0).bind fun t399 => (if t399 = true then (curtilageref10_names.l0 k 0 a0_0 l0_1 l0_2 l0_3 l0_4 l0_5 l0_6) else (some false))) = some r := h
 clear h
 replace H := Option.bind_eq_some_iff.mp H
 obtain ⟨t399, A20, H⟩ := H
 replace H : (if t399 = true then (curtilageref10_names.l0 k 0 a0_0 l0_1 l0_2 l0_3 l0_4 l0_5 l0_6) else (some false)) = some r := H
 have A2 := am A20
 clear A20
 by_cases c3 : t399 = true
 ·subst c3
  have H1 : (curtilageref10_names.l0 k 0 a0_0 l0_1 l0_2 l0_3 l0_4 l0_5 l0_6) = some r := by rw [if_pos rfl] at H; exact H
  clear H
  have H := H1
  clear H1
  have H' := am H
  clear H
  go_enter Try.func40, Try.ntmps40
  go_wp2_with (first | ((with_reducible refine gate_dst (N := 1) rfl ?_); refine box_event ?hg (N := 1) ?hd (cs := #[.string a0_0, .slice A0_1 l0_1.length c0_1, .slice A0_2 l0_2.length c0_2, .slice A0_3 l0_3.length c0_3, .slice A0_4 l0_4.length c0_4, .slice A0_5 l0_5.length c0_5, .slice A0_6 l0_6.length c0_6]) (t := 28) ?hr ?_; (case hd => rfl); (case hg => rfl); (case hr => first | (go_simp; done) | (go_simp; rfl)); intro gb398 hg w4 hbox hb; have n0_ := bs HB hb; have n1_ := am (hbox); have n2_ := nz HB hg; have n3_ := nz HB hg; revert n0_ n1_ n2_ n3_; clear HB; intro HB BK398 GW398 GE398; clear hb hbox hg; obtain ⟨hcz5_0, hcz5_1, hcz5_2, hcz5_3, hcz5_4, hcz5_5, hcz5_6, hfz5_0, hfz5_1, hfz5_2, hfz5_3, hfz5_4, hfz5_5, hfz5_6⟩ := cells7 BK398.out) | (go_at_call 58; (with_reducible refine (curtilageref10_Name.calls k a0_0 true _ A2.out).mono ?_); rintro e w' ⟨rfl, ⟨nd, rfl⟩⟩; (try first | exact ⟨rfl, _, World.drewN_drewN _ _ _⟩ | exact ⟨rfl, _, Eq.trans (World.drewN_drewN _ _ _) (congrArg (World.drewN _) (Nat.add_assoc _ _ _))⟩)))
  repeat (go_quiet (first | ((with_reducible refine gate_dst (N := 1) rfl ?_); refine box_event ?hg (N := 1) ?hd (cs := #[.string a0_0, .slice A0_1 l0_1.length c0_1, .slice A0_2 l0_2.length c0_2, .slice A0_3 l0_3.length c0_3, .slice A0_4 l0_4.length c0_4, .slice A0_5 l0_5.length c0_5, .slice A0_6 l0_6.length c0_6]) (t := 28) ?hr ?_; (case hd => rfl); (case hg => rfl); (case hr => first | (go_simp; done) | (go_simp; rfl)); intro gb398 hg w4 hbox hb; have n0_ := bs HB hb; have n1_ := am (hbox); have n2_ := nz HB hg; have n3_ := nz HB hg; revert n0_ n1_ n2_ n3_; clear HB; intro HB BK398 GW398 GE398; clear hb hbox hg; obtain ⟨hcz5_0, hcz5_1, hcz5_2, hcz5_3, hcz5_4, hcz5_5, hcz5_6, hfz5_0, hfz5_1, hfz5_2, hfz5_3, hfz5_4, hfz5_5, hfz5_6⟩ := cells7 BK398.out) | (go_at_call 58; (with_reducible refine (curtilageref10_Name.calls k a0_0 true _ A2.out).mono ?_); rintro e w' ⟨rfl, ⟨nd, rfl⟩⟩; (try first | exact ⟨rfl, _, World.drewN_drewN _ _ _⟩ | exact ⟨rfl, _, Eq.trans (World.drewN_drewN _ _ _) (congrArg (World.drewN _) (Nat.add_assoc _ _ _))⟩))); try go_wp2_with (first | ((with_reducible refine gate_dst (N := 1) rfl ?_); refine box_event ?hg (N := 1) ?hd (cs := #[.string a0_0, .slice A0_1 l0_1.length c0_1, .slice A0_2 l0_2.length c0_2, .slice A0_3 l0_3.length c0_3, .slice A0_4 l0_4.length c0_4, .slice A0_5 l0_5.length c0_5, .slice A0_6 l0_6.length c0_6]) (t := 28) ?hr ?_; (case hd => rfl); (case hg => rfl); (case hr => first | (go_simp; done) | (go_simp; rfl)); intro gb398 hg w4 hbox hb; have n0_ := bs HB hb; have n1_ := am (hbox); have n2_ := nz HB hg; have n3_ := nz HB hg; revert n0_ n1_ n2_ n3_; clear HB; intro HB BK398 GW398 GE398; clear hb hbox hg; obtain ⟨hcz5_0, hcz5_1, hcz5_2, hcz5_3, hcz5_4, hcz5_5, hcz5_6, hfz5_0, hfz5_1, hfz5_2, hfz5_3, hfz5_4, hfz5_5, hfz5_6⟩ := cells7 BK398.out) | (go_at_call 58; (with_reducible refine (curtilageref10_Name.calls k a0_0 true _ A2.out).mono ?_); rintro e w' ⟨rfl, ⟨nd, rfl⟩⟩; (try first | exact ⟨rfl, _, World.drewN_drewN _ _ _⟩ | exact ⟨rfl, _, Eq.trans (World.drewN_drewN _ _ _) (congrArg (World.drewN _) (Nat.add_assoc _ _ _))⟩))))
  go_loopg [4] k (fun kq v4 w' => ∃ (x4_1 : Int), v4 = .int .i64 x4_1 ∧ Aside0 (curtilageref10_names.l0 kq x4_1 a0_0 l0_1 l0_2 l0_3 l0_4 l0_5 l0_6 = some r) ∧ Aside0 (kq ≤ k) ∧ Aside0 (w'.heap[gb398]? = some (.cells #[.string a0_0, (.slice A0_1 l0_1.length c0_1), (.slice A0_2 l0_2.length c0_2), (.slice A0_3 l0_3.length c0_3), (.slice A0_4 l0_4.length c0_4), (.slice A0_5 l0_5.length c0_5), (.slice A0_6 l0_6.length c0_6)] 28 (0, 0))) ∧ Aside0 (Below w.heap.size w w'))
  case atStart => exact ⟨(0), uf, H', ⟨Nat.le_refl _⟩, ⟨ub BK398.out⟩, ⟨uc HB.out⟩⟩
  case round =>
   clear H'
   clear hcz5_0 hcz5_1 hcz5_2 hcz5_3 hcz5_4 hcz5_5 hcz5_6 hfz5_0 hfz5_1 hfz5_2 hfz5_3 hfz5_4 hfz5_5 hfz5_6
   obtain ⟨x4_1, rfl, HA, HK1, BK398, HB⟩ := hrel
   cases gk with
   | zero => exact absurd HA.out (by simp [curtilageref10_names.l0])
   | succ k1 =>
    have H := HA.out
    clear HA
    simp only [curtilageref10_names.l0] at H
    by_cases c6 : x4_1 < (l0_1.length : Int)
    ·rw [if_pos c6] at H
     have c6b0 := decide_eq_true c6
     clear c6
     obtain ⟨c7, H⟩ := ic H
     have c7b0 : decide (0 ≤ x4_1) = true := decide_eq_true c7
     clear c7
     replace H := Option.bind_eq_some_iff.mp H
     obtain ⟨t401, A80, H⟩ := H
     replace H : (if t401 = true then (curtilageref10_names.j1 k1 x4_1 ((rdOf ByteArray.empty l0_1 x4_1).toList == a0_0.toList) a0_0 l0_1 l0_2 l0_3 l0_4 l0_5 l0_6) else (curtilageref10_names.j1 k1 x4_1 true a0_0 l0_1 l0_2 l0_3 l0_4 l0_5 l0_6)) = some r := H
     have A8 := am A80
     clear A80
     have HC9 := am H
     clear H
     obtain ⟨hcz10_0, hcz10_1, hcz10_2, hcz10_3, hcz10_4, hcz10_5, hcz10_6, hfz10_0, hfz10_1, hfz10_2, hfz10_3, hfz10_4, hfz10_5, hfz10_6⟩ := cl7 BK398
     have p400 : 0 ≤ (x4_1 : Int) := ud
     have q400 : x4_1 < (l0_1.length : Int) := ud
     obtain ⟨ad400, e400, hx400_0⟩ := Kd.at_string HR0_1.out x4_1 p400 q400
     cases e400
     replace hx400_0 := bcel HB hx400_0
     replace p400 := eq_true p400
     replace q400 := eq_true q400
     go_upto_region 8 with (first | (go_at_call 58; (with_reducible refine (curtilageref10_Name.calls k1 (rdOf ByteArray.empty l0_1 x4_1) t401 _ A8.out).mono ?_); rintro e w' ⟨rfl, ⟨nd, rfl⟩⟩; (try first | exact ⟨rfl, _, World.drewN_drewN _ _ _⟩ | exact ⟨rfl, _, Eq.trans (World.drewN_drewN _ _ _) (congrArg (World.drewN _) (Nat.add_assoc _ _ _))⟩)))
     repeat (go_quiet (first | (go_at_call 58; (with_reducible refine (curtilageref10_Name.calls k1 (rdOf ByteArray.empty l0_1 x4_1) t401 _ A8.out).mono ?_); rintro e w' ⟨rfl, ⟨nd, rfl⟩⟩; (try first | exact ⟨rfl, _, World.drewN_drewN _ _ _⟩ | exact ⟨rfl, _, Eq.trans (World.drewN_drewN _ _ _) (congrArg (World.drewN _) (Nat.add_assoc _ _ _))⟩))); go_upto_region 8 with (first | (go_at_call 58; (with_reducible refine (curtilageref10_Name.calls k1 (rdOf ByteArray.empty l0_1 x4_1) t401 _ A8.out).mono ?_); rintro e w' ⟨rfl, ⟨nd, rfl⟩⟩; (try first | exact ⟨rfl, _, World.drewN_drewN _ _ _⟩ | exact ⟨rfl, _, Eq.trans (World.drewN_drewN _ _ _) (congrArg (World.drewN _) (Nat.add_assoc _ _ _))⟩))))
     (try simp only [Act.put, List.setIfInBounds_toArray, List.set_cons_zero, List.set_cons_succ])
     go_cut [36] (fun v36 wc => ∃ (kq : Nat) (x36_8 : Bool), v36 = .bool x36_8 ∧ Aside0 (curtilageref10_names.j1 kq x4_1 x36_8 a0_0 l0_1 l0_2 l0_3 l0_4 l0_5 l0_6 = some r) ∧ Aside0 (kq ≤ k1) ∧ Aside0 (wc.heap[gb398]? = some (.cells #[.string a0_0, (.slice (some ad400) l0_1.length c0_1), (.slice A0_2 l0_2.length c0_2), (.slice A0_3 l0_3.length c0_3), (.slice A0_4 l0_4.length c0_4), (.slice A0_5 l0_5.length c0_5), (.slice A0_6 l0_6.length c0_6)] 28 (0, 0))) ∧ Aside0 (Below w.heap.size w wc))
     case first =>
      have H := HC9.out
      clear HC9
      by_cases c11 : t401 = true
      ·subst c11
       have H1 : (curtilageref10_names.j1 k1 x4_1 ((rdOf ByteArray.empty l0_1 x4_1).toList == a0_0.toList) a0_0 l0_1 l0_2 l0_3 l0_4 l0_5 l0_6) = some r := by rw [if_pos rfl] at H; exact H
       clear H
       have H := H1
       clear H1
       have H' := am H
       clear H
       obtain ⟨hcz12_0, hcz12_1, hcz12_2, hcz12_3, hcz12_4, hcz12_5, hcz12_6, hfz12_0, hfz12_1, hfz12_2, hfz12_3, hfz12_4, hfz12_5, hfz12_6⟩ := cl7 BK398
       have p402 : 0 ≤ (x4_1 : Int) := ud
       have q402 : x4_1 < (l0_1.length : Int) := ud
       obtain ⟨ad402, e402, hx402_0⟩ := Kd.at_string HR0_1.out x4_1 p402 q402
       obtain rfl : ad400 = ad402 := (by injection e402)
       replace hx402_0 := bcel HB hx402_0
       replace p402 := eq_true p402
       replace q402 := eq_true q402
       go_wp2
       repeat (go_quiet (fail); try go_wp2)
       go_meet
       case rel => exact ⟨_, (((rdOf ByteArray.empty l0_1 x4_1).toList == a0_0.toList)), uf, H', ⟨by have := HK1.out; first | omega | exact Nat.le_refl _⟩, ⟨ub BK398.out⟩, ⟨uc HB.out⟩⟩
      ·replace c11 := Bool.eq_false_iff.mpr c11
       subst c11
       have H1 : (curtilageref10_names.j1 k1 x4_1 true a0_0 l0_1 l0_2 l0_3 l0_4 l0_5 l0_6) = some r := by rw [if_neg (show ¬ (false = true) by decide)] at H; exact H
       clear H
       have H := H1
       clear H1
       have H' := am H
       clear H
       go_wp2
       repeat (go_quiet (fail); try go_wp2)
       go_meet
       case rel => exact ⟨_, (true), uf, H', ⟨by have := HK1.out; first | omega | exact Nat.le_refl _⟩, ⟨ub BK398.out⟩, ⟨uc HB.out⟩⟩
     case rest =>
      clear HC9
      clear c6b0 c7b0 hcz10_0 hcz10_1 hcz10_2 hcz10_3 hcz10_4 hcz10_5 hcz10_6 hfz10_0 hfz10_1 hfz10_2 hfz10_3 hfz10_4 hfz10_5 hfz10_6 hx400_0 p400 q400
      obtain ⟨kq, x36_8, rfl, HA, HJ8, BK398, HB⟩ := hcut
      cases kq with
      | zero => exact absurd HA.out (by simp [curtilageref10_names.j1])
      | succ kj8 =>
       have H := HA.out
       clear HA
       simp only [curtilageref10_names.j1] at H
       by_cases c13 : x36_8 = true
       ·subst c13
        have H1 : (some false) = some r := by rw [if_pos rfl] at H; exact H
        clear H
        have H := H1
        clear H1
        obtain rfl := Option.some.inj H
        go_wp2
        repeat (go_quiet (fail); try go_wp2)
        go_ret
        exact ur (uc HB.out)
       ·replace c13 := Bool.eq_false_iff.mpr c13
        subst c13
        have H1 : (curtilageref10_names.l1 kj8 x4_1 0 a0_0 l0_1 l0_2 l0_3 l0_4 l0_5 l0_6) = some r := by rw [if_neg (show ¬ (false = true) by decide)] at H; exact H
        clear H
        have H := H1
        clear H1
        have H' := am H
        clear H
        go_wp2
        repeat (go_quiet (fail); try go_wp2)
        go_loopg [6] kj8 (fun kq v6 w' => ∃ (x6_3 : Int), v6 = .int .i64 x6_3 ∧ Aside0 (curtilageref10_names.l1 kq x4_1 x6_3 a0_0 l0_1 l0_2 l0_3 l0_4 l0_5 l0_6 = some r) ∧ Aside0 (kq ≤ kj8) ∧ Aside0 (w'.heap[gb398]? = some (.cells #[.string a0_0, (.slice (some ad400) l0_1.length c0_1), (.slice A0_2 l0_2.length c0_2), (.slice A0_3 l0_3.length c0_3), (.slice A0_4 l0_4.length c0_4), (.slice A0_5 l0_5.length c0_5), (.slice A0_6 l0_6.length c0_6)] 28 (0, 0))) ∧ Aside0 (Below w.heap.size w w'))
        case atStart => exact ⟨(0), uf, H', ⟨Nat.le_refl _⟩, ⟨ub BK398.out⟩, ⟨uc HB.out⟩⟩
        case round =>
         clear H'
         obtain ⟨x6_3, rfl, HA, HK3, BK398, HB⟩ := hrel
         cases gk with
         | zero => exact absurd HA.out (by simp [curtilageref10_names.l1])
         | succ k3 =>
          have H := HA.out
          clear HA
          simp only [curtilageref10_names.l1] at H
          by_cases c14 : x6_3 < x4_1
          ·rw [if_pos c14] at H
           have c14b0 := decide_eq_true c14
           clear c14
           obtain ⟨c15, H⟩ := ic H
           have c15b0 : decide (0 ≤ x6_3) = true := decide_eq_true c15
           clear c15
           obtain ⟨c16, H⟩ := ic H
           have c16b0 : decide (x6_3 < (l0_1.length : Int)) = true := decide_eq_true c16
           clear c16
           obtain ⟨c17, H⟩ := ic H
           have c17b0 : decide (0 ≤ x4_1) = true := decide_eq_true c17
           clear c17
           obtain ⟨c18, H⟩ := ic H
           have c18b0 : decide (x4_1 < (l0_1.length : Int)) = true := decide_eq_true c18
           clear c18
           by_cases c19 : (rdOf ByteArray.empty l0_1 x6_3).toList = (rdOf ByteArray.empty l0_1 x4_1).toList
           ·rw [if_pos c19] at H
            have c19b0 := beq_iff_eq.mpr c19
            have c19b1 := bne_eq_false_iff_eq.mpr c19
            clear c19
            obtain rfl := Option.some.inj H
            obtain ⟨hcz20_0, hcz20_1, hcz20_2, hcz20_3, hcz20_4, hcz20_5, hcz20_6, hfz20_0, hfz20_1, hfz20_2, hfz20_3, hfz20_4, hfz20_5, hfz20_6⟩ := cl7 BK398
            have p403 : 0 ≤ (x6_3 : Int) := ud
            have q403 : x6_3 < (l0_1.length : Int) := ud
            obtain ⟨ad403, e403, hx403_0⟩ := Kd.at_string HR0_1.out x6_3 p403 q403
            obtain rfl : ad400 = ad403 := (by injection e403)
            replace hx403_0 := bcel HB hx403_0
            replace p403 := eq_true p403
            replace q403 := eq_true q403
            have p404 : 0 ≤ (x4_1 : Int) := ud
            have q404 : x4_1 < (l0_1.length : Int) := ud
            obtain ⟨ad404, e404, hx404_0⟩ := Kd.at_string HR0_1.out x4_1 p404 q404
            obtain rfl : ad400 = ad404 := (by injection e404)
            replace hx404_0 := bcel HB hx404_0
            replace p404 := eq_true p404
            replace q404 := eq_true q404
            go_wp2
            repeat (go_quiet (fail); try go_wp2)
            go_ret
            exact ur (uc HB.out)
           ·rw [if_neg c19] at H
            have c19b0 := beq_eq_false_iff_ne.mpr c19
            have c19b1 := bne_iff_ne.mpr c19
            have H' := am H
            clear H
            obtain ⟨hcz21_0, hcz21_1, hcz21_2, hcz21_3, hcz21_4, hcz21_5, hcz21_6, hfz21_0, hfz21_1, hfz21_2, hfz21_3, hfz21_4, hfz21_5, hfz21_6⟩ := cl7 BK398
            have p403 : 0 ≤ (x6_3 : Int) := ud
            have q403 : x6_3 < (l0_1.length : Int) := ud
            obtain ⟨ad403, e403, hx403_0⟩ := Kd.at_string HR0_1.out x6_3 p403 q403
            obtain rfl : ad400 = ad403 := (by injection e403)
            replace hx403_0 := bcel HB hx403_0
            replace p403 := eq_true p403
            replace q403 := eq_true q403
            have p404 : 0 ≤ (x4_1 : Int) := ud
            have q404 : x4_1 < (l0_1.length : Int) := ud
            obtain ⟨ad404, e404, hx404_0⟩ := Kd.at_string HR0_1.out x4_1 p404 q404
            obtain rfl : ad400 = ad404 := (by injection e404)
            replace hx404_0 := bcel HB hx404_0
            replace p404 := eq_true p404
            replace q404 := eq_true q404
            go_wp2
            repeat (go_quiet (fail); try go_wp2)
            go_roundg k3
            case measure => have := HK1.out; have := HJ8.out; have := HK3.out; omega
            case rel => exact ⟨(wrap64 (x6_3 + 1)), uf, H', ⟨by have := HK1.out; have := HJ8.out; have := HK3.out; omega⟩, ⟨ub BK398.out⟩, ⟨uc HB.out⟩⟩
          ·rw [if_neg c14] at H
           have c14b0 := decide_eq_false c14
           clear c14
           have H' := am H
           clear H
           go_wp2
           repeat (go_quiet (fail); try go_wp2)
           go_roundg k3
           case measure => have := HK1.out; have := HJ8.out; have := HK3.out; omega
           case rel => exact ⟨(wrap64 (x4_1 + 1)), uf, H', ⟨by have := HK1.out; have := HJ8.out; have := HK3.out; omega⟩, ⟨ub BK398.out⟩, ⟨uc HB.out⟩⟩
    ·rw [if_neg c6] at H
     have c6b0 := decide_eq_false c6
     clear c6
     obtain rfl := Option.some.inj H
     obtain ⟨hcz22_0, hcz22_1, hcz22_2, hcz22_3, hcz22_4, hcz22_5, hcz22_6, hfz22_0, hfz22_1, hfz22_2, hfz22_3, hfz22_4, hfz22_5, hfz22_6⟩ := cl7 BK398
     go_wp2
     repeat (go_quiet (fail); try go_wp2)
     go_ret
     exact ur (uc HB.out)
 ·replace c3 := Bool.eq_false_iff.mpr c3
  subst c3
  have H1 : (some false) = some r := by rw [if_neg (show ¬ (false = true) by decide)] at H; exact H
  clear H
  have H := H1
  clear H1
  obtain rfl := Option.some.inj H
  go_enter Try.func40, Try.ntmps40
  go_wp2_with (first | ((with_reducible refine gate_dst (N := 1) rfl ?_); refine box_event ?hg (N := 1) ?hd (cs := #[.string a0_0, .slice A0_1 l0_1.length c0_1, .slice A0_2 l0_2.length c0_2, .slice A0_3 l0_3.length c0_3, .slice A0_4 l0_4.length c0_4, .slice A0_5 l0_5.length c0_5, .slice A0_6 l0_6.length c0_6]) (t := 28) ?hr ?_; (case hd => rfl); (case hg => rfl); (case hr => first | (go_simp; done) | (go_simp; rfl)); intro gb398 hg w23 hbox hb; have n0_ := bs HB hb; have n1_ := am (hbox); have n2_ := nz HB hg; have n3_ := nz HB hg; revert n0_ n1_ n2_ n3_; clear HB; intro HB BK398 GW398 GE398; clear hb hbox hg; obtain ⟨hcz24_0, hcz24_1, hcz24_2, hcz24_3, hcz24_4, hcz24_5, hcz24_6, hfz24_0, hfz24_1, hfz24_2, hfz24_3, hfz24_4, hfz24_5, hfz24_6⟩ := cells7 BK398.out) | (go_at_call 58; (with_reducible refine (curtilageref10_Name.calls k a0_0 false _ A2.out).mono ?_); rintro e w' ⟨rfl, ⟨nd, rfl⟩⟩; (try first | exact ⟨rfl, _, World.drewN_drewN _ _ _⟩ | exact ⟨rfl, _, Eq.trans (World.drewN_drewN _ _ _) (congrArg (World.drewN _) (Nat.add_assoc _ _ _))⟩)))
  repeat (go_quiet (first | ((with_reducible refine gate_dst (N := 1) rfl ?_); refine box_event ?hg (N := 1) ?hd (cs := #[.string a0_0, .slice A0_1 l0_1.length c0_1, .slice A0_2 l0_2.length c0_2, .slice A0_3 l0_3.length c0_3, .slice A0_4 l0_4.length c0_4, .slice A0_5 l0_5.length c0_5, .slice A0_6 l0_6.length c0_6]) (t := 28) ?hr ?_; (case hd => rfl); (case hg => rfl); (case hr => first | (go_simp; done) | (go_simp; rfl)); intro gb398 hg w23 hbox hb; have n0_ := bs HB hb; have n1_ := am (hbox); have n2_ := nz HB hg; have n3_ := nz HB hg; revert n0_ n1_ n2_ n3_; clear HB; intro HB BK398 GW398 GE398; clear hb hbox hg; obtain ⟨hcz24_0, hcz24_1, hcz24_2, hcz24_3, hcz24_4, hcz24_5, hcz24_6, hfz24_0, hfz24_1, hfz24_2, hfz24_3, hfz24_4, hfz24_5, hfz24_6⟩ := cells7 BK398.out) | (go_at_call 58; (with_reducible refine (curtilageref10_Name.calls k a0_0 false _ A2.out).mono ?_); rintro e w' ⟨rfl, ⟨nd, rfl⟩⟩; (try first | exact ⟨rfl, _, World.drewN_drewN _ _ _⟩ | exact ⟨rfl, _, Eq.trans (World.drewN_drewN _ _ _) (congrArg (World.drewN _) (Nat.add_assoc _ _ _))⟩))); try go_wp2_with (first | ((with_reducible refine gate_dst (N := 1) rfl ?_); refine box_event ?hg (N := 1) ?hd (cs := #[.string a0_0, .slice A0_1 l0_1.length c0_1, .slice A0_2 l0_2.length c0_2, .slice A0_3 l0_3.length c0_3, .slice A0_4 l0_4.length c0_4, .slice A0_5 l0_5.length c0_5, .slice A0_6 l0_6.length c0_6]) (t := 28) ?hr ?_; (case hd => rfl); (case hg => rfl); (case hr => first | (go_simp; done) | (go_simp; rfl)); intro gb398 hg w23 hbox hb; have n0_ := bs HB hb; have n1_ := am (hbox); have n2_ := nz HB hg; have n3_ := nz HB hg; revert n0_ n1_ n2_ n3_; clear HB; intro HB BK398 GW398 GE398; clear hb hbox hg; obtain ⟨hcz24_0, hcz24_1, hcz24_2, hcz24_3, hcz24_4, hcz24_5, hcz24_6, hfz24_0, hfz24_1, hfz24_2, hfz24_3, hfz24_4, hfz24_5, hfz24_6⟩ := cells7 BK398.out) | (go_at_call 58; (with_reducible refine (curtilageref10_Name.calls k a0_0 false _ A2.out).mono ?_); rintro e w' ⟨rfl, ⟨nd, rfl⟩⟩; (try first | exact ⟨rfl, _, World.drewN_drewN _ _ _⟩ | exact ⟨rfl, _, Eq.trans (World.drewN_drewN _ _ _) (congrArg (World.drewN _) (Nat.add_assoc _ _ _))⟩))))
  go_ret
  exact ur (uc HB.out)

end Go.Proofs.Ytlbfeklpncoccaa.P
