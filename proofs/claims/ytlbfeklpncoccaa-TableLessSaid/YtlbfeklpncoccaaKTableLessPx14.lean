/- What functions of the program, and of its laws, give, each proved of its code by a walk; no condition. -/
import Derived.Test.YtlbfeklpncoccaaKTableLessPx0
import Derived.Test.YtlbfeklpncoccaaKTableLessPx11
import Derived.Test.YtlbfeklpncoccaaKTableLessPx13
import Derived.Test.YtlbfeklpncoccaaKTableLessSq
import Derived.Test.YtlbfeklpncoccaaKTableLessUsh
import Derived.Test.YtlbfeklpncoccaaKTableLessUs4
namespace Go.Proofs.Ytlbfeklpncoccaa.P
open Go.RowKit Go.Proofs.YtlbfeklpncoccaaW.PrintWords Go.Proofs.YtlbfeklpncoccaaW.PrintLast Go.Proofs.YtlbfeklpncoccaaW.PrintMore
attribute [local go_sem] max2_int min2_int max_two min_two max_three min_three max_four min_four   -- for this text's walks alone
set_option linter.unusedVariables false
set_option linter.unusedSimpArgs false

mutual
def curtilageref10_relocs.l0 : Nat → Int → ByteArray → List ByteArray → List (S67) → List (S35) → List (S72) → List Int → List Int → Option (Bool)
  | 0, _, _, _, _, _, _, _, _ => none
  | k + 1, x3, x421000, x421001, x421002, x421003, x421004, x421005, x421006 => if x3 < (x421004.length : Int) then (if 0 ≤ x3 then (if (Int.tmod ((rd_T72 x421004 x3).f0) 32) = 0 then (if ((rd_T72 x421004 x3).f1) < 0 then (curtilageref10_relocs.j1 k x3 true x421000 x421001 x421002 x421003 x421004 x421005 x421006 ((rd_T72 x421004 x3).f0) ((rd_T72 x421004 x3).f1)) else (curtilageref10_relocs.j1 k x3 (decide (((rd_T72 x421004 x3).f1) ≥ (x421003.length : Int))) x421000 x421001 x421002 x421003 x421004 x421005 x421006 ((rd_T72 x421004 x3).f0) ((rd_T72 x421004 x3).f1))) else (curtilageref10_relocs.j1 k x3 true x421000 x421001 x421002 x421003 x421004 x421005 x421006 ((rd_T72 x421004 x3).f0) ((rd_T72 x421004 x3).f1))) else (none)) else (some true)
def curtilageref10_relocs.j1 : Nat → Int → Bool → ByteArray → List ByteArray → List (S67) → List (S35) → List (S72) → List Int → List Int → Int → Int → Option (Bool)
  | 0, _, _, _, _, _, _, _, _, _, _, _ => none
  | k + 1, x3, x35, x421000, x421001, x421002, x421003, x421004, x421005, x421006, x423000, x423001 => if x35 = true then (some false) else (if x3 > 0 then (if 0 ≤ (wrap64 (x3 - 1)) then (if (wrap64 (x3 - 1)) < (x421004.length : Int) then ((curtilageref10_Room.f x421000 x421001 x421002 x421003 x421004 x421005 x421006 ((rd_T72 x421004 (wrap64 (x3 - 1))).f1)).bind fun t425 => (curtilageref10_relocs.j2 k x3 (decide (x423000 < (IntKind.u64.wrap (((rd_T72 x421004 (wrap64 (x3 - 1))).f0) + t425)))) x421000 x421001 x421002 x421003 x421004 x421005 x421006 x423000 x423001)) else (none)) else (none)) else (curtilageref10_relocs.j2 k x3 false x421000 x421001 x421002 x421003 x421004 x421005 x421006 x423000 x423001))
def curtilageref10_relocs.j2 : Nat → Int → Bool → ByteArray → List ByteArray → List (S67) → List (S35) → List (S72) → List Int → List Int → Int → Int → Option (Bool)
  | 0, _, _, _, _, _, _, _, _, _, _, _ => none
  | k + 1, x3, x59, x421000, x421001, x421002, x421003, x421004, x421005, x421006, x423000, x423001 => if x59 = true then (some false) else ((curtilageref10_Room.f x421000 x421001 x421002 x421003 x421004 x421005 x421006 x423001).bind fun t426 => ((curtilageref10_At.f k x421000 x421001 x421002 x421003 x421004 x421005 x421006 x423000 t426).bind fun t427 => (if t427 < 0 then (some false) else (if 0 ≤ t427 then (if t427 < (x421002.length : Int) then (if ((rd_T67 x421002 t427).f2) = 2 then (curtilageref10_relocs.l0 k (wrap64 (x3 + 1)) x421000 x421001 x421002 x421003 x421004 x421005 x421006) else (if ((rd_T67 x421002 t427).f2) = 3 then (curtilageref10_relocs.l0 k (wrap64 (x3 + 1)) x421000 x421001 x421002 x421003 x421004 x421005 x421006) else (some false))) else (none)) else (none)))))
end
def curtilageref10_relocs.f (k : Nat) (a0_0 : ByteArray) (l0_1 : List ByteArray) (l0_2 : List (S67)) (l0_3 : List (S35)) (l0_4 : List (S72)) (l0_5 : List Int) (l0_6 : List Int) : Option (Bool) := curtilageref10_relocs.l0 k 0 a0_0 l0_1 l0_2 l0_3 l0_4 l0_5 l0_6
theorem curtilageref10_relocs.mono_l : ∀ k, (∀ y0 y1 y2 y3 y4 y5 y6 y7, LeO (curtilageref10_relocs.l0 k y0 y1 y2 y3 y4 y5 y6 y7) (curtilageref10_relocs.l0 (k + 1) y0 y1 y2 y3 y4 y5 y6 y7)) ∧ (∀ y0 y1 y2 y3 y4 y5 y6 y7 y8 y9 y10, LeO (curtilageref10_relocs.j1 k y0 y1 y2 y3 y4 y5 y6 y7 y8 y9 y10) (curtilageref10_relocs.j1 (k + 1) y0 y1 y2 y3 y4 y5 y6 y7 y8 y9 y10)) ∧ (∀ y0 y1 y2 y3 y4 y5 y6 y7 y8 y9 y10, LeO (curtilageref10_relocs.j2 k y0 y1 y2 y3 y4 y5 y6 y7 y8 y9 y10) (curtilageref10_relocs.j2 (k + 1) y0 y1 y2 y3 y4 y5 y6 y7 y8 y9 y10))
  | 0 => ⟨fun _ _ _ _ _ _ _ _ r h => by simp [curtilageref10_relocs.l0] at h, fun _ _ _ _ _ _ _ _ _ _ _ r h => by simp [curtilageref10_relocs.j1] at h, fun _ _ _ _ _ _ _ _ _ _ _ r h => by simp [curtilageref10_relocs.j2] at h⟩
  | k + 1 => by
    obtain ⟨ih0, ih1, ih2⟩ := curtilageref10_relocs.mono_l k
    refine ⟨?_, ?_, ?_⟩
    · intro y0 y1 y2 y3 y4 y5 y6 y7
      unfold curtilageref10_relocs.l0
      repeat' first
      | (with_reducible exact ih0 _ _ _ _ _ _ _ _)
      | (with_reducible exact ih1 _ _ _ _ _ _ _ _ _ _ _)
      | (with_reducible exact ih2 _ _ _ _ _ _ _ _ _ _ _)
      | (with_reducible exact curtilageref10_At.mono _ _ _ _ _ _ _ _ _ _)
      | (with_reducible exact LeO.refl _)
      | (with_reducible exact LeO.none _)
      | (with_reducible refine LeO.ite ?_ ?_)
      | (with_reducible refine LeO.bind ?_ (fun _ => ?_))
      | exact ih0 _ _ _ _ _ _ _ _
      | exact ih1 _ _ _ _ _ _ _ _ _ _ _
      | exact ih2 _ _ _ _ _ _ _ _ _ _ _
      | exact curtilageref10_At.mono _ _ _ _ _ _ _ _ _ _
      | exact LeO.none _
      | refine LeO.ite ?_ ?_
      | refine LeO.bind ?_ (fun _ => ?_)
    · intro y0 y1 y2 y3 y4 y5 y6 y7 y8 y9 y10
      unfold curtilageref10_relocs.j1
      repeat' first
      | (with_reducible exact ih0 _ _ _ _ _ _ _ _)
      | (with_reducible exact ih1 _ _ _ _ _ _ _ _ _ _ _)
      | (with_reducible exact ih2 _ _ _ _ _ _ _ _ _ _ _)
      | (with_reducible exact curtilageref10_At.mono _ _ _ _ _ _ _ _ _ _)
      | (with_reducible exact LeO.refl _)
      | (with_reducible exact LeO.none _)
      | (with_reducible refine LeO.ite ?_ ?_)
      | (with_reducible refine LeO.bind ?_ (fun _ => ?_))
      | exact ih0 _ _ _ _ _ _ _ _
      | exact ih1 _ _ _ _ _ _ _ _ _ _ _
      | exact ih2 _ _ _ _ _ _ _ _ _ _ _
      | exact curtilageref10_At.mono _ _ _ _ _ _ _ _ _ _
      | exact LeO.none _
      | refine LeO.ite ?_ ?_
      | refine LeO.bind ?_ (fun _ => ?_)
    · intro y0 y1 y2 y3 y4 y5 y6 y7 y8 y9 y10
      unfold curtilageref10_relocs.j2
      repeat' first
      | (with_reducible exact ih0 _ _ _ _ _ _ _ _)
      | (with_reducible exact ih1 _ _ _ _ _ _ _ _ _ _ _)
      | (with_reducible exact ih2 _ _ _ _ _ _ _ _ _ _ _)
      | (with_reducible exact curtilageref10_At.mono _ _ _ _ _ _ _ _ _ _)
      | (with_reducible exact LeO.refl _)
      | (with_reducible exact LeO.none _)
      | (with_reducible refine LeO.ite ?_ ?_)
      | (with_reducible refine LeO.bind ?_ (fun _ => ?_))
      | exact ih0 _ _ _ _ _ _ _ _
      | exact ih1 _ _ _ _ _ _ _ _ _ _ _
      | exact ih2 _ _ _ _ _ _ _ _ _ _ _
      | exact curtilageref10_At.mono _ _ _ _ _ _ _ _ _ _
      | exact LeO.none _
      | refine LeO.ite ?_ ?_
      | refine LeO.bind ?_ (fun _ => ?_)
theorem curtilageref10_relocs.mono : ∀ a0 a1 a2 a3 a4 a5 a6 k, LeO (curtilageref10_relocs.f k a0 a1 a2 a3 a4 a5 a6) (curtilageref10_relocs.f (k + 1) a0 a1 a2 a3 a4 a5 a6) := by
  intro a0 a1 a2 a3 a4 a5 a6 k
  obtain ⟨ih0, ih1, ih2⟩ := curtilageref10_relocs.mono_l k
  unfold curtilageref10_relocs.f
  repeat' first
      | (with_reducible exact ih0 _ _ _ _ _ _ _ _)
      | (with_reducible exact ih1 _ _ _ _ _ _ _ _ _ _ _)
      | (with_reducible exact ih2 _ _ _ _ _ _ _ _ _ _ _)
      | (with_reducible exact curtilageref10_At.mono _ _ _ _ _ _ _ _ _ _)
      | (with_reducible exact LeO.refl _)
      | (with_reducible exact LeO.none _)
      | (with_reducible refine LeO.ite ?_ ?_)
      | (with_reducible refine LeO.bind ?_ (fun _ => ?_))
      | exact ih0 _ _ _ _ _ _ _ _
      | exact ih1 _ _ _ _ _ _ _ _ _ _ _
      | exact ih2 _ _ _ _ _ _ _ _ _ _ _
      | exact curtilageref10_At.mono _ _ _ _ _ _ _ _ _ _
      | exact LeO.none _
      | refine LeO.ite ?_ ?_
      | refine LeO.bind ?_ (fun _ => ?_)
def curtilageref10_relocs.T7 : Bool × List (List Nat × List Nat) := (true, [([], []), ([0], [0]), ([1], [1]), ([2], [2]), ([3, 2], [2, 3]), ([2], [2]), ([5, 2], [2, 5]), ([2], [2]), ([7, 2], [2, 7]), ([6, 8, 2], [2, 6, 8]), ([9, 2], [2, 9]), ([10, 2], [2, 10]), ([2], [2]), ([2], [2]), ([13, 2], [2, 13]), ([2], [2]), ([15, 2], [2, 15]), ([14, 16, 2], [2, 14, 16]), ([17, 2], [2, 17]), ([18, 2], [2, 18]), ([12, 19, 2, 2], [2, 12, 19]), ([11, 20, 2], [2, 11, 20]), ([4, 21, 2], [2, 4, 21]), ([2, 22], [2, 22])])
def curtilageref10_relocs.B7 : List Nat := [0, 1, 3, 7, 15, 7, 39, 7, 135, 487, 999, 2023, 7, 7, 8199, 7, 32775, 122887, 253959, 516103, 1044487, 2097127, 4194303, 8388607]
theorem curtilageref10_relocs.tab7 : rtab .any (opsOf Try.f43 7) = curtilageref10_relocs.T7 := by kernel_rfl
theorem curtilageref10_relocs.bits7 : waitsOk curtilageref10_relocs.T7.2 curtilageref10_relocs.B7 = true := by kernel_rfl
def curtilageref10_relocs.T9 : Bool × List (List Nat × List Nat) := (true, [([], []), ([], []), ([1], [1]), ([], []), ([], []), ([4], [4]), ([3, 5], [3, 5]), ([0, 2, 6, 6], [0, 2, 6]), ([7, 7, 0, 1, 2, 3, 4, 5, 6, 7], [7])])
def curtilageref10_relocs.B9 : List Nat := [0, 0, 2, 0, 0, 16, 56, 127, 255]
theorem curtilageref10_relocs.tab9 : rtab .any (opsOf Try.f43 9) = curtilageref10_relocs.T9 := by kernel_rfl
theorem curtilageref10_relocs.bits9 : waitsOk curtilageref10_relocs.T9.2 curtilageref10_relocs.B9 = true := by kernel_rfl
set_option maxHeartbeats 8000000 in
set_option maxRecDepth 100000 in
theorem curtilageref10_relocs.calls (k : Nat) (a0_0 : ByteArray) (A0_1 : Option Addr) (c0_1 : Nat) (l0_1 : List ByteArray) (A0_2 : Option Addr) (c0_2 : Nat) (l0_2 : List (S67)) (A0_3 : Option Addr) (c0_3 : Nat) (l0_3 : List (S35)) (A0_4 : Option Addr) (c0_4 : Nat) (l0_4 : List (S72)) (A0_5 : Option Addr) (c0_5 : Nat) (l0_5 : List Int) (A0_6 : Option Addr) (c0_6 : Nat) (l0_6 : List Int) (r : Bool) (w : World) (hr0_1 : Kd.C Kd.string w A0_1 l0_1.length l0_1) (hc0_1 : l0_1.length ≤ c0_1) (hr0_2 : Kd.C k67 w A0_2 l0_2.length l0_2) (hc0_2 : l0_2.length ≤ c0_2) (hr0_3 : Kd.C k35 w A0_3 l0_3.length l0_3) (hc0_3 : l0_3.length ≤ c0_3) (hr0_4 : Kd.C k72 w A0_4 l0_4.length l0_4) (hc0_4 : l0_4.length ≤ c0_4) (hr0_5 : Kd.C (Kd.int .i64) w A0_5 l0_5.length l0_5) (hc0_5 : l0_5.length ≤ c0_5) (hr0_6 : Kd.C (Kd.int .i64) w A0_6 l0_6.length l0_6) (hc0_6 : l0_6.length ≤ c0_6) (h : curtilageref10_relocs.f k a0_0 l0_1 l0_2 l0_3 l0_4 l0_5 l0_6 = some r) :
  Calls Try.prog 43 #[.agg #[.string a0_0, .slice A0_1 l0_1.length c0_1, .slice A0_2 l0_2.length c0_2, .slice A0_3 l0_3.length c0_3, .slice A0_4 l0_4.length c0_4, .slice A0_5 l0_5.length c0_5, .slice A0_6 l0_6.length c0_6]] w fun e w' => e = .returned (.bool r) ∧ Below w.heap.size w w' := by
 have hu28 := Try.underlying28
 have hu72 := Try.underlying72
 have HR0_1 := am hr0_1
 have HC0_1 := am hc0_1
 clear hr0_1 hc0_1
 have HR0_2 := am hr0_2
 have HC0_2 := am hc0_2
 clear hr0_2 hc0_2
 have HR0_3 := am hr0_3
 have HC0_3 := am hc0_3
 clear hr0_3 hc0_3
 have HR0_4 := am hr0_4
 have HC0_4 := am hc0_4
 clear hr0_4 hc0_4
 have HR0_5 := am hr0_5
 have HC0_5 := am hc0_5
 clear hr0_5 hc0_5
 have HR0_6 := am hr0_6
 have HC0_6 := am hc0_6
 clear hr0_6 hc0_6
 have HB := am (Below.refl w.heap.size w)
 have H : (curtilageref10_relocs.l0 k 0 a0_0 l0_1 l0_2 l0_3 l0_4 l0_5 l0_6) = some r := h
 clear h
 have H' := am H
 clear H
 go_enter Try.func43, Try.ntmps43
 go_wp2_with (first | ((with_reducible refine gate_dst (N := 1) rfl ?_); (try (refine gate_guard (by rfl) ?_; dsimp only)); refine box_event ?hg (N := 1) ?hd (cs := #[.string a0_0, .slice A0_1 l0_1.length c0_1, .slice A0_2 l0_2.length c0_2, .slice A0_3 l0_3.length c0_3, .slice A0_4 l0_4.length c0_4, .slice A0_5 l0_5.length c0_5, .slice A0_6 l0_6.length c0_6]) (t := 28) ?hr ?_; (case hd => rfl); (case hg => rfl); (case hr => first | (go_simp; done) | (go_simp; rfl)); intro gb420 hg w2 hbox hb; have n0_ := bs HB hb; have n1_ := am (hbox); have n2_ := nz HB hg; have n3_ := nz HB hg; revert n0_ n1_ n2_ n3_; clear HB; intro HB BK420 GW420 GE420; clear hb hbox hg))
 go_loopg [3] k (fun kq v3 w' => ∃ (x3_1 : Int), v3 = .int .i64 x3_1 ∧ Aside0 (curtilageref10_relocs.l0 kq x3_1 a0_0 l0_1 l0_2 l0_3 l0_4 l0_5 l0_6 = some r) ∧ Aside0 (kq ≤ k) ∧ Aside0 (w'.heap[gb420]? = some (.cells #[.string a0_0, (.slice A0_1 l0_1.length c0_1), (.slice A0_2 l0_2.length c0_2), (.slice A0_3 l0_3.length c0_3), (.slice A0_4 l0_4.length c0_4), (.slice A0_5 l0_5.length c0_5), (.slice A0_6 l0_6.length c0_6)] 28 (0, 0))) ∧ Aside0 (Below w.heap.size w w'))
 case atStart => exact ⟨(0), uf, H', ⟨Nat.le_refl _⟩, ⟨ub BK420.out⟩, ⟨uc HB.out⟩⟩
 case round =>
  clear H'
  obtain ⟨x3_1, rfl, HA, HK1, BK420, HB⟩ := hrel
  cases gk with
  | zero => exact absurd HA.out (by simp [curtilageref10_relocs.l0])
  | succ k1 =>
   have H := HA.out
   clear HA
   simp only [curtilageref10_relocs.l0] at H
   by_cases c3 : x3_1 < (l0_4.length : Int)
   ·rw [if_pos c3] at H
    have c3b0 := decide_eq_true c3
    clear c3
    obtain ⟨c4, H⟩ := ic H
    have c4b0 : decide (0 ≤ x3_1) = true := decide_eq_true c4
    clear c4
    have HC5 := am H
    clear H
    obtain ⟨hcz6_0, hcz6_1, hcz6_2, hcz6_3, hcz6_4, hcz6_5, hcz6_6, hfz6_0, hfz6_1, hfz6_2, hfz6_3, hfz6_4, hfz6_5, hfz6_6⟩ := cl7 BK420
    have p421 : 0 ≤ (x3_1 : Int) := ud
    have q421 : x3_1 < (l0_4.length : Int) := ud
    obtain ⟨ad421, e421, hx421_0, hx421_1⟩ := at_T72 HR0_4.out x3_1 p421 q421
    cases e421
    replace hx421_0 := bcel HB hx421_0
    replace hx421_1 := bcel HB hx421_1
    replace p421 := eq_true p421
    replace q421 := eq_true q421
    go_upto_region 5 with (first | ((with_reducible refine gate_dst (N := 4) rfl ?_); (try (refine gate_guard (by rfl) ?_; dsimp only)); refine box_event ?hg (N := 4) ?hd (cs := #[.int .u64 0, .int .i64 0]) (t := 72) ?hr ?_; (case hd => rfl); (case hg => rfl); (case hr => first | (go_simp; done) | (go_simp; rfl)); intro gb422 hg w7 hbox hb; have n0_ := bw BK420 hb; have n1_ := bs HB hb; have n2_ := am (hbox); have n3_ := nz HB hg; have n4_ := nz HB hg; have n5_ := nl BK420 hg; have n6_ := nr BK420 hg; revert n0_ n1_ n2_ n3_ n4_ n5_ n6_; clear BK420 HB; intro BK420 HB BK422 GW422 GE422 NB420_422 NB422_420; clear hb hbox hg; have hnb8 := NB422_420.out; have hnc8 := NB420_422.out; obtain ⟨hcz9_0, hcz9_1, hfz9_0, hfz9_1⟩ := cells2 BK422.out) | ((with_reducible refine gate_store (t := 72) (p := 4) rfl ?_); refine store_event (t := 72) (p := 4) (v := ?vo_w10) (w1 := ((w7.setCell ⟨gb422, 0, none⟩ (.int .u64 ((rd_T72 l0_4 x3_1).f0))).setCell ⟨gb422, 1, none⟩ (.int .i64 ((rd_T72 l0_4 x3_1).f1)))) ?hg ?ho ?hn ?hr ?_; (case ho => rfl); (case hg => rfl); (case hn => rfl); (case hr => first | (go_simp; done) | (go_simp; rfl)); intro w10 hw; have n0_ := bf2 hw NB420_422 BK420; have n1_ := bp2 #[.int .u64 ((rd_T72 l0_4 x3_1).f0), .int .i64 ((rd_T72 l0_4 x3_1).f1)] hw BK422; have n2_ : Aside0 (Below w.heap.size w w10) := ⟨(by rw [hw]; exact (uc HB.out))⟩; revert n0_ n1_ n2_; clear hw BK420 BK422 HB; intro BK420 BK422 HB))
    (try simp only [Act.put, List.setIfInBounds_toArray, List.set_cons_zero, List.set_cons_succ])
    go_cut [35] (fun v35 wc => ∃ (kq : Nat) (x35_4 : Bool), v35 = .bool x35_4 ∧ Aside0 (curtilageref10_relocs.j1 kq x3_1 x35_4 a0_0 l0_1 l0_2 l0_3 l0_4 l0_5 l0_6 ((rd_T72 l0_4 x3_1).f0) ((rd_T72 l0_4 x3_1).f1) = some r) ∧ Aside0 (kq ≤ k1) ∧ Aside0 (wc.heap[gb420]? = some (.cells #[.string a0_0, (.slice A0_1 l0_1.length c0_1), (.slice A0_2 l0_2.length c0_2), (.slice A0_3 l0_3.length c0_3), (.slice (some ad421) l0_4.length c0_4), (.slice A0_5 l0_5.length c0_5), (.slice A0_6 l0_6.length c0_6)] 28 (0, 0))) ∧ Aside0 (wc.heap[gb422]? = some (.cells #[.int .u64 ((rd_T72 l0_4 x3_1).f0), .int .i64 ((rd_T72 l0_4 x3_1).f1)] 72 (0, 0))) ∧ Aside0 (Below w.heap.size w wc))
    case first =>
     have H := HC5.out
     clear HC5
     by_cases c11 : (Int.tmod ((rd_T72 l0_4 x3_1).f0) 32) = 0
     ·rw [if_pos c11] at H
      have c11b0 := beq_iff_eq.mpr c11
      have c11b1 := bne_eq_false_iff_eq.mpr c11
      clear c11
      (first | rw [c11b0] | (simp only [i64_w, i32_w]; rw [c11b0]) | skip)
      by_cases c12 : ((rd_T72 l0_4 x3_1).f1) < 0
      ·rw [if_pos c12] at H
       have c12b0 := decide_eq_true c12
       clear c12
       have H' := am H
       clear H
       have hnb13 := NB422_420.out
       have hnc13 := NB420_422.out
       obtain ⟨hcz14_0, hcz14_1, hfz14_0, hfz14_1⟩ := cl2 BK422
       go_wp2
       go_meet
       case rel => exact ⟨_, (true), uf, H', ⟨by have := HK1.out; first | omega | exact Nat.le_refl _⟩, ⟨ub BK420.out⟩, ⟨ub BK422.out⟩, ⟨uc HB.out⟩⟩
      ·rw [if_neg c12] at H
       have c12b0 := decide_eq_false c12
       clear c12
       have H' := am H
       clear H
       have hnb15 := NB422_420.out
       have hnc15 := NB420_422.out
       obtain ⟨hcz16_0, hcz16_1, hfz16_0, hfz16_1⟩ := cl2 BK422
       obtain ⟨hcz17_0, hcz17_1, hcz17_2, hcz17_3, hcz17_4, hcz17_5, hcz17_6, hfz17_0, hfz17_1, hfz17_2, hfz17_3, hfz17_4, hfz17_5, hfz17_6⟩ := cl7 BK420
       go_wp2
       go_meet
       case rel => exact ⟨_, (decide (((rd_T72 l0_4 x3_1).f1) ≥ (l0_3.length : Int))), uf, H', ⟨by have := HK1.out; first | omega | exact Nat.le_refl _⟩, ⟨ub BK420.out⟩, ⟨ub BK422.out⟩, ⟨uc HB.out⟩⟩
     ·rw [if_neg c11] at H
      have c11b0 := beq_eq_false_iff_ne.mpr c11
      have c11b1 := bne_iff_ne.mpr c11
      (first | rw [c11b0] | (simp only [i64_w, i32_w]; rw [c11b0]) | skip)
      have H' := am H
      clear H
      have hnb18 := NB422_420.out
      have hnc18 := NB420_422.out
      obtain ⟨hcz19_0, hcz19_1, hfz19_0, hfz19_1⟩ := cl2 BK422
      go_wp2
      go_meet
      case rel => exact ⟨_, (true), uf, H', ⟨by have := HK1.out; first | omega | exact Nat.le_refl _⟩, ⟨ub BK420.out⟩, ⟨ub BK422.out⟩, ⟨uc HB.out⟩⟩
    case rest =>
     clear HC5
     clear c3b0 c4b0 hcz6_0 hcz6_1 hcz6_2 hcz6_3 hcz6_4 hcz6_5 hcz6_6 hcz9_0 hcz9_1 hfz6_0 hfz6_1 hfz6_2 hfz6_3 hfz6_4 hfz6_5 hfz6_6 hfz9_0 hfz9_1 hx421_0 hx421_1 p421 q421
     obtain ⟨kq, x35_4, rfl, HA, HJ4, BK420, BK422, HB⟩ := hcut
     cases kq with
     | zero => exact absurd HA.out (by simp [curtilageref10_relocs.j1])
     | succ kj4 =>
      have H := HA.out
      clear HA
      simp only [curtilageref10_relocs.j1] at H
      by_cases c20 : x35_4 = true
      ·subst c20
       have H1 : (some false) = some r := by rw [if_pos rfl] at H; exact H
       clear H
       have H := H1
       clear H1
       obtain rfl := Option.some.inj H
       go_wp2
       go_ret
       exact ur (uc HB.out)
      ·replace c20 := Bool.eq_false_iff.mpr c20
       subst c20
       have H1 : (if x3_1 > 0 then (if 0 ≤ (wrap64 (x3_1 - 1)) then (if (wrap64 (x3_1 - 1)) < (l0_4.length : Int) then ((curtilageref10_Room.f a0_0 l0_1 l0_2 l0_3 l0_4 l0_5 l0_6 ((rd_T72 l0_4 (wrap64 (x3_1 - 1))).f1)).bind fun t425 => (curtilageref10_relocs.j2 kj4 x3_1 (decide (((rd_T72 l0_4 x3_1).f0) < (IntKind.u64.wrap (((rd_T72 l0_4 (wrap64 (x3_1 - 1))).f0) + t425)))) a0_0 l0_1 l0_2 l0_3 l0_4 l0_5 l0_6 ((rd_T72 l0_4 x3_1).f0) ((rd_T72 l0_4 x3_1).f1))) else (none)) else (none)) else (curtilageref10_relocs.j2 kj4 x3_1 false a0_0 l0_1 l0_2 l0_3 l0_4 l0_5 l0_6 ((rd_T72 l0_4 x3_1).f0) ((rd_T72 l0_4 x3_1).f1))) = some r := by rw [if_neg (show ¬ (false = true) by decide)] at H; exact H
       clear H
       have H := H1
       clear H1
       have HC21 := am H
       clear H
       go_upto_region 7 with (fail)
       go_cut [59] (fun v59 wc => ∃ (kq : Nat) (x59_20 : Bool), v59 = .bool x59_20 ∧ Aside0 (curtilageref10_relocs.j2 kq x3_1 x59_20 a0_0 l0_1 l0_2 l0_3 l0_4 l0_5 l0_6 ((rd_T72 l0_4 x3_1).f0) ((rd_T72 l0_4 x3_1).f1) = some r) ∧ Aside0 (kq ≤ kj4) ∧ Aside0 (wc.heap[gb420]? = some (.cells #[.string a0_0, (.slice A0_1 l0_1.length c0_1), (.slice A0_2 l0_2.length c0_2), (.slice A0_3 l0_3.length c0_3), (.slice (some ad421) l0_4.length c0_4), (.slice A0_5 l0_5.length c0_5), (.slice A0_6 l0_6.length c0_6)] 28 (0, 0))) ∧ Aside0 (wc.heap[gb422]? = some (.cells #[.int .u64 ((rd_T72 l0_4 x3_1).f0), .int .i64 ((rd_T72 l0_4 x3_1).f1)] 72 (0, 0))) ∧ Aside0 (Below w.heap.size w wc))
       case first =>
        have H := HC21.out
        clear HC21
        by_cases c22 : x3_1 > 0
        ·rw [if_pos c22] at H
         have c22b0 : decide (0 < x3_1) = true := decide_eq_true c22
         clear c22
         (first | rw [c22b0] | (simp only [i64_w, i32_w]; rw [c22b0]) | skip)
         obtain ⟨ji23, hji23⟩ : ∃ j_ : Int, (wrap64 (x3_1 - 1)) = j_ := ⟨_, rfl⟩
         replace H : (if 0 ≤ (ji23) then (if (ji23) < (l0_4.length : Int) then ((curtilageref10_Room.f a0_0 l0_1 l0_2 l0_3 l0_4 l0_5 l0_6 ((rd_T72 l0_4 (ji23)).f1)).bind fun t425 => (curtilageref10_relocs.j2 kj4 x3_1 (decide (((rd_T72 l0_4 x3_1).f0) < (IntKind.u64.wrap (((rd_T72 l0_4 (ji23)).f0) + t425)))) a0_0 l0_1 l0_2 l0_3 l0_4 l0_5 l0_6 ((rd_T72 l0_4 x3_1).f0) ((rd_T72 l0_4 x3_1).f1))) else (none)) else (none)) = some r := by first | (rw [hji23] at H; exact H) | (simp only [hji23] at H ⊢; exact H)
         have hji23w : (IntKind.i64.wrap (x3_1 - 1)) = ji23 := (i64_w _).trans hji23
         obtain ⟨c24, H⟩ := ic H
         have c24b0 : decide (0 ≤ (ji23)) = true := decide_eq_true c24
         clear c24
         obtain ⟨c25, H⟩ := ic H
         have c25b0 : decide ((ji23) < (l0_4.length : Int)) = true := decide_eq_true c25
         clear c25
         replace H := Option.bind_eq_some_iff.mp H
         obtain ⟨t425, A260, H⟩ := H
         replace H : (curtilageref10_relocs.j2 kj4 x3_1 (decide (((rd_T72 l0_4 x3_1).f0) < (IntKind.u64.wrap (((rd_T72 l0_4 (ji23)).f0) + t425)))) a0_0 l0_1 l0_2 l0_3 l0_4 l0_5 l0_6 ((rd_T72 l0_4 x3_1).f0) ((rd_T72 l0_4 x3_1).f1)) = some r := H
         have A26 := am A260
         clear A260
         have H' := am H
         clear H
         try go_wp2
         have n0_ := am (blk_drew BK420.out)
         have n1_ := am (blk_drew BK422.out)
         have n2_ := am (below_drew1 HB.out)
         revert n0_ n1_ n2_
         clear BK420 BK422 HB
         intro BK420 BK422 HB
         have p423 : 0 ≤ ((ji23) : Int) := ud
         have q423 : (ji23) < (l0_4.length : Int) := ud
         obtain ⟨ad423, e423, hx423_0, hx423_1⟩ := at_T72 HR0_4.out (ji23) p423 q423
         have hw423_1 := hx423_1
         have hw423_0 := hx423_0
         obtain rfl : ad421 = ad423 := (by injection e423)
         replace hx423_0 := bcel HB hx423_0
         replace hx423_1 := bcel HB hx423_1
         replace p423 := eq_true p423
         replace q423 := eq_true q423
         have p424 : 0 ≤ ((ji23) : Int) := ud
         have q424 : (ji23) < (l0_4.length : Int) := ud
         obtain ⟨ad424, e424, hx424_0, hx424_1⟩ := at_T72 HR0_4.out (ji23) p424 q424
         have hw424_1 := hx424_1
         have hw424_0 := hx424_0
         obtain rfl : ad421 = ad424 := (by injection e424)
         replace hx424_0 := bcel HB hx424_0
         replace hx424_1 := bcel HB hx424_1
         replace p424 := eq_true p424
         replace q424 := eq_true q424
         refine sr 24 [] (hB2 BK422 (hB7 BK420 (hA (bcel HB hw423_0 :) (hA (bcel HB hw423_1 :) (hA (bcel HB hw424_0 :) (hZ (bcel HB hw424_1 :))))))) (fun hHeld => ?_); refine with_tabW curtilageref10_relocs.tab7 curtilageref10_relocs.bits7 (fun HT_ HW_ => ?_)
         generalize wc.drew = w27 at BK420 BK422 HB hx423_0 hx423_1 hx424_0 hx424_1 hHeld ⊢
         refine pv 0 36 (bA 24 1) HT_ ?_
         refine pv 1 37 (bA 24 3) HT_ ?_
         refine pv 2 38 (bA 24 7) HT_ ?_
         refine pv 3 39 (bA 24 15) HT_ ?_
         refine pv 5 41 (bA 24 47) HT_ ?_
         refine pv 7 43 (bA 24 175) HT_ ?_
         refine pv 8 44 (bA 24 431) HT_ ?_
         refine pv 13 49 (bA 24 8623) HT_ ?_
         refine pv 15 51 (bA 24 41391) HT_ ?_
         refine pv 16 52 (bA 24 106927) HT_ ?_
         refine tv 4 40 (bA 24 106943) HT_ HW_ hHeld ?_ (hy := by rintro w' ⟨s0, s1, s2, s3, s4, s5, s6, s7, s8, s9, s10, s11, s12⟩; go_simp; with_reducible rfl)
         refine tv 6 42 (bA 24 107007) HT_ HW_ hHeld ?_ (hy := by rintro w' ⟨s0, s1, s2, s3, s4, s5, s6, s7, s8, s9, s10, s11, s12⟩; go_simp; with_reducible rfl)
         refine pv 9 45 (bA 24 107519) HT_ ?_
         refine pv 10 46 (bA 24 108543) HT_ ?_
         refine tv 11 47 (bA 24 110591) HT_ HW_ hHeld ?_ (hy := by rintro w' ⟨s0, s1, s2, s3, s4, s5, s6, s7, s8, s9, s10, s11, s12⟩; go_simp; with_reducible rfl)
         refine tv 12 48 (bA 24 114687) HT_ HW_ hHeld ?_ (hy := by rintro w' ⟨s0, s1, s2, s3, s4, s5, s6, s7, s8, s9, s10, s11, s12⟩; go_simp; with_reducible rfl)
         refine tv 14 50 (bA 24 131071) HT_ HW_ hHeld ?_ (hy := by rintro w' ⟨s0, s1, s2, s3, s4, s5, s6, s7, s8, s9, s10, s11, s12⟩; go_simp; with_reducible rfl)
         refine pv 17 53 (bA 24 262143) HT_ ?_
         refine pv 18 54 (bA 24 524287) HT_ ?_
         refine tv 19 55 (bA 24 1048575) HT_ HW_ hHeld ?_ (hy := by rintro w' ⟨s0, s1, s2, s3, s4, s5, s6, s7, s8, s9, s10, s11, s12⟩; go_simp; with_reducible rfl)
         refine one_ (i := 20) (N := some 56) (bA 24 2097151) rfl rfl (one_of HT_.out (by kernel_rfl)) (by decide) (fun K hK => ?_)
         refine goes_ Try.func59 (by kernel_rfl) rfl #[.agg #[.string a0_0, .slice A0_1 l0_1.length c0_1, .slice A0_2 l0_2.length c0_2, .slice A0_3 l0_3.length c0_3, .slice (some ad421) l0_4.length c0_4, .slice A0_5 l0_5.length c0_5, .slice A0_6 l0_6.length c0_6], .int .i64 ((rd_T72 l0_4 (ji23)).f1)] (by rfl) rfl rfl (by (try simp only [List.map_toArray, List.map_cons, List.map_nil]); first | done | (simp only [hji23]; rfl) | rfl | (simp only [List.length_drop, List.length_take]; rfl)) ?_
         with_reducible refine (curtilageref10_Room.calls a0_0 _ _ l0_1 _ _ l0_2 _ _ l0_3 _ _ l0_4 _ _ l0_5 _ _ l0_6 ((rd_T72 l0_4 (ji23)).f1) t425 _ ?side1 ?side2 ?side3 ?side4 ?side5 ?side6 ?side7 ?side8 ?side9 ?side10 ?side11 ?side12 A26.out).mono ?_
         (case side1 => exact us (Kd.C_below HR0_1.out HB.out))
         (case side2 => exact HC0_1.out)
         (case side3 => exact us (Kd.C_below HR0_2.out HB.out))
         (case side4 => exact HC0_2.out)
         (case side5 => exact us (Kd.C_below HR0_3.out HB.out))
         (case side6 => exact HC0_3.out)
         (case side7 => exact us (Kd.C_below HR0_4.out HB.out))
         (case side8 => exact HC0_4.out)
         (case side9 => exact us (Kd.C_below HR0_5.out HB.out))
         (case side10 => exact HC0_5.out)
         (case side11 => exact us (Kd.C_below HR0_6.out HB.out))
         (case side12 => exact HC0_6.out)
         rintro e w28 ⟨rfl, hb⟩
         refine ⟨_, rfl, ?_⟩
         have n0_ := bw BK420 hb
         have n1_ := bw BK422 hb
         have n2_ := bs HB hb
         revert n0_ n1_ n2_
         clear BK420 BK422 HB
         intro BK420 BK422 HB
         (try clear hb)
         (try clear hb2)
         (try clear hk)
         (try clear hi)
         refine hK.out _ _ ⟨cz BK422 0, cz BK422 1, cz BK420 0, cz BK420 1, cz BK420 2, cz BK420 3, cz BK420 4, cz BK420 5, cz BK420 6, (bcel HB hw423_0 :), (bcel HB hw423_1 :), (bcel HB hw424_0 :), (bcel HB hw424_1 :)⟩ (fun hHeld => ?_)
         clear hK K
         refine norm_ (a' := ?_) ?_ ?_
         rotate_left
         ·show Act.put _ (some 56) _ = _
          simp only [Act.put, List.setIfInBounds_toArray, List.set_cons_zero, List.set_cons_succ, i64_w, i32_w]
          rfl
         refine pv 21 57 (bA 24 4194303) HT_ ?_
         refine pv 22 58 (bA 24 8388607) HT_ ?_
         refine pv 23 59 (bA 24 16777215) HT_ ?_
         refine done_ (done_of HT_.out (by kernel_rfl)) ?_
         try go_wp2
         go_meet
         case rel => exact ⟨_, (decide (((rd_T72 l0_4 x3_1).f0) < (IntKind.u64.wrap (((rd_T72 l0_4 (ji23)).f0) + t425)))), (by first | rfl | (simp; done) | (simp only [← hji23] <;> (first | rfl | simp)) | (simp [*]; done)), H', ⟨by have := HK1.out; have := HJ4.out; first | omega | exact Nat.le_refl _⟩, ⟨ub BK420.out⟩, ⟨ub BK422.out⟩, ⟨uc HB.out⟩⟩
        ·rw [if_neg c22] at H
         have c22b0 : decide (0 < x3_1) = false := decide_eq_false c22
         clear c22
         (first | rw [c22b0] | (simp only [i64_w, i32_w]; rw [c22b0]) | skip)
         have H' := am H
         clear H
         try go_wp2
         have n0_ := am (blk_drew BK420.out)
         have n1_ := am (blk_drew BK422.out)
         have n2_ := am (below_drew1 HB.out)
         revert n0_ n1_ n2_
         clear BK420 BK422 HB
         intro BK420 BK422 HB
         refine start_ (n := 24) (S := fun w' => True) (ds := []) (bA 24 0) (by kernel_rfl) rfl rfl trivial (fun hHeld => ?_); refine with_tabW curtilageref10_relocs.tab7 curtilageref10_relocs.bits7 (fun HT_ HW_ => ?_)
         generalize wc.drew = w29 at BK420 BK422 HB hHeld ⊢
         refine pv 0 36 (bA 24 1) HT_ ?_
         refine pv 1 37 (bA 24 3) HT_ ?_
         refine pv 2 38 (bA 24 7) HT_ ?_
         refine pn 3 39 (bA 24 15) HT_ ?_ ?_ ?_; rotate_left; (simp only [Act.put, s1, s2, s3, i64_w, i32_w]; rfl)
         refine pn 4 40 (bA 24 31) HT_ ?_ ?_ ?_; rotate_left; (simp only [Act.put, s1, s2, s3, i64_w, i32_w]; rfl)
         refine pn 5 41 (bA 24 63) HT_ ?_ ?_ ?_; rotate_left; (simp only [Act.put, s1, s2, s3, i64_w, i32_w]; rfl)
         refine pn 6 42 (bA 24 127) HT_ ?_ ?_ ?_; rotate_left; (simp only [Act.put, s1, s2, s3, i64_w, i32_w]; rfl)
         refine pn 7 43 (bA 24 255) HT_ ?_ ?_ ?_; rotate_left; (simp only [Act.put, s1, s2, s3, i64_w, i32_w]; rfl)
         refine pn 8 44 (bA 24 511) HT_ ?_ ?_ ?_; rotate_left; (simp only [Act.put, s1, s2, s3, i64_w, i32_w]; rfl)
         refine pn 9 45 (bA 24 1023) HT_ ?_ ?_ ?_; rotate_left; (simp only [Act.put, s1, s2, s3, i64_w, i32_w]; rfl)
         refine pn 10 46 (bA 24 2047) HT_ ?_ ?_ ?_; rotate_left; (simp only [Act.put, s1, s2, s3, i64_w, i32_w]; rfl)
         refine pn 11 47 (bA 24 4095) HT_ ?_ ?_ ?_; rotate_left; (simp only [Act.put, s1, s2, s3, i64_w, i32_w]; rfl)
         refine pn 12 48 (bA 24 8191) HT_ ?_ ?_ ?_; rotate_left; (simp only [Act.put, s1, s2, s3, i64_w, i32_w]; rfl)
         refine pn 13 49 (bA 24 16383) HT_ ?_ ?_ ?_; rotate_left; (simp only [Act.put, s1, s2, s3, i64_w, i32_w]; rfl)
         refine pn 14 50 (bA 24 32767) HT_ ?_ ?_ ?_; rotate_left; (simp only [Act.put, s1, s2, s3, i64_w, i32_w]; rfl)
         refine pn 15 51 (bA 24 65535) HT_ ?_ ?_ ?_; rotate_left; (simp only [Act.put, s1, s2, s3, i64_w, i32_w]; rfl)
         refine pn 16 52 (bA 24 131071) HT_ ?_ ?_ ?_; rotate_left; (simp only [Act.put, s1, s2, s3, i64_w, i32_w]; rfl)
         refine pn 17 53 (bA 24 262143) HT_ ?_ ?_ ?_; rotate_left; (simp only [Act.put, s1, s2, s3, i64_w, i32_w]; rfl)
         refine pn 18 54 (bA 24 524287) HT_ ?_ ?_ ?_; rotate_left; (simp only [Act.put, s1, s2, s3, i64_w, i32_w]; rfl)
         refine pn 19 55 (bA 24 1048575) HT_ ?_ ?_ ?_; rotate_left; (simp only [Act.put, s1, s2, s3, i64_w, i32_w]; rfl)
         refine pn 20 56 (bA 24 2097151) HT_ ?_ ?_ ?_; rotate_left; (simp only [Act.put, s1, s2, s3, i64_w, i32_w]; rfl)
         refine pn 21 57 (bA 24 4194303) HT_ ?_ ?_ ?_; rotate_left; (simp only [Act.put, s1, s2, s3, i64_w, i32_w]; rfl)
         refine pn 22 58 (bA 24 8388607) HT_ ?_ ?_ ?_; rotate_left; (simp only [Act.put, s1, s2, s3, i64_w, i32_w]; rfl)
         refine pv 23 59 (bA 24 16777215) HT_ ?_
         refine done_ (done_of HT_.out (by kernel_rfl)) ?_
         try go_wp2
         go_meet
         case rel => exact ⟨_, (false), uf, H', ⟨by have := HK1.out; have := HJ4.out; first | omega | exact Nat.le_refl _⟩, ⟨ub BK420.out⟩, ⟨ub BK422.out⟩, ⟨uc HB.out⟩⟩
       case rest =>
        clear HC21
        obtain ⟨kq, x59_20, rfl, HA, HJ20, BK420, BK422, HB⟩ := hcut
        cases kq with
        | zero => exact absurd HA.out (by simp [curtilageref10_relocs.j2])
        | succ kj20 =>
         have H := HA.out
         clear HA
         simp only [curtilageref10_relocs.j2] at H
         by_cases c30 : x59_20 = true
         ·subst c30
          have H1 : (some false) = some r := by rw [if_pos rfl] at H; exact H
          clear H
          have H := H1
          clear H1
          obtain rfl := Option.some.inj H
          go_wp2
          go_ret
          exact ur (uc HB.out)
         ·replace c30 := Bool.eq_false_iff.mpr c30
          subst c30
          have H1 : ((curtilageref10_Room.f a0_0 l0_1 l0_2 l0_3 l0_4 l0_5 l0_6 ((rd_T72 l0_4 x3_1).f1)).bind fun t426 => ((curtilageref10_At.f kj20 a0_0 l0_1 l0_2 l0_3 l0_4 l0_5 l0_6 ((rd_T72 l0_4 x3_1).f0) t426).bind fun t427 => (if t427 < 0 then (some false) else (if 0 ≤ t427 then (if t427 < (l0_2.length : Int) then (if ((rd_T67 l0_2 t427).f2) = 2 then (curtilageref10_relocs.l0 kj20 (wrap64 (x3_1 + 1)) a0_0 l0_1 l0_2 l0_3 l0_4 l0_5 l0_6) else (if ((rd_T67 l0_2 t427).f2) = 3 then (curtilageref10_relocs.l0 kj20 (wrap64 (x3_1 + 1)) a0_0 l0_1 l0_2 l0_3 l0_4 l0_5 l0_6) else (some false))) else (none)) else (none))))) = some r := by rw [if_neg (show ¬ (false = true) by decide)] at H; exact H
          clear H
          have H := H1
          clear H1
          replace H := Option.bind_eq_some_iff.mp H
          obtain ⟨t426, A310, H⟩ := H
          replace H : ((curtilageref10_At.f kj20 a0_0 l0_1 l0_2 l0_3 l0_4 l0_5 l0_6 ((rd_T72 l0_4 x3_1).f0) t426).bind fun t427 => (if t427 < 0 then (some false) else (if 0 ≤ t427 then (if t427 < (l0_2.length : Int) then (if ((rd_T67 l0_2 t427).f2) = 2 then (curtilageref10_relocs.l0 kj20 (wrap64 (x3_1 + 1)) a0_0 l0_1 l0_2 l0_3 l0_4 l0_5 l0_6) else (if ((rd_T67 l0_2 t427).f2) = 3 then (curtilageref10_relocs.l0 kj20 (wrap64 (x3_1 + 1)) a0_0 l0_1 l0_2 l0_3 l0_4 l0_5 l0_6) else (some false))) else (none)) else (none)))) = some r := H
          have A31 := am A310
          clear A310
          replace H := Option.bind_eq_some_iff.mp H
          obtain ⟨t427, A320, H⟩ := H
          replace H : (if t427 < 0 then (some false) else (if 0 ≤ t427 then (if t427 < (l0_2.length : Int) then (if ((rd_T67 l0_2 t427).f2) = 2 then (curtilageref10_relocs.l0 kj20 (wrap64 (x3_1 + 1)) a0_0 l0_1 l0_2 l0_3 l0_4 l0_5 l0_6) else (if ((rd_T67 l0_2 t427).f2) = 3 then (curtilageref10_relocs.l0 kj20 (wrap64 (x3_1 + 1)) a0_0 l0_1 l0_2 l0_3 l0_4 l0_5 l0_6) else (some false))) else (none)) else (none))) = some r := H
          have A32 := am A320
          clear A320
          by_cases c33 : t427 < 0
          ·rw [if_pos c33] at H
           have c33b0 := decide_eq_true c33
           clear c33
           obtain rfl := Option.some.inj H
           try go_wp2
           have n0_ := am (blk_drew BK420.out)
           have n1_ := am (blk_drew BK422.out)
           have n2_ := am (below_drew1 HB.out)
           revert n0_ n1_ n2_
           clear BK420 BK422 HB
           intro BK420 BK422 HB
           refine sr 9 [] (hB7 BK420 (hE2 BK422)) (fun hHeld => ?_); refine with_tabW curtilageref10_relocs.tab9 curtilageref10_relocs.bits9 (fun HT_ HW_ => ?_)
           generalize wc.drew = w34 at BK420 BK422 HB hHeld ⊢
           refine pv 1 61 (bA 9 2) HT_ ?_
           refine pv 4 64 (bA 9 18) HT_ ?_
           refine tv 0 60 (bA 9 19) HT_ HW_ hHeld ?_ (hy := by rintro w' ⟨s0, s1, s2, s3, s4, s5, s6, s7, s8⟩; go_simp; with_reducible rfl)
           refine tv 2 62 (bA 9 23) HT_ HW_ hHeld ?_ (hy := by rintro w' ⟨s0, s1, s2, s3, s4, s5, s6, s7, s8⟩; go_simp; with_reducible rfl)
           refine tv 3 63 (bA 9 31) HT_ HW_ hHeld ?_ (hy := by rintro w' ⟨s0, s1, s2, s3, s4, s5, s6, s7, s8⟩; go_simp; with_reducible rfl)
           refine tv 5 65 (bA 9 63) HT_ HW_ hHeld ?_ (hy := by rintro w' ⟨s0, s1, s2, s3, s4, s5, s6, s7, s8⟩; go_simp; with_reducible rfl)
           refine one_ (i := 6) (N := some 66) (bA 9 127) rfl rfl (one_of HT_.out (by kernel_rfl)) (by decide) (fun K hK => ?_)
           refine goes_ Try.func59 (by kernel_rfl) rfl #[.agg #[.string a0_0, .slice A0_1 l0_1.length c0_1, .slice A0_2 l0_2.length c0_2, .slice A0_3 l0_3.length c0_3, .slice (some ad421) l0_4.length c0_4, .slice A0_5 l0_5.length c0_5, .slice A0_6 l0_6.length c0_6], .int .i64 ((rd_T72 l0_4 x3_1).f1)] (by rfl) rfl rfl (by (try simp only [List.map_toArray, List.map_cons, List.map_nil]); first | done | rfl | (simp only [List.length_drop, List.length_take]; rfl)) ?_
           with_reducible refine (curtilageref10_Room.calls a0_0 _ _ l0_1 _ _ l0_2 _ _ l0_3 _ _ l0_4 _ _ l0_5 _ _ l0_6 ((rd_T72 l0_4 x3_1).f1) t426 _ ?side1 ?side2 ?side3 ?side4 ?side5 ?side6 ?side7 ?side8 ?side9 ?side10 ?side11 ?side12 A31.out).mono ?_
           (case side1 => exact us (Kd.C_below HR0_1.out HB.out))
           (case side2 => exact HC0_1.out)
           (case side3 => exact us (Kd.C_below HR0_2.out HB.out))
           (case side4 => exact HC0_2.out)
           (case side5 => exact us (Kd.C_below HR0_3.out HB.out))
           (case side6 => exact HC0_3.out)
           (case side7 => exact us (Kd.C_below HR0_4.out HB.out))
           (case side8 => exact HC0_4.out)
           (case side9 => exact us (Kd.C_below HR0_5.out HB.out))
           (case side10 => exact HC0_5.out)
           (case side11 => exact us (Kd.C_below HR0_6.out HB.out))
           (case side12 => exact HC0_6.out)
           rintro e w35 ⟨rfl, hb⟩
           refine ⟨_, rfl, ?_⟩
           have n0_ := bw BK420 hb
           have n1_ := bw BK422 hb
           have n2_ := bs HB hb
           revert n0_ n1_ n2_
           clear BK420 BK422 HB
           intro BK420 BK422 HB
           (try clear hb)
           (try clear hb2)
           (try clear hk)
           (try clear hi)
           refine hK.out _ _ ⟨cz BK420 0, cz BK420 1, cz BK420 2, cz BK420 3, cz BK420 4, cz BK420 5, cz BK420 6, cz BK422 0, cz BK422 1⟩ (fun hHeld => ?_)
           clear hK K
           refine norm_ (a' := ?_) ?_ ?_
           rotate_left
           ·show Act.put _ (some 66) _ = _
            simp only [Act.put, List.setIfInBounds_toArray, List.set_cons_zero, List.set_cons_succ, i64_w, i32_w]
            rfl
           refine one_ (i := 7) (N := some 67) (bA 9 255) rfl rfl (one_of HT_.out (by kernel_rfl)) (by decide) (fun K hK => ?_)
           refine goes_ Try.func28 (by kernel_rfl) rfl #[.agg #[.string a0_0, .slice A0_1 l0_1.length c0_1, .slice A0_2 l0_2.length c0_2, .slice A0_3 l0_3.length c0_3, .slice (some ad421) l0_4.length c0_4, .slice A0_5 l0_5.length c0_5, .slice A0_6 l0_6.length c0_6], .int .u64 ((rd_T72 l0_4 x3_1).f0), .int .u64 t426] (by rfl) rfl rfl (by (try simp only [List.map_toArray, List.map_cons, List.map_nil]); first | done | rfl | (simp only [List.length_drop, List.length_take]; rfl)) ?_
           with_reducible refine (curtilageref10_At.calls kj20 a0_0 _ _ l0_1 _ _ l0_2 _ _ l0_3 _ _ l0_4 _ _ l0_5 _ _ l0_6 ((rd_T72 l0_4 x3_1).f0) t426 t427 _ ?side1 ?side2 ?side3 ?side4 ?side5 ?side6 ?side7 ?side8 ?side9 ?side10 ?side11 ?side12 A32.out).mono ?_
           (case side1 => exact us (Kd.C_below HR0_1.out HB.out))
           (case side2 => exact HC0_1.out)
           (case side3 => exact us (Kd.C_below HR0_2.out HB.out))
           (case side4 => exact HC0_2.out)
           (case side5 => exact us (Kd.C_below HR0_3.out HB.out))
           (case side6 => exact HC0_3.out)
           (case side7 => exact us (Kd.C_below HR0_4.out HB.out))
           (case side8 => exact HC0_4.out)
           (case side9 => exact us (Kd.C_below HR0_5.out HB.out))
           (case side10 => exact HC0_5.out)
           (case side11 => exact us (Kd.C_below HR0_6.out HB.out))
           (case side12 => exact HC0_6.out)
           rintro e w36 ⟨rfl, hb⟩
           refine ⟨_, rfl, ?_⟩
           have n0_ := bw BK420 hb
           have n1_ := bw BK422 hb
           have n2_ := bs HB hb
           revert n0_ n1_ n2_
           clear BK420 BK422 HB
           intro BK420 BK422 HB
           (try clear hb)
           (try clear hb2)
           (try clear hk)
           (try clear hi)
           refine hK.out _ _ ⟨cz BK420 0, cz BK420 1, cz BK420 2, cz BK420 3, cz BK420 4, cz BK420 5, cz BK420 6, cz BK422 0, cz BK422 1⟩ (fun hHeld => ?_)
           clear hK K
           refine norm_ (a' := ?_) ?_ ?_
           rotate_left
           ·show Act.put _ (some 67) _ = _
            simp only [Act.put, List.setIfInBounds_toArray, List.set_cons_zero, List.set_cons_succ, i64_w, i32_w]
            rfl
           refine pv 8 5 (bA 9 511) HT_ ?_
           refine done_ (done_of HT_.out (by kernel_rfl)) ?_
           try go_wp2
           go_ret
           exact ur (uc HB.out)
          ·rw [if_neg c33] at H
           have c33b0 := decide_eq_false c33
           clear c33
           obtain ⟨c37, H⟩ := ic H
           have c37b0 : decide (0 ≤ t427) = true := decide_eq_true c37
           clear c37
           obtain ⟨c38, H⟩ := ic H
           have c38b0 : decide (t427 < (l0_2.length : Int)) = true := decide_eq_true c38
           clear c38
           by_cases c39 : ((rd_T67 l0_2 t427).f2) = 2
           ·rw [if_pos c39] at H
            have c39b0 := beq_iff_eq.mpr c39
            have c39b1 := bne_eq_false_iff_eq.mpr c39
            clear c39
            have H' := am H
            clear H
            try go_wp2
            have n0_ := am (blk_drew BK420.out)
            have n1_ := am (blk_drew BK422.out)
            have n2_ := am (below_drew1 HB.out)
            revert n0_ n1_ n2_
            clear BK420 BK422 HB
            intro BK420 BK422 HB
            refine sr 9 [] (hB7 BK420 (hE2 BK422)) (fun hHeld => ?_); refine with_tabW curtilageref10_relocs.tab9 curtilageref10_relocs.bits9 (fun HT_ HW_ => ?_)
            generalize wc.drew = w40 at BK420 BK422 HB hHeld ⊢
            refine pv 1 61 (bA 9 2) HT_ ?_
            refine pv 4 64 (bA 9 18) HT_ ?_
            refine tv 0 60 (bA 9 19) HT_ HW_ hHeld ?_ (hy := by rintro w' ⟨s0, s1, s2, s3, s4, s5, s6, s7, s8⟩; go_simp; with_reducible rfl)
            refine tv 2 62 (bA 9 23) HT_ HW_ hHeld ?_ (hy := by rintro w' ⟨s0, s1, s2, s3, s4, s5, s6, s7, s8⟩; go_simp; with_reducible rfl)
            refine tv 3 63 (bA 9 31) HT_ HW_ hHeld ?_ (hy := by rintro w' ⟨s0, s1, s2, s3, s4, s5, s6, s7, s8⟩; go_simp; with_reducible rfl)
            refine tv 5 65 (bA 9 63) HT_ HW_ hHeld ?_ (hy := by rintro w' ⟨s0, s1, s2, s3, s4, s5, s6, s7, s8⟩; go_simp; with_reducible rfl)
            refine one_ (i := 6) (N := some 66) (bA 9 127) rfl rfl (one_of HT_.out (by kernel_rfl)) (by decide) (fun K hK => ?_)
            refine goes_ Try.func59 (by kernel_rfl) rfl #[.agg #[.string a0_0, .slice A0_1 l0_1.length c0_1, .slice A0_2 l0_2.length c0_2, .slice A0_3 l0_3.length c0_3, .slice (some ad421) l0_4.length c0_4, .slice A0_5 l0_5.length c0_5, .slice A0_6 l0_6.length c0_6], .int .i64 ((rd_T72 l0_4 x3_1).f1)] (by rfl) rfl rfl (by (try simp only [List.map_toArray, List.map_cons, List.map_nil]); first | done | rfl | (simp only [List.length_drop, List.length_take]; rfl)) ?_
            with_reducible refine (curtilageref10_Room.calls a0_0 _ _ l0_1 _ _ l0_2 _ _ l0_3 _ _ l0_4 _ _ l0_5 _ _ l0_6 ((rd_T72 l0_4 x3_1).f1) t426 _ ?side1 ?side2 ?side3 ?side4 ?side5 ?side6 ?side7 ?side8 ?side9 ?side10 ?side11 ?side12 A31.out).mono ?_
            (case side1 => exact us (Kd.C_below HR0_1.out HB.out))
            (case side2 => exact HC0_1.out)
            (case side3 => exact us (Kd.C_below HR0_2.out HB.out))
            (case side4 => exact HC0_2.out)
            (case side5 => exact us (Kd.C_below HR0_3.out HB.out))
            (case side6 => exact HC0_3.out)
            (case side7 => exact us (Kd.C_below HR0_4.out HB.out))
            (case side8 => exact HC0_4.out)
            (case side9 => exact us (Kd.C_below HR0_5.out HB.out))
            (case side10 => exact HC0_5.out)
            (case side11 => exact us (Kd.C_below HR0_6.out HB.out))
            (case side12 => exact HC0_6.out)
            rintro e w41 ⟨rfl, hb⟩
            refine ⟨_, rfl, ?_⟩
            have n0_ := bw BK420 hb
            have n1_ := bw BK422 hb
            have n2_ := bs HB hb
            revert n0_ n1_ n2_
            clear BK420 BK422 HB
            intro BK420 BK422 HB
            (try clear hb)
            (try clear hb2)
            (try clear hk)
            (try clear hi)
            refine hK.out _ _ ⟨cz BK420 0, cz BK420 1, cz BK420 2, cz BK420 3, cz BK420 4, cz BK420 5, cz BK420 6, cz BK422 0, cz BK422 1⟩ (fun hHeld => ?_)
            clear hK K
            refine norm_ (a' := ?_) ?_ ?_
            rotate_left
            ·show Act.put _ (some 66) _ = _
             simp only [Act.put, List.setIfInBounds_toArray, List.set_cons_zero, List.set_cons_succ, i64_w, i32_w]
             rfl
            refine one_ (i := 7) (N := some 67) (bA 9 255) rfl rfl (one_of HT_.out (by kernel_rfl)) (by decide) (fun K hK => ?_)
            refine goes_ Try.func28 (by kernel_rfl) rfl #[.agg #[.string a0_0, .slice A0_1 l0_1.length c0_1, .slice A0_2 l0_2.length c0_2, .slice A0_3 l0_3.length c0_3, .slice (some ad421) l0_4.length c0_4, .slice A0_5 l0_5.length c0_5, .slice A0_6 l0_6.length c0_6], .int .u64 ((rd_T72 l0_4 x3_1).f0), .int .u64 t426] (by rfl) rfl rfl (by (try simp only [List.map_toArray, List.map_cons, List.map_nil]); first | done | rfl | (simp only [List.length_drop, List.length_take]; rfl)) ?_
            with_reducible refine (curtilageref10_At.calls kj20 a0_0 _ _ l0_1 _ _ l0_2 _ _ l0_3 _ _ l0_4 _ _ l0_5 _ _ l0_6 ((rd_T72 l0_4 x3_1).f0) t426 t427 _ ?side1 ?side2 ?side3 ?side4 ?side5 ?side6 ?side7 ?side8 ?side9 ?side10 ?side11 ?side12 A32.out).mono ?_
            (case side1 => exact us (Kd.C_below HR0_1.out HB.out))
            (case side2 => exact HC0_1.out)
            (case side3 => exact us (Kd.C_below HR0_2.out HB.out))
            (case side4 => exact HC0_2.out)
            (case side5 => exact us (Kd.C_below HR0_3.out HB.out))
            (case side6 => exact HC0_3.out)
            (case side7 => exact us (Kd.C_below HR0_4.out HB.out))
            (case side8 => exact HC0_4.out)
            (case side9 => exact us (Kd.C_below HR0_5.out HB.out))
            (case side10 => exact HC0_5.out)
            (case side11 => exact us (Kd.C_below HR0_6.out HB.out))
            (case side12 => exact HC0_6.out)
            rintro e w42 ⟨rfl, hb⟩
            refine ⟨_, rfl, ?_⟩
            have n0_ := bw BK420 hb
            have n1_ := bw BK422 hb
            have n2_ := bs HB hb
            revert n0_ n1_ n2_
            clear BK420 BK422 HB
            intro BK420 BK422 HB
            (try clear hb)
            (try clear hb2)
            (try clear hk)
            (try clear hi)
            refine hK.out _ _ ⟨cz BK420 0, cz BK420 1, cz BK420 2, cz BK420 3, cz BK420 4, cz BK420 5, cz BK420 6, cz BK422 0, cz BK422 1⟩ (fun hHeld => ?_)
            clear hK K
            refine norm_ (a' := ?_) ?_ ?_
            rotate_left
            ·show Act.put _ (some 67) _ = _
             simp only [Act.put, List.setIfInBounds_toArray, List.set_cons_zero, List.set_cons_succ, i64_w, i32_w]
             rfl
            refine pv 8 5 (bA 9 511) HT_ ?_
            refine done_ (done_of HT_.out (by kernel_rfl)) ?_
            have hnb43 := NB420_422.out
            have hnc43 := NB422_420.out
            obtain ⟨hcz44_0, hcz44_1, hcz44_2, hcz44_3, hcz44_4, hcz44_5, hcz44_6, hfz44_0, hfz44_1, hfz44_2, hfz44_3, hfz44_4, hfz44_5, hfz44_6⟩ := cl7 BK420
            have p428 : 0 ≤ (t427 : Int) := ud
            have q428 : t427 < (l0_2.length : Int) := ud
            obtain ⟨ad428, A428_3, c428_3, e428, hx428_0, hx428_1, hx428_2, hx428_3, hl428_3, hi428_3⟩ := at_T67 HR0_2.out t427 p428 q428
            cases e428
            replace hx428_0 := bcel HB hx428_0
            replace hx428_1 := bcel HB hx428_1
            replace hx428_2 := bcel HB hx428_2
            replace hx428_3 := bcel HB hx428_3
            have HR428_3 := am hi428_3
            have HC428_3 := am hl428_3
            clear hi428_3 hl428_3
            replace p428 := eq_true p428
            replace q428 := eq_true q428
            try go_wp2
            go_roundg kj20
            case measure => have := HK1.out; have := HJ4.out; have := HJ20.out; omega
            case rel => exact ⟨(wrap64 (x3_1 + 1)), uf, H', ⟨by have := HK1.out; have := HJ4.out; have := HJ20.out; omega⟩, ⟨ub BK420.out⟩, ⟨uc HB.out⟩⟩
           ·rw [if_neg c39] at H
            have c39b0 := beq_eq_false_iff_ne.mpr c39
            have c39b1 := bne_iff_ne.mpr c39
            by_cases c45 : ((rd_T67 l0_2 t427).f2) = 3
            ·rw [if_pos c45] at H
             have c45b0 := beq_iff_eq.mpr c45
             have c45b1 := bne_eq_false_iff_eq.mpr c45
             clear c45
             have H' := am H
             clear H
             try go_wp2
             have n0_ := am (blk_drew BK420.out)
             have n1_ := am (blk_drew BK422.out)
             have n2_ := am (below_drew1 HB.out)
             revert n0_ n1_ n2_
             clear BK420 BK422 HB
             intro BK420 BK422 HB
             refine sr 9 [] (hB7 BK420 (hE2 BK422)) (fun hHeld => ?_); refine with_tabW curtilageref10_relocs.tab9 curtilageref10_relocs.bits9 (fun HT_ HW_ => ?_)
             generalize wc.drew = w46 at BK420 BK422 HB hHeld ⊢
             refine pv 1 61 (bA 9 2) HT_ ?_
             refine pv 4 64 (bA 9 18) HT_ ?_
             refine tv 0 60 (bA 9 19) HT_ HW_ hHeld ?_ (hy := by rintro w' ⟨s0, s1, s2, s3, s4, s5, s6, s7, s8⟩; go_simp; with_reducible rfl)
             refine tv 2 62 (bA 9 23) HT_ HW_ hHeld ?_ (hy := by rintro w' ⟨s0, s1, s2, s3, s4, s5, s6, s7, s8⟩; go_simp; with_reducible rfl)
             refine tv 3 63 (bA 9 31) HT_ HW_ hHeld ?_ (hy := by rintro w' ⟨s0, s1, s2, s3, s4, s5, s6, s7, s8⟩; go_simp; with_reducible rfl)
             refine tv 5 65 (bA 9 63) HT_ HW_ hHeld ?_ (hy := by rintro w' ⟨s0, s1, s2, s3, s4, s5, s6, s7, s8⟩; go_simp; with_reducible rfl)
             refine one_ (i := 6) (N := some 66) (bA 9 127) rfl rfl (one_of HT_.out (by kernel_rfl)) (by decide) (fun K hK => ?_)
             refine goes_ Try.func59 (by kernel_rfl) rfl #[.agg #[.string a0_0, .slice A0_1 l0_1.length c0_1, .slice A0_2 l0_2.length c0_2, .slice A0_3 l0_3.length c0_3, .slice (some ad421) l0_4.length c0_4, .slice A0_5 l0_5.length c0_5, .slice A0_6 l0_6.length c0_6], .int .i64 ((rd_T72 l0_4 x3_1).f1)] (by rfl) rfl rfl (by (try simp only [List.map_toArray, List.map_cons, List.map_nil]); first | done | rfl | (simp only [List.length_drop, List.length_take]; rfl)) ?_
             with_reducible refine (curtilageref10_Room.calls a0_0 _ _ l0_1 _ _ l0_2 _ _ l0_3 _ _ l0_4 _ _ l0_5 _ _ l0_6 ((rd_T72 l0_4 x3_1).f1) t426 _ ?side1 ?side2 ?side3 ?side4 ?side5 ?side6 ?side7 ?side8 ?side9 ?side10 ?side11 ?side12 A31.out).mono ?_
             (case side1 => exact us (Kd.C_below HR0_1.out HB.out))
             (case side2 => exact HC0_1.out)
             (case side3 => exact us (Kd.C_below HR0_2.out HB.out))
             (case side4 => exact HC0_2.out)
             (case side5 => exact us (Kd.C_below HR0_3.out HB.out))
             (case side6 => exact HC0_3.out)
             (case side7 => exact us (Kd.C_below HR0_4.out HB.out))
             (case side8 => exact HC0_4.out)
             (case side9 => exact us (Kd.C_below HR0_5.out HB.out))
             (case side10 => exact HC0_5.out)
             (case side11 => exact us (Kd.C_below HR0_6.out HB.out))
             (case side12 => exact HC0_6.out)
             rintro e w47 ⟨rfl, hb⟩
             refine ⟨_, rfl, ?_⟩
             have n0_ := bw BK420 hb
             have n1_ := bw BK422 hb
             have n2_ := bs HB hb
             revert n0_ n1_ n2_
             clear BK420 BK422 HB
             intro BK420 BK422 HB
             (try clear hb)
             (try clear hb2)
             (try clear hk)
             (try clear hi)
             refine hK.out _ _ ⟨cz BK420 0, cz BK420 1, cz BK420 2, cz BK420 3, cz BK420 4, cz BK420 5, cz BK420 6, cz BK422 0, cz BK422 1⟩ (fun hHeld => ?_)
             clear hK K
             refine norm_ (a' := ?_) ?_ ?_
             rotate_left
             ·show Act.put _ (some 66) _ = _
              simp only [Act.put, List.setIfInBounds_toArray, List.set_cons_zero, List.set_cons_succ, i64_w, i32_w]
              rfl
             refine one_ (i := 7) (N := some 67) (bA 9 255) rfl rfl (one_of HT_.out (by kernel_rfl)) (by decide) (fun K hK => ?_)
             refine goes_ Try.func28 (by kernel_rfl) rfl #[.agg #[.string a0_0, .slice A0_1 l0_1.length c0_1, .slice A0_2 l0_2.length c0_2, .slice A0_3 l0_3.length c0_3, .slice (some ad421) l0_4.length c0_4, .slice A0_5 l0_5.length c0_5, .slice A0_6 l0_6.length c0_6], .int .u64 ((rd_T72 l0_4 x3_1).f0), .int .u64 t426] (by rfl) rfl rfl (by (try simp only [List.map_toArray, List.map_cons, List.map_nil]); first | done | rfl | (simp only [List.length_drop, List.length_take]; rfl)) ?_
             with_reducible refine (curtilageref10_At.calls kj20 a0_0 _ _ l0_1 _ _ l0_2 _ _ l0_3 _ _ l0_4 _ _ l0_5 _ _ l0_6 ((rd_T72 l0_4 x3_1).f0) t426 t427 _ ?side1 ?side2 ?side3 ?side4 ?side5 ?side6 ?side7 ?side8 ?side9 ?side10 ?side11 ?side12 A32.out).mono ?_
             (case side1 => exact us (Kd.C_below HR0_1.out HB.out))
             (case side2 => exact HC0_1.out)
             (case side3 => exact us (Kd.C_below HR0_2.out HB.out))
             (case side4 => exact HC0_2.out)
             (case side5 => exact us (Kd.C_below HR0_3.out HB.out))
             (case side6 => exact HC0_3.out)
             (case side7 => exact us (Kd.C_below HR0_4.out HB.out))
             (case side8 => exact HC0_4.out)
             (case side9 => exact us (Kd.C_below HR0_5.out HB.out))
             (case side10 => exact HC0_5.out)
             (case side11 => exact us (Kd.C_below HR0_6.out HB.out))
             (case side12 => exact HC0_6.out)
             rintro e w48 ⟨rfl, hb⟩
             refine ⟨_, rfl, ?_⟩
             have n0_ := bw BK420 hb
             have n1_ := bw BK422 hb
             have n2_ := bs HB hb
             revert n0_ n1_ n2_
             clear BK420 BK422 HB
             intro BK420 BK422 HB
             (try clear hb)
             (try clear hb2)
             (try clear hk)
             (try clear hi)
             refine hK.out _ _ ⟨cz BK420 0, cz BK420 1, cz BK420 2, cz BK420 3, cz BK420 4, cz BK420 5, cz BK420 6, cz BK422 0, cz BK422 1⟩ (fun hHeld => ?_)
             clear hK K
             refine norm_ (a' := ?_) ?_ ?_
             rotate_left
             ·show Act.put _ (some 67) _ = _
              simp only [Act.put, List.setIfInBounds_toArray, List.set_cons_zero, List.set_cons_succ, i64_w, i32_w]
              rfl
             refine pv 8 5 (bA 9 511) HT_ ?_
             refine done_ (done_of HT_.out (by kernel_rfl)) ?_
             have hnb49 := NB420_422.out
             have hnc49 := NB422_420.out
             obtain ⟨hcz50_0, hcz50_1, hcz50_2, hcz50_3, hcz50_4, hcz50_5, hcz50_6, hfz50_0, hfz50_1, hfz50_2, hfz50_3, hfz50_4, hfz50_5, hfz50_6⟩ := cl7 BK420
             have p428 : 0 ≤ (t427 : Int) := ud
             have q428 : t427 < (l0_2.length : Int) := ud
             obtain ⟨ad428, A428_3, c428_3, e428, hx428_0, hx428_1, hx428_2, hx428_3, hl428_3, hi428_3⟩ := at_T67 HR0_2.out t427 p428 q428
             cases e428
             replace hx428_0 := bcel HB hx428_0
             replace hx428_1 := bcel HB hx428_1
             replace hx428_2 := bcel HB hx428_2
             replace hx428_3 := bcel HB hx428_3
             have HR428_3 := am hi428_3
             have HC428_3 := am hl428_3
             clear hi428_3 hl428_3
             replace p428 := eq_true p428
             replace q428 := eq_true q428
             try go_wp2
             go_roundg kj20
             case measure => have := HK1.out; have := HJ4.out; have := HJ20.out; omega
             case rel => exact ⟨(wrap64 (x3_1 + 1)), uf, H', ⟨by have := HK1.out; have := HJ4.out; have := HJ20.out; omega⟩, ⟨ub BK420.out⟩, ⟨uc HB.out⟩⟩
            ·rw [if_neg c45] at H
             have c45b0 := beq_eq_false_iff_ne.mpr c45
             have c45b1 := bne_iff_ne.mpr c45
             obtain rfl := Option.some.inj H
             try go_wp2
             have n0_ := am (blk_drew BK420.out)
             have n1_ := am (blk_drew BK422.out)
             have n2_ := am (below_drew1 HB.out)
             revert n0_ n1_ n2_
             clear BK420 BK422 HB
             intro BK420 BK422 HB
             refine sr 9 [] (hB7 BK420 (hE2 BK422)) (fun hHeld => ?_); refine with_tabW curtilageref10_relocs.tab9 curtilageref10_relocs.bits9 (fun HT_ HW_ => ?_)
             generalize wc.drew = w51 at BK420 BK422 HB hHeld ⊢
             refine pv 1 61 (bA 9 2) HT_ ?_
             refine pv 4 64 (bA 9 18) HT_ ?_
             refine tv 0 60 (bA 9 19) HT_ HW_ hHeld ?_ (hy := by rintro w' ⟨s0, s1, s2, s3, s4, s5, s6, s7, s8⟩; go_simp; with_reducible rfl)
             refine tv 2 62 (bA 9 23) HT_ HW_ hHeld ?_ (hy := by rintro w' ⟨s0, s1, s2, s3, s4, s5, s6, s7, s8⟩; go_simp; with_reducible rfl)
             refine tv 3 63 (bA 9 31) HT_ HW_ hHeld ?_ (hy := by rintro w' ⟨s0, s1, s2, s3, s4, s5, s6, s7, s8⟩; go_simp; with_reducible rfl)
             refine tv 5 65 (bA 9 63) HT_ HW_ hHeld ?_ (hy := by rintro w' ⟨s0, s1, s2, s3, s4, s5, s6, s7, s8⟩; go_simp; with_reducible rfl)
             refine one_ (i := 6) (N := some 66) (bA 9 127) rfl rfl (one_of HT_.out (by kernel_rfl)) (by decide) (fun K hK => ?_)
             refine goes_ Try.func59 (by kernel_rfl) rfl #[.agg #[.string a0_0, .slice A0_1 l0_1.length c0_1, .slice A0_2 l0_2.length c0_2, .slice A0_3 l0_3.length c0_3, .slice (some ad421) l0_4.length c0_4, .slice A0_5 l0_5.length c0_5, .slice A0_6 l0_6.length c0_6], .int .i64 ((rd_T72 l0_4 x3_1).f1)] (by rfl) rfl rfl (by (try simp only [List.map_toArray, List.map_cons, List.map_nil]); first | done | rfl | (simp only [List.length_drop, List.length_take]; rfl)) ?_
             with_reducible refine (curtilageref10_Room.calls a0_0 _ _ l0_1 _ _ l0_2 _ _ l0_3 _ _ l0_4 _ _ l0_5 _ _ l0_6 ((rd_T72 l0_4 x3_1).f1) t426 _ ?side1 ?side2 ?side3 ?side4 ?side5 ?side6 ?side7 ?side8 ?side9 ?side10 ?side11 ?side12 A31.out).mono ?_
             (case side1 => exact us (Kd.C_below HR0_1.out HB.out))
             (case side2 => exact HC0_1.out)
             (case side3 => exact us (Kd.C_below HR0_2.out HB.out))
             (case side4 => exact HC0_2.out)
             (case side5 => exact us (Kd.C_below HR0_3.out HB.out))
             (case side6 => exact HC0_3.out)
             (case side7 => exact us (Kd.C_below HR0_4.out HB.out))
             (case side8 => exact HC0_4.out)
             (case side9 => exact us (Kd.C_below HR0_5.out HB.out))
             (case side10 => exact HC0_5.out)
             (case side11 => exact us (Kd.C_below HR0_6.out HB.out))
             (case side12 => exact HC0_6.out)
             rintro e w52 ⟨rfl, hb⟩
             refine ⟨_, rfl, ?_⟩
             have n0_ := bw BK420 hb
             have n1_ := bw BK422 hb
             have n2_ := bs HB hb
             revert n0_ n1_ n2_
             clear BK420 BK422 HB
             intro BK420 BK422 HB
             (try clear hb)
             (try clear hb2)
             (try clear hk)
             (try clear hi)
             refine hK.out _ _ ⟨cz BK420 0, cz BK420 1, cz BK420 2, cz BK420 3, cz BK420 4, cz BK420 5, cz BK420 6, cz BK422 0, cz BK422 1⟩ (fun hHeld => ?_)
             clear hK K
             refine norm_ (a' := ?_) ?_ ?_
             rotate_left
             ·show Act.put _ (some 66) _ = _
              simp only [Act.put, List.setIfInBounds_toArray, List.set_cons_zero, List.set_cons_succ, i64_w, i32_w]
              rfl
             refine one_ (i := 7) (N := some 67) (bA 9 255) rfl rfl (one_of HT_.out (by kernel_rfl)) (by decide) (fun K hK => ?_)
             refine goes_ Try.func28 (by kernel_rfl) rfl #[.agg #[.string a0_0, .slice A0_1 l0_1.length c0_1, .slice A0_2 l0_2.length c0_2, .slice A0_3 l0_3.length c0_3, .slice (some ad421) l0_4.length c0_4, .slice A0_5 l0_5.length c0_5, .slice A0_6 l0_6.length c0_6], .int .u64 ((rd_T72 l0_4 x3_1).f0), .int .u64 t426] (by rfl) rfl rfl (by (try simp only [List.map_toArray, List.map_cons, List.map_nil]); first | done | rfl | (simp only [List.length_drop, List.length_take]; rfl)) ?_
             with_reducible refine (curtilageref10_At.calls kj20 a0_0 _ _ l0_1 _ _ l0_2 _ _ l0_3 _ _ l0_4 _ _ l0_5 _ _ l0_6 ((rd_T72 l0_4 x3_1).f0) t426 t427 _ ?side1 ?side2 ?side3 ?side4 ?side5 ?side6 ?side7 ?side8 ?side9 ?side10 ?side11 ?side12 A32.out).mono ?_
             (case side1 => exact us (Kd.C_below HR0_1.out HB.out))
             (case side2 => exact HC0_1.out)
             (case side3 => exact us (Kd.C_below HR0_2.out HB.out))
             (case side4 => exact HC0_2.out)
             (case side5 => exact us (Kd.C_below HR0_3.out HB.out))
             (case side6 => exact HC0_3.out)
             (case side7 => exact us (Kd.C_below HR0_4.out HB.out))
             (case side8 => exact HC0_4.out)
             (case side9 => exact us (Kd.C_below HR0_5.out HB.out))
             (case side10 => exact HC0_5.out)
             (case side11 => exact us (Kd.C_below HR0_6.out HB.out))
             (case side12 => exact HC0_6.out)
             rintro e w53 ⟨rfl, hb⟩
             refine ⟨_, rfl, ?_⟩
             have n0_ := bw BK420 hb
             have n1_ := bw BK422 hb
             have n2_ := bs HB hb
             revert n0_ n1_ n2_
             clear BK420 BK422 HB
             intro BK420 BK422 HB
             (try clear hb)
             (try clear hb2)
             (try clear hk)
             (try clear hi)
             refine hK.out _ _ ⟨cz BK420 0, cz BK420 1, cz BK420 2, cz BK420 3, cz BK420 4, cz BK420 5, cz BK420 6, cz BK422 0, cz BK422 1⟩ (fun hHeld => ?_)
             clear hK K
             refine norm_ (a' := ?_) ?_ ?_
             rotate_left
             ·show Act.put _ (some 67) _ = _
              simp only [Act.put, List.setIfInBounds_toArray, List.set_cons_zero, List.set_cons_succ, i64_w, i32_w]
              rfl
             refine pv 8 5 (bA 9 511) HT_ ?_
             refine done_ (done_of HT_.out (by kernel_rfl)) ?_
             have hnb54 := NB420_422.out
             have hnc54 := NB422_420.out
             obtain ⟨hcz55_0, hcz55_1, hcz55_2, hcz55_3, hcz55_4, hcz55_5, hcz55_6, hfz55_0, hfz55_1, hfz55_2, hfz55_3, hfz55_4, hfz55_5, hfz55_6⟩ := cl7 BK420
             have p428 : 0 ≤ (t427 : Int) := ud
             have q428 : t427 < (l0_2.length : Int) := ud
             obtain ⟨ad428, A428_3, c428_3, e428, hx428_0, hx428_1, hx428_2, hx428_3, hl428_3, hi428_3⟩ := at_T67 HR0_2.out t427 p428 q428
             cases e428
             replace hx428_0 := bcel HB hx428_0
             replace hx428_1 := bcel HB hx428_1
             replace hx428_2 := bcel HB hx428_2
             replace hx428_3 := bcel HB hx428_3
             have HR428_3 := am hi428_3
             have HC428_3 := am hl428_3
             clear hi428_3 hl428_3
             replace p428 := eq_true p428
             replace q428 := eq_true q428
             try go_wp2
             go_ret
             exact ur (uc HB.out)
   ·rw [if_neg c3] at H
    have c3b0 := decide_eq_false c3
    clear c3
    obtain rfl := Option.some.inj H
    obtain ⟨hcz56_0, hcz56_1, hcz56_2, hcz56_3, hcz56_4, hcz56_5, hcz56_6, hfz56_0, hfz56_1, hfz56_2, hfz56_3, hfz56_4, hfz56_5, hfz56_6⟩ := cl7 BK420
    go_wp2
    go_ret
    exact ur (uc HB.out)

end Go.Proofs.Ytlbfeklpncoccaa.P
