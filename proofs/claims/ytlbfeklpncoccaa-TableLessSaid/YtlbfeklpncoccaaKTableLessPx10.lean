/- What functions of the program, and of its laws, give, each proved of its code by a walk; no condition. -/
import Derived.Test.YtlbfeklpncoccaaKTableLessPx0
import Derived.Test.YtlbfeklpncoccaaKTableLessSq
import Derived.Test.YtlbfeklpncoccaaKTableLessUsh
import Derived.Test.YtlbfeklpncoccaaKTableLessUs4
namespace Go.Proofs.Ytlbfeklpncoccaa.P
open Go.RowKit Go.Proofs.YtlbfeklpncoccaaW.PrintWords Go.Proofs.YtlbfeklpncoccaaW.PrintLast Go.Proofs.YtlbfeklpncoccaaW.PrintMore
attribute [local go_sem] max2_int min2_int max_two min_two max_three min_three max_four min_four   -- for this text's walks alone
set_option linter.unusedVariables false
set_option linter.unusedSimpArgs false

mutual
def curtilageref10_Segments.l0 : Nat → List (S67) → Int → Option (Bool)
  | 0, _, _ => none
  | k + 1, x0, x3 => if x3 < (x0.length : Int) then (if 0 ≤ x3 then (if (Int.tmod ((rd_T67 x0 x3).f0) 256) = 0 then (if ((rd_T67 x0 x3).f1) = 0 then (curtilageref10_Segments.j1 k x0 x3 true ((rd_T67 x0 x3).f0) ((rd_T67 x0 x3).f1) ((rd_T67 x0 x3).f2) ((rd_T67 x0 x3).f3)) else (if ((rd_T67 x0 x3).f1) > 2048 then (curtilageref10_Segments.j1 k x0 x3 true ((rd_T67 x0 x3).f0) ((rd_T67 x0 x3).f1) ((rd_T67 x0 x3).f2) ((rd_T67 x0 x3).f3)) else (if ((rd_T67 x0 x3).f0) > 16384 then (curtilageref10_Segments.j1 k x0 x3 true ((rd_T67 x0 x3).f0) ((rd_T67 x0 x3).f1) ((rd_T67 x0 x3).f2) ((rd_T67 x0 x3).f3)) else (if (IntKind.u64.wrap (((rd_T67 x0 x3).f0) + ((rd_T67 x0 x3).f1))) > 16384 then (curtilageref10_Segments.j1 k x0 x3 true ((rd_T67 x0 x3).f0) ((rd_T67 x0 x3).f1) ((rd_T67 x0 x3).f2) ((rd_T67 x0 x3).f3)) else (curtilageref10_Segments.j1 k x0 x3 (decide ((((rd_T67 x0 x3).f3).length : Int) > (wrap64 ((rd_T67 x0 x3).f1)))) ((rd_T67 x0 x3).f0) ((rd_T67 x0 x3).f1) ((rd_T67 x0 x3).f2) ((rd_T67 x0 x3).f3)))))) else (curtilageref10_Segments.j1 k x0 x3 true ((rd_T67 x0 x3).f0) ((rd_T67 x0 x3).f1) ((rd_T67 x0 x3).f2) ((rd_T67 x0 x3).f3))) else (none)) else (some true)
def curtilageref10_Segments.j1 : Nat → List (S67) → Int → Bool → Int → Int → Int → List Int → Option (Bool)
  | 0, _, _, _, _, _, _, _ => none
  | k + 1, x0, x3, x51, x407000, x407001, x407002, x407003 => if x51 = true then (some false) else (if x407002 < 1 then (curtilageref10_Segments.j2 k x0 x3 true x407000 x407001 x407002 x407003) else (if x407002 > 5 then (curtilageref10_Segments.j2 k x0 x3 true x407000 x407001 x407002 x407003) else (curtilageref10_Segments.j2 k x0 x3 (x407002 == 0) x407000 x407001 x407002 x407003)))
def curtilageref10_Segments.j2 : Nat → List (S67) → Int → Bool → Int → Int → Int → List Int → Option (Bool)
  | 0, _, _, _, _, _, _, _ => none
  | k + 1, x0, x3, x64, x407000, x407001, x407002, x407003 => if x64 = true then (some false) else (if x3 > 0 then (if 0 ≤ (wrap64 (x3 - 1)) then (if (wrap64 (x3 - 1)) < (x0.length : Int) then (curtilageref10_Segments.l1 k x0 x3 (IntKind.u64.wrap (((rd_T67 x0 (wrap64 (x3 - 1))).f0) + ((rd_T67 x0 (wrap64 (x3 - 1))).f1))) x407000 x407001 x407002 x407003) else (none)) else (none)) else (curtilageref10_Segments.l0 k x0 (wrap64 (x3 + 1))))
def curtilageref10_Segments.l1 : Nat → List (S67) → Int → Int → Int → Int → Int → List Int → Option (Bool)
  | 0, _, _, _, _, _, _, _ => none
  | k + 1, x0, x3, x5, x407000, x407001, x407002, x407003 => if (Int.tmod x5 256) = 0 then (if x407000 < x5 then (some false) else (curtilageref10_Segments.l0 k x0 (wrap64 (x3 + 1)))) else (curtilageref10_Segments.l1 k x0 x3 (IntKind.u64.wrap (x5 + 1)) x407000 x407001 x407002 x407003)
end
def curtilageref10_Segments.f (k : Nat) (l0 : List (S67)) : Option (Bool) := curtilageref10_Segments.l0 k l0 0
theorem curtilageref10_Segments.mono_l : ∀ k, (∀ y0 y1, LeO (curtilageref10_Segments.l0 k y0 y1) (curtilageref10_Segments.l0 (k + 1) y0 y1)) ∧ (∀ y0 y1 y2 y3 y4 y5 y6, LeO (curtilageref10_Segments.j1 k y0 y1 y2 y3 y4 y5 y6) (curtilageref10_Segments.j1 (k + 1) y0 y1 y2 y3 y4 y5 y6)) ∧ (∀ y0 y1 y2 y3 y4 y5 y6, LeO (curtilageref10_Segments.j2 k y0 y1 y2 y3 y4 y5 y6) (curtilageref10_Segments.j2 (k + 1) y0 y1 y2 y3 y4 y5 y6)) ∧ (∀ y0 y1 y2 y3 y4 y5 y6, LeO (curtilageref10_Segments.l1 k y0 y1 y2 y3 y4 y5 y6) (curtilageref10_Segments.l1 (k + 1) y0 y1 y2 y3 y4 y5 y6))
  | 0 => ⟨fun _ _ r h => by simp [curtilageref10_Segments.l0] at h, fun _ _ _ _ _ _ _ r h => by simp [curtilageref10_Segments.j1] at h, fun _ _ _ _ _ _ _ r h => by simp [curtilageref10_Segments.j2] at h, fun _ _ _ _ _ _ _ r h => by simp [curtilageref10_Segments.l1] at h⟩
  | k + 1 => by
    obtain ⟨ih0, ih1, ih2, ih3⟩ := curtilageref10_Segments.mono_l k
    refine ⟨?_, ?_, ?_, ?_⟩
    · intro y0 y1
      unfold curtilageref10_Segments.l0
      repeat' first
      | (with_reducible exact ih0 _ _)
      | (with_reducible exact ih1 _ _ _ _ _ _ _)
      | (with_reducible exact ih2 _ _ _ _ _ _ _)
      | (with_reducible exact ih3 _ _ _ _ _ _ _)
      | (with_reducible exact LeO.refl _)
      | (with_reducible exact LeO.none _)
      | (with_reducible refine LeO.ite ?_ ?_)
      | (with_reducible refine LeO.bind ?_ (fun _ => ?_))
      | exact ih0 _ _
      | exact ih1 _ _ _ _ _ _ _
      | exact ih2 _ _ _ _ _ _ _
      | exact ih3 _ _ _ _ _ _ _
      | exact LeO.none _
      | refine LeO.ite ?_ ?_
      | refine LeO.bind ?_ (fun _ => ?_)
    · intro y0 y1 y2 y3 y4 y5 y6
      unfold curtilageref10_Segments.j1
      repeat' first
      | (with_reducible exact ih0 _ _)
      | (with_reducible exact ih1 _ _ _ _ _ _ _)
      | (with_reducible exact ih2 _ _ _ _ _ _ _)
      | (with_reducible exact ih3 _ _ _ _ _ _ _)
      | (with_reducible exact LeO.refl _)
      | (with_reducible exact LeO.none _)
      | (with_reducible refine LeO.ite ?_ ?_)
      | (with_reducible refine LeO.bind ?_ (fun _ => ?_))
      | exact ih0 _ _
      | exact ih1 _ _ _ _ _ _ _
      | exact ih2 _ _ _ _ _ _ _
      | exact ih3 _ _ _ _ _ _ _
      | exact LeO.none _
      | refine LeO.ite ?_ ?_
      | refine LeO.bind ?_ (fun _ => ?_)
    · intro y0 y1 y2 y3 y4 y5 y6
      unfold curtilageref10_Segments.j2
      repeat' first
      | (with_reducible exact ih0 _ _)
      | (with_reducible exact ih1 _ _ _ _ _ _ _)
      | (with_reducible exact ih2 _ _ _ _ _ _ _)
      | (with_reducible exact ih3 _ _ _ _ _ _ _)
      | (with_reducible exact LeO.refl _)
      | (with_reducible exact LeO.none _)
      | (with_reducible refine LeO.ite ?_ ?_)
      | (with_reducible refine LeO.bind ?_ (fun _ => ?_))
      | exact ih0 _ _
      | exact ih1 _ _ _ _ _ _ _
      | exact ih2 _ _ _ _ _ _ _
      | exact ih3 _ _ _ _ _ _ _
      | exact LeO.none _
      | refine LeO.ite ?_ ?_
      | refine LeO.bind ?_ (fun _ => ?_)
    · intro y0 y1 y2 y3 y4 y5 y6
      unfold curtilageref10_Segments.l1
      repeat' first
      | (with_reducible exact ih0 _ _)
      | (with_reducible exact ih1 _ _ _ _ _ _ _)
      | (with_reducible exact ih2 _ _ _ _ _ _ _)
      | (with_reducible exact ih3 _ _ _ _ _ _ _)
      | (with_reducible exact LeO.refl _)
      | (with_reducible exact LeO.none _)
      | (with_reducible refine LeO.ite ?_ ?_)
      | (with_reducible refine LeO.bind ?_ (fun _ => ?_))
      | exact ih0 _ _
      | exact ih1 _ _ _ _ _ _ _
      | exact ih2 _ _ _ _ _ _ _
      | exact ih3 _ _ _ _ _ _ _
      | exact LeO.none _
      | refine LeO.ite ?_ ?_
      | refine LeO.bind ?_ (fun _ => ?_)
theorem curtilageref10_Segments.mono : ∀ a0 k, LeO (curtilageref10_Segments.f k a0) (curtilageref10_Segments.f (k + 1) a0) := by
  intro a0 k
  obtain ⟨ih0, ih1, ih2, ih3⟩ := curtilageref10_Segments.mono_l k
  unfold curtilageref10_Segments.f
  repeat' first
      | (with_reducible exact ih0 _ _)
      | (with_reducible exact ih1 _ _ _ _ _ _ _)
      | (with_reducible exact ih2 _ _ _ _ _ _ _)
      | (with_reducible exact ih3 _ _ _ _ _ _ _)
      | (with_reducible exact LeO.refl _)
      | (with_reducible exact LeO.none _)
      | (with_reducible refine LeO.ite ?_ ?_)
      | (with_reducible refine LeO.bind ?_ (fun _ => ?_))
      | exact ih0 _ _
      | exact ih1 _ _ _ _ _ _ _
      | exact ih2 _ _ _ _ _ _ _
      | exact ih3 _ _ _ _ _ _ _
      | exact LeO.none _
      | refine LeO.ite ?_ ?_
      | refine LeO.bind ?_ (fun _ => ?_)
set_option maxHeartbeats 8000000 in
set_option maxRecDepth 100000 in
theorem curtilageref10_Segments.calls (k : Nat) (A0 : Option Addr) (c0 : Nat) (l0 : List (S67)) (r : Bool) (w : World) (hr0 : Kd.C k67 w A0 l0.length l0) (hc0 : l0.length ≤ c0) (h : curtilageref10_Segments.f k l0 = some r) :
  Calls Try.prog 41 #[.slice A0 l0.length c0] w fun e w' => e = .returned (.bool r) ∧ Below w.heap.size w w' := by
 have hu67 := Try.underlying67
 have HR0 := am hr0
 have HC0 := am hc0
 clear hr0 hc0
 have HB := am (Below.refl w.heap.size w)
 have H : (curtilageref10_Segments.l0 k l0 0) = some r := h
 clear h
 have H' := am H
 clear H
 go_enter Try.func41, Try.ntmps41
 go_wp2
 repeat (go_quiet (fail); try go_wp2)
 go_loopg [3] k (fun kq v3 w' => ∃ (x3_1 : Int), v3 = .int .i64 x3_1 ∧ Aside0 (curtilageref10_Segments.l0 kq l0 x3_1 = some r) ∧ Aside0 (kq ≤ k) ∧ Aside0 (Below w.heap.size w w'))
 case atStart => exact ⟨(0), uf, H', ⟨Nat.le_refl _⟩, ⟨uc HB.out⟩⟩
 case round =>
  clear H'
  obtain ⟨x3_1, rfl, HA, HK1, HB⟩ := hrel
  cases gk with
  | zero => exact absurd HA.out (by simp [curtilageref10_Segments.l0])
  | succ k1 =>
   have H := HA.out
   clear HA
   simp only [curtilageref10_Segments.l0] at H
   by_cases c2 : x3_1 < (l0.length : Int)
   ·rw [if_pos c2] at H
    have c2b0 := decide_eq_true c2
    clear c2
    obtain ⟨c3, H⟩ := ic H
    have c3b0 : decide (0 ≤ x3_1) = true := decide_eq_true c3
    clear c3
    have HC4 := am H
    clear H
    have p405 : 0 ≤ (x3_1 : Int) := ud
    have q405 : x3_1 < (l0.length : Int) := ud
    obtain ⟨ad405, A405_3, c405_3, e405, hx405_0, hx405_1, hx405_2, hx405_3, hl405_3, hi405_3⟩ := at_T67 HR0.out x3_1 p405 q405
    cases e405
    replace hx405_0 := bcel HB hx405_0
    replace hx405_1 := bcel HB hx405_1
    replace hx405_2 := bcel HB hx405_2
    replace hx405_3 := bcel HB hx405_3
    have HR405_3 := am hi405_3
    have HC405_3 := am hl405_3
    clear hi405_3 hl405_3
    replace p405 := eq_true p405
    replace q405 := eq_true q405
    go_upto_region 5 with (first | ((with_reducible refine gate_dst (N := 4) rfl ?_); (try (refine gate_guard (by rfl) ?_; dsimp only)); refine box_event ?hg (N := 4) ?hd (cs := #[.int .u64 0, .int .u64 0, .int .i64 0, .slice none 0 0]) (t := 67) ?hr ?_; (case hd => rfl); (case hg => rfl); (case hr => first | (go_simp; done) | (go_simp; rfl)); intro gb406 hg w5 hbox hb; have n0_ := bs HB hb; have n1_ := am (hbox); have n2_ := nz HB hg; have n3_ := nz HB hg; revert n0_ n1_ n2_ n3_; clear HB; intro HB BK406 GW406 GE406; clear hb hbox hg; obtain ⟨hcz6_0, hcz6_1, hcz6_2, hcz6_3, hfz6_0, hfz6_1, hfz6_2, hfz6_3⟩ := cells4 BK406.out) | ((with_reducible refine gate_store (t := 67) (p := 4) rfl ?_); (try (rw [drewN_self w5]; generalize hq_ : World.drewN w5 _ = w5; have n0_ := am (blk_at hq_ BK406.out); have n1_ := am (below_at hq_ HB.out); clear hq_ BK406 HB; revert n0_ n1_; intro BK406 HB)); refine store_event (t := 67) (p := 4) (v := ?vo_w7) (w1 := ((((w5.setCell ⟨gb406, 0, none⟩ (.int .u64 ((rd_T67 l0 x3_1).f0))).setCell ⟨gb406, 1, none⟩ (.int .u64 ((rd_T67 l0 x3_1).f1))).setCell ⟨gb406, 2, none⟩ (.int .i64 ((rd_T67 l0 x3_1).f2))).setCell ⟨gb406, 3, none⟩ (.slice A405_3 ((rd_T67 l0 x3_1).f3).length c405_3))) ?hg ?ho ?hn ?hr ?_; (case ho => rfl); (case hg => rfl); (case hn => rfl); (case hr => first | (go_simp; done) | (go_simp; rfl)); intro w7 hw; have n0_ := bp4 #[.int .u64 ((rd_T67 l0 x3_1).f0), .int .u64 ((rd_T67 l0 x3_1).f1), .int .i64 ((rd_T67 l0 x3_1).f2), .slice A405_3 ((rd_T67 l0 x3_1).f3).length c405_3] hw BK406; have n1_ : Aside0 (Below w.heap.size w w7) := ⟨(by rw [hw]; exact (uc HB.out))⟩; revert n0_ n1_; clear hw BK406 HB; intro BK406 HB))
    repeat (go_quiet (first | ((with_reducible refine gate_dst (N := 4) rfl ?_); (try (refine gate_guard (by rfl) ?_; dsimp only)); refine box_event ?hg (N := 4) ?hd (cs := #[.int .u64 0, .int .u64 0, .int .i64 0, .slice none 0 0]) (t := 67) ?hr ?_; (case hd => rfl); (case hg => rfl); (case hr => first | (go_simp; done) | (go_simp; rfl)); intro gb406 hg w5 hbox hb; have n0_ := bs HB hb; have n1_ := am (hbox); have n2_ := nz HB hg; have n3_ := nz HB hg; revert n0_ n1_ n2_ n3_; clear HB; intro HB BK406 GW406 GE406; clear hb hbox hg; obtain ⟨hcz6_0, hcz6_1, hcz6_2, hcz6_3, hfz6_0, hfz6_1, hfz6_2, hfz6_3⟩ := cells4 BK406.out) | ((with_reducible refine gate_store (t := 67) (p := 4) rfl ?_); (try (rw [drewN_self w5]; generalize hq_ : World.drewN w5 _ = w5; have n0_ := am (blk_at hq_ BK406.out); have n1_ := am (below_at hq_ HB.out); clear hq_ BK406 HB; revert n0_ n1_; intro BK406 HB)); refine store_event (t := 67) (p := 4) (v := ?vo_w7) (w1 := ((((w5.setCell ⟨gb406, 0, none⟩ (.int .u64 ((rd_T67 l0 x3_1).f0))).setCell ⟨gb406, 1, none⟩ (.int .u64 ((rd_T67 l0 x3_1).f1))).setCell ⟨gb406, 2, none⟩ (.int .i64 ((rd_T67 l0 x3_1).f2))).setCell ⟨gb406, 3, none⟩ (.slice A405_3 ((rd_T67 l0 x3_1).f3).length c405_3))) ?hg ?ho ?hn ?hr ?_; (case ho => rfl); (case hg => rfl); (case hn => rfl); (case hr => first | (go_simp; done) | (go_simp; rfl)); intro w7 hw; have n0_ := bp4 #[.int .u64 ((rd_T67 l0 x3_1).f0), .int .u64 ((rd_T67 l0 x3_1).f1), .int .i64 ((rd_T67 l0 x3_1).f2), .slice A405_3 ((rd_T67 l0 x3_1).f3).length c405_3] hw BK406; have n1_ : Aside0 (Below w.heap.size w w7) := ⟨(by rw [hw]; exact (uc HB.out))⟩; revert n0_ n1_; clear hw BK406 HB; intro BK406 HB)); go_upto_region 5 with (first | ((with_reducible refine gate_dst (N := 4) rfl ?_); (try (refine gate_guard (by rfl) ?_; dsimp only)); refine box_event ?hg (N := 4) ?hd (cs := #[.int .u64 0, .int .u64 0, .int .i64 0, .slice none 0 0]) (t := 67) ?hr ?_; (case hd => rfl); (case hg => rfl); (case hr => first | (go_simp; done) | (go_simp; rfl)); intro gb406 hg w5 hbox hb; have n0_ := bs HB hb; have n1_ := am (hbox); have n2_ := nz HB hg; have n3_ := nz HB hg; revert n0_ n1_ n2_ n3_; clear HB; intro HB BK406 GW406 GE406; clear hb hbox hg; obtain ⟨hcz6_0, hcz6_1, hcz6_2, hcz6_3, hfz6_0, hfz6_1, hfz6_2, hfz6_3⟩ := cells4 BK406.out) | ((with_reducible refine gate_store (t := 67) (p := 4) rfl ?_); (try (rw [drewN_self w5]; generalize hq_ : World.drewN w5 _ = w5; have n0_ := am (blk_at hq_ BK406.out); have n1_ := am (below_at hq_ HB.out); clear hq_ BK406 HB; revert n0_ n1_; intro BK406 HB)); refine store_event (t := 67) (p := 4) (v := ?vo_w7) (w1 := ((((w5.setCell ⟨gb406, 0, none⟩ (.int .u64 ((rd_T67 l0 x3_1).f0))).setCell ⟨gb406, 1, none⟩ (.int .u64 ((rd_T67 l0 x3_1).f1))).setCell ⟨gb406, 2, none⟩ (.int .i64 ((rd_T67 l0 x3_1).f2))).setCell ⟨gb406, 3, none⟩ (.slice A405_3 ((rd_T67 l0 x3_1).f3).length c405_3))) ?hg ?ho ?hn ?hr ?_; (case ho => rfl); (case hg => rfl); (case hn => rfl); (case hr => first | (go_simp; done) | (go_simp; rfl)); intro w7 hw; have n0_ := bp4 #[.int .u64 ((rd_T67 l0 x3_1).f0), .int .u64 ((rd_T67 l0 x3_1).f1), .int .i64 ((rd_T67 l0 x3_1).f2), .slice A405_3 ((rd_T67 l0 x3_1).f3).length c405_3] hw BK406; have n1_ : Aside0 (Below w.heap.size w w7) := ⟨(by rw [hw]; exact (uc HB.out))⟩; revert n0_ n1_; clear hw BK406 HB; intro BK406 HB)))
    (try simp only [Act.put, List.setIfInBounds_toArray, List.set_cons_zero, List.set_cons_succ])
    go_cut [51] (fun v51 wc => ∃ (kq : Nat) (x51_3 : Bool), v51 = .bool x51_3 ∧ Aside0 (curtilageref10_Segments.j1 kq l0 x3_1 x51_3 ((rd_T67 l0 x3_1).f0) ((rd_T67 l0 x3_1).f1) ((rd_T67 l0 x3_1).f2) ((rd_T67 l0 x3_1).f3) = some r) ∧ Aside0 (kq ≤ k1) ∧ Aside0 (wc.heap[gb406]? = some (.cells #[.int .u64 ((rd_T67 l0 x3_1).f0), .int .u64 ((rd_T67 l0 x3_1).f1), .int .i64 ((rd_T67 l0 x3_1).f2), (.slice A405_3 ((rd_T67 l0 x3_1).f3).length c405_3)] 67 (0, 0))) ∧ Aside0 (Below w.heap.size w wc))
    case first =>
     have H := HC4.out
     clear HC4
     by_cases c8 : (Int.tmod ((rd_T67 l0 x3_1).f0) 256) = 0
     ·rw [if_pos c8] at H
      have c8b0 := beq_iff_eq.mpr c8
      have c8b1 := bne_eq_false_iff_eq.mpr c8
      clear c8
      (first | rw [c8b0] | (simp only [i64_w, i32_w]; rw [c8b0]) | skip)
      by_cases c9 : ((rd_T67 l0 x3_1).f1) = 0
      ·rw [if_pos c9] at H
       have c9b0 := beq_iff_eq.mpr c9
       have c9b1 := bne_eq_false_iff_eq.mpr c9
       clear c9
       have H' := am H
       clear H
       obtain ⟨hcz10_0, hcz10_1, hcz10_2, hcz10_3, hfz10_0, hfz10_1, hfz10_2, hfz10_3⟩ := cl4 BK406
       go_wp2
       repeat (go_quiet (fail); try go_wp2)
       go_meet
       case rel => exact ⟨_, (true), uf, H', ⟨by have := HK1.out; first | omega | exact Nat.le_refl _⟩, ⟨ub BK406.out⟩, ⟨uc HB.out⟩⟩
      ·rw [if_neg c9] at H
       have c9b0 := beq_eq_false_iff_ne.mpr c9
       have c9b1 := bne_iff_ne.mpr c9
       by_cases c11 : ((rd_T67 l0 x3_1).f1) > 2048
       ·rw [if_pos c11] at H
        have c11b0 : decide (2048 < ((rd_T67 l0 x3_1).f1)) = true := decide_eq_true c11
        clear c11
        have H' := am H
        clear H
        obtain ⟨hcz12_0, hcz12_1, hcz12_2, hcz12_3, hfz12_0, hfz12_1, hfz12_2, hfz12_3⟩ := cl4 BK406
        go_wp2
        repeat (go_quiet (fail); try go_wp2)
        go_meet
        case rel => exact ⟨_, (true), uf, H', ⟨by have := HK1.out; first | omega | exact Nat.le_refl _⟩, ⟨ub BK406.out⟩, ⟨uc HB.out⟩⟩
       ·rw [if_neg c11] at H
        have c11b0 : decide (2048 < ((rd_T67 l0 x3_1).f1)) = false := decide_eq_false c11
        clear c11
        by_cases c13 : ((rd_T67 l0 x3_1).f0) > 16384
        ·rw [if_pos c13] at H
         have c13b0 : decide (16384 < ((rd_T67 l0 x3_1).f0)) = true := decide_eq_true c13
         clear c13
         have H' := am H
         clear H
         obtain ⟨hcz14_0, hcz14_1, hcz14_2, hcz14_3, hfz14_0, hfz14_1, hfz14_2, hfz14_3⟩ := cl4 BK406
         go_wp2
         repeat (go_quiet (fail); try go_wp2)
         go_meet
         case rel => exact ⟨_, (true), uf, H', ⟨by have := HK1.out; first | omega | exact Nat.le_refl _⟩, ⟨ub BK406.out⟩, ⟨uc HB.out⟩⟩
        ·rw [if_neg c13] at H
         have c13b0 : decide (16384 < ((rd_T67 l0 x3_1).f0)) = false := decide_eq_false c13
         clear c13
         by_cases c15 : (IntKind.u64.wrap (((rd_T67 l0 x3_1).f0) + ((rd_T67 l0 x3_1).f1))) > 16384
         ·rw [if_pos c15] at H
          have c15b0 : decide (16384 < (IntKind.u64.wrap (((rd_T67 l0 x3_1).f0) + ((rd_T67 l0 x3_1).f1)))) = true := decide_eq_true c15
          clear c15
          have H' := am H
          clear H
          obtain ⟨hcz16_0, hcz16_1, hcz16_2, hcz16_3, hfz16_0, hfz16_1, hfz16_2, hfz16_3⟩ := cl4 BK406
          go_wp2
          repeat (go_quiet (fail); try go_wp2)
          go_meet
          case rel => exact ⟨_, (true), uf, H', ⟨by have := HK1.out; first | omega | exact Nat.le_refl _⟩, ⟨ub BK406.out⟩, ⟨uc HB.out⟩⟩
         ·rw [if_neg c15] at H
          have c15b0 : decide (16384 < (IntKind.u64.wrap (((rd_T67 l0 x3_1).f0) + ((rd_T67 l0 x3_1).f1)))) = false := decide_eq_false c15
          clear c15
          have H' := am H
          clear H
          obtain ⟨hcz17_0, hcz17_1, hcz17_2, hcz17_3, hfz17_0, hfz17_1, hfz17_2, hfz17_3⟩ := cl4 BK406
          go_wp2
          repeat (go_quiet (fail); try go_wp2)
          go_meet
          case rel => exact ⟨_, (decide ((((rd_T67 l0 x3_1).f3).length : Int) > (wrap64 ((rd_T67 l0 x3_1).f1)))), uf, H', ⟨by have := HK1.out; first | omega | exact Nat.le_refl _⟩, ⟨ub BK406.out⟩, ⟨uc HB.out⟩⟩
     ·rw [if_neg c8] at H
      have c8b0 := beq_eq_false_iff_ne.mpr c8
      have c8b1 := bne_iff_ne.mpr c8
      (first | rw [c8b0] | (simp only [i64_w, i32_w]; rw [c8b0]) | skip)
      have H' := am H
      clear H
      obtain ⟨hcz18_0, hcz18_1, hcz18_2, hcz18_3, hfz18_0, hfz18_1, hfz18_2, hfz18_3⟩ := cl4 BK406
      go_wp2
      repeat (go_quiet (fail); try go_wp2)
      go_meet
      case rel => exact ⟨_, (true), uf, H', ⟨by have := HK1.out; first | omega | exact Nat.le_refl _⟩, ⟨ub BK406.out⟩, ⟨uc HB.out⟩⟩
    case rest =>
     clear HC4
     clear c2b0 c3b0 hcz6_0 hcz6_1 hcz6_2 hcz6_3 hfz6_0 hfz6_1 hfz6_2 hfz6_3 hx405_0 hx405_1 hx405_2 hx405_3 p405 q405
     obtain ⟨kq, x51_3, rfl, HA, HJ3, BK406, HB⟩ := hcut
     cases kq with
     | zero => exact absurd HA.out (by simp [curtilageref10_Segments.j1])
     | succ kj3 =>
      have H := HA.out
      clear HA
      simp only [curtilageref10_Segments.j1] at H
      by_cases c19 : x51_3 = true
      ·subst c19
       have H1 : (some false) = some r := by rw [if_pos rfl] at H; exact H
       clear H
       have H := H1
       clear H1
       obtain rfl := Option.some.inj H
       go_wp2
       repeat (go_quiet (fail); try go_wp2)
       go_ret
       exact ur (uc HB.out)
      ·replace c19 := Bool.eq_false_iff.mpr c19
       subst c19
       have H1 : (if ((rd_T67 l0 x3_1).f2) < 1 then (curtilageref10_Segments.j2 kj3 l0 x3_1 true ((rd_T67 l0 x3_1).f0) ((rd_T67 l0 x3_1).f1) ((rd_T67 l0 x3_1).f2) ((rd_T67 l0 x3_1).f3)) else (if ((rd_T67 l0 x3_1).f2) > 5 then (curtilageref10_Segments.j2 kj3 l0 x3_1 true ((rd_T67 l0 x3_1).f0) ((rd_T67 l0 x3_1).f1) ((rd_T67 l0 x3_1).f2) ((rd_T67 l0 x3_1).f3)) else (curtilageref10_Segments.j2 kj3 l0 x3_1 (((rd_T67 l0 x3_1).f2) == 0) ((rd_T67 l0 x3_1).f0) ((rd_T67 l0 x3_1).f1) ((rd_T67 l0 x3_1).f2) ((rd_T67 l0 x3_1).f3)))) = some r := by rw [if_neg (show ¬ (false = true) by decide)] at H; exact H
       clear H
       have H := H1
       clear H1
       have HC20 := am H
       clear H
       go_upto_region 7 with (fail)
       repeat (go_quiet (fail); go_upto_region 7 with (fail))
       go_cut [64] (fun v64 wc => ∃ (kq : Nat) (x64_19 : Bool), v64 = .bool x64_19 ∧ Aside0 (curtilageref10_Segments.j2 kq l0 x3_1 x64_19 ((rd_T67 l0 x3_1).f0) ((rd_T67 l0 x3_1).f1) ((rd_T67 l0 x3_1).f2) ((rd_T67 l0 x3_1).f3) = some r) ∧ Aside0 (kq ≤ kj3) ∧ Aside0 (wc.heap[gb406]? = some (.cells #[.int .u64 ((rd_T67 l0 x3_1).f0), .int .u64 ((rd_T67 l0 x3_1).f1), .int .i64 ((rd_T67 l0 x3_1).f2), (.slice A405_3 ((rd_T67 l0 x3_1).f3).length c405_3)] 67 (0, 0))) ∧ Aside0 (Below w.heap.size w wc))
       case first =>
        have H := HC20.out
        clear HC20
        by_cases c21 : ((rd_T67 l0 x3_1).f2) < 1
        ·rw [if_pos c21] at H
         have c21b0 := decide_eq_true c21
         clear c21
         (first | rw [c21b0] | (simp only [i64_w, i32_w]; rw [c21b0]) | skip)
         have H' := am H
         clear H
         obtain ⟨hcz22_0, hcz22_1, hcz22_2, hcz22_3, hfz22_0, hfz22_1, hfz22_2, hfz22_3⟩ := cl4 BK406
         go_wp2
         repeat (go_quiet (fail); try go_wp2)
         go_meet
         case rel => exact ⟨_, (true), uf, H', ⟨by have := HK1.out; have := HJ3.out; first | omega | exact Nat.le_refl _⟩, ⟨ub BK406.out⟩, ⟨uc HB.out⟩⟩
        ·rw [if_neg c21] at H
         have c21b0 := decide_eq_false c21
         clear c21
         (first | rw [c21b0] | (simp only [i64_w, i32_w]; rw [c21b0]) | skip)
         by_cases c23 : ((rd_T67 l0 x3_1).f2) > 5
         ·rw [if_pos c23] at H
          have c23b0 : decide (5 < ((rd_T67 l0 x3_1).f2)) = true := decide_eq_true c23
          clear c23
          have H' := am H
          clear H
          obtain ⟨hcz24_0, hcz24_1, hcz24_2, hcz24_3, hfz24_0, hfz24_1, hfz24_2, hfz24_3⟩ := cl4 BK406
          go_wp2
          repeat (go_quiet (fail); try go_wp2)
          go_meet
          case rel => exact ⟨_, (true), uf, H', ⟨by have := HK1.out; have := HJ3.out; first | omega | exact Nat.le_refl _⟩, ⟨ub BK406.out⟩, ⟨uc HB.out⟩⟩
         ·rw [if_neg c23] at H
          have c23b0 : decide (5 < ((rd_T67 l0 x3_1).f2)) = false := decide_eq_false c23
          clear c23
          have H' := am H
          clear H
          obtain ⟨hcz25_0, hcz25_1, hcz25_2, hcz25_3, hfz25_0, hfz25_1, hfz25_2, hfz25_3⟩ := cl4 BK406
          go_wp2
          repeat (go_quiet (fail); try go_wp2)
          go_meet
          case rel => exact ⟨_, ((((rd_T67 l0 x3_1).f2) == 0)), uf, H', ⟨by have := HK1.out; have := HJ3.out; first | omega | exact Nat.le_refl _⟩, ⟨ub BK406.out⟩, ⟨uc HB.out⟩⟩
       case rest =>
        clear HC20
        obtain ⟨kq, x64_19, rfl, HA, HJ19, BK406, HB⟩ := hcut
        cases kq with
        | zero => exact absurd HA.out (by simp [curtilageref10_Segments.j2])
        | succ kj19 =>
         have H := HA.out
         clear HA
         simp only [curtilageref10_Segments.j2] at H
         by_cases c26 : x64_19 = true
         ·subst c26
          have H1 : (some false) = some r := by rw [if_pos rfl] at H; exact H
          clear H
          have H := H1
          clear H1
          obtain rfl := Option.some.inj H
          go_wp2
          repeat (go_quiet (fail); try go_wp2)
          go_ret
          exact ur (uc HB.out)
         ·replace c26 := Bool.eq_false_iff.mpr c26
          subst c26
          have H1 : (if x3_1 > 0 then (if 0 ≤ (wrap64 (x3_1 - 1)) then (if (wrap64 (x3_1 - 1)) < (l0.length : Int) then (curtilageref10_Segments.l1 kj19 l0 x3_1 (IntKind.u64.wrap (((rd_T67 l0 (wrap64 (x3_1 - 1))).f0) + ((rd_T67 l0 (wrap64 (x3_1 - 1))).f1))) ((rd_T67 l0 x3_1).f0) ((rd_T67 l0 x3_1).f1) ((rd_T67 l0 x3_1).f2) ((rd_T67 l0 x3_1).f3)) else (none)) else (none)) else (curtilageref10_Segments.l0 kj19 l0 (wrap64 (x3_1 + 1)))) = some r := by rw [if_neg (show ¬ (false = true) by decide)] at H; exact H
          clear H
          have H := H1
          clear H1
          by_cases c27 : x3_1 > 0
          ·rw [if_pos c27] at H
           have c27b0 : decide (0 < x3_1) = true := decide_eq_true c27
           clear c27
           obtain ⟨ji28, hji28⟩ : ∃ j_ : Int, (wrap64 (x3_1 - 1)) = j_ := ⟨_, rfl⟩
           replace H : (if 0 ≤ (ji28) then (if (ji28) < (l0.length : Int) then (curtilageref10_Segments.l1 kj19 l0 x3_1 (IntKind.u64.wrap (((rd_T67 l0 (ji28)).f0) + ((rd_T67 l0 (ji28)).f1))) ((rd_T67 l0 x3_1).f0) ((rd_T67 l0 x3_1).f1) ((rd_T67 l0 x3_1).f2) ((rd_T67 l0 x3_1).f3)) else (none)) else (none)) = some r := by first | (rw [hji28] at H; exact H) | (simp only [hji28] at H ⊢; exact H)
           have hji28w : (IntKind.i64.wrap (x3_1 - 1)) = ji28 := (i64_w _).trans hji28
           obtain ⟨c29, H⟩ := ic H
           have c29b0 : decide (0 ≤ (ji28)) = true := decide_eq_true c29
           clear c29
           obtain ⟨c30, H⟩ := ic H
           have c30b0 : decide ((ji28) < (l0.length : Int)) = true := decide_eq_true c30
           clear c30
           have H' := am H
           clear H
           have p407 : 0 ≤ ((ji28) : Int) := ud
           have q407 : (ji28) < (l0.length : Int) := ud
           obtain ⟨ad407, A407_3, c407_3, e407, hx407_0, hx407_1, hx407_2, hx407_3, hl407_3, hi407_3⟩ := at_T67 HR0.out (ji28) p407 q407
           obtain rfl : ad405 = ad407 := (by injection e407)
           replace hx407_0 := bcel HB hx407_0
           replace hx407_1 := bcel HB hx407_1
           replace hx407_2 := bcel HB hx407_2
           replace hx407_3 := bcel HB hx407_3
           have HR407_3 := am hi407_3
           have HC407_3 := am hl407_3
           clear hi407_3 hl407_3
           replace p407 := eq_true p407
           replace q407 := eq_true q407
           have p408 : 0 ≤ ((ji28) : Int) := ud
           have q408 : (ji28) < (l0.length : Int) := ud
           obtain ⟨ad408, A408_3, c408_3, e408, hx408_0, hx408_1, hx408_2, hx408_3, hl408_3, hi408_3⟩ := at_T67 HR0.out (ji28) p408 q408
           obtain rfl : ad405 = ad408 := (by injection e408)
           replace hx408_0 := bcel HB hx408_0
           replace hx408_1 := bcel HB hx408_1
           replace hx408_2 := bcel HB hx408_2
           replace hx408_3 := bcel HB hx408_3
           have HR408_3 := am hi408_3
           have HC408_3 := am hl408_3
           clear hi408_3 hl408_3
           replace p408 := eq_true p408
           replace q408 := eq_true q408
           have ea_ := Option.some.inj (hx407_3.symm.trans hx408_3)
           injection ea_ with ea_ en_ ec_
           subst ea_
           subst ec_
           clear en_
           go_wp2
           repeat (go_quiet (fail); try go_wp2)
           go_loopg [5] kj19 (fun kq v5 w' => ∃ (x5_4 : Int), v5 = .int .u64 x5_4 ∧ Aside0 (curtilageref10_Segments.l1 kq l0 x3_1 x5_4 ((rd_T67 l0 x3_1).f0) ((rd_T67 l0 x3_1).f1) ((rd_T67 l0 x3_1).f2) ((rd_T67 l0 x3_1).f3) = some r) ∧ Aside0 (kq ≤ kj19) ∧ Aside0 (w'.heap[gb406]? = some (.cells #[.int .u64 ((rd_T67 l0 x3_1).f0), .int .u64 ((rd_T67 l0 x3_1).f1), .int .i64 ((rd_T67 l0 x3_1).f2), (.slice A405_3 ((rd_T67 l0 x3_1).f3).length c405_3)] 67 (0, 0))) ∧ Aside0 (Below w.heap.size w w'))
           case atStart => exact ⟨(IntKind.u64.wrap (((rd_T67 l0 (ji28)).f0) + ((rd_T67 l0 (ji28)).f1))), (by first | rfl | (simp; done) | (simp only [← hji28] <;> (first | rfl | simp)) | (simp [*]; done)), H', ⟨Nat.le_refl _⟩, ⟨ub BK406.out⟩, ⟨uc HB.out⟩⟩
           case round =>
            clear H'
            clear c27b0 c29b0 c30b0 hx407_0 hx407_1 hx407_2 hx407_3 hx408_0 hx408_1 hx408_2 hx408_3 p407 p408 q407 q408
            obtain ⟨x5_4, rfl, HA, HK4, BK406, HB⟩ := hrel
            cases gk with
            | zero => exact absurd HA.out (by simp [curtilageref10_Segments.l1])
            | succ k4 =>
             have H := HA.out
             clear HA
             simp only [curtilageref10_Segments.l1] at H
             by_cases c31 : (Int.tmod x5_4 256) = 0
             ·rw [if_pos c31] at H
              have c31b0 := beq_iff_eq.mpr c31
              have c31b1 := bne_eq_false_iff_eq.mpr c31
              clear c31
              by_cases c32 : ((rd_T67 l0 x3_1).f0) < x5_4
              ·rw [if_pos c32] at H
               have c32b0 := decide_eq_true c32
               clear c32
               obtain rfl := Option.some.inj H
               obtain ⟨hcz33_0, hcz33_1, hcz33_2, hcz33_3, hfz33_0, hfz33_1, hfz33_2, hfz33_3⟩ := cl4 BK406
               go_wp2
               repeat (go_quiet (fail); try go_wp2)
               go_ret
               exact ⟨by first | rfl | (simp [errW_none, errW_some] <;> rfl) | (simp only [← hji28]; first | rfl | (simp [errW_none, errW_some] <;> rfl)) | (simp [*, errW_none, errW_some] <;> rfl), uc HB.out⟩
              ·rw [if_neg c32] at H
               have c32b0 := decide_eq_false c32
               clear c32
               have H' := am H
               clear H
               obtain ⟨hcz34_0, hcz34_1, hcz34_2, hcz34_3, hfz34_0, hfz34_1, hfz34_2, hfz34_3⟩ := cl4 BK406
               go_wp2
               repeat (go_quiet (fail); try go_wp2)
               go_roundg k4
               case measure => have := HK1.out; have := HJ3.out; have := HJ19.out; have := HK4.out; omega
               case rel => exact ⟨(wrap64 (x3_1 + 1)), uf, H', ⟨by have := HK1.out; have := HJ3.out; have := HJ19.out; have := HK4.out; omega⟩, ⟨uc HB.out⟩⟩
             ·rw [if_neg c31] at H
              have c31b0 := beq_eq_false_iff_ne.mpr c31
              have c31b1 := bne_iff_ne.mpr c31
              have H' := am H
              clear H
              go_wp2
              repeat (go_quiet (fail); try go_wp2)
              go_roundg k4
              case measure => have := HK1.out; have := HJ3.out; have := HJ19.out; have := HK4.out; omega
              case rel => exact ⟨(IntKind.u64.wrap (x5_4 + 1)), uf, H', ⟨by have := HK1.out; have := HJ3.out; have := HJ19.out; have := HK4.out; omega⟩, ⟨ub BK406.out⟩, ⟨uc HB.out⟩⟩
          ·rw [if_neg c27] at H
           have c27b0 : decide (0 < x3_1) = false := decide_eq_false c27
           clear c27
           have H' := am H
           clear H
           go_wp2
           repeat (go_quiet (fail); try go_wp2)
           go_roundg kj19
           case measure => have := HK1.out; have := HJ3.out; have := HJ19.out; omega
           case rel => exact ⟨(wrap64 (x3_1 + 1)), uf, H', ⟨by have := HK1.out; have := HJ3.out; have := HJ19.out; omega⟩, ⟨uc HB.out⟩⟩
   ·rw [if_neg c2] at H
    have c2b0 := decide_eq_false c2
    clear c2
    obtain rfl := Option.some.inj H
    go_wp2
    repeat (go_quiet (fail); try go_wp2)
    go_ret
    exact ur (uc HB.out)

end Go.Proofs.Ytlbfeklpncoccaa.P
