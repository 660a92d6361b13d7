/- What functions of the program, and of its laws, give, each proved of its code by a walk; no condition. -/
import Derived.Test.YtoakeildgpeffaaKPlanWholePx0
import Derived.Test.YtoakeildgpeffaaKPlanWholePx2
import Derived.RangeFuncNested
import Derived.RangeFuncBound
import Derived.RangeFuncCalls
import Derived.RangeFuncLeaves
import Derived.RangeFuncBox
import Derived.Shelf.Abstract
import Derived.OwnWalkIn
import Derived.TacticsInMore
import Derived.LoopNIn
import Derived.LoopIn
import Derived.Test.YtoakeildgpeffaaKPlanWholeRound
namespace Go.Proofs.Ytoakeildgpeffaa.P
open Go.RowKit Go.Proofs.YtoakeildgpeffaaW.PrintWords Go.Proofs.YtoakeildgpeffaaW.PrintLast Go.Proofs.YtoakeildgpeffaaW.PrintMore
attribute [local go_sem] max2_int min2_int max_two min_two max_three min_three max_four min_four   -- for this text's walks alone
set_option linter.unusedVariables false
set_option linter.unusedSimpArgs false

section
open Go.Shelf Go.Proofs.YtoakeildgpeffaaW.Round
attribute [local go_sem] Oper.semAt_some

abbrev SymAt (n : Nat) : Type := { x : Nat × S42 // x.1 < n ∧ x.2.f0.size ≤ 9223372036854775807 }
def symEncs {n : Nat} (x : SymAt n) : Array Value := #[.int .i64 (x.1.1 : Int), .agg #[.string x.1.2.f0, .string x.1.2.f1, .int .u64 x.1.2.f2, .int .u64 x.1.2.f3, .int .i64 x.1.2.f4, .int .i64 x.1.2.f5, .int .i64 x.1.2.f6, .bool x.1.2.f7]]
/-- What comes in round j, from behind. -/
def backOf (l : List S42) (j : Nat) : Nat × S42 := (l.length - 1 - j, rd_T42 l ((l.length - 1 - j : Nat) : Int))
def backAt (l : List S42) (j : Nat) (h0 : j < l.length) (hs : ∀ i : Nat, (rd_T42 l i).f0.size ≤ 9223372036854775807) : SymAt l.length := ⟨backOf l j, by show l.length - 1 - j < l.length; omega, hs _⟩
def upto {α : Type} (f : Nat → α) (k : Nat) : List α := (List.range k).map f
theorem upto_succ {α : Type} (f : Nat → α) (k : Nat) : upto f (k + 1) = upto f k ++ [f k] := by simp [upto, List.range_succ]
/-- What a round keeps: all that lay when the call began, and the iterator's own box. -/
def KpBox (n₀ Bs t : Nat) (v : Value) (W W' : World) : Prop := Below n₀ W W' ∧ (Boxed W Bs t v → Boxed W' Bs t v)
theorem KpBox.trans {n₀ Bs t : Nat} {v : Value} {A B C : World} (h : KpBox n₀ Bs t v A B) (k : KpBox n₀ Bs t v B C) : KpBox n₀ Bs t v A C := ⟨h.1.trans k.1, fun x => k.2 (h.2 x)⟩

set_option maxRecDepth 100000 in
set_option maxHeartbeats 2000000 in
theorem back1_in (n : Nat) (hn : 1 ≤ n) (l Bs : Nat) (A : Option Addr) (c : Nat) (xs : List S42) (hcap : xs.length ≤ c) (hs : ∀ i : Nat, (rd_T42 xs i).f0.size ≤ 9223372036854775807) (w : World) (hC : Kd.C k42 w A xs.length xs) (J Jx : List (SymAt xs.length) → World → Prop)
    (hY : ∀ pre x W, J pre W → pre.length < xs.length → YieldAt Fence.wide (n - 1) Try.prog l (symEncs x) W fun e W' =>
      (e = .returned (.bool true) ∧ J (pre ++ [x]) W' ∧ KpBox w.heap.size Bs 36 (.slice A xs.length c) W W') ∨ (e = .returned (.bool false) ∧ Jx (pre ++ [x]) W'))
    (W : World) (hB : Below w.heap.size w W) (hBs : Boxed W Bs 36 (.slice A xs.length c)) (hJ : J [] W) :
    CallsIn Fence.wide n Try.prog 66 #[.func (.yield l) #[] #[], .pointer (some ⟨Bs, 0, none⟩)] W fun e W' => (∃ v, e = .returned v) ∧
      ((∃ ys, ys.map Subtype.val = upto (backOf xs) xs.length ∧ J ys W') ∨ (∃ pre, True ∧ Jx pre W')) := by
  have hmax : xs.length ≤ 9223372036854775807 := hC.2.1
  have HC := Aside0.mk hC
  clear hC
  have hc0 := hBs.cell
  have HBs := Aside0.mk hBs
  clear hBs
  refine callsIn_of_wp Try.func66 rfl trivial ?_ rfl
  simp only [Try.ntmps66, List.size_toArray, List.length_cons, List.length_nil, Nat.reduceAdd, Nat.reduceSub, Array.replicate_succ, Array.replicate_zero, List.push_toArray, List.append_toArray, List.nil_append, List.cons_append]
  gi_wp2
  clear hc0
  gi_loopw [3] (fun i wr => ∃ (k : Nat) (pre : List (SymAt xs.length)), k ≤ xs.length ∧ i = .int .i64 ((xs.length : Int) - 1 - k) ∧ Aside0 (pre.map Subtype.val = upto (backOf xs) k) ∧ Aside0 (J pre wr) ∧ Aside0 (Below w.heap.size w wr) ∧ Aside0 (Boxed wr Bs 36 (.slice A xs.length c)))
    (fun i _ => (intOf i + 1).toNat)
  case atStart => exact ⟨0, [], Nat.zero_le _, by simp, ⟨rfl⟩, ⟨hJ⟩, ⟨hB⟩, HBs⟩
  case round =>
    obtain ⟨k, pre, hk, rfl, hp, hJs, hnx, hbx⟩ := hrel
    have hpl : pre.length = k := by have := congrArg List.length hp.out; simpa [upto] using this
    by_cases hlt : k < xs.length
    · obtain ⟨fn, tmps, assign, body, hy, hR⟩ := hY pre (backAt xs k hlt hs) wr hJs.out (by rw [hpl]; exact hlt)
      clear hpl
      have he : ((xs.length - 1 - k : Nat) : Int) = (xs.length : Int) - 1 - k := by omega
      simp only [symEncs, backAt, backOf] at hy
      rw [he] at hy
      obtain ⟨j, hj⟩ : ∃ j : Int, (xs.length : Int) - 1 - k = j := ⟨_, rfl⟩
      have hj0 : 0 ≤ j := by omega
      have hj1 : j < xs.length := by omega
      have Hj := Aside0.mk hj
      rw [hj] at hy ⊢
      clear hj he
      have hc0 := hbx.out.cell
      obtain ⟨ad, rfl, q0, q1, q2, q3, q4, q5, q6, q7⟩ := at_T42 (Kd.C_below HC.out hnx.out) j hj0 hj1
      have hj0' := eq_true hj0
      have hj1' := eq_true hj1
      gi_wp2
      refine hR.mono ?_
      rintro e W3 (⟨rfl, hJ3, hk3⟩ | ⟨rfl, hJx3⟩)
      · have HJ3 := Aside0.mk hJ3
        have HK3 := Aside0.mk hk3
        clear hJ3 hk3
        gi_wp2
        go_roundw
        case rel => exact ⟨k + 1, _, by omega, by rw [← Hj.out]; congr 1; omega, ⟨by rw [upto_succ, List.map_append, hp.out]; rfl⟩, HJ3, ⟨hnx.out.trans HK3.out.1⟩, ⟨HK3.out.2 hbx.out⟩⟩
        case measure => simp [intOf]; omega
      · gi_wp2
        refine bodyPost_ret (results_none rfl _ _ _) rfl ?_
        exact ⟨⟨_, rfl⟩, .inr ⟨_, trivial, hJx3⟩⟩
    · obtain rfl : k = xs.length := by omega
      clear hpl
      have hneg : ¬ (0 : Int) ≤ (xs.length : Int) - 1 - (xs.length : Int) := by omega
      gi_wp2
      go_end0
      exact ⟨⟨_, rfl⟩, .inl ⟨pre, hp.out, hJs.out⟩⟩

theorem back_stops (n : Nat) (hn : 1 ≤ n) (Bs : Nat) (A : Option Addr) (c : Nat) (xs : List S42) (hcap : xs.length ≤ c) (hs : ∀ i : Nat, (rd_T42 xs i).f0.size ≤ 9223372036854775807) (w w0 : World) (hC : Kd.C k42 w A xs.length xs) (hB : Below w.heap.size w w0) (hBs : Boxed w0 Bs 36 (.slice A xs.length c)) :
    SeqStopsK Fence.wide n Try.prog 66 #[.pointer (some ⟨Bs, 0, none⟩)] (symEncs (n := xs.length)) (KpBox w.heap.size Bs 36 (.slice A xs.length c)) (fun ys => ys.map Subtype.val = upto (backOf xs) xs.length) (fun _ => True) xs.length w0 :=
  fun l J Jx W hW _ _ hY hJ => back1_in n hn l Bs A c xs hcap hs w hC J Jx hY W (hB.trans (hW.mono hB.size)) ((hW.block Bs hBs.lt).trans hBs) hJ
/-- No panic, and no end for want of memory. -/
def noPanic (Q : Exit → Act → World → Prop) : Exit → Act → World → Prop
  | .panic _, _, _ => False
  | .outgrown, _, _ => False
  | e, a, w => Q e a w
theorem noPanic_mono {Q : Exit → Act → World → Prop} {P : Program} {c : Code} {a : Act} {w : World} (h : c.wp P (noPanic Q) a w) : c.wp P Q a w :=
  wp_mono h (fun e a w hq => by cases e <;> first | exact hq | exact False.elim hq)
theorem postM_ret {F : Fence} {n : Nat} {P : Program} {fn : Func} {R : Ending → World → Prop} {a : Act} {w : World} {v : Value}
    (hr : (results fn a.tmps).run P w = .ok v w) (hd : a.defers = []) (hR : R (.returned v) w) : noPanic (bodyPostM F n P fn R) .ret a w := by
  show LeavesInM F n P fn a.tmps R a.defers .returning w
  rw [hd]
  exact ⟨v, hr, hR⟩
theorem postM_col {F : Fence} {n : Nat} {P : Program} {fn : Func} {R : Ending → World → Prop} {a : Act} {w : World} {v : Value} {D : Nat}
    (hk : w.heap[D]? = some (.deferred (some []))) (hd : a.defers = [{ target := .collected D, args := #[] }])
    (hr : (results fn a.tmps).run P (w.putObj D (.deferred none)) = .ok v (w.putObj D (.deferred none))) (hR : R (.returned v) (w.putObj D (.deferred none))) : noPanic (bodyPostM F n P fn R) .ret a w := by
  show LeavesInM F n P fn a.tmps R a.defers .returning w
  rw [hd]
  exact ⟨by simp, .inl ⟨_, _, rfl, run_takeDeferred hk, v, hr, hR⟩⟩
theorem hash_fix_nonneg (s : Int) : 0 ≤ hash_fix s := by
  unfold hash_fix bits
  rw [IntKind.wrap_u32]
  exact Int.emod_nonneg _ (by decide)
theorem hash_fold_nonneg (l : List Int) : ∀ a : Int, 0 ≤ a → 0 ≤ l.foldl hash_step a := by
  induction l with
  | nil => exact fun a h => h
  | cons x l ih => exact fun a _ => ih _ (hash_fix_nonneg _)
theorem R_own {α : Type} {d : Kd α} {e base : Nat} {ok : Nat → Prop} {W W' : World} {v : Value} {xs : List α} {row : Option Nat} (h : d.R e W base ok v xs) (hg : W.grownBy W' row) (hrow : ∀ r, row = some r → ∃ o : Obj, W.heap[r]? = some o ∧ o.isCells = false) : d.R e W' base ok v xs :=
  Kd.R_mono (Kd.R_move (Kd.R_bound h) (fun k hk => by
    obtain ⟨_, _, _, q, _, cells, hc⟩ := hk
    exact grownBy_keeps_cells hg hrow hc rfl)) (fun _ hk => hk.1)
theorem hs_upto (l : List S42) (h : ∀ s ∈ l, s.f0.size ≤ 9223372036854775807) : ∀ i : Nat, (rd_T42 l i).f0.size ≤ 9223372036854775807 := by
  intro i
  unfold rd_T42
  rw [List.getD_eq_getElem?_getD]
  cases hl : l[(i : Int).toNat]? with
  | none => exact Nat.zero_le _
  | some s => exact h s (List.mem_of_getElem? hl)
def symShown (s : S42) : Bool := s.f7 && (s.f5 != 1) && (s.f6 == 1)
theorem symShown_f (s : S42) : hash_Shown.f s.f0 s.f1 s.f2 s.f3 s.f4 s.f5 s.f6 s.f7 = some (symShown s) := by
  unfold hash_Shown.f symShown
  cases s.f7 <;> simp
  split <;> simp_all
def hashOf (s : ByteArray) : Int := (bytesOf s).foldl hash_step 0
theorem hashOf_f (s : ByteArray) (h : s.size ≤ 9223372036854775807) : hash_Of.f s = some (hashOf s) := by rw [hash_Of.f, if_pos h]; rfl
/-- One round of Make: buckets and chain. -/
def mkStep (n : Int) (st : List Int × List Int) (x : Nat × S42) : List Int × List Int :=
  if symShown x.2 = true then (st.1.set (Int.tmod (hashOf x.2.f0) (n % 4294967296)).toNat (wrap64 ((x.1 : Int) + 1)), st.2.set x.1 (rd st.1 (Int.tmod (hashOf x.2.f0) (n % 4294967296)))) else st
def mkAll (l : List S42) (n : Int) (b c : List Int) : List Int × List Int := (upto (backOf l) l.length).foldl (mkStep n) (b, c)
def hash_Make.l0 (k : Nat) (l : List S42) (i n : Int) (b c : List Int) : Option (List Int × List Int × Int) :=
  if (1 ≤ n ∧ n ≤ 64) ∧ ∀ s ∈ l, s.f0.size ≤ 9223372036854775807 then some ((mkAll l n b c).1, (mkAll l n b c).2, 0) else none
def hash_Make.j0 : Nat → List (S42) → Bool → Int → Option (List Int × List Int × Int)
  | 0, _, _, _ => none
  | k + 1, x0, x20, x102000 => if x20 = true then (some (([] : List Int), ([] : List Int), 1)) else (if 0 ≤ x102000 then (if (x102000 : Int).toNat ≤ 35184372088832 then (if 0 ≤ (x0.length : Int) then (if ((x0.length : Int) : Int).toNat ≤ 35184372088832 then (hash_Make.l0 k x0 (wrap64 ((x0.length : Int) - 1)) x102000 (List.replicate (x102000 : Int).toNat 0) (List.replicate ((x0.length : Int) : Int).toNat 0)) else (none)) else (none)) else (none)) else (none))
def hash_Make.g (k : Nat) (l0 : List (S42)) (a1 : Int) : Option (List Int × List Int × Int) := if a1 < 1 then (hash_Make.j0 k l0 true a1) else (if a1 > 64 then (hash_Make.j0 k l0 true a1) else (hash_Make.j0 k l0 (decide ((l0.length : Int) > 40)) a1))
def hash_Make.T3 : Bool × List (List Nat × List Nat) := (true, [([], []), ([0, 0], [0]), ([], []), ([2], [2]), ([3, 3], [3]), ([1, 4], [1, 4]), ([], []), ([6, 5, 0, 1, 2, 3, 4, 5, 6], [5, 6])])
def hash_Make.B3 : List Nat := [0, 1, 0, 4, 12, 31, 0, 127]
theorem hash_Make.tab3 : rtab .any (opsOf Try.f49 3) = hash_Make.T3 := by kernel_rfl
theorem hash_Make.bits3 : waitsOk hash_Make.T3.2 hash_Make.B3 = true := by kernel_rfl
set_option maxHeartbeats 8000000 in
set_option maxRecDepth 100000 in
theorem hash_Make.gcalls (k : Nat) (A0 : Option Addr) (c0 : Nat) (l0 : List (S42)) (a1 : Int) (r1 : List Int) (r2 : List Int) (r3 : Int) (w : World) (hr0 : Kd.C k42 w A0 l0.length l0) (hc0 : l0.length ≤ c0) (h : hash_Make.g k l0 a1 = some (r1, r2, r3)) :
    Calls Try.prog 49 #[.slice A0 l0.length c0, .int .i64 a1] w fun e w' => ∃ v0_ v1_ : Value, e = .returned (.tuple #[.agg #[v0_, v1_], .int .i64 r3]) ∧ Kd.R (Kd.int .i64) 3 w' w.heap.size (fun k_ => some k_ ≠ (v1_ : Value).ownBlock) v0_ r1 ∧ Kd.R (Kd.int .i64) 3 w' w.heap.size (fun k_ => some k_ ≠ (v0_ : Value).ownBlock) v1_ r2 ∧ Below w.heap.size w w' := by
  have hu77 := Try.underlying77
  have hu42 := Try.underlying42
  have HR0 := Aside0.mk hr0
  have HC0 := Aside0.mk hc0
  clear hr0 hc0
  have HB := Aside0.mk (Below.refl w.heap.size w)
  have H : (if a1 < 1 then (hash_Make.j0 k l0 true a1) else (if a1 > 64 then (hash_Make.j0 k l0 true a1) else (hash_Make.j0 k l0 (decide ((l0.length : Int) > 40)) a1))) = some (r1, r2, r3) := h
  clear h
  have HC3 := Aside0.mk H
  clear H
  refine callsIn_wide.1 (callsIn_of_wp_marks (F := Fence.wide) (n := 5) Try.func49 rfl trivial ?_ rfl)
  refine (wpIn_wide (n := 5)).2 ?_
  refine noPanic_mono ?_
  simp only [Try.ntmps49, List.size_toArray, List.length_cons, List.length_nil, Nat.reduceAdd, Nat.reduceSub, Array.replicate_succ, Array.replicate_zero, List.push_toArray, List.append_toArray, List.nil_append, List.cons_append]
  go_upto_region 1 with (first | ((with_reducible refine gate_dst (N := 3) rfl ?_); (try (refine gate_guard (by rfl) ?_; dsimp only)); refine box_event ?hg (N := 3) ?hd (cs := #[.int .i64 a1]) (t := 3) ?hr ?_; (case hd => rfl); (case hg => rfl); (case hr => first | (go_simp; done) | (go_simp; rfl)); intro gb101 hg w4 hbox hb; have n0_ := Aside0.mk (below_step (by repeat (first | (with_reducible first | exact HB.out | apply below_alloc | apply pw_below_drewN | apply below_drew1) | exact HB.out)) hb); have n1_ := Aside0.mk (hbox); have n2_ := Aside0.mk ((by rw [hg]; exact (below_size (by repeat (first | (with_reducible first | exact HB.out | apply below_alloc | apply pw_below_drewN | apply below_drew1) | exact HB.out))) : w.heap.size ≤ gb101)); have n3_ := n2_; clear HB; have HB := n0_; have BK101 := n1_; have GW101 := n2_; have GE101 := n3_; clear n0_ n1_ n2_ n3_; clear hb hbox hg) | ((with_reducible refine gate_dst (N := 4) rfl ?_); (try (refine gate_guard (by rfl) ?_; dsimp only)); refine box_event ?hg (N := 4) ?hd (cs := #[.slice none 0 0, .slice none 0 0]) (t := 77) ?hr ?_; (case hd => rfl); (case hg => rfl); (case hr => first | (go_simp; done) | (go_simp; rfl)); intro gb102 hg w5 hbox hb; have n0_ := Aside0.mk (blk_below (g := gb101) (o := .cells #[.int .i64 a1] 3 (0, 0)) (by (with_reducible repeat (first | refine blk_drewN ?_ _ | refine blk_drew ?_ | refine blk_alloc ?_ _)); exact BK101.out) hb); have n1_ := Aside0.mk (below_step (by repeat (first | (with_reducible first | exact HB.out | apply below_alloc | apply pw_below_drewN | apply below_drew1 | refine below_set ?_ GE101.out) | exact HB.out)) hb); have n2_ := Aside0.mk (hbox); have n3_ := Aside0.mk ((by rw [hg]; exact (below_size (by repeat (first | (with_reducible first | exact HB.out | apply below_alloc | apply pw_below_drewN | apply below_drew1 | refine below_set ?_ GE101.out) | exact HB.out))) : w.heap.size ≤ gb102)); have n4_ := n3_; have n5_ := Aside0.mk ((by rw [hg]; exact Nat.ne_of_lt (blk_lt (g := gb101) (o := .cells #[.int .i64 a1] 3 (0, 0)) (by (with_reducible repeat (first | refine blk_drewN ?_ _ | refine blk_drew ?_ | refine blk_alloc ?_ _)); exact BK101.out)) : gb101 ≠ gb102)); have n6_ := Aside0.mk ((by rw [hg]; exact Nat.ne_of_gt (blk_lt (g := gb101) (o := .cells #[.int .i64 a1] 3 (0, 0)) (by (with_reducible repeat (first | refine blk_drewN ?_ _ | refine blk_drew ?_ | refine blk_alloc ?_ _)); exact BK101.out)) : gb102 ≠ gb101)); clear BK101; clear HB; have BK101 := n0_; have HB := n1_; have BK102 := n2_; have GW102 := n3_; have GE102 := n4_; have NB101_102 := n5_; have NB102_101 := n6_; clear n0_ n1_ n2_ n3_ n4_ n5_ n6_; clear hb hbox hg))
  (try simp only [Act.put, List.setIfInBounds_toArray, List.set_cons_zero, List.set_cons_succ])
  go_cut [20] from 10 to 55 (fun v20 wc => ∃ (kq : Nat) (x20_2 : Bool), v20 = .bool x20_2 ∧ Aside0 (hash_Make.j0 kq l0 x20_2 a1 = some (r1, r2, r3)) ∧ Aside0 (kq ≤ k) ∧ Aside0 (wc.heap[gb101]? = some (.cells #[.int .i64 a1] 3 (0, 0))) ∧ Aside0 (wc.heap[gb102]? = some (.cells #[(.slice none 0 0), (.slice none 0 0)] 77 (0, 0))) ∧ Aside0 (Below w.heap.size w wc))
  case first =>
    have H := HC3.out
    clear HC3
    by_cases c6 : a1 < 1
    · rw [if_pos c6] at H
      have c6b0 : decide (a1 < 1) = true := decide_eq_true c6
      clear c6
      (first | rw [c6b0] | (simp only [i64_w, i32_w]; rw [c6b0]) | skip)
      have H' := Aside0.mk H
      clear H
      have hnb7 := NB101_102.out
      have hnc7 := NB102_101.out
      have hcz8_0 : w5.cell? ⟨gb101, 0, none⟩ = some (.int .i64 a1) := (blk_cell BK101.out 0).trans rfl
      have hfz8_0 := blk_frozen BK101.out 0
      go_wp2
      go_meet
      case rel => exact ⟨_, (true), (by first | rfl | (simp; done) | (simp [*]; done)), H', ⟨by first | omega | exact Nat.le_refl _⟩, ⟨by (with_reducible repeat (first | refine blk_drewN ?_ _ | refine blk_drew ?_ | refine blk_alloc ?_ _)); exact BK101.out⟩, ⟨by (with_reducible repeat (first | refine blk_drewN ?_ _ | refine blk_drew ?_ | refine blk_alloc ?_ _)); exact BK102.out⟩, ⟨by repeat (first | (with_reducible first | exact HB.out | apply below_alloc | apply pw_below_drewN | apply below_drew1 | refine below_set ?_ GE101.out | refine below_set ?_ GE102.out) | exact HB.out)⟩⟩
    · rw [if_neg c6] at H
      have c6b0 : decide (a1 < 1) = false := decide_eq_false c6
      clear c6
      (first | rw [c6b0] | (simp only [i64_w, i32_w]; rw [c6b0]) | skip)
      by_cases c9 : a1 > 64
      · rw [if_pos c9] at H
        have c9b0 : decide (64 < a1) = true := decide_eq_true c9
        clear c9
        have H' := Aside0.mk H
        clear H
        have hnb10 := NB101_102.out
        have hnc10 := NB102_101.out
        have hcz11_0 : w5.cell? ⟨gb101, 0, none⟩ = some (.int .i64 a1) := (blk_cell BK101.out 0).trans rfl
        have hfz11_0 := blk_frozen BK101.out 0
        go_wp2
        go_meet
        case rel => exact ⟨_, (true), (by first | rfl | (simp; done) | (simp [*]; done)), H', ⟨by first | omega | exact Nat.le_refl _⟩, ⟨by (with_reducible repeat (first | refine blk_drewN ?_ _ | refine blk_drew ?_ | refine blk_alloc ?_ _)); exact BK101.out⟩, ⟨by (with_reducible repeat (first | refine blk_drewN ?_ _ | refine blk_drew ?_ | refine blk_alloc ?_ _)); exact BK102.out⟩, ⟨by repeat (first | (with_reducible first | exact HB.out | apply below_alloc | apply pw_below_drewN | apply below_drew1 | refine below_set ?_ GE101.out | refine below_set ?_ GE102.out) | exact HB.out)⟩⟩
      · rw [if_neg c9] at H
        have c9b0 : decide (64 < a1) = false := decide_eq_false c9
        clear c9
        have H' := Aside0.mk H
        clear H
        have hnb12 := NB101_102.out
        have hnc12 := NB102_101.out
        have hcz13_0 : w5.cell? ⟨gb101, 0, none⟩ = some (.int .i64 a1) := (blk_cell BK101.out 0).trans rfl
        have hfz13_0 := blk_frozen BK101.out 0
        go_wp2
        go_meet
        case rel => exact ⟨_, (decide ((l0.length : Int) > 40)), (by first | rfl | (simp; done) | (simp [*]; done)), H', ⟨by first | omega | exact Nat.le_refl _⟩, ⟨by (with_reducible repeat (first | refine blk_drewN ?_ _ | refine blk_drew ?_ | refine blk_alloc ?_ _)); exact BK101.out⟩, ⟨by (with_reducible repeat (first | refine blk_drewN ?_ _ | refine blk_drew ?_ | refine blk_alloc ?_ _)); exact BK102.out⟩, ⟨by repeat (first | (with_reducible first | exact HB.out | apply below_alloc | apply pw_below_drewN | apply below_drew1 | refine below_set ?_ GE101.out | refine below_set ?_ GE102.out) | exact HB.out)⟩⟩
  case rest =>
    clear HC3
    try clear c1
    try clear p2
    try clear c4
    try clear c6
    try clear c6b0
    try clear c7
    try clear c9
    try clear c9b0
    try clear c10
    try clear c12
    try clear hcz11_0
    try clear hcz13_0
    try clear hcz8_0
    try clear hfz11_0
    try clear hfz13_0
    try clear hfz8_0
    obtain ⟨kq, x20_2, rfl, HA, HJ2, BK101, BK102, HB⟩ := hcut
    cases kq with
    | zero => exact absurd HA.out (by simp [hash_Make.j0])
    | succ kj2 =>
      have H := HA.out
      clear HA
      simp only [hash_Make.j0] at H
      by_cases c14 : x20_2 = true
      · subst c14
        have H1 : (some (([] : List Int), ([] : List Int), 1)) = some (r1, r2, r3) := by rw [if_pos rfl] at H; exact H
        clear H
        have H := H1
        clear H1
        simp only [Option.some.injEq, Prod.mk.injEq] at H
        obtain ⟨rfl, rfl, rfl⟩ := H
        have hnb15 := NB102_101.out
        have hnc15 := NB101_102.out
        have hcz16_0 : wc.cell? ⟨gb102, 0, none⟩ = some (.slice none 0 0) := (blk_cell BK102.out 0).trans rfl
        have hcz16_1 : wc.cell? ⟨gb102, 1, none⟩ = some (.slice none 0 0) := (blk_cell BK102.out 1).trans rfl
        have hfz16_0 := blk_frozen BK102.out 0
        have hfz16_1 := blk_frozen BK102.out 1
        go_wp2_with (first | ((with_reducible refine gate_store (t := 77) (p := 4) rfl ?_); refine store_event (t := 77) (p := 4) (v := ?vo_w17) (w1 := ((wc.setCell ⟨gb102, 0, none⟩ (.slice none 0 0)).setCell ⟨gb102, 1, none⟩ (.slice none 0 0))) ?hg ?ho ?hn ?hr ?_; (case ho => rfl); (case hg => rfl); (case hn => rfl); (case hr => first | (go_simp; done) | (go_simp; rfl)); intro w17 hw; have n0_ : Aside0 (w17.heap[gb101]? = some (.cells #[.int .i64 a1] 3 (0, 0))) := ⟨(by rw [hw]; exact (by (with_reducible repeat (first | refine blk_drewN ?_ _ | refine blk_drew ?_ | refine blk_alloc ?_ _)); refine blk_far ?_ NB101_102.out _; (with_reducible repeat (first | refine blk_drewN ?_ _ | refine blk_drew ?_ | refine blk_alloc ?_ _)); refine blk_far ?_ NB101_102.out _; (with_reducible repeat (first | refine blk_drewN ?_ _ | refine blk_drew ?_ | refine blk_alloc ?_ _)); exact BK101.out))⟩; have n1_ : Aside0 (w17.heap[gb102]? = some (.cells #[.slice none 0 0, .slice none 0 0] 77 (0, 0))) := ⟨(by rw [hw]; exact (by (with_reducible repeat (first | refine blk_drewN ?_ _ | refine blk_drew ?_ | refine blk_alloc ?_ _)); refine blk_put (cs := #[.slice none 0 0, .slice none 0 0]) ?_ 1 _ rfl; (with_reducible repeat (first | refine blk_drewN ?_ _ | refine blk_drew ?_ | refine blk_alloc ?_ _)); refine blk_put (cs := #[.slice none 0 0, .slice none 0 0]) ?_ 0 _ rfl; (with_reducible repeat (first | refine blk_drewN ?_ _ | refine blk_drew ?_ | refine blk_alloc ?_ _)); exact BK102.out))⟩; have n2_ : Aside0 (Below w.heap.size w w17) := ⟨(by rw [hw]; exact (by repeat (first | (with_reducible first | exact HB.out | apply below_alloc | apply pw_below_drewN | apply below_drew1 | refine below_set ?_ GE101.out | refine below_set ?_ GE102.out) | exact HB.out)))⟩; clear hw; clear BK101; clear BK102; clear HB; have BK101 := n0_; have BK102 := n1_; have HB := n2_; clear n0_ n1_ n2_))
        refine postM_ret (results_ct rfl _ _ gb102 77 #[.slice none 0 0, .slice none 0 0] (0, 0) _ rfl (by (with_reducible repeat (first | refine blk_drewN ?_ _ | refine blk_drew ?_ | refine blk_alloc ?_ _)); exact BK102.out) Try.underlying77 rfl (by kernel_rfl)) rfl ?_
        exact ⟨_, _, by first | rfl | (simp [errW_none, errW_some] <;> rfl) | (simp [*, errW_none, errW_some] <;> rfl), by first | exact Kd.R_nil _ _ _ _ _ | exact Kd.N_nil _ _ _ _ _ | exact Kd.V_nil _ _ _ _ _ | exact Kd.Q_nil _ _ _ _ _ | exact Kd.S_nil _ _ _ _ _, by first | exact Kd.R_nil _ _ _ _ _ | exact Kd.N_nil _ _ _ _ _ | exact Kd.V_nil _ _ _ _ _ | exact Kd.Q_nil _ _ _ _ _ | exact Kd.S_nil _ _ _ _ _, by repeat (first | (with_reducible first | exact HB.out | apply below_alloc | apply pw_below_drewN | apply below_drew1 | refine below_set ?_ GE101.out | refine below_set ?_ GE102.out) | exact HB.out)⟩
      · replace c14 := Bool.eq_false_iff.mpr c14
        subst c14
        have H1 : (if 0 ≤ a1 then (if (a1 : Int).toNat ≤ 35184372088832 then (if 0 ≤ (l0.length : Int) then (if ((l0.length : Int) : Int).toNat ≤ 35184372088832 then (hash_Make.l0 kj2 l0 (wrap64 ((l0.length : Int) - 1)) a1 (List.replicate (a1 : Int).toNat 0) (List.replicate ((l0.length : Int) : Int).toNat 0)) else (none)) else (none)) else (none)) else (none)) = some (r1, r2, r3) := by rw [if_neg (show ¬ (false = true) by decide)] at H; exact H
        clear H
        have H := H1
        clear H1
        by_cases c18 : 0 ≤ a1
        · rw [if_pos c18] at H
          have c18b0 := eq_true c18
          have c18b1 : decide (0 ≤ a1) = true := decide_eq_true c18
          clear c18
          by_cases c19 : (a1 : Int).toNat ≤ 35184372088832
          · rw [if_pos c19] at H
            have c19b0 := eq_true c19
            have c19b1 : decide ((a1 : Int).toNat ≤ 35184372088832) = true := decide_eq_true c19
            clear c19
            obtain ⟨y103, hy103⟩ : ∃ y_ : List Int, y_ = (List.replicate (a1 : Int).toNat 0) := ⟨_, rfl⟩
            replace H : (if 0 ≤ (l0.length : Int) then (if ((l0.length : Int) : Int).toNat ≤ 35184372088832 then (hash_Make.l0 kj2 l0 (wrap64 ((l0.length : Int) - 1)) a1 y103 (List.replicate ((l0.length : Int) : Int).toNat 0)) else (none)) else (none)) = some (r1, r2, r3) := by first | (rw [hy103]; with_reducible exact H) | (have H2_ := (Option.bind_some _ _).symm.trans H; rw [hy103]; with_reducible exact H2_) | (have H2_ := (Option.bind_some _ _).symm.trans H; with_reducible exact H2_) | with_reducible exact H | (rw [hy103]; exact H) | exact H
            have Ny103 := Aside0.mk hy103
            clear hy103
            by_cases c20 : 0 ≤ (l0.length : Int)
            · rw [if_pos c20] at H
              have c20b0 := eq_true c20
              have c20b1 : decide (0 ≤ (l0.length : Int)) = true := decide_eq_true c20
              clear c20
              by_cases c21 : ((l0.length : Int) : Int).toNat ≤ 35184372088832
              · rw [if_pos c21] at H
                have c21b0 := eq_true c21
                have c21b1 : decide (((l0.length : Int) : Int).toNat ≤ 35184372088832) = true := decide_eq_true c21
                clear c21
                obtain ⟨y106, hy106⟩ : ∃ y_ : List Int, y_ = (List.replicate ((l0.length : Int) : Int).toNat 0) := ⟨_, rfl⟩
                replace H : (hash_Make.l0 kj2 l0 (wrap64 ((l0.length : Int) - 1)) a1 y103 y106) = some (r1, r2, r3) := by first | (rw [hy106]; with_reducible exact H) | (have H2_ := (Option.bind_some _ _).symm.trans H; rw [hy106]; with_reducible exact H2_) | (have H2_ := (Option.bind_some _ _).symm.trans H; with_reducible exact H2_) | with_reducible exact H | (rw [hy106]; exact H) | exact H
                have Ny106 := Aside0.mk hy106
                clear hy106
                have H' := Aside0.mk H
                clear H
                try go_wp2
                have n0_ := Aside0.mk (blk_drew BK101.out)
                have n1_ := Aside0.mk (blk_drew BK102.out)
                have n2_ := Aside0.mk (below_drew1 HB.out)
                clear BK101
                clear BK102
                clear HB
                have BK101 := n0_
                have BK102 := n1_
                have HB := n2_
                clear n0_ n1_ n2_
                refine start_ (n := 8) (S := fun w' => w'.cell? ⟨gb101, 0, none⟩ = some (.int .i64 a1)) (ds := []) #[false, false, false, false, false, false, false, false] (by kernel_rfl) rfl rfl ((blk_cell BK101.out 0).trans rfl) (fun hHeld => ?_); refine with_tabW hash_Make.tab3 hash_Make.bits3 (fun HT_ HW_ => ?_)
                generalize wc.drew = w22 at BK101 BK102 HB hHeld ⊢
                refine pure_ (i := 2) (N := some 24) (v := ?_) (a' := ?_) #[false, false, true, false, false, false, false, false] rfl rfl (any_of HT_.out (by kernel_rfl)) (fun _ _ _ h => h) (Or.inl ⟨by rfl, ?_⟩) ?_ ?_
                rotate_left
                · intro w'
                  go_simp
                  with_reducible rfl
                rotate_left
                · simp only [Act.put, List.setIfInBounds_toArray, List.set_cons_zero, List.set_cons_succ, i64_w, i32_w]
                  rfl
                refine pure_ (i := 3) (N := some 25) (v := ?_) (a' := ?_) #[false, false, true, true, false, false, false, false] rfl rfl (any_of HT_.out (by kernel_rfl)) (fun _ _ _ h => h) (Or.inl ⟨by rfl, ?_⟩) ?_ ?_
                rotate_left
                · intro w'
                  go_simp
                  with_reducible rfl
                rotate_left
                · simp only [Act.put, List.setIfInBounds_toArray, List.set_cons_zero, List.set_cons_succ, i64_w, i32_w]
                  rfl
                refine take_ (i := 0) (N := some 22) (v := ?_) (a' := ?_) #[true, false, true, true, false, false, false, false] rfl rfl (take_ofW HT_.out HW_.out (by kernel_rfl)) (fun _ _ _ h => h) (Or.inl ⟨by rfl, ?_⟩) hHeld ?_ ?_
                rotate_left
                · intro w' s0
                  go_simp
                  with_reducible rfl
                rotate_left
                · simp only [Act.put, List.setIfInBounds_toArray, List.set_cons_zero, List.set_cons_succ, i64_w, i32_w]
                  rfl
                refine join_ (σ := Value × Value × Nat) 1 #[true, true, true, true, true, true, true, false] (fun s_ => [(23, s_.1), (26, s_.2.1), (6, .pointer (some ⟨s_.2.2, 0, none⟩)), (27, .agg #[s_.1, s_.2.1])]) (fun s_ w' => (w'.cell? ⟨gb101, 0, none⟩ = some (.int .i64 a1)) ∧ (Kd.R (Kd.int .i64) 3 w' w.heap.size (fun k_ => some k_ ≠ (s_.2.1 : Value).ownBlock ∧ k_ ≠ gb101) s_.1 y103) ∧ (Kd.R (Kd.int .i64) 3 w' w.heap.size (fun k_ => some k_ ≠ (s_.1 : Value).ownBlock ∧ k_ ≠ gb101) s_.2.1 y106) ∧ (w'.heap[gb101]? = some (.cells #[.int .i64 a1] 3 (0, 0))) ∧ (w'.heap[gb102]? = some (.cells #[.slice none 0 0, .slice none 0 0] 77 (0, 0))) ∧ (w'.heap[s_.2.2]? = some (.cells #[.slice none 0 0, .slice none 0 0] 77 (0, 0))) ∧ (w.heap.size ≤ s_.2.2) ∧ (w.heap.size ≤ s_.2.2) ∧ (gb101 ≠ s_.2.2) ∧ (s_.2.2 ≠ gb101) ∧ (gb102 ≠ s_.2.2) ∧ (s_.2.2 ≠ gb102) ∧ (Below w.heap.size w w')) ?_ ?_
                rotate_left
                · intro hJ1_4_6
                  refine join_ (σ := Value × Value) 2 #[true, true, true, true, true, true, false, false] (fun s_ => [(23, s_.1), (26, s_.2), (27, .agg #[s_.1, s_.2])]) (fun s_ w' => (w'.cell? ⟨gb101, 0, none⟩ = some (.int .i64 a1)) ∧ (Kd.R (Kd.int .i64) 3 w' w.heap.size (fun k_ => some k_ ≠ (s_.2 : Value).ownBlock ∧ k_ ≠ gb101) s_.1 y103) ∧ (Kd.R (Kd.int .i64) 3 w' w.heap.size (fun k_ => some k_ ≠ (s_.1 : Value).ownBlock ∧ k_ ≠ gb101) s_.2 y106) ∧ (w'.heap[gb101]? = some (.cells #[.int .i64 a1] 3 (0, 0))) ∧ (w'.heap[gb102]? = some (.cells #[.slice none 0 0, .slice none 0 0] 77 (0, 0))) ∧ (Below w.heap.size w w')) ?_ ?_
                  rotate_left
                  · intro hJ1_4
                    refine join_ (σ := Value × Nat) 3 #[true, true, true, true, false, false, true, false] (fun s_ => [(23, s_.1), (6, .pointer (some ⟨s_.2, 0, none⟩))]) (fun s_ w' => (w'.cell? ⟨gb101, 0, none⟩ = some (.int .i64 a1)) ∧ (Kd.R (Kd.int .i64) 3 w' w.heap.size (fun k_ => k_ ≠ gb101) s_.1 y103) ∧ (w'.heap[gb101]? = some (.cells #[.int .i64 a1] 3 (0, 0))) ∧ (w'.heap[gb102]? = some (.cells #[.slice none 0 0, .slice none 0 0] 77 (0, 0))) ∧ (w'.heap[s_.2]? = some (.cells #[.slice none 0 0, .slice none 0 0] 77 (0, 0))) ∧ (w.heap.size ≤ s_.2) ∧ (w.heap.size ≤ s_.2) ∧ (gb101 ≠ s_.2) ∧ (s_.2 ≠ gb101) ∧ (gb102 ≠ s_.2) ∧ (s_.2 ≠ gb102) ∧ (Below w.heap.size w w')) ?_ ?_
                    rotate_left
                    · intro hJ1_6
                      refine join_ (σ := Value × Nat) 3 #[true, false, true, true, true, false, true, false] (fun s_ => [(26, s_.1), (6, .pointer (some ⟨s_.2, 0, none⟩))]) (fun s_ w' => (w'.cell? ⟨gb101, 0, none⟩ = some (.int .i64 a1)) ∧ (Kd.R (Kd.int .i64) 3 w' w.heap.size (fun k_ => k_ ≠ gb101) s_.1 y106) ∧ (w'.heap[gb101]? = some (.cells #[.int .i64 a1] 3 (0, 0))) ∧ (w'.heap[gb102]? = some (.cells #[.slice none 0 0, .slice none 0 0] 77 (0, 0))) ∧ (w'.heap[s_.2]? = some (.cells #[.slice none 0 0, .slice none 0 0] 77 (0, 0))) ∧ (w.heap.size ≤ s_.2) ∧ (w.heap.size ≤ s_.2) ∧ (gb101 ≠ s_.2) ∧ (s_.2 ≠ gb101) ∧ (gb102 ≠ s_.2) ∧ (s_.2 ≠ gb102) ∧ (Below w.heap.size w w')) ?_ ?_
                      rotate_left
                      · intro hJ4_6
                        refine join_ (σ := Value) 4 #[true, true, true, true, false, false, false, false] (fun s_ => [(23, s_)]) (fun s_ w' => (w'.cell? ⟨gb101, 0, none⟩ = some (.int .i64 a1)) ∧ (Kd.R (Kd.int .i64) 3 w' w.heap.size (fun k_ => k_ ≠ gb101) s_ y103) ∧ (w'.heap[gb101]? = some (.cells #[.int .i64 a1] 3 (0, 0))) ∧ (w'.heap[gb102]? = some (.cells #[.slice none 0 0, .slice none 0 0] 77 (0, 0))) ∧ (Below w.heap.size w w')) ?_ ?_
                        rotate_left
                        · intro hJ1
                          refine join_ (σ := Value) 4 #[true, false, true, true, true, false, false, false] (fun s_ => [(26, s_)]) (fun s_ w' => (w'.cell? ⟨gb101, 0, none⟩ = some (.int .i64 a1)) ∧ (Kd.R (Kd.int .i64) 3 w' w.heap.size (fun k_ => k_ ≠ gb101) s_ y106) ∧ (w'.heap[gb101]? = some (.cells #[.int .i64 a1] 3 (0, 0))) ∧ (w'.heap[gb102]? = some (.cells #[.slice none 0 0, .slice none 0 0] 77 (0, 0))) ∧ (Below w.heap.size w w')) ?_ ?_
                          rotate_left
                          · intro hJ4
                            refine join_ (σ := Nat) 4 #[true, false, true, true, false, false, true, false] (fun s_ => [(6, .pointer (some ⟨s_, 0, none⟩))]) (fun s_ w' => (w'.cell? ⟨gb101, 0, none⟩ = some (.int .i64 a1)) ∧ (w'.heap[gb101]? = some (.cells #[.int .i64 a1] 3 (0, 0))) ∧ (w'.heap[gb102]? = some (.cells #[.slice none 0 0, .slice none 0 0] 77 (0, 0))) ∧ (w'.heap[s_]? = some (.cells #[.slice none 0 0, .slice none 0 0] 77 (0, 0))) ∧ (w.heap.size ≤ s_) ∧ (w.heap.size ≤ s_) ∧ (gb101 ≠ s_) ∧ (s_ ≠ gb101) ∧ (gb102 ≠ s_) ∧ (s_ ≠ gb102) ∧ (Below w.heap.size w w')) ?_ ?_
                            rotate_left
                            · intro hJ6
                              refine three_ (i := 1) (j := 4) (k := 6) (Ni := some 23) (Nj := some 26) (Nk := some 6) #[true, true, true, true, false, false, false, false] #[true, false, true, true, true, false, false, false] #[true, false, true, true, false, false, true, false] rfl rfl rfl rfl rfl rfl (three_of HT_.out (by kernel_rfl)) (by decide) (by decide) (by decide) (fun K hK => ?_) (fun K hK => ?_) (fun K hK => ?_)
                              · skip
                                refine Kd.R_make_step (Kd.int .i64) _ 3 (by rfl) (N := 23) rfl 23 _ _ rfl a1 rfl rfl Try.underlying23 (.int .i64 0) 8 info3 rfl (by decide) (by omega) 0 (ok := fun _ => True) (okp := fun _ => True) rfl (fun _ hk => hk) trivial (of_decide_eq_true (by first | (with_reducible assumption) | assumption)) (Nat.le_trans (Nat.mul_le_mul_right _ (of_decide_eq_true (by first | (with_reducible assumption) | assumption) : a1.toNat ≤ 35184372088832)) (by omega)) (Below.refl _ _) (Nat.le_refl _) ?_
                                intro v104 w23 ho24 hb hg_ hnew_
                                clear hg_ hnew_
                                (first | rw [← Ny103.out] at ho24 | (simp only [Int.reduceToNat] at ho24; rw [← Ny103.out] at ho24))
                                have n0_ := Aside0.mk (Kd.R_lower (Kd.R_newB ho24 (g := gb101) (o := .cells #[.int .i64 a1] 3 (0, 0)) (by (with_reducible repeat (first | refine blk_drewN ?_ _ | refine blk_drew ?_ | refine blk_alloc ?_ _)); exact BK101.out)) (below_size (by repeat (first | (with_reducible first | exact HB.out | apply below_alloc | apply pw_below_drewN | apply below_drew1 | refine below_set ?_ GE101.out | refine below_set ?_ GE102.out) | exact HB.out))))
                                have n1_ := Aside0.mk (blk_below (g := gb101) (o := .cells #[.int .i64 a1] 3 (0, 0)) (by (with_reducible repeat (first | refine blk_drewN ?_ _ | refine blk_drew ?_ | refine blk_alloc ?_ _)); exact BK101.out) hb)
                                have n2_ := Aside0.mk (blk_below (g := gb102) (o := .cells #[.slice none 0 0, .slice none 0 0] 77 (0, 0)) (by (with_reducible repeat (first | refine blk_drewN ?_ _ | refine blk_drew ?_ | refine blk_alloc ?_ _)); exact BK102.out) hb)
                                have n3_ := Aside0.mk (below_step (by repeat (first | (with_reducible first | exact HB.out | apply below_alloc | apply pw_below_drewN | apply below_drew1 | refine below_set ?_ GE101.out | refine below_set ?_ GE102.out) | exact HB.out)) hb)
                                clear BK101
                                clear BK102
                                clear HB
                                have HO105 := n0_
                                have BK101 := n1_
                                have BK102 := n2_
                                have HB := n3_
                                clear n0_ n1_ n2_ n3_
                                clear hb ho24
                                refine hK.out _ _ ((blk_cell BK101.out 0).trans rfl) (fun hHeld => ?_)
                                clear hK K
                                refine norm_ (a' := ?_) ?_ ?_
                                rotate_left
                                · show Act.put _ (some 23) _ = _
                                  simp only [Act.put, List.setIfInBounds_toArray, List.set_cons_zero, List.set_cons_succ, i64_w, i32_w]
                                  rfl
                                exact norm_ (by first | (simp only [putAll, Act.put, List.setIfInBounds_toArray, List.set_cons_zero, List.set_cons_succ]; done) | (simp only [putAll, Act.put, List.setIfInBounds_toArray, List.set_cons_zero, List.set_cons_succ]; rfl)) (hJ1 (v104) _ ⟨hHeld, (by (with_reducible repeat (first | apply Kd.R_alloc | apply Kd.R_drewN | apply Kd.R_drew)); exact Kd.R_mono HO105.out (fun _ hk => hk.2)), (by (with_reducible repeat (first | refine blk_drewN ?_ _ | refine blk_drew ?_ | refine blk_alloc ?_ _)); exact BK101.out), (by (with_reducible repeat (first | refine blk_drewN ?_ _ | refine blk_drew ?_ | refine blk_alloc ?_ _)); exact BK102.out), (by repeat (first | (with_reducible first | exact HB.out | apply below_alloc | apply pw_below_drewN | apply below_drew1 | refine below_set ?_ GE101.out | refine below_set ?_ GE102.out) | exact HB.out))⟩)
                              · skip
                                refine Kd.R_make_step (Kd.int .i64) _ 3 (by rfl) (N := 26) rfl 23 _ _ rfl (l0.length : Int) rfl rfl Try.underlying23 (.int .i64 0) 8 info3 rfl (by decide) (by omega) 0 (ok := fun _ => True) (okp := fun _ => True) rfl (fun _ hk => hk) trivial (of_decide_eq_true (by first | (with_reducible assumption) | assumption)) (Nat.le_trans (Nat.mul_le_mul_right _ (of_decide_eq_true (by first | (with_reducible assumption) | assumption) : (l0.length : Int).toNat ≤ 35184372088832)) (by omega)) (Below.refl _ _) (Nat.le_refl _) ?_
                                intro v107 w23 ho24 hb hg_ hnew_
                                clear hg_ hnew_
                                (first | rw [← Ny106.out] at ho24 | (simp only [Int.reduceToNat] at ho24; rw [← Ny106.out] at ho24))
                                have n0_ := Aside0.mk (Kd.R_lower (Kd.R_newB ho24 (g := gb101) (o := .cells #[.int .i64 a1] 3 (0, 0)) (by (with_reducible repeat (first | refine blk_drewN ?_ _ | refine blk_drew ?_ | refine blk_alloc ?_ _)); exact BK101.out)) (below_size (by repeat (first | (with_reducible first | exact HB.out | apply below_alloc | apply pw_below_drewN | apply below_drew1 | refine below_set ?_ GE101.out | refine below_set ?_ GE102.out) | exact HB.out))))
                                have n1_ := Aside0.mk (blk_below (g := gb101) (o := .cells #[.int .i64 a1] 3 (0, 0)) (by (with_reducible repeat (first | refine blk_drewN ?_ _ | refine blk_drew ?_ | refine blk_alloc ?_ _)); exact BK101.out) hb)
                                have n2_ := Aside0.mk (blk_below (g := gb102) (o := .cells #[.slice none 0 0, .slice none 0 0] 77 (0, 0)) (by (with_reducible repeat (first | refine blk_drewN ?_ _ | refine blk_drew ?_ | refine blk_alloc ?_ _)); exact BK102.out) hb)
                                have n3_ := Aside0.mk (below_step (by repeat (first | (with_reducible first | exact HB.out | apply below_alloc | apply pw_below_drewN | apply below_drew1 | refine below_set ?_ GE101.out | refine below_set ?_ GE102.out) | exact HB.out)) hb)
                                clear BK101
                                clear BK102
                                clear HB
                                have HO108 := n0_
                                have BK101 := n1_
                                have BK102 := n2_
                                have HB := n3_
                                clear n0_ n1_ n2_ n3_
                                clear hb ho24
                                refine hK.out _ _ ((blk_cell BK101.out 0).trans rfl) (fun hHeld => ?_)
                                clear hK K
                                refine norm_ (a' := ?_) ?_ ?_
                                rotate_left
                                · show Act.put _ (some 26) _ = _
                                  simp only [Act.put, List.setIfInBounds_toArray, List.set_cons_zero, List.set_cons_succ, i64_w, i32_w]
                                  rfl
                                exact norm_ (by first | (simp only [putAll, Act.put, List.setIfInBounds_toArray, List.set_cons_zero, List.set_cons_succ]; done) | (simp only [putAll, Act.put, List.setIfInBounds_toArray, List.set_cons_zero, List.set_cons_succ]; rfl)) (hJ4 (v107) _ ⟨hHeld, (by (with_reducible repeat (first | apply Kd.R_alloc | apply Kd.R_drewN | apply Kd.R_drew)); exact Kd.R_mono HO108.out (fun _ hk => hk.2)), (by (with_reducible repeat (first | refine blk_drewN ?_ _ | refine blk_drew ?_ | refine blk_alloc ?_ _)); exact BK101.out), (by (with_reducible repeat (first | refine blk_drewN ?_ _ | refine blk_drew ?_ | refine blk_alloc ?_ _)); exact BK102.out), (by repeat (first | (with_reducible first | exact HB.out | apply below_alloc | apply pw_below_drewN | apply below_drew1 | refine below_set ?_ GE101.out | refine below_set ?_ GE102.out) | exact HB.out))⟩)
                              · skip
                                refine box_step ?hg (N := 6) ?hd (cs := #[.slice none 0 0, .slice none 0 0]) (t := 77) ?hr ?_; (case hd => rfl); (case hg => rfl); (case hr => first | (go_simp; done) | (go_simp; rfl))
                                intro gb109 hg w23 hbox hb
                                have n0_ := Aside0.mk (blk_below (g := gb101) (o := .cells #[.int .i64 a1] 3 (0, 0)) (by (with_reducible repeat (first | refine blk_drewN ?_ _ | refine blk_drew ?_ | refine blk_alloc ?_ _)); exact BK101.out) hb)
                                have n1_ := Aside0.mk (blk_below (g := gb102) (o := .cells #[.slice none 0 0, .slice none 0 0] 77 (0, 0)) (by (with_reducible repeat (first | refine blk_drewN ?_ _ | refine blk_drew ?_ | refine blk_alloc ?_ _)); exact BK102.out) hb)
                                have n2_ := Aside0.mk (below_step (by repeat (first | (with_reducible first | exact HB.out | apply below_alloc | apply pw_below_drewN | apply below_drew1 | refine below_set ?_ GE101.out | refine below_set ?_ GE102.out) | exact HB.out)) hb)
                                have n3_ := Aside0.mk (hbox)
                                have n4_ := Aside0.mk ((by rw [hg]; exact (below_size (by repeat (first | (with_reducible first | exact HB.out | apply below_alloc | apply pw_below_drewN | apply below_drew1 | refine below_set ?_ GE101.out | refine below_set ?_ GE102.out) | exact HB.out))) : w.heap.size ≤ gb109))
                                have n5_ := Aside0.mk ((by rw [hg]; exact (below_size (by repeat (first | (with_reducible first | exact HB.out | apply below_alloc | apply pw_below_drewN | apply below_drew1 | refine below_set ?_ GE101.out | refine below_set ?_ GE102.out) | exact HB.out))) : w.heap.size ≤ gb109))
                                have n6_ := Aside0.mk ((by rw [hg]; exact Nat.ne_of_lt (blk_lt (g := gb101) (o := .cells #[.int .i64 a1] 3 (0, 0)) (by (with_reducible repeat (first | refine blk_drewN ?_ _ | refine blk_drew ?_ | refine blk_alloc ?_ _)); exact BK101.out)) : gb101 ≠ gb109))
                                have n7_ := Aside0.mk ((by rw [hg]; exact Nat.ne_of_gt (blk_lt (g := gb101) (o := .cells #[.int .i64 a1] 3 (0, 0)) (by (with_reducible repeat (first | refine blk_drewN ?_ _ | refine blk_drew ?_ | refine blk_alloc ?_ _)); exact BK101.out)) : gb109 ≠ gb101))
                                have n8_ := Aside0.mk ((by rw [hg]; exact Nat.ne_of_lt (blk_lt (g := gb102) (o := .cells #[.slice none 0 0, .slice none 0 0] 77 (0, 0)) (by (with_reducible repeat (first | refine blk_drewN ?_ _ | refine blk_drew ?_ | refine blk_alloc ?_ _)); exact BK102.out)) : gb102 ≠ gb109))
                                have n9_ := Aside0.mk ((by rw [hg]; exact Nat.ne_of_gt (blk_lt (g := gb102) (o := .cells #[.slice none 0 0, .slice none 0 0] 77 (0, 0)) (by (with_reducible repeat (first | refine blk_drewN ?_ _ | refine blk_drew ?_ | refine blk_alloc ?_ _)); exact BK102.out)) : gb109 ≠ gb102))
                                clear BK101
                                clear BK102
                                clear HB
                                have BK101 := n0_
                                have BK102 := n1_
                                have HB := n2_
                                have BK109 := n3_
                                have GW109 := n4_
                                have GE109 := n5_
                                have NB101_109 := n6_
                                have NB109_101 := n7_
                                have NB102_109 := n8_
                                have NB109_102 := n9_
                                clear n0_ n1_ n2_ n3_ n4_ n5_ n6_ n7_ n8_ n9_
                                clear hb hbox hg
                                refine hK.out _ _ ((blk_cell BK101.out 0).trans rfl) (fun hHeld => ?_)
                                clear hK K
                                refine norm_ (a' := ?_) ?_ ?_
                                rotate_left
                                · show Act.put _ (some 6) _ = _
                                  simp only [Act.put, List.setIfInBounds_toArray, List.set_cons_zero, List.set_cons_succ, i64_w, i32_w]
                                  rfl
                                exact norm_ (by first | (simp only [putAll, Act.put, List.setIfInBounds_toArray, List.set_cons_zero, List.set_cons_succ]; done) | (simp only [putAll, Act.put, List.setIfInBounds_toArray, List.set_cons_zero, List.set_cons_succ]; rfl)) (hJ6 (gb109) _ ⟨hHeld, (by (with_reducible repeat (first | refine blk_drewN ?_ _ | refine blk_drew ?_ | refine blk_alloc ?_ _)); exact BK101.out), (by (with_reducible repeat (first | refine blk_drewN ?_ _ | refine blk_drew ?_ | refine blk_alloc ?_ _)); exact BK102.out), (by (with_reducible repeat (first | refine blk_drewN ?_ _ | refine blk_drew ?_ | refine blk_alloc ?_ _)); exact BK109.out), GW109.out, GE109.out, NB101_109.out, NB109_101.out, NB102_109.out, NB109_102.out, (by repeat (first | (with_reducible first | exact HB.out | apply below_alloc | apply pw_below_drewN | apply below_drew1 | refine below_set ?_ GE101.out | refine below_set ?_ GE102.out | refine below_set ?_ GE109.out) | exact HB.out))⟩)
                            · skip
                              rintro gb109 w24 ⟨hS_, h0_, h1_, h2_, h3_, h4_, h5_, h6_, h7_, h8_, h9_⟩
                              have n0_ : Aside0 (w24.heap[gb101]? = some (.cells #[.int .i64 a1] 3 (0, 0))) := ⟨h0_⟩
                              have n1_ : Aside0 (w24.heap[gb102]? = some (.cells #[.slice none 0 0, .slice none 0 0] 77 (0, 0))) := ⟨h1_⟩
                              have n2_ : Aside0 (w24.heap[gb109]? = some (.cells #[.slice none 0 0, .slice none 0 0] 77 (0, 0))) := ⟨h2_⟩
                              have n3_ : Aside0 (w.heap.size ≤ gb109) := ⟨h3_⟩
                              have n4_ : Aside0 (w.heap.size ≤ gb109) := ⟨h4_⟩
                              have n5_ : Aside0 (gb101 ≠ gb109) := ⟨h5_⟩
                              have n6_ : Aside0 (gb109 ≠ gb101) := ⟨h6_⟩
                              have n7_ : Aside0 (gb102 ≠ gb109) := ⟨h7_⟩
                              have n8_ : Aside0 (gb109 ≠ gb102) := ⟨h8_⟩
                              have n9_ : Aside0 (Below w.heap.size w w24) := ⟨h9_⟩
                              clear BK101
                              clear BK102
                              clear HB
                              clear h0_ h1_ h2_ h3_ h4_ h5_ h6_ h7_ h8_ h9_
                              have BK101 := n0_
                              have BK102 := n1_
                              have BK109 := n2_
                              have GW109 := n3_
                              have GE109 := n4_
                              have NB101_109 := n5_
                              have NB109_101 := n6_
                              have NB102_109 := n7_
                              have NB109_102 := n8_
                              have HB := n9_
                              clear n0_ n1_ n2_ n3_ n4_ n5_ n6_ n7_ n8_ n9_
                              have hHeld : w24.cell? ⟨gb101, 0, none⟩ = some (.int .i64 a1) := hS_
                              refine norm_ (a' := ?_) ?_ ?_
                              rotate_left
                              · simp only [putAll, Act.put, List.setIfInBounds_toArray, List.set_cons_zero, List.set_cons_succ]
                                rfl
                              refine two_ (i := 1) (j := 4) (Ni := some 23) (Nj := some 26) #[true, true, true, true, false, false, true, false] #[true, false, true, true, true, false, true, false] rfl rfl rfl rfl (two_of HT_.out (by kernel_rfl)) (by decide) (by decide) (fun K hK => ?_) (fun K hK => ?_)
                              · skip
                                refine Kd.R_make_step (Kd.int .i64) _ 3 (by rfl) (N := 23) rfl 23 _ _ rfl a1 rfl rfl Try.underlying23 (.int .i64 0) 8 info3 rfl (by decide) (by omega) 0 (ok := fun _ => True) (okp := fun _ => True) rfl (fun _ hk => hk) trivial (of_decide_eq_true (by first | (with_reducible assumption) | assumption)) (Nat.le_trans (Nat.mul_le_mul_right _ (of_decide_eq_true (by first | (with_reducible assumption) | assumption) : a1.toNat ≤ 35184372088832)) (by omega)) (Below.refl _ _) (Nat.le_refl _) ?_
                                intro v104 w25 ho26 hb hg_ hnew_
                                clear hg_ hnew_
                                (first | rw [← Ny103.out] at ho26 | (simp only [Int.reduceToNat] at ho26; rw [← Ny103.out] at ho26))
                                have n0_ := Aside0.mk (Kd.R_lower (Kd.R_newB ho26 (g := gb101) (o := .cells #[.int .i64 a1] 3 (0, 0)) (by (with_reducible repeat (first | refine blk_drewN ?_ _ | refine blk_drew ?_ | refine blk_alloc ?_ _)); exact BK101.out)) (below_size (by repeat (first | (with_reducible first | exact HB.out | apply below_alloc | apply pw_below_drewN | apply below_drew1 | refine below_set ?_ GE101.out | refine below_set ?_ GE102.out | refine below_set ?_ GE109.out) | exact HB.out))))
                                have n1_ := Aside0.mk (blk_below (g := gb101) (o := .cells #[.int .i64 a1] 3 (0, 0)) (by (with_reducible repeat (first | refine blk_drewN ?_ _ | refine blk_drew ?_ | refine blk_alloc ?_ _)); exact BK101.out) hb)
                                have n2_ := Aside0.mk (blk_below (g := gb102) (o := .cells #[.slice none 0 0, .slice none 0 0] 77 (0, 0)) (by (with_reducible repeat (first | refine blk_drewN ?_ _ | refine blk_drew ?_ | refine blk_alloc ?_ _)); exact BK102.out) hb)
                                have n3_ := Aside0.mk (blk_below (g := gb109) (o := .cells #[.slice none 0 0, .slice none 0 0] 77 (0, 0)) (by (with_reducible repeat (first | refine blk_drewN ?_ _ | refine blk_drew ?_ | refine blk_alloc ?_ _)); exact BK109.out) hb)
                                have n4_ := Aside0.mk (below_step (by repeat (first | (with_reducible first | exact HB.out | apply below_alloc | apply pw_below_drewN | apply below_drew1 | refine below_set ?_ GE101.out | refine below_set ?_ GE102.out | refine below_set ?_ GE109.out) | exact HB.out)) hb)
                                clear BK101
                                clear BK102
                                clear BK109
                                clear HB
                                have HO105 := n0_
                                have BK101 := n1_
                                have BK102 := n2_
                                have BK109 := n3_
                                have HB := n4_
                                clear n0_ n1_ n2_ n3_ n4_
                                clear hb ho26
                                refine hK.out _ _ ((blk_cell BK101.out 0).trans rfl) (fun hHeld => ?_)
                                clear hK K
                                refine norm_ (a' := ?_) ?_ ?_
                                rotate_left
                                · show Act.put _ (some 23) _ = _
                                  simp only [Act.put, List.setIfInBounds_toArray, List.set_cons_zero, List.set_cons_succ, i64_w, i32_w]
                                  rfl
                                exact norm_ (by first | (simp only [putAll, Act.put, List.setIfInBounds_toArray, List.set_cons_zero, List.set_cons_succ]; done) | (simp only [putAll, Act.put, List.setIfInBounds_toArray, List.set_cons_zero, List.set_cons_succ]; rfl)) (hJ1_6 (v104, gb109) _ ⟨hHeld, (by (with_reducible repeat (first | apply Kd.R_alloc | apply Kd.R_drewN | apply Kd.R_drew)); exact Kd.R_mono HO105.out (fun _ hk => hk.2)), (by (with_reducible repeat (first | refine blk_drewN ?_ _ | refine blk_drew ?_ | refine blk_alloc ?_ _)); exact BK101.out), (by (with_reducible repeat (first | refine blk_drewN ?_ _ | refine blk_drew ?_ | refine blk_alloc ?_ _)); exact BK102.out), (by (with_reducible repeat (first | refine blk_drewN ?_ _ | refine blk_drew ?_ | refine blk_alloc ?_ _)); exact BK109.out), GW109.out, GE109.out, NB101_109.out, NB109_101.out, NB102_109.out, NB109_102.out, (by repeat (first | (with_reducible first | exact HB.out | apply below_alloc | apply pw_below_drewN | apply below_drew1 | refine below_set ?_ GE101.out | refine below_set ?_ GE102.out | refine below_set ?_ GE109.out) | exact HB.out))⟩)
                              · skip
                                refine Kd.R_make_step (Kd.int .i64) _ 3 (by rfl) (N := 26) rfl 23 _ _ rfl (l0.length : Int) rfl rfl Try.underlying23 (.int .i64 0) 8 info3 rfl (by decide) (by omega) 0 (ok := fun _ => True) (okp := fun _ => True) rfl (fun _ hk => hk) trivial (of_decide_eq_true (by first | (with_reducible assumption) | assumption)) (Nat.le_trans (Nat.mul_le_mul_right _ (of_decide_eq_true (by first | (with_reducible assumption) | assumption) : (l0.length : Int).toNat ≤ 35184372088832)) (by omega)) (Below.refl _ _) (Nat.le_refl _) ?_
                                intro v107 w25 ho26 hb hg_ hnew_
                                clear hg_ hnew_
                                (first | rw [← Ny106.out] at ho26 | (simp only [Int.reduceToNat] at ho26; rw [← Ny106.out] at ho26))
                                have n0_ := Aside0.mk (Kd.R_lower (Kd.R_newB ho26 (g := gb101) (o := .cells #[.int .i64 a1] 3 (0, 0)) (by (with_reducible repeat (first | refine blk_drewN ?_ _ | refine blk_drew ?_ | refine blk_alloc ?_ _)); exact BK101.out)) (below_size (by repeat (first | (with_reducible first | exact HB.out | apply below_alloc | apply pw_below_drewN | apply below_drew1 | refine below_set ?_ GE101.out | refine below_set ?_ GE102.out | refine below_set ?_ GE109.out) | exact HB.out))))
                                have n1_ := Aside0.mk (blk_below (g := gb101) (o := .cells #[.int .i64 a1] 3 (0, 0)) (by (with_reducible repeat (first | refine blk_drewN ?_ _ | refine blk_drew ?_ | refine blk_alloc ?_ _)); exact BK101.out) hb)
                                have n2_ := Aside0.mk (blk_below (g := gb102) (o := .cells #[.slice none 0 0, .slice none 0 0] 77 (0, 0)) (by (with_reducible repeat (first | refine blk_drewN ?_ _ | refine blk_drew ?_ | refine blk_alloc ?_ _)); exact BK102.out) hb)
                                have n3_ := Aside0.mk (blk_below (g := gb109) (o := .cells #[.slice none 0 0, .slice none 0 0] 77 (0, 0)) (by (with_reducible repeat (first | refine blk_drewN ?_ _ | refine blk_drew ?_ | refine blk_alloc ?_ _)); exact BK109.out) hb)
                                have n4_ := Aside0.mk (below_step (by repeat (first | (with_reducible first | exact HB.out | apply below_alloc | apply pw_below_drewN | apply below_drew1 | refine below_set ?_ GE101.out | refine below_set ?_ GE102.out | refine below_set ?_ GE109.out) | exact HB.out)) hb)
                                clear BK101
                                clear BK102
                                clear BK109
                                clear HB
                                have HO108 := n0_
                                have BK101 := n1_
                                have BK102 := n2_
                                have BK109 := n3_
                                have HB := n4_
                                clear n0_ n1_ n2_ n3_ n4_
                                clear hb ho26
                                refine hK.out _ _ ((blk_cell BK101.out 0).trans rfl) (fun hHeld => ?_)
                                clear hK K
                                refine norm_ (a' := ?_) ?_ ?_
                                rotate_left
                                · show Act.put _ (some 26) _ = _
                                  simp only [Act.put, List.setIfInBounds_toArray, List.set_cons_zero, List.set_cons_succ, i64_w, i32_w]
                                  rfl
                                exact norm_ (by first | (simp only [putAll, Act.put, List.setIfInBounds_toArray, List.set_cons_zero, List.set_cons_succ]; done) | (simp only [putAll, Act.put, List.setIfInBounds_toArray, List.set_cons_zero, List.set_cons_succ]; rfl)) (hJ4_6 (v107, gb109) _ ⟨hHeld, (by (with_reducible repeat (first | apply Kd.R_alloc | apply Kd.R_drewN | apply Kd.R_drew)); exact Kd.R_mono HO108.out (fun _ hk => hk.2)), (by (with_reducible repeat (first | refine blk_drewN ?_ _ | refine blk_drew ?_ | refine blk_alloc ?_ _)); exact BK101.out), (by (with_reducible repeat (first | refine blk_drewN ?_ _ | refine blk_drew ?_ | refine blk_alloc ?_ _)); exact BK102.out), (by (with_reducible repeat (first | refine blk_drewN ?_ _ | refine blk_drew ?_ | refine blk_alloc ?_ _)); exact BK109.out), GW109.out, GE109.out, NB101_109.out, NB109_101.out, NB102_109.out, NB109_102.out, (by repeat (first | (with_reducible first | exact HB.out | apply below_alloc | apply pw_below_drewN | apply below_drew1 | refine below_set ?_ GE101.out | refine below_set ?_ GE102.out | refine below_set ?_ GE109.out) | exact HB.out))⟩)
                          · skip
                            rintro v107 w25 ⟨hS_, h0_, h1_, h2_, h3_⟩
                            have n0_ : Aside0 (Kd.R (Kd.int .i64) 3 w25 w.heap.size (fun k_ => k_ ≠ gb101) v107 y106) := ⟨h0_⟩
                            have n1_ : Aside0 (w25.heap[gb101]? = some (.cells #[.int .i64 a1] 3 (0, 0))) := ⟨h1_⟩
                            have n2_ : Aside0 (w25.heap[gb102]? = some (.cells #[.slice none 0 0, .slice none 0 0] 77 (0, 0))) := ⟨h2_⟩
                            have n3_ : Aside0 (Below w.heap.size w w25) := ⟨h3_⟩
                            clear BK101
                            clear BK102
                            clear HB
                            clear h0_ h1_ h2_ h3_
                            have HO108 := n0_
                            have BK101 := n1_
                            have BK102 := n2_
                            have HB := n3_
                            clear n0_ n1_ n2_ n3_
                            have hHeld : w25.cell? ⟨gb101, 0, none⟩ = some (.int .i64 a1) := hS_
                            refine norm_ (a' := ?_) ?_ ?_
                            rotate_left
                            · simp only [putAll, Act.put, List.setIfInBounds_toArray, List.set_cons_zero, List.set_cons_succ]
                              rfl
                            refine two_ (i := 1) (j := 6) (Ni := some 23) (Nj := some 6) #[true, true, true, true, true, false, false, false] #[true, false, true, true, true, false, true, false] rfl rfl rfl rfl (two_of HT_.out (by kernel_rfl)) (by decide) (by decide) (fun K hK => ?_) (fun K hK => ?_)
                            · skip
                              refine Kd.R_make_step (Kd.int .i64) _ 3 (by rfl) (N := 23) rfl 23 _ _ rfl a1 rfl rfl Try.underlying23 (.int .i64 0) 8 info3 rfl (by decide) (by omega) 0 (ok := fun _ => True) (okp := fun _ => True) rfl (fun _ hk => hk) trivial (of_decide_eq_true (by first | (with_reducible assumption) | assumption)) (Nat.le_trans (Nat.mul_le_mul_right _ (of_decide_eq_true (by first | (with_reducible assumption) | assumption) : a1.toNat ≤ 35184372088832)) (by omega)) (Below.refl _ _) (Nat.le_refl _) ?_
                              intro v104 w26 ho27 hb hg_ hnew_
                              clear hg_ hnew_
                              (first | rw [← Ny103.out] at ho27 | (simp only [Int.reduceToNat] at ho27; rw [← Ny103.out] at ho27))
                              have n0_ := Aside0.mk (Kd.R_elder' (by (with_reducible repeat (first | apply Kd.R_alloc | apply Kd.R_drewN | apply Kd.R_drew)); exact HO108.out) (Kd.R_base ho27) hb)
                              have n1_ := Aside0.mk (Kd.R_lower (Kd.R_newB (Kd.R_new' ho27 (Kd.R_lt (by (with_reducible repeat (first | apply Kd.R_alloc | apply Kd.R_drewN | apply Kd.R_drew)); exact HO108.out))) (g := gb101) (o := .cells #[.int .i64 a1] 3 (0, 0)) (by (with_reducible repeat (first | refine blk_drewN ?_ _ | refine blk_drew ?_ | refine blk_alloc ?_ _)); exact BK101.out)) (below_size (by repeat (first | (with_reducible first | exact HB.out | apply below_alloc | apply pw_below_drewN | apply below_drew1 | refine below_set ?_ GE101.out | refine below_set ?_ GE102.out) | exact HB.out))))
                              have n2_ := Aside0.mk (blk_below (g := gb101) (o := .cells #[.int .i64 a1] 3 (0, 0)) (by (with_reducible repeat (first | refine blk_drewN ?_ _ | refine blk_drew ?_ | refine blk_alloc ?_ _)); exact BK101.out) hb)
                              have n3_ := Aside0.mk (blk_below (g := gb102) (o := .cells #[.slice none 0 0, .slice none 0 0] 77 (0, 0)) (by (with_reducible repeat (first | refine blk_drewN ?_ _ | refine blk_drew ?_ | refine blk_alloc ?_ _)); exact BK102.out) hb)
                              have n4_ := Aside0.mk (below_step (by repeat (first | (with_reducible first | exact HB.out | apply below_alloc | apply pw_below_drewN | apply below_drew1 | refine below_set ?_ GE101.out | refine below_set ?_ GE102.out) | exact HB.out)) hb)
                              clear HO108
                              clear BK101
                              clear BK102
                              clear HB
                              have HO108 := n0_
                              have HO105 := n1_
                              have BK101 := n2_
                              have BK102 := n3_
                              have HB := n4_
                              clear n0_ n1_ n2_ n3_ n4_
                              clear hb ho27
                              obtain ⟨Ao28, co28, eo28⟩ := Kd.R_slice HO108.out
                              (first | subst eo28 | (injection eo28 with f1_ f2_ f3_; have f4_ := f1_.symm; have f5_ := f3_.symm; clear f1_ f2_ f3_; subst f4_; subst f5_))
                              obtain ⟨Ao29, co29, eo29⟩ := Kd.R_slice HO105.out
                              (first | subst eo29 | (injection eo29 with f1_ f2_ f3_; have f4_ := f1_.symm; have f5_ := f3_.symm; clear f1_ f2_ f3_; subst f4_; subst f5_))
                              refine hK.out _ _ ((blk_cell BK101.out 0).trans rfl) (fun hHeld => ?_)
                              clear hK K
                              refine norm_ (a' := ?_) ?_ ?_
                              rotate_left
                              · show Act.put _ (some 23) _ = _
                                simp only [Act.put, List.setIfInBounds_toArray, List.set_cons_zero, List.set_cons_succ, i64_w, i32_w]
                                rfl
                              refine pure_ (i := 5) (N := some 27) (v := ?_) (a' := ?_) #[true, true, true, true, true, true, false, false] rfl rfl (any_of HT_.out (by kernel_rfl)) (fun _ _ _ h => h) (Or.inl ⟨by rfl, ?_⟩) ?_ ?_
                              rotate_left
                              · intro w'
                                go_simp
                                with_reducible rfl
                              rotate_left
                              · simp only [Act.put, List.setIfInBounds_toArray, List.set_cons_zero, List.set_cons_succ, i64_w, i32_w]
                                rfl
                              exact norm_ (by first | (simp only [putAll, Act.put, List.setIfInBounds_toArray, List.set_cons_zero, List.set_cons_succ]; done) | (simp only [putAll, Act.put, List.setIfInBounds_toArray, List.set_cons_zero, List.set_cons_succ]; rfl)) (hJ1_4 (.slice Ao29 y103.length co29, .slice Ao28 y106.length co28) _ ⟨hHeld, (by (with_reducible repeat (first | apply Kd.R_alloc | apply Kd.R_drewN | apply Kd.R_drew)); exact Kd.R_mono HO105.out (fun _ hk => ⟨hk.1.2, hk.2⟩)), (by (with_reducible repeat (first | apply Kd.R_alloc | apply Kd.R_drewN | apply Kd.R_drew)); exact Kd.R_mono HO108.out (fun _ hk => ⟨hk.2, hk.1⟩)), (by (with_reducible repeat (first | refine blk_drewN ?_ _ | refine blk_drew ?_ | refine blk_alloc ?_ _)); exact BK101.out), (by (with_reducible repeat (first | refine blk_drewN ?_ _ | refine blk_drew ?_ | refine blk_alloc ?_ _)); exact BK102.out), (by repeat (first | (with_reducible first | exact HB.out | apply below_alloc | apply pw_below_drewN | apply below_drew1 | refine below_set ?_ GE101.out | refine below_set ?_ GE102.out) | exact HB.out))⟩)
                            · skip
                              refine box_step ?hg (N := 6) ?hd (cs := #[.slice none 0 0, .slice none 0 0]) (t := 77) ?hr ?_; (case hd => rfl); (case hg => rfl); (case hr => first | (go_simp; done) | (go_simp; rfl))
                              intro gb109 hg w26 hbox hb
                              have n0_ := Aside0.mk (Kd.R_below (by (with_reducible repeat (first | apply Kd.R_alloc | apply Kd.R_drewN | apply Kd.R_drew)); exact HO108.out) hb)
                              have n1_ := Aside0.mk (blk_below (g := gb101) (o := .cells #[.int .i64 a1] 3 (0, 0)) (by (with_reducible repeat (first | refine blk_drewN ?_ _ | refine blk_drew ?_ | refine blk_alloc ?_ _)); exact BK101.out) hb)
                              have n2_ := Aside0.mk (blk_below (g := gb102) (o := .cells #[.slice none 0 0, .slice none 0 0] 77 (0, 0)) (by (with_reducible repeat (first | refine blk_drewN ?_ _ | refine blk_drew ?_ | refine blk_alloc ?_ _)); exact BK102.out) hb)
                              have n3_ := Aside0.mk (below_step (by repeat (first | (with_reducible first | exact HB.out | apply below_alloc | apply pw_below_drewN | apply below_drew1 | refine below_set ?_ GE101.out | refine below_set ?_ GE102.out) | exact HB.out)) hb)
                              have n4_ := Aside0.mk (hbox)
                              have n5_ := Aside0.mk ((by rw [hg]; exact (below_size (by repeat (first | (with_reducible first | exact HB.out | apply below_alloc | apply pw_below_drewN | apply below_drew1 | refine below_set ?_ GE101.out | refine below_set ?_ GE102.out) | exact HB.out))) : w.heap.size ≤ gb109))
                              have n6_ := Aside0.mk ((by rw [hg]; exact (below_size (by repeat (first | (with_reducible first | exact HB.out | apply below_alloc | apply pw_below_drewN | apply below_drew1 | refine below_set ?_ GE101.out | refine below_set ?_ GE102.out) | exact HB.out))) : w.heap.size ≤ gb109))
                              have n7_ := Aside0.mk ((by rw [hg]; exact Nat.ne_of_lt (blk_lt (g := gb101) (o := .cells #[.int .i64 a1] 3 (0, 0)) (by (with_reducible repeat (first | refine blk_drewN ?_ _ | refine blk_drew ?_ | refine blk_alloc ?_ _)); exact BK101.out)) : gb101 ≠ gb109))
                              have n8_ := Aside0.mk ((by rw [hg]; exact Nat.ne_of_gt (blk_lt (g := gb101) (o := .cells #[.int .i64 a1] 3 (0, 0)) (by (with_reducible repeat (first | refine blk_drewN ?_ _ | refine blk_drew ?_ | refine blk_alloc ?_ _)); exact BK101.out)) : gb109 ≠ gb101))
                              have n9_ := Aside0.mk ((by rw [hg]; exact Nat.ne_of_lt (blk_lt (g := gb102) (o := .cells #[.slice none 0 0, .slice none 0 0] 77 (0, 0)) (by (with_reducible repeat (first | refine blk_drewN ?_ _ | refine blk_drew ?_ | refine blk_alloc ?_ _)); exact BK102.out)) : gb102 ≠ gb109))
                              have n10_ := Aside0.mk ((by rw [hg]; exact Nat.ne_of_gt (blk_lt (g := gb102) (o := .cells #[.slice none 0 0, .slice none 0 0] 77 (0, 0)) (by (with_reducible repeat (first | refine blk_drewN ?_ _ | refine blk_drew ?_ | refine blk_alloc ?_ _)); exact BK102.out)) : gb109 ≠ gb102))
                              clear HO108
                              clear BK101
                              clear BK102
                              clear HB
                              have HO108 := n0_
                              have BK101 := n1_
                              have BK102 := n2_
                              have HB := n3_
                              have BK109 := n4_
                              have GW109 := n5_
                              have GE109 := n6_
                              have NB101_109 := n7_
                              have NB109_101 := n8_
                              have NB102_109 := n9_
                              have NB109_102 := n10_
                              clear n0_ n1_ n2_ n3_ n4_ n5_ n6_ n7_ n8_ n9_ n10_
                              clear hb hbox hg
                              refine hK.out _ _ ((blk_cell BK101.out 0).trans rfl) (fun hHeld => ?_)
                              clear hK K
                              refine norm_ (a' := ?_) ?_ ?_
                              rotate_left
                              · show Act.put _ (some 6) _ = _
                                simp only [Act.put, List.setIfInBounds_toArray, List.set_cons_zero, List.set_cons_succ, i64_w, i32_w]
                                rfl
                              exact norm_ (by first | (simp only [putAll, Act.put, List.setIfInBounds_toArray, List.set_cons_zero, List.set_cons_succ]; done) | (simp only [putAll, Act.put, List.setIfInBounds_toArray, List.set_cons_zero, List.set_cons_succ]; rfl)) (hJ4_6 (v107, gb109) _ ⟨hHeld, (by (with_reducible repeat (first | apply Kd.R_alloc | apply Kd.R_drewN | apply Kd.R_drew)); exact HO108.out), (by (with_reducible repeat (first | refine blk_drewN ?_ _ | refine blk_drew ?_ | refine blk_alloc ?_ _)); exact BK101.out), (by (with_reducible repeat (first | refine blk_drewN ?_ _ | refine blk_drew ?_ | refine blk_alloc ?_ _)); exact BK102.out), (by (with_reducible repeat (first | refine blk_drewN ?_ _ | refine blk_drew ?_ | refine blk_alloc ?_ _)); exact BK109.out), GW109.out, GE109.out, NB101_109.out, NB109_101.out, NB102_109.out, NB109_102.out, (by repeat (first | (with_reducible first | exact HB.out | apply below_alloc | apply pw_below_drewN | apply below_drew1 | refine below_set ?_ GE101.out | refine below_set ?_ GE102.out | refine below_set ?_ GE109.out) | exact HB.out))⟩)
                        · skip
                          rintro v104 w25 ⟨hS_, h0_, h1_, h2_, h3_⟩
                          have n0_ : Aside0 (Kd.R (Kd.int .i64) 3 w25 w.heap.size (fun k_ => k_ ≠ gb101) v104 y103) := ⟨h0_⟩
                          have n1_ : Aside0 (w25.heap[gb101]? = some (.cells #[.int .i64 a1] 3 (0, 0))) := ⟨h1_⟩
                          have n2_ : Aside0 (w25.heap[gb102]? = some (.cells #[.slice none 0 0, .slice none 0 0] 77 (0, 0))) := ⟨h2_⟩
                          have n3_ : Aside0 (Below w.heap.size w w25) := ⟨h3_⟩
                          clear BK101
                          clear BK102
                          clear HB
                          clear h0_ h1_ h2_ h3_
                          have HO105 := n0_
                          have BK101 := n1_
                          have BK102 := n2_
                          have HB := n3_
                          clear n0_ n1_ n2_ n3_
                          have hHeld : w25.cell? ⟨gb101, 0, none⟩ = some (.int .i64 a1) := hS_
                          refine norm_ (a' := ?_) ?_ ?_
                          rotate_left
                          · simp only [putAll, Act.put, List.setIfInBounds_toArray, List.set_cons_zero, List.set_cons_succ]
                            rfl
                          refine two_ (i := 4) (j := 6) (Ni := some 26) (Nj := some 6) #[true, true, true, true, true, false, false, false] #[true, true, true, true, false, false, true, false] rfl rfl rfl rfl (two_of HT_.out (by kernel_rfl)) (by decide) (by decide) (fun K hK => ?_) (fun K hK => ?_)
                          · skip
                            refine Kd.R_make_step (Kd.int .i64) _ 3 (by rfl) (N := 26) rfl 23 _ _ rfl (l0.length : Int) rfl rfl Try.underlying23 (.int .i64 0) 8 info3 rfl (by decide) (by omega) 0 (ok := fun _ => True) (okp := fun _ => True) rfl (fun _ hk => hk) trivial (of_decide_eq_true (by first | (with_reducible assumption) | assumption)) (Nat.le_trans (Nat.mul_le_mul_right _ (of_decide_eq_true (by first | (with_reducible assumption) | assumption) : (l0.length : Int).toNat ≤ 35184372088832)) (by omega)) (Below.refl _ _) (Nat.le_refl _) ?_
                            intro v107 w26 ho27 hb hg_ hnew_
                            clear hg_ hnew_
                            (first | rw [← Ny106.out] at ho27 | (simp only [Int.reduceToNat] at ho27; rw [← Ny106.out] at ho27))
                            have n0_ := Aside0.mk (Kd.R_elder' (by (with_reducible repeat (first | apply Kd.R_alloc | apply Kd.R_drewN | apply Kd.R_drew)); exact HO105.out) (Kd.R_base ho27) hb)
                            have n1_ := Aside0.mk (Kd.R_lower (Kd.R_newB (Kd.R_new' ho27 (Kd.R_lt (by (with_reducible repeat (first | apply Kd.R_alloc | apply Kd.R_drewN | apply Kd.R_drew)); exact HO105.out))) (g := gb101) (o := .cells #[.int .i64 a1] 3 (0, 0)) (by (with_reducible repeat (first | refine blk_drewN ?_ _ | refine blk_drew ?_ | refine blk_alloc ?_ _)); exact BK101.out)) (below_size (by repeat (first | (with_reducible first | exact HB.out | apply below_alloc | apply pw_below_drewN | apply below_drew1 | refine below_set ?_ GE101.out | refine below_set ?_ GE102.out) | exact HB.out))))
                            have n2_ := Aside0.mk (blk_below (g := gb101) (o := .cells #[.int .i64 a1] 3 (0, 0)) (by (with_reducible repeat (first | refine blk_drewN ?_ _ | refine blk_drew ?_ | refine blk_alloc ?_ _)); exact BK101.out) hb)
                            have n3_ := Aside0.mk (blk_below (g := gb102) (o := .cells #[.slice none 0 0, .slice none 0 0] 77 (0, 0)) (by (with_reducible repeat (first | refine blk_drewN ?_ _ | refine blk_drew ?_ | refine blk_alloc ?_ _)); exact BK102.out) hb)
                            have n4_ := Aside0.mk (below_step (by repeat (first | (with_reducible first | exact HB.out | apply below_alloc | apply pw_below_drewN | apply below_drew1 | refine below_set ?_ GE101.out | refine below_set ?_ GE102.out) | exact HB.out)) hb)
                            clear HO105
                            clear BK101
                            clear BK102
                            clear HB
                            have HO105 := n0_
                            have HO108 := n1_
                            have BK101 := n2_
                            have BK102 := n3_
                            have HB := n4_
                            clear n0_ n1_ n2_ n3_ n4_
                            clear hb ho27
                            obtain ⟨Ao28, co28, eo28⟩ := Kd.R_slice HO108.out
                            (first | subst eo28 | (injection eo28 with f1_ f2_ f3_; have f4_ := f1_.symm; have f5_ := f3_.symm; clear f1_ f2_ f3_; subst f4_; subst f5_))
                            obtain ⟨Ao29, co29, eo29⟩ := Kd.R_slice HO105.out
                            (first | subst eo29 | (injection eo29 with f1_ f2_ f3_; have f4_ := f1_.symm; have f5_ := f3_.symm; clear f1_ f2_ f3_; subst f4_; subst f5_))
                            refine hK.out _ _ ((blk_cell BK101.out 0).trans rfl) (fun hHeld => ?_)
                            clear hK K
                            refine norm_ (a' := ?_) ?_ ?_
                            rotate_left
                            · show Act.put _ (some 26) _ = _
                              simp only [Act.put, List.setIfInBounds_toArray, List.set_cons_zero, List.set_cons_succ, i64_w, i32_w]
                              rfl
                            refine pure_ (i := 5) (N := some 27) (v := ?_) (a' := ?_) #[true, true, true, true, true, true, false, false] rfl rfl (any_of HT_.out (by kernel_rfl)) (fun _ _ _ h => h) (Or.inl ⟨by rfl, ?_⟩) ?_ ?_
                            rotate_left
                            · intro w'
                              go_simp
                              with_reducible rfl
                            rotate_left
                            · simp only [Act.put, List.setIfInBounds_toArray, List.set_cons_zero, List.set_cons_succ, i64_w, i32_w]
                              rfl
                            exact norm_ (by first | (simp only [putAll, Act.put, List.setIfInBounds_toArray, List.set_cons_zero, List.set_cons_succ]; done) | (simp only [putAll, Act.put, List.setIfInBounds_toArray, List.set_cons_zero, List.set_cons_succ]; rfl)) (hJ1_4 (.slice Ao29 y103.length co29, .slice Ao28 y106.length co28) _ ⟨hHeld, (by (with_reducible repeat (first | apply Kd.R_alloc | apply Kd.R_drewN | apply Kd.R_drew)); exact Kd.R_mono HO105.out (fun _ hk => ⟨hk.2, hk.1⟩)), (by (with_reducible repeat (first | apply Kd.R_alloc | apply Kd.R_drewN | apply Kd.R_drew)); exact Kd.R_mono HO108.out (fun _ hk => ⟨hk.1.2, hk.2⟩)), (by (with_reducible repeat (first | refine blk_drewN ?_ _ | refine blk_drew ?_ | refine blk_alloc ?_ _)); exact BK101.out), (by (with_reducible repeat (first | refine blk_drewN ?_ _ | refine blk_drew ?_ | refine blk_alloc ?_ _)); exact BK102.out), (by repeat (first | (with_reducible first | exact HB.out | apply below_alloc | apply pw_below_drewN | apply below_drew1 | refine below_set ?_ GE101.out | refine below_set ?_ GE102.out) | exact HB.out))⟩)
                          · skip
                            refine box_step ?hg (N := 6) ?hd (cs := #[.slice none 0 0, .slice none 0 0]) (t := 77) ?hr ?_; (case hd => rfl); (case hg => rfl); (case hr => first | (go_simp; done) | (go_simp; rfl))
                            intro gb109 hg w26 hbox hb
                            have n0_ := Aside0.mk (Kd.R_below (by (with_reducible repeat (first | apply Kd.R_alloc | apply Kd.R_drewN | apply Kd.R_drew)); exact HO105.out) hb)
                            have n1_ := Aside0.mk (blk_below (g := gb101) (o := .cells #[.int .i64 a1] 3 (0, 0)) (by (with_reducible repeat (first | refine blk_drewN ?_ _ | refine blk_drew ?_ | refine blk_alloc ?_ _)); exact BK101.out) hb)
                            have n2_ := Aside0.mk (blk_below (g := gb102) (o := .cells #[.slice none 0 0, .slice none 0 0] 77 (0, 0)) (by (with_reducible repeat (first | refine blk_drewN ?_ _ | refine blk_drew ?_ | refine blk_alloc ?_ _)); exact BK102.out) hb)
                            have n3_ := Aside0.mk (below_step (by repeat (first | (with_reducible first | exact HB.out | apply below_alloc | apply pw_below_drewN | apply below_drew1 | refine below_set ?_ GE101.out | refine below_set ?_ GE102.out) | exact HB.out)) hb)
                            have n4_ := Aside0.mk (hbox)
                            have n5_ := Aside0.mk ((by rw [hg]; exact (below_size (by repeat (first | (with_reducible first | exact HB.out | apply below_alloc | apply pw_below_drewN | apply below_drew1 | refine below_set ?_ GE101.out | refine below_set ?_ GE102.out) | exact HB.out))) : w.heap.size ≤ gb109))
                            have n6_ := Aside0.mk ((by rw [hg]; exact (below_size (by repeat (first | (with_reducible first | exact HB.out | apply below_alloc | apply pw_below_drewN | apply below_drew1 | refine below_set ?_ GE101.out | refine below_set ?_ GE102.out) | exact HB.out))) : w.heap.size ≤ gb109))
                            have n7_ := Aside0.mk ((by rw [hg]; exact Nat.ne_of_lt (blk_lt (g := gb101) (o := .cells #[.int .i64 a1] 3 (0, 0)) (by (with_reducible repeat (first | refine blk_drewN ?_ _ | refine blk_drew ?_ | refine blk_alloc ?_ _)); exact BK101.out)) : gb101 ≠ gb109))
                            have n8_ := Aside0.mk ((by rw [hg]; exact Nat.ne_of_gt (blk_lt (g := gb101) (o := .cells #[.int .i64 a1] 3 (0, 0)) (by (with_reducible repeat (first | refine blk_drewN ?_ _ | refine blk_drew ?_ | refine blk_alloc ?_ _)); exact BK101.out)) : gb109 ≠ gb101))
                            have n9_ := Aside0.mk ((by rw [hg]; exact Nat.ne_of_lt (blk_lt (g := gb102) (o := .cells #[.slice none 0 0, .slice none 0 0] 77 (0, 0)) (by (with_reducible repeat (first | refine blk_drewN ?_ _ | refine blk_drew ?_ | refine blk_alloc ?_ _)); exact BK102.out)) : gb102 ≠ gb109))
                            have n10_ := Aside0.mk ((by rw [hg]; exact Nat.ne_of_gt (blk_lt (g := gb102) (o := .cells #[.slice none 0 0, .slice none 0 0] 77 (0, 0)) (by (with_reducible repeat (first | refine blk_drewN ?_ _ | refine blk_drew ?_ | refine blk_alloc ?_ _)); exact BK102.out)) : gb109 ≠ gb102))
                            clear HO105
                            clear BK101
                            clear BK102
                            clear HB
                            have HO105 := n0_
                            have BK101 := n1_
                            have BK102 := n2_
                            have HB := n3_
                            have BK109 := n4_
                            have GW109 := n5_
                            have GE109 := n6_
                            have NB101_109 := n7_
                            have NB109_101 := n8_
                            have NB102_109 := n9_
                            have NB109_102 := n10_
                            clear n0_ n1_ n2_ n3_ n4_ n5_ n6_ n7_ n8_ n9_ n10_
                            clear hb hbox hg
                            refine hK.out _ _ ((blk_cell BK101.out 0).trans rfl) (fun hHeld => ?_)
                            clear hK K
                            refine norm_ (a' := ?_) ?_ ?_
                            rotate_left
                            · show Act.put _ (some 6) _ = _
                              simp only [Act.put, List.setIfInBounds_toArray, List.set_cons_zero, List.set_cons_succ, i64_w, i32_w]
                              rfl
                            exact norm_ (by first | (simp only [putAll, Act.put, List.setIfInBounds_toArray, List.set_cons_zero, List.set_cons_succ]; done) | (simp only [putAll, Act.put, List.setIfInBounds_toArray, List.set_cons_zero, List.set_cons_succ]; rfl)) (hJ1_6 (v104, gb109) _ ⟨hHeld, (by (with_reducible repeat (first | apply Kd.R_alloc | apply Kd.R_drewN | apply Kd.R_drew)); exact HO105.out), (by (with_reducible repeat (first | refine blk_drewN ?_ _ | refine blk_drew ?_ | refine blk_alloc ?_ _)); exact BK101.out), (by (with_reducible repeat (first | refine blk_drewN ?_ _ | refine blk_drew ?_ | refine blk_alloc ?_ _)); exact BK102.out), (by (with_reducible repeat (first | refine blk_drewN ?_ _ | refine blk_drew ?_ | refine blk_alloc ?_ _)); exact BK109.out), GW109.out, GE109.out, NB101_109.out, NB109_101.out, NB102_109.out, NB109_102.out, (by repeat (first | (with_reducible first | exact HB.out | apply below_alloc | apply pw_below_drewN | apply below_drew1 | refine below_set ?_ GE101.out | refine below_set ?_ GE102.out | refine below_set ?_ GE109.out) | exact HB.out))⟩)
                      · skip
                        rintro ⟨v107, gb109⟩ w26 ⟨hS_, h0_, h1_, h2_, h3_, h4_, h5_, h6_, h7_, h8_, h9_, h10_⟩
                        have n0_ : Aside0 (Kd.R (Kd.int .i64) 3 w26 w.heap.size (fun k_ => k_ ≠ gb101) v107 y106) := ⟨h0_⟩
                        have n1_ : Aside0 (w26.heap[gb101]? = some (.cells #[.int .i64 a1] 3 (0, 0))) := ⟨h1_⟩
                        have n2_ : Aside0 (w26.heap[gb102]? = some (.cells #[.slice none 0 0, .slice none 0 0] 77 (0, 0))) := ⟨h2_⟩
                        have n3_ : Aside0 (w26.heap[gb109]? = some (.cells #[.slice none 0 0, .slice none 0 0] 77 (0, 0))) := ⟨h3_⟩
                        have n4_ : Aside0 (w.heap.size ≤ gb109) := ⟨h4_⟩
                        have n5_ : Aside0 (w.heap.size ≤ gb109) := ⟨h5_⟩
                        have n6_ : Aside0 (gb101 ≠ gb109) := ⟨h6_⟩
                        have n7_ : Aside0 (gb109 ≠ gb101) := ⟨h7_⟩
                        have n8_ : Aside0 (gb102 ≠ gb109) := ⟨h8_⟩
                        have n9_ : Aside0 (gb109 ≠ gb102) := ⟨h9_⟩
                        have n10_ : Aside0 (Below w.heap.size w w26) := ⟨h10_⟩
                        clear BK101
                        clear BK102
                        clear HB
                        clear h0_ h1_ h2_ h3_ h4_ h5_ h6_ h7_ h8_ h9_ h10_
                        have HO108 := n0_
                        have BK101 := n1_
                        have BK102 := n2_
                        have BK109 := n3_
                        have GW109 := n4_
                        have GE109 := n5_
                        have NB101_109 := n6_
                        have NB109_101 := n7_
                        have NB102_109 := n8_
                        have NB109_102 := n9_
                        have HB := n10_
                        clear n0_ n1_ n2_ n3_ n4_ n5_ n6_ n7_ n8_ n9_ n10_
                        have hHeld : w26.cell? ⟨gb101, 0, none⟩ = some (.int .i64 a1) := hS_
                        refine norm_ (a' := ?_) ?_ ?_
                        rotate_left
                        · simp only [putAll, Act.put, List.setIfInBounds_toArray, List.set_cons_zero, List.set_cons_succ]
                          rfl
                        refine one_ (i := 1) (N := some 23) #[true, true, true, true, true, false, true, false] rfl rfl (one_of HT_.out (by kernel_rfl)) (by decide) (fun K hK => ?_)
                        refine Kd.R_make_step (Kd.int .i64) _ 3 (by rfl) (N := 23) rfl 23 _ _ rfl a1 rfl rfl Try.underlying23 (.int .i64 0) 8 info3 rfl (by decide) (by omega) 0 (ok := fun _ => True) (okp := fun _ => True) rfl (fun _ hk => hk) trivial (of_decide_eq_true (by first | (with_reducible assumption) | assumption)) (Nat.le_trans (Nat.mul_le_mul_right _ (of_decide_eq_true (by first | (with_reducible assumption) | assumption) : a1.toNat ≤ 35184372088832)) (by omega)) (Below.refl _ _) (Nat.le_refl _) ?_
                        intro v104 w27 ho28 hb hg_ hnew_
                        clear hg_ hnew_
                        (first | rw [← Ny103.out] at ho28 | (simp only [Int.reduceToNat] at ho28; rw [← Ny103.out] at ho28))
                        have n0_ := Aside0.mk (Kd.R_elder' (by (with_reducible repeat (first | apply Kd.R_alloc | apply Kd.R_drewN | apply Kd.R_drew)); exact HO108.out) (Kd.R_base ho28) hb)
                        have n1_ := Aside0.mk (Kd.R_lower (Kd.R_newB (Kd.R_new' ho28 (Kd.R_lt (by (with_reducible repeat (first | apply Kd.R_alloc | apply Kd.R_drewN | apply Kd.R_drew)); exact HO108.out))) (g := gb101) (o := .cells #[.int .i64 a1] 3 (0, 0)) (by (with_reducible repeat (first | refine blk_drewN ?_ _ | refine blk_drew ?_ | refine blk_alloc ?_ _)); exact BK101.out)) (below_size (by repeat (first | (with_reducible first | exact HB.out | apply below_alloc | apply pw_below_drewN | apply below_drew1 | refine below_set ?_ GE101.out | refine below_set ?_ GE102.out | refine below_set ?_ GE109.out) | exact HB.out))))
                        have n2_ := Aside0.mk (blk_below (g := gb101) (o := .cells #[.int .i64 a1] 3 (0, 0)) (by (with_reducible repeat (first | refine blk_drewN ?_ _ | refine blk_drew ?_ | refine blk_alloc ?_ _)); exact BK101.out) hb)
                        have n3_ := Aside0.mk (blk_below (g := gb102) (o := .cells #[.slice none 0 0, .slice none 0 0] 77 (0, 0)) (by (with_reducible repeat (first | refine blk_drewN ?_ _ | refine blk_drew ?_ | refine blk_alloc ?_ _)); exact BK102.out) hb)
                        have n4_ := Aside0.mk (blk_below (g := gb109) (o := .cells #[.slice none 0 0, .slice none 0 0] 77 (0, 0)) (by (with_reducible repeat (first | refine blk_drewN ?_ _ | refine blk_drew ?_ | refine blk_alloc ?_ _)); exact BK109.out) hb)
                        have n5_ := Aside0.mk (below_step (by repeat (first | (with_reducible first | exact HB.out | apply below_alloc | apply pw_below_drewN | apply below_drew1 | refine below_set ?_ GE101.out | refine below_set ?_ GE102.out | refine below_set ?_ GE109.out) | exact HB.out)) hb)
                        clear HO108
                        clear BK101
                        clear BK102
                        clear BK109
                        clear HB
                        have HO108 := n0_
                        have HO105 := n1_
                        have BK101 := n2_
                        have BK102 := n3_
                        have BK109 := n4_
                        have HB := n5_
                        clear n0_ n1_ n2_ n3_ n4_ n5_
                        clear hb ho28
                        obtain ⟨Ao29, co29, eo29⟩ := Kd.R_slice HO108.out
                        (first | subst eo29 | (injection eo29 with f1_ f2_ f3_; have f4_ := f1_.symm; have f5_ := f3_.symm; clear f1_ f2_ f3_; subst f4_; subst f5_))
                        obtain ⟨Ao30, co30, eo30⟩ := Kd.R_slice HO105.out
                        (first | subst eo30 | (injection eo30 with f1_ f2_ f3_; have f4_ := f1_.symm; have f5_ := f3_.symm; clear f1_ f2_ f3_; subst f4_; subst f5_))
                        refine hK.out _ _ ((blk_cell BK101.out 0).trans rfl) (fun hHeld => ?_)
                        clear hK K
                        refine norm_ (a' := ?_) ?_ ?_
                        rotate_left
                        · show Act.put _ (some 23) _ = _
                          simp only [Act.put, List.setIfInBounds_toArray, List.set_cons_zero, List.set_cons_succ, i64_w, i32_w]
                          rfl
                        refine pure_ (i := 5) (N := some 27) (v := ?_) (a' := ?_) #[true, true, true, true, true, true, true, false] rfl rfl (any_of HT_.out (by kernel_rfl)) (fun _ _ _ h => h) (Or.inl ⟨by rfl, ?_⟩) ?_ ?_
                        rotate_left
                        · intro w'
                          go_simp
                          with_reducible rfl
                        rotate_left
                        · simp only [Act.put, List.setIfInBounds_toArray, List.set_cons_zero, List.set_cons_succ, i64_w, i32_w]
                          rfl
                        exact norm_ (by first | (simp only [putAll, Act.put, List.setIfInBounds_toArray, List.set_cons_zero, List.set_cons_succ]; done) | (simp only [putAll, Act.put, List.setIfInBounds_toArray, List.set_cons_zero, List.set_cons_succ]; rfl)) (hJ1_4_6 (.slice Ao30 y103.length co30, .slice Ao29 y106.length co29, gb109) _ ⟨hHeld, (by (with_reducible repeat (first | apply Kd.R_alloc | apply Kd.R_drewN | apply Kd.R_drew)); exact Kd.R_mono HO105.out (fun _ hk => ⟨hk.1.2, hk.2⟩)), (by (with_reducible repeat (first | apply Kd.R_alloc | apply Kd.R_drewN | apply Kd.R_drew)); exact Kd.R_mono HO108.out (fun _ hk => ⟨hk.2, hk.1⟩)), (by (with_reducible repeat (first | refine blk_drewN ?_ _ | refine blk_drew ?_ | refine blk_alloc ?_ _)); exact BK101.out), (by (with_reducible repeat (first | refine blk_drewN ?_ _ | refine blk_drew ?_ | refine blk_alloc ?_ _)); exact BK102.out), (by (with_reducible repeat (first | refine blk_drewN ?_ _ | refine blk_drew ?_ | refine blk_alloc ?_ _)); exact BK109.out), GW109.out, GE109.out, NB101_109.out, NB109_101.out, NB102_109.out, NB109_102.out, (by repeat (first | (with_reducible first | exact HB.out | apply below_alloc | apply pw_below_drewN | apply below_drew1 | refine below_set ?_ GE101.out | refine below_set ?_ GE102.out | refine below_set ?_ GE109.out) | exact HB.out))⟩)
                    · skip
                      rintro ⟨v104, gb109⟩ w26 ⟨hS_, h0_, h1_, h2_, h3_, h4_, h5_, h6_, h7_, h8_, h9_, h10_⟩
                      have n0_ : Aside0 (Kd.R (Kd.int .i64) 3 w26 w.heap.size (fun k_ => k_ ≠ gb101) v104 y103) := ⟨h0_⟩
                      have n1_ : Aside0 (w26.heap[gb101]? = some (.cells #[.int .i64 a1] 3 (0, 0))) := ⟨h1_⟩
                      have n2_ : Aside0 (w26.heap[gb102]? = some (.cells #[.slice none 0 0, .slice none 0 0] 77 (0, 0))) := ⟨h2_⟩
                      have n3_ : Aside0 (w26.heap[gb109]? = some (.cells #[.slice none 0 0, .slice none 0 0] 77 (0, 0))) := ⟨h3_⟩
                      have n4_ : Aside0 (w.heap.size ≤ gb109) := ⟨h4_⟩
                      have n5_ : Aside0 (w.heap.size ≤ gb109) := ⟨h5_⟩
                      have n6_ : Aside0 (gb101 ≠ gb109) := ⟨h6_⟩
                      have n7_ : Aside0 (gb109 ≠ gb101) := ⟨h7_⟩
                      have n8_ : Aside0 (gb102 ≠ gb109) := ⟨h8_⟩
                      have n9_ : Aside0 (gb109 ≠ gb102) := ⟨h9_⟩
                      have n10_ : Aside0 (Below w.heap.size w w26) := ⟨h10_⟩
                      clear BK101
                      clear BK102
                      clear HB
                      clear h0_ h1_ h2_ h3_ h4_ h5_ h6_ h7_ h8_ h9_ h10_
                      have HO105 := n0_
                      have BK101 := n1_
                      have BK102 := n2_
                      have BK109 := n3_
                      have GW109 := n4_
                      have GE109 := n5_
                      have NB101_109 := n6_
                      have NB109_101 := n7_
                      have NB102_109 := n8_
                      have NB109_102 := n9_
                      have HB := n10_
                      clear n0_ n1_ n2_ n3_ n4_ n5_ n6_ n7_ n8_ n9_ n10_
                      have hHeld : w26.cell? ⟨gb101, 0, none⟩ = some (.int .i64 a1) := hS_
                      refine norm_ (a' := ?_) ?_ ?_
                      rotate_left
                      · simp only [putAll, Act.put, List.setIfInBounds_toArray, List.set_cons_zero, List.set_cons_succ]
                        rfl
                      refine one_ (i := 4) (N := some 26) #[true, true, true, true, true, false, true, false] rfl rfl (one_of HT_.out (by kernel_rfl)) (by decide) (fun K hK => ?_)
                      refine Kd.R_make_step (Kd.int .i64) _ 3 (by rfl) (N := 26) rfl 23 _ _ rfl (l0.length : Int) rfl rfl Try.underlying23 (.int .i64 0) 8 info3 rfl (by decide) (by omega) 0 (ok := fun _ => True) (okp := fun _ => True) rfl (fun _ hk => hk) trivial (of_decide_eq_true (by first | (with_reducible assumption) | assumption)) (Nat.le_trans (Nat.mul_le_mul_right _ (of_decide_eq_true (by first | (with_reducible assumption) | assumption) : (l0.length : Int).toNat ≤ 35184372088832)) (by omega)) (Below.refl _ _) (Nat.le_refl _) ?_
                      intro v107 w27 ho28 hb hg_ hnew_
                      clear hg_ hnew_
                      (first | rw [← Ny106.out] at ho28 | (simp only [Int.reduceToNat] at ho28; rw [← Ny106.out] at ho28))
                      have n0_ := Aside0.mk (Kd.R_elder' (by (with_reducible repeat (first | apply Kd.R_alloc | apply Kd.R_drewN | apply Kd.R_drew)); exact HO105.out) (Kd.R_base ho28) hb)
                      have n1_ := Aside0.mk (Kd.R_lower (Kd.R_newB (Kd.R_new' ho28 (Kd.R_lt (by (with_reducible repeat (first | apply Kd.R_alloc | apply Kd.R_drewN | apply Kd.R_drew)); exact HO105.out))) (g := gb101) (o := .cells #[.int .i64 a1] 3 (0, 0)) (by (with_reducible repeat (first | refine blk_drewN ?_ _ | refine blk_drew ?_ | refine blk_alloc ?_ _)); exact BK101.out)) (below_size (by repeat (first | (with_reducible first | exact HB.out | apply below_alloc | apply pw_below_drewN | apply below_drew1 | refine below_set ?_ GE101.out | refine below_set ?_ GE102.out | refine below_set ?_ GE109.out) | exact HB.out))))
                      have n2_ := Aside0.mk (blk_below (g := gb101) (o := .cells #[.int .i64 a1] 3 (0, 0)) (by (with_reducible repeat (first | refine blk_drewN ?_ _ | refine blk_drew ?_ | refine blk_alloc ?_ _)); exact BK101.out) hb)
                      have n3_ := Aside0.mk (blk_below (g := gb102) (o := .cells #[.slice none 0 0, .slice none 0 0] 77 (0, 0)) (by (with_reducible repeat (first | refine blk_drewN ?_ _ | refine blk_drew ?_ | refine blk_alloc ?_ _)); exact BK102.out) hb)
                      have n4_ := Aside0.mk (blk_below (g := gb109) (o := .cells #[.slice none 0 0, .slice none 0 0] 77 (0, 0)) (by (with_reducible repeat (first | refine blk_drewN ?_ _ | refine blk_drew ?_ | refine blk_alloc ?_ _)); exact BK109.out) hb)
                      have n5_ := Aside0.mk (below_step (by repeat (first | (with_reducible first | exact HB.out | apply below_alloc | apply pw_below_drewN | apply below_drew1 | refine below_set ?_ GE101.out | refine below_set ?_ GE102.out | refine below_set ?_ GE109.out) | exact HB.out)) hb)
                      clear HO105
                      clear BK101
                      clear BK102
                      clear BK109
                      clear HB
                      have HO105 := n0_
                      have HO108 := n1_
                      have BK101 := n2_
                      have BK102 := n3_
                      have BK109 := n4_
                      have HB := n5_
                      clear n0_ n1_ n2_ n3_ n4_ n5_
                      clear hb ho28
                      obtain ⟨Ao29, co29, eo29⟩ := Kd.R_slice HO108.out
                      (first | subst eo29 | (injection eo29 with f1_ f2_ f3_; have f4_ := f1_.symm; have f5_ := f3_.symm; clear f1_ f2_ f3_; subst f4_; subst f5_))
                      obtain ⟨Ao30, co30, eo30⟩ := Kd.R_slice HO105.out
                      (first | subst eo30 | (injection eo30 with f1_ f2_ f3_; have f4_ := f1_.symm; have f5_ := f3_.symm; clear f1_ f2_ f3_; subst f4_; subst f5_))
                      refine hK.out _ _ ((blk_cell BK101.out 0).trans rfl) (fun hHeld => ?_)
                      clear hK K
                      refine norm_ (a' := ?_) ?_ ?_
                      rotate_left
                      · show Act.put _ (some 26) _ = _
                        simp only [Act.put, List.setIfInBounds_toArray, List.set_cons_zero, List.set_cons_succ, i64_w, i32_w]
                        rfl
                      refine pure_ (i := 5) (N := some 27) (v := ?_) (a' := ?_) #[true, true, true, true, true, true, true, false] rfl rfl (any_of HT_.out (by kernel_rfl)) (fun _ _ _ h => h) (Or.inl ⟨by rfl, ?_⟩) ?_ ?_
                      rotate_left
                      · intro w'
                        go_simp
                        with_reducible rfl
                      rotate_left
                      · simp only [Act.put, List.setIfInBounds_toArray, List.set_cons_zero, List.set_cons_succ, i64_w, i32_w]
                        rfl
                      exact norm_ (by first | (simp only [putAll, Act.put, List.setIfInBounds_toArray, List.set_cons_zero, List.set_cons_succ]; done) | (simp only [putAll, Act.put, List.setIfInBounds_toArray, List.set_cons_zero, List.set_cons_succ]; rfl)) (hJ1_4_6 (.slice Ao30 y103.length co30, .slice Ao29 y106.length co29, gb109) _ ⟨hHeld, (by (with_reducible repeat (first | apply Kd.R_alloc | apply Kd.R_drewN | apply Kd.R_drew)); exact Kd.R_mono HO105.out (fun _ hk => ⟨hk.2, hk.1⟩)), (by (with_reducible repeat (first | apply Kd.R_alloc | apply Kd.R_drewN | apply Kd.R_drew)); exact Kd.R_mono HO108.out (fun _ hk => ⟨hk.1.2, hk.2⟩)), (by (with_reducible repeat (first | refine blk_drewN ?_ _ | refine blk_drew ?_ | refine blk_alloc ?_ _)); exact BK101.out), (by (with_reducible repeat (first | refine blk_drewN ?_ _ | refine blk_drew ?_ | refine blk_alloc ?_ _)); exact BK102.out), (by (with_reducible repeat (first | refine blk_drewN ?_ _ | refine blk_drew ?_ | refine blk_alloc ?_ _)); exact BK109.out), GW109.out, GE109.out, NB101_109.out, NB109_101.out, NB102_109.out, NB109_102.out, (by repeat (first | (with_reducible first | exact HB.out | apply below_alloc | apply pw_below_drewN | apply below_drew1 | refine below_set ?_ GE101.out | refine below_set ?_ GE102.out | refine below_set ?_ GE109.out) | exact HB.out))⟩)
                  · skip
                    rintro ⟨v104, v107⟩ w29 ⟨hS_, h0_, h1_, h2_, h3_, h4_⟩
                    have n0_ : Aside0 (Kd.R (Kd.int .i64) 3 w29 w.heap.size (fun k_ => some k_ ≠ (v107 : Value).ownBlock ∧ k_ ≠ gb101) v104 y103) := ⟨h0_⟩
                    have n1_ : Aside0 (Kd.R (Kd.int .i64) 3 w29 w.heap.size (fun k_ => some k_ ≠ (v104 : Value).ownBlock ∧ k_ ≠ gb101) v107 y106) := ⟨h1_⟩
                    have n2_ : Aside0 (w29.heap[gb101]? = some (.cells #[.int .i64 a1] 3 (0, 0))) := ⟨h2_⟩
                    have n3_ : Aside0 (w29.heap[gb102]? = some (.cells #[.slice none 0 0, .slice none 0 0] 77 (0, 0))) := ⟨h3_⟩
                    have n4_ : Aside0 (Below w.heap.size w w29) := ⟨h4_⟩
                    clear BK101
                    clear BK102
                    clear HB
                    clear h0_ h1_ h2_ h3_ h4_
                    have HO105 := n0_
                    have HO108 := n1_
                    have BK101 := n2_
                    have BK102 := n3_
                    have HB := n4_
                    clear n0_ n1_ n2_ n3_ n4_
                    have hHeld : w29.cell? ⟨gb101, 0, none⟩ = some (.int .i64 a1) := hS_
                    obtain ⟨Ao30, co30, eo30⟩ := Kd.R_slice HO108.out
                    (first | subst eo30 | (injection eo30 with f1_ f2_ f3_; have f4_ := f1_.symm; have f5_ := f3_.symm; clear f1_ f2_ f3_; subst f4_; subst f5_))
                    obtain ⟨Ao31, co31, eo31⟩ := Kd.R_slice HO105.out
                    (first | subst eo31 | (injection eo31 with f1_ f2_ f3_; have f4_ := f1_.symm; have f5_ := f3_.symm; clear f1_ f2_ f3_; subst f4_; subst f5_))
                    refine norm_ (a' := ?_) ?_ ?_
                    rotate_left
                    · simp only [putAll, Act.put, List.setIfInBounds_toArray, List.set_cons_zero, List.set_cons_succ]
                      rfl
                    refine one_ (i := 6) (N := some 6) #[true, true, true, true, true, true, true, false] rfl rfl (one_of HT_.out (by kernel_rfl)) (by decide) (fun K hK => ?_)
                    refine box_step ?hg (N := 6) ?hd (cs := #[.slice none 0 0, .slice none 0 0]) (t := 77) ?hr ?_; (case hd => rfl); (case hg => rfl); (case hr => first | (go_simp; done) | (go_simp; rfl))
                    intro gb109 hg w32 hbox hb
                    have n0_ := Aside0.mk (Kd.R_below (by (with_reducible repeat (first | apply Kd.R_alloc | apply Kd.R_drewN | apply Kd.R_drew)); exact HO105.out) hb)
                    have n1_ := Aside0.mk (Kd.R_below (by (with_reducible repeat (first | apply Kd.R_alloc | apply Kd.R_drewN | apply Kd.R_drew)); exact HO108.out) hb)
                    have n2_ := Aside0.mk (blk_below (g := gb101) (o := .cells #[.int .i64 a1] 3 (0, 0)) (by (with_reducible repeat (first | refine blk_drewN ?_ _ | refine blk_drew ?_ | refine blk_alloc ?_ _)); exact BK101.out) hb)
                    have n3_ := Aside0.mk (blk_below (g := gb102) (o := .cells #[.slice none 0 0, .slice none 0 0] 77 (0, 0)) (by (with_reducible repeat (first | refine blk_drewN ?_ _ | refine blk_drew ?_ | refine blk_alloc ?_ _)); exact BK102.out) hb)
                    have n4_ := Aside0.mk (below_step (by repeat (first | (with_reducible first | exact HB.out | apply below_alloc | apply pw_below_drewN | apply below_drew1 | refine below_set ?_ GE101.out | refine below_set ?_ GE102.out) | exact HB.out)) hb)
                    have n5_ := Aside0.mk (hbox)
                    have n6_ := Aside0.mk ((by rw [hg]; exact (below_size (by repeat (first | (with_reducible first | exact HB.out | apply below_alloc | apply pw_below_drewN | apply below_drew1 | refine below_set ?_ GE101.out | refine below_set ?_ GE102.out) | exact HB.out))) : w.heap.size ≤ gb109))
                    have n7_ := Aside0.mk ((by rw [hg]; exact (below_size (by repeat (first | (with_reducible first | exact HB.out | apply below_alloc | apply pw_below_drewN | apply below_drew1 | refine below_set ?_ GE101.out | refine below_set ?_ GE102.out) | exact HB.out))) : w.heap.size ≤ gb109))
                    have n8_ := Aside0.mk ((by rw [hg]; exact Nat.ne_of_lt (blk_lt (g := gb101) (o := .cells #[.int .i64 a1] 3 (0, 0)) (by (with_reducible repeat (first | refine blk_drewN ?_ _ | refine blk_drew ?_ | refine blk_alloc ?_ _)); exact BK101.out)) : gb101 ≠ gb109))
                    have n9_ := Aside0.mk ((by rw [hg]; exact Nat.ne_of_gt (blk_lt (g := gb101) (o := .cells #[.int .i64 a1] 3 (0, 0)) (by (with_reducible repeat (first | refine blk_drewN ?_ _ | refine blk_drew ?_ | refine blk_alloc ?_ _)); exact BK101.out)) : gb109 ≠ gb101))
                    have n10_ := Aside0.mk ((by rw [hg]; exact Nat.ne_of_lt (blk_lt (g := gb102) (o := .cells #[.slice none 0 0, .slice none 0 0] 77 (0, 0)) (by (with_reducible repeat (first | refine blk_drewN ?_ _ | refine blk_drew ?_ | refine blk_alloc ?_ _)); exact BK102.out)) : gb102 ≠ gb109))
                    have n11_ := Aside0.mk ((by rw [hg]; exact Nat.ne_of_gt (blk_lt (g := gb102) (o := .cells #[.slice none 0 0, .slice none 0 0] 77 (0, 0)) (by (with_reducible repeat (first | refine blk_drewN ?_ _ | refine blk_drew ?_ | refine blk_alloc ?_ _)); exact BK102.out)) : gb109 ≠ gb102))
                    clear HO105
                    clear HO108
                    clear BK101
                    clear BK102
                    clear HB
                    have HO105 := n0_
                    have HO108 := n1_
                    have BK101 := n2_
                    have BK102 := n3_
                    have HB := n4_
                    have BK109 := n5_
                    have GW109 := n6_
                    have GE109 := n7_
                    have NB101_109 := n8_
                    have NB109_101 := n9_
                    have NB102_109 := n10_
                    have NB109_102 := n11_
                    clear n0_ n1_ n2_ n3_ n4_ n5_ n6_ n7_ n8_ n9_ n10_ n11_
                    clear hb hbox hg
                    refine hK.out _ _ ((blk_cell BK101.out 0).trans rfl) (fun hHeld => ?_)
                    clear hK K
                    refine norm_ (a' := ?_) ?_ ?_
                    rotate_left
                    · show Act.put _ (some 6) _ = _
                      simp only [Act.put, List.setIfInBounds_toArray, List.set_cons_zero, List.set_cons_succ, i64_w, i32_w]
                      rfl
                    exact norm_ (by first | (simp only [putAll, Act.put, List.setIfInBounds_toArray, List.set_cons_zero, List.set_cons_succ]; done) | (simp only [putAll, Act.put, List.setIfInBounds_toArray, List.set_cons_zero, List.set_cons_succ]; rfl)) (hJ1_4_6 (.slice Ao31 y103.length co31, .slice Ao30 y106.length co30, gb109) _ ⟨hHeld, (by (with_reducible repeat (first | apply Kd.R_alloc | apply Kd.R_drewN | apply Kd.R_drew)); exact HO105.out), (by (with_reducible repeat (first | apply Kd.R_alloc | apply Kd.R_drewN | apply Kd.R_drew)); exact HO108.out), (by (with_reducible repeat (first | refine blk_drewN ?_ _ | refine blk_drew ?_ | refine blk_alloc ?_ _)); exact BK101.out), (by (with_reducible repeat (first | refine blk_drewN ?_ _ | refine blk_drew ?_ | refine blk_alloc ?_ _)); exact BK102.out), (by (with_reducible repeat (first | refine blk_drewN ?_ _ | refine blk_drew ?_ | refine blk_alloc ?_ _)); exact BK109.out), GW109.out, GE109.out, NB101_109.out, NB109_101.out, NB102_109.out, NB109_102.out, (by repeat (first | (with_reducible first | exact HB.out | apply below_alloc | apply pw_below_drewN | apply below_drew1 | refine below_set ?_ GE101.out | refine below_set ?_ GE102.out | refine below_set ?_ GE109.out) | exact HB.out))⟩)
                rintro ⟨v104, v107, gb109⟩ w30 ⟨hS_, h0_, h1_, h2_, h3_, h4_, h5_, h6_, h7_, h8_, h9_, h10_, h11_⟩
                have n0_ : Aside0 (Kd.R (Kd.int .i64) 3 w30 w.heap.size (fun k_ => some k_ ≠ (v107 : Value).ownBlock ∧ k_ ≠ gb101) v104 y103) := ⟨h0_⟩
                have n1_ : Aside0 (Kd.R (Kd.int .i64) 3 w30 w.heap.size (fun k_ => some k_ ≠ (v104 : Value).ownBlock ∧ k_ ≠ gb101) v107 y106) := ⟨h1_⟩
                have n2_ : Aside0 (w30.heap[gb101]? = some (.cells #[.int .i64 a1] 3 (0, 0))) := ⟨h2_⟩
                have n3_ : Aside0 (w30.heap[gb102]? = some (.cells #[.slice none 0 0, .slice none 0 0] 77 (0, 0))) := ⟨h3_⟩
                have n4_ : Aside0 (w30.heap[gb109]? = some (.cells #[.slice none 0 0, .slice none 0 0] 77 (0, 0))) := ⟨h4_⟩
                have n5_ : Aside0 (w.heap.size ≤ gb109) := ⟨h5_⟩
                have n6_ : Aside0 (w.heap.size ≤ gb109) := ⟨h6_⟩
                have n7_ : Aside0 (gb101 ≠ gb109) := ⟨h7_⟩
                have n8_ : Aside0 (gb109 ≠ gb101) := ⟨h8_⟩
                have n9_ : Aside0 (gb102 ≠ gb109) := ⟨h9_⟩
                have n10_ : Aside0 (gb109 ≠ gb102) := ⟨h10_⟩
                have n11_ : Aside0 (Below w.heap.size w w30) := ⟨h11_⟩
                clear BK101
                clear BK102
                clear HB
                clear h0_ h1_ h2_ h3_ h4_ h5_ h6_ h7_ h8_ h9_ h10_ h11_
                have HO105 := n0_
                have HO108 := n1_
                have BK101 := n2_
                have BK102 := n3_
                have BK109 := n4_
                have GW109 := n5_
                have GE109 := n6_
                have NB101_109 := n7_
                have NB109_101 := n8_
                have NB102_109 := n9_
                have NB109_102 := n10_
                have HB := n11_
                clear n0_ n1_ n2_ n3_ n4_ n5_ n6_ n7_ n8_ n9_ n10_ n11_
                have hHeld : w30.cell? ⟨gb101, 0, none⟩ = some (.int .i64 a1) := hS_
                obtain ⟨Ao31, co31, eo31⟩ := Kd.R_slice HO108.out
                (first | subst eo31 | (injection eo31 with f1_ f2_ f3_; have f4_ := f1_.symm; have f5_ := f3_.symm; clear f1_ f2_ f3_; subst f4_; subst f5_))
                obtain ⟨Ao32, co32, eo32⟩ := Kd.R_slice HO105.out
                (first | subst eo32 | (injection eo32 with f1_ f2_ f3_; have f4_ := f1_.symm; have f5_ := f3_.symm; clear f1_ f2_ f3_; subst f4_; subst f5_))
                refine norm_ (a' := ?_) ?_ ?_
                rotate_left
                · simp only [putAll, Act.put, List.setIfInBounds_toArray, List.set_cons_zero, List.set_cons_succ]
                  rfl
                refine one_ (i := 7) (N := none) #[true, true, true, true, true, true, true, true] rfl rfl (one_of HT_.out (by kernel_rfl)) (by decide) (fun K hK => ?_)
                have hs33 : w30.cell? ⟨gb109, 0, none⟩ = some (.slice none 0 0) := (blk_cell BK109.out 0).trans rfl
                have hfs33 := blk_frozen BK109.out 0
                have hns33_0 := NB101_109.out
                have hns33_1 := NB102_109.out
                have hms33_0 := NB109_101.out
                have hms33_1 := NB109_102.out
                have hs34 : w30.cell? ⟨gb109, 1, none⟩ = some (.slice none 0 0) := (blk_cell BK109.out 1).trans rfl
                have hfs34 := blk_frozen BK109.out 1
                have hns34_0 := NB101_109.out
                have hns34_1 := NB102_109.out
                have hms34_0 := NB109_101.out
                have hms34_1 := NB109_102.out
                refine skip_ (w1 := ?_) (by rfl) rfl ?_ ?_
                rotate_left
                · go_simp
                  rfl
                refine hK.out _ _ (((cell_far (p := ⟨gb109, _, none⟩) NB101_109.out _).trans (((cell_far (p := ⟨gb109, _, none⟩) NB101_109.out _).trans (hHeld))))) (fun hHeld => ?_)
                clear hK K
                refine done_ (done_of HT_.out (by kernel_rfl)) ?_
                try go_wp2
                have S0 : (w30.setCell ⟨gb109, 0, none⟩ (Value.slice Ao32 y103.length co32)).heap[gb109]? = some (.cells #[.slice Ao32 y103.length co32, .slice none 0 0] 77 (0, 0)) := blk_put BK109.out 0 _ rfl
                have HBb : Aside0 (Kd.R (Kd.int .i64) 3 ((w30.setCell ⟨gb109, 0, none⟩ (Value.slice Ao32 y103.length co32)).setCell ⟨gb109, 1, none⟩ (Value.slice Ao31 y106.length co31)) w.heap.size (fun k_ => some k_ ≠ (.slice Ao31 y106.length co31 : Value).ownBlock ∧ k_ ≠ gb101) (.slice Ao32 y103.length co32) y103) := ⟨Kd.R_set (Kd.R_set HO105.out BK109.out (by decide) 0 _) S0 (by decide) 1 _⟩
                have HBc : Aside0 (Kd.R (Kd.int .i64) 3 ((w30.setCell ⟨gb109, 0, none⟩ (Value.slice Ao32 y103.length co32)).setCell ⟨gb109, 1, none⟩ (Value.slice Ao31 y106.length co31)) w.heap.size (fun k_ => some k_ ≠ (.slice Ao32 y103.length co32 : Value).ownBlock ∧ k_ ≠ gb101) (.slice Ao31 y106.length co31) y106) := ⟨Kd.R_set (Kd.R_set HO108.out BK109.out (by decide) 0 _) S0 (by decide) 1 _⟩
                have S102 : Aside0 (((w30.setCell ⟨gb109, 0, none⟩ (Value.slice Ao32 y103.length co32)).setCell ⟨gb109, 1, none⟩ (Value.slice Ao31 y106.length co31)).heap[gb101]? = some (.cells #[.int .i64 a1] 3 (0, 0))) := ⟨blk_far (blk_far BK101.out NB101_109.out _) NB101_109.out _⟩
                have S103 : Aside0 (((w30.setCell ⟨gb109, 0, none⟩ (Value.slice Ao32 y103.length co32)).setCell ⟨gb109, 1, none⟩ (Value.slice Ao31 y106.length co31)).heap[gb102]? = some (.cells #[.slice none 0 0, .slice none 0 0] 77 (0, 0))) := ⟨blk_far (blk_far BK102.out NB102_109.out _) NB102_109.out _⟩
                have S110 : Aside0 (((w30.setCell ⟨gb109, 0, none⟩ (Value.slice Ao32 y103.length co32)).setCell ⟨gb109, 1, none⟩ (Value.slice Ao31 y106.length co31)).heap[gb109]? = some (.cells #[.slice Ao32 y103.length co32, .slice Ao31 y106.length co31] 77 (0, 0))) := ⟨blk_put S0 1 _ rfl⟩
                have SB : Aside0 (Below w.heap.size w ((w30.setCell ⟨gb109, 0, none⟩ (Value.slice Ao32 y103.length co32)).setCell ⟨gb109, 1, none⟩ (Value.slice Ao31 y106.length co31))) := ⟨below_set (below_set HB.out GE109.out) GE109.out⟩
                have SZ : w30.heap.size = ((w30.setCell ⟨gb109, 0, none⟩ (Value.slice Ao32 y103.length co32)).setCell ⟨gb109, 1, none⟩ (Value.slice Ao31 y106.length co31)).heap.size := by simp
                rw [SZ]
                clear SZ S0 HO105 HO108 BK101 BK102 BK109 HB hHeld hs33 hs34 hfs33 hfs34 hS_
                generalize (w30.setCell ⟨gb109, 0, none⟩ (Value.slice Ao32 y103.length co32)).setCell ⟨gb109, 1, none⟩ (Value.slice Ao31 y106.length co31) = Ws at HBb HBc S102 S103 S110 SB ⊢
                have H := H'.out
                clear H'
                unfold hash_Make.l0 at H
                by_cases hsz : (1 ≤ a1 ∧ a1 ≤ 64) ∧ ∀ s ∈ l0, s.f0.size ≤ 9223372036854775807
                case neg => rw [if_neg hsz] at H; cases H
                rw [if_pos hsz] at H
                have HN := Aside0.mk hsz.1
                replace hsz := hsz.2
                have hsz' := hs_upto l0 hsz
                have HSZ := Aside0.mk hsz
                clear hsz
                simp only [Option.some.injEq, Prod.mk.injEq] at H
                obtain ⟨rfl, rfl, rfl⟩ := H
                have hlen104 : y103.length = a1.toNat := by rw [Ny103.out]; simp
                have hlen107 : y106.length = l0.length := by rw [Ny106.out]; simp
                have HL104 := Aside0.mk hlen104
                have HL107 := Aside0.mk hlen107
                clear hlen104 hlen107
                obtain ⟨W0, hW0⟩ : ∃ W0, Ws.alloc (.cells #[Value.slice A0 l0.length c0] 36) = W0 := ⟨_, rfl⟩
                have T102 : Aside0 (W0.heap[gb101]? = some (.cells #[.int .i64 a1] 3 (0, 0))) := ⟨by rw [← hW0]; exact blk_alloc S102.out _⟩
                have T103 : Aside0 (W0.heap[gb102]? = some (.cells #[.slice none 0 0, .slice none 0 0] 77 (0, 0))) := ⟨by rw [← hW0]; exact blk_alloc S103.out _⟩
                have T110 : Aside0 (W0.heap[gb109]? = some (.cells #[.slice Ao32 y103.length co32, .slice Ao31 y106.length co31] 77 (0, 0))) := ⟨by rw [← hW0]; exact blk_alloc S110.out _⟩
                have TB : Aside0 (Below w.heap.size w W0) := ⟨by rw [← hW0]; exact below_alloc SB.out _⟩
                have TBb := Aside0.mk (Kd.R_alloc (o := .cells #[Value.slice A0 l0.length c0] 36) HBb.out)
                have TBc := Aside0.mk (Kd.R_alloc (o := .cells #[Value.slice A0 l0.length c0] 36) HBc.out)
                have TX : Aside0 (Boxed W0 Ws.heap.size 36 (.slice A0 l0.length c0)) := ⟨by rw [← hW0]; exact Boxed.new Ws 36 _⟩
                rw [hW0] at TBb TBc ⊢
                have TW : Aside0 (Ws.heap.size < W0.heap.size) := ⟨by rw [← hW0]; simp⟩
                clear hW0 HBb HBc S102 S103 S110 SB
                have hclo : #[Value.slice A0 l0.length c0, Value.pointer (some { block := Ws.heap.size, off := 0 }), Value.func (Fn.func 66) #[] #[Value.pointer (some { block := Ws.heap.size, off := 0 })], Value.func (Fn.func 66) #[] #[Value.pointer (some { block := Ws.heap.size, off := 0 })]].getD 2 undef = .func (.func 66) #[] #[.pointer (some ⟨Ws.heap.size, 0, none⟩)] := rfl
                rw [hclo]
                clear hclo
                refine (wpIn_wide (n := 5)).1 ?_
                refine wpIn_rangeFunc_ownH (F := Fence.wide) (n := 5) rfl (by omega) (gf := 66) (lb := #[.pointer (some ⟨Ws.heap.size, 0, none⟩)]) rfl trivial (enters_of Try.func66 (by kernel_rfl) rfl)
                  (back_stops 4 (by omega) Ws.heap.size A0 c0 l0 HC0.out hsz' w W0 HR0.out TB.out TX.out) (fun h k => h.trans k)
                  (fun W l o o' hl ho hc hw => ⟨belowK_b (w := W0) TB.out.size W l o o' hl ho hc hw, fun hb => (World.putObj_heap_other (fun e => by subst e; rw [show W.heap[Ws.heap.size]? = _ from hb] at ho; cases ho; cases hc)).trans hb⟩)
                  (Below.refl _ _) (fun _ => rfl)
                  (fun pre W => Aside0 (W.heap[gb101]? = some (.cells #[.int .i64 a1] 3 (0, 0))) ∧ Aside0 (W.heap[gb102]? = some (.cells #[.slice none 0 0, .slice none 0 0] 77 (0, 0))) ∧ Aside0 (W.heap[gb109]? = some (.cells #[.slice Ao32 y103.length co32, .slice Ao31 y106.length co31] 77 (0, 0))) ∧
                    Aside0 (Kd.R (Kd.int .i64) 3 W w.heap.size (fun k_ => some k_ ≠ (.slice Ao31 y106.length co31 : Value).ownBlock ∧ k_ ≠ gb101) (.slice Ao32 y103.length co32) ((pre.map Subtype.val).foldl (mkStep a1) (y103, y106)).1) ∧
                    Aside0 (Kd.R (Kd.int .i64) 3 W w.heap.size (fun k_ => some k_ ≠ (.slice Ao32 y103.length co32 : Value).ownBlock ∧ k_ ≠ gb101) (.slice Ao31 y106.length co31) ((pre.map Subtype.val).foldl (mkStep a1) (y103, y106)).2) ∧ Aside0 (Below w.heap.size w W))
                  (fun _ _ _ => False)
                  ?hI (fun _ _ _ _ _ hs _ _ => hs) ⟨T102, T103, T110, TBb, TBc, TB⟩
                  (fun x a' W => ∃ Bx, Aside0 (W.heap[Bx]? = some (.cells #[.string x.1.2.f0, .string x.1.2.f1, .int .u64 x.1.2.f2, .int .u64 x.1.2.f3, .int .i64 x.1.2.f4, .int .i64 x.1.2.f5, .int .i64 x.1.2.f6, .bool x.1.2.f7] 42 (0, 0))) ∧ a' = { tmps := #[.slice A0 l0.length c0, .int .i64 a1, undef, .pointer (some ⟨gb101, 0, none⟩), .pointer (some ⟨gb102, 0, none⟩), .int .i64 0, .pointer (some ⟨gb109, 0, none⟩), .int .i64 (x.1.1 : Int), .pointer (some ⟨Bx, 0, none⟩), undef, u10, u11, u12, u13, u14, u15, u16, u17, u18, u19, .bool false, u21, .int .i64 a1, .slice Ao32 y103.length co32, .slice A0 l0.length c0, .int .i64 (l0.length : Int), .slice Ao31 y106.length co31, .agg #[.slice Ao32 y103.length co32, .slice Ao31 y106.length co31], .slice A0 l0.length c0, .func (.func 66) #[] #[.pointer (some ⟨Ws.heap.size, 0, none⟩)], .int .i64 (x.1.1 : Int), .agg #[.string x.1.2.f0, .string x.1.2.f1, .int .u64 x.1.2.f2, .int .u64 x.1.2.f3, .int .i64 x.1.2.f4, .int .i64 x.1.2.f5, .int .i64 x.1.2.f6, .bool x.1.2.f7], u32, u33, u34, u35, u36, u37, u38, u39, u40, u41, u42, u43, u44, u45, u46, u47, u48, u49, u50, u51, u52, u53, u54, u55], defers := [] })
                  ?hAx ?assign ?body ?done ?stop
                case hI =>
                  intro s W W' row hs hg hr
                  obtain ⟨q1, q2, q3, q4, q5, q6⟩ := hs
                  have hrow : ∀ r, row = some r → ∃ o : Obj, W.heap[r]? = some o ∧ o.isCells = false := fun r e => (hr r e).2
                  exact ⟨⟨(grownBy_keeps_cells hg hrow q1.out rfl).trans q1.out⟩, ⟨(grownBy_keeps_cells hg hrow q2.out rfl).trans q2.out⟩, ⟨(grownBy_keeps_cells hg hrow q3.out rfl).trans q3.out⟩,
                    ⟨R_own q4.out hg hrow⟩, ⟨R_own q5.out hg hrow⟩, ⟨q6.out.grown hg q6.out.size (fun k e => Nat.le_trans TB.out.size (hr k e).1)⟩⟩
                case hAx =>
                  rintro x a' ⟨⟩ W W' row ⟨Bx, hb, rfl⟩ hg hr
                  exact ⟨Bx, ⟨(grownBy_keeps_cells hg (fun r e => (hr r e).2) hb.out rfl).trans hb.out⟩, rfl⟩
                case assign =>
                  intro l pre x W K hi hK
                  obtain ⟨q1, q2, q3, q4, q5, q6⟩ := hi
                  unfold symEncs
                  gi_wp2
                  exact hK _ _ ((KeepsOthers.alloc _ _).from _) ⟨(Below.refl _ W).alloc q6.out.size _, fun hb => blk_alloc hb _⟩
                    ⟨⟨blk_alloc q1.out _⟩, ⟨blk_alloc q2.out _⟩, ⟨blk_alloc q3.out _⟩, ⟨Kd.R_alloc q4.out _⟩, ⟨Kd.R_alloc q5.out _⟩, ⟨below_alloc q6.out _⟩⟩ ⟨W.heap.size, ⟨blk_new _ _⟩, rfl⟩
                case body =>
                  rintro l pre x a' W hl ⟨rc, hrc⟩ ⟨q1, q2, q3, q4, q5, q6⟩ ⟨Bx, hbX, rfl⟩ hlen
                  obtain ⟨⟨xi, xs⟩, hx1, hx2⟩ := x
                  have hpx : (pre ++ [(⟨(xi, xs), hx1, hx2⟩ : SymAt l0.length)]).map Subtype.val = pre.map Subtype.val ++ [(xi, xs)] := by simp
                  generalize pre ++ [(⟨(xi, xs), hx1, hx2⟩ : SymAt l0.length)] = px at hpx ⊢
                  have HPX := Aside0.mk hpx
                  clear hpx
                  dsimp only at hbX hx1 hx2 ⊢
                  have X0 : W.cell? ⟨Bx, 0, none⟩ = some (.string xs.f0) := (blk_cell hbX.out 0).trans rfl
                  have X1 : W.cell? ⟨Bx, 1, none⟩ = some (.string xs.f1) := (blk_cell hbX.out 1).trans rfl
                  have X2 : W.cell? ⟨Bx, 2, none⟩ = some (.int .u64 xs.f2) := (blk_cell hbX.out 2).trans rfl
                  have X3 : W.cell? ⟨Bx, 3, none⟩ = some (.int .u64 xs.f3) := (blk_cell hbX.out 3).trans rfl
                  have X4 : W.cell? ⟨Bx, 4, none⟩ = some (.int .i64 xs.f4) := (blk_cell hbX.out 4).trans rfl
                  have X5 : W.cell? ⟨Bx, 5, none⟩ = some (.int .i64 xs.f5) := (blk_cell hbX.out 5).trans rfl
                  have X6 : W.cell? ⟨Bx, 6, none⟩ = some (.int .i64 xs.f6) := (blk_cell hbX.out 6).trans rfl
                  have X7 : W.cell? ⟨Bx, 7, none⟩ = some (.bool xs.f7) := (blk_cell hbX.out 7).trans rfl
                  have hsh := Aside0.mk (symShown_f xs)
                  have hhs := Aside0.mk (hashOf_f xs.f0 hx2)
                  have HX1 := Aside0.mk hx1
                  clear hx2 hx1
                  obtain ⟨sh, hshe⟩ : ∃ b, symShown xs = b := ⟨_, rfl⟩
                  rw [hshe] at hsh
                  have HE := Aside0.mk hshe
                  clear hshe
                  obtain ⟨st, hst⟩ : ∃ st, (pre.map Subtype.val).foldl (mkStep a1) (y103, y106) = st := ⟨_, rfl⟩
                  have hfold : (px.map Subtype.val).foldl (mkStep a1) (y103, y106) = mkStep a1 st (xi, xs) := by rw [HPX.out, List.foldl_append, hst]; rfl
                  rw [hst] at q4 q5
                  have HF := Aside0.mk hfold
                  have HST := Aside0.mk hst
                  clear hst hfold
                  cases sh with
                  | false =>
                    have hm : mkStep a1 st (xi, xs) = st := by unfold mkStep; rw [if_neg (by rw [HE.out]; decide)]
                    have HF' := Aside0.mk (HF.out.trans hm)
                    clear hm
                    gi_wp2_with (refine ⟨trivial, ?_⟩; gi_at_call 22; refine (CallsIn.inRound l (callsIn_wide.2 (hash_Shown.calls _ _ _ _ _ _ _ _ _ _ hsh.out))).mono ?_; rintro e w1 ⟨rfl, hb1⟩)
                    exact ⟨⟨hb1.size, fun k o _ hk _ => blk_below hk hb1⟩, ⟨hb1.mono q6.out.size, fun hb => blk_below hb hb1⟩, ⟨blk_below q1.out hb1⟩, ⟨blk_below q2.out hb1⟩, ⟨blk_below q3.out hb1⟩, ⟨by rw [HF'.out]; exact Kd.R_below q4.out hb1⟩, ⟨by rw [HF'.out]; exact Kd.R_below q5.out hb1⟩, ⟨below_step q6.out hb1⟩⟩
                  | true =>
                    gi_wp2_with (refine ⟨trivial, ?_⟩; gi_at_call 22; refine (CallsIn.inRound l (callsIn_wide.2 (hash_Shown.calls _ _ _ _ _ _ _ _ _ _ hsh.out))).mono ?_; rintro e w1 ⟨rfl, hb1⟩)
                    have hB1 := Aside0.mk hb1
                    clear hb1
                    have B1 := Aside0.mk (below_drew1 (below_step q6.out hB1.out))
                    have b1 : Aside0 (w1.drew.heap[gb101]? = some (.cells #[.int .i64 a1] 3 (0, 0))) := ⟨blk_drew (blk_below q1.out hB1.out)⟩
                    have b2 : Aside0 (w1.drew.heap[gb102]? = some (.cells #[.slice none 0 0, .slice none 0 0] 77 (0, 0))) := ⟨blk_drew (blk_below q2.out hB1.out)⟩
                    have b3 : Aside0 (w1.drew.heap[gb109]? = some (.cells #[.slice Ao32 y103.length co32, .slice Ao31 y106.length co31] 77 (0, 0))) := ⟨blk_drew (blk_below q3.out hB1.out)⟩
                    have bX : Aside0 (w1.drew.heap[Bx]? = _) := ⟨blk_drew (blk_below hbX.out hB1.out)⟩
                    have r1 := Aside0.mk (Kd.R_drew (Kd.R_below q4.out hB1.out))
                    have r2 := Aside0.mk (Kd.R_drew (Kd.R_below q5.out hB1.out))
                    have D1 : Aside0 (Below W.heap.size W w1.drew) := ⟨below_drew1 hB1.out⟩
                    obtain ⟨hm, hme⟩ : ∃ z, a1 % 4294967296 = z := ⟨_, rfl⟩
                    have hwr : IntKind.u32.wrap a1 = hm := by rw [IntKind.wrap_u32]; exact hme
                    have hm0 : ¬ hm = 0 := by have := HN.out; omega
                    have hm1 : (hm == 0) = false := beq_eq_false_iff_ne.mpr hm0
                    obtain ⟨hv, hve⟩ : ∃ z, hashOf xs.f0 = z := ⟨_, rfl⟩
                    obtain ⟨jj, hjj⟩ : ∃ z, Int.tmod hv hm = z := ⟨_, rfl⟩
                    have hj0 : 0 ≤ jj := by
                      rw [← hjj]
                      refine Int.tmod_nonneg _ ?_
                      rw [← hve]
                      exact hash_fold_nonneg _ _ (by decide)
                    have hj1 : jj < (y103.length : Int) := by
                      have h1 := HN.out
                      have h2 := HL104.out
                      have h3 : hm = a1 := by omega
                      have h4 : 0 ≤ hv := by rw [← hve]; exact hash_fold_nonneg _ _ (by decide)
                      rw [← hjj, Int.tmod_eq_emod_of_nonneg h4]
                      have := Int.emod_lt_of_pos hv (show 0 < hm by omega)
                      omega
                    rw [hve] at hhs
                    have HME := Aside0.mk hme
                    have HVE := Aside0.mk hve
                    have HJJ := Aside0.mk hjj
                    clear hve
                    refine startIn_ (n := 7) (S := fun w' => w'.cell? ⟨Bx, 0, none⟩ = some (.string xs.f0) ∧ w'.cell? ⟨gb101, 0, none⟩ = some (.int .i64 a1)) (ds := []) #[false, false, false, false, false, false, false] (by kernel_rfl) rfl rfl (by kernel_rfl) (by rintro ⟨_, _, h⟩; exact h) ⟨(blk_cell bX.out 0).trans rfl, (blk_cell b1.out 0).trans rfl⟩ (fun hHeld => ?_)
                    clear X0 X1 X2 X3 X4 X5 X6 X7 q1 q2 q3 q4 q5
                    generalize w1.drew = w2 at B1 b1 b2 b3 bX r1 r2 D1 hHeld ⊢
                    refine pure_ (i := 0) (N := some 34) (v := ?_) (a' := ?_) #[true, false, false, false, false, false, false] rfl rfl (by kernel_rfl) (fun _ _ _ h => h) (Or.inl ⟨by rfl, ?_⟩) ?_ ?_
                    rotate_left
                    · intro w'
                      go_simp
                      with_reducible rfl
                    rotate_left
                    · simp only [Act.put, List.setIfInBounds_toArray, List.set_cons_zero, List.set_cons_succ, i64_w, i32_w]
                      rfl
                    refine take_ (i := 1) (N := some 35) (v := ?_) (a' := ?_) #[true, true, false, false, false, false, false] rfl rfl (by kernel_rfl) (fun _ _ _ h => h) (Or.inl ⟨by rfl, ?_⟩) hHeld ?_ ?_
                    rotate_left
                    · rintro w' ⟨s0, s1⟩
                      go_simp
                      with_reducible rfl
                    rotate_left
                    · simp only [Act.put, List.setIfInBounds_toArray, List.set_cons_zero, List.set_cons_succ, i64_w, i32_w]
                      rfl
                    refine take_ (i := 3) (N := some 37) (v := ?_) (a' := ?_) #[true, true, false, true, false, false, false] rfl rfl (by kernel_rfl) (fun _ _ _ h => h) (Or.inl ⟨by rfl, ?_⟩) hHeld ?_ ?_
                    rotate_left
                    · rintro w' ⟨s0, s1⟩
                      go_simp
                      with_reducible rfl
                    rotate_left
                    · simp only [Act.put, List.setIfInBounds_toArray, List.set_cons_zero, List.set_cons_succ, i64_w, i32_w]
                      rfl
                    refine pure_ (i := 4) (N := some 38) (v := ?_) (a' := ?_) #[true, true, false, true, true, false, false] rfl rfl (by kernel_rfl) (fun _ _ _ h => h) (Or.inl ⟨by rfl, ?_⟩) ?_ ?_
                    rotate_left
                    · intro w'
                      go_simp
                      with_reducible rfl
                    rotate_left
                    · simp only [Act.put, List.setIfInBounds_toArray, List.set_cons_zero, List.set_cons_succ, i64_w, i32_w]
                      rfl
                    refine one_ (i := 2) (N := some 36) #[true, true, true, true, true, false, false] rfl rfl (by kernel_rfl) (by decide) (fun K hK => ?_)
                    refine goes_ Try.func60 (by kernel_rfl) rfl #[.string xs.f0] (by rfl) rfl rfl (by (try simp only [List.map_toArray, List.map_cons, List.map_nil]); first | done | rfl | (simp only [List.length_drop, List.length_take]; rfl)) ?_
                    with_reducible refine (hash_Of.calls xs.f0 hv _ hhs.out).mono ?_
                    rintro e w3 ⟨rfl, hb⟩
                    refine ⟨_, rfl, ?_⟩
                    have B1' := Aside0.mk (below_step B1.out hb)
                    have b1' : Aside0 (w3.heap[gb101]? = some (.cells #[.int .i64 a1] 3 (0, 0))) := ⟨blk_below b1.out hb⟩
                    have b2' : Aside0 (w3.heap[gb102]? = some (.cells #[.slice none 0 0, .slice none 0 0] 77 (0, 0))) := ⟨blk_below b2.out hb⟩
                    have b3' : Aside0 (w3.heap[gb109]? = some (.cells #[.slice Ao32 y103.length co32, .slice Ao31 y106.length co31] 77 (0, 0))) := ⟨blk_below b3.out hb⟩
                    have bX' : Aside0 (w3.heap[Bx]? = _) := ⟨blk_below bX.out hb⟩
                    have r1' := Aside0.mk (Kd.R_below r1.out hb)
                    have r2' := Aside0.mk (Kd.R_below r2.out hb)
                    have D1' := Aside0.mk (below_step D1.out hb)
                    clear B1 b1 b2 b3 bX r1 r2 D1 hb
                    refine hK.out _ _ ⟨(blk_cell bX'.out 0).trans rfl, (blk_cell b1'.out 0).trans rfl⟩ (fun hHeld => ?_)
                    clear hK K
                    refine norm_ (a' := ?_) ?_ ?_
                    rotate_left
                    · show Act.put _ (some 36) _ = _
                      simp only [Act.put, List.setIfInBounds_toArray, List.set_cons_zero, List.set_cons_succ, i64_w, i32_w]
                      rfl
                    refine pure_ (i := 5) (N := some 39) (v := ?_) (a' := ?_) #[true, true, true, true, true, true, false] rfl rfl (by kernel_rfl) (fun _ _ _ h => h) (Or.inl ⟨by rfl, ?_⟩) ?_ ?_
                    rotate_left
                    · intro w'
                      go_simp
                      with_reducible rfl
                    rotate_left
                    · simp only [Act.put, List.setIfInBounds_toArray, List.set_cons_zero, List.set_cons_succ, i64_w, i32_w]
                      rfl
                    refine pure_ (i := 6) (N := some 9) (v := ?_) (a' := ?_) #[true, true, true, true, true, true, true] rfl rfl (by kernel_rfl) (fun _ _ _ h => h) (Or.inl ⟨by rfl, ?_⟩) ?_ ?_
                    rotate_left
                    · intro w'
                      go_simp
                      with_reducible rfl
                    rotate_left
                    · simp only [Act.put, List.setIfInBounds_toArray, List.set_cons_zero, List.set_cons_succ, i64_w, i32_w]
                      rfl
                    refine done_ (by kernel_rfl) ?_
                    obtain ⟨gk, ck, ek, gkb, gkl, HGk⟩ := Kd.R_form r1'.out (by have := HN.out; have := HL104.out; have := (Kd.R_reads' r1'.out).1; omega)
                    obtain ⟨gc, cc, ec, gcb, gcl, HGc⟩ := Kd.R_form r2'.out (by have := HX1.out; have := HL107.out; have := (Kd.R_reads' r2'.out).1; omega)
                    injection ek with ek1 ek2 ek3
                    injection ec with ec1 ec2 ec3
                    subst ek1
                    subst ec1
                    have GKB := Aside0.mk gkb
                    have GCB := Aside0.mk gcb
                    have NKC : gk ≠ gc := by
                      have h1 := (r1'.out.1 gk rfl).1
                      intro e
                      exact h1 (by rw [e]; rfl)
                    have NCK : gc ≠ gk := Ne.symm NKC
                    have NK2 : gk ≠ gb101 := (r1'.out.1 gk rfl).2
                    have NC2 : gc ≠ gb101 := (r2'.out.1 gc rfl).2
                    have NTK : gb109 ≠ gk := by have h1 := Kd.R_ne r1'.out b3'.out (by decide); intro e; exact h1 (by rw [e]; rfl)
                    have NTC : gb109 ≠ gc := by have h1 := Kd.R_ne r2'.out b3'.out (by decide); intro e; exact h1 (by rw [e]; rfl)
                    have NRK : gb102 ≠ gk := by have h1 := Kd.R_ne r1'.out b2'.out (by decide); intro e; exact h1 (by rw [e]; rfl)
                    have NRC : gb102 ≠ gc := by have h1 := Kd.R_ne r2'.out b2'.out (by decide); intro e; exact h1 (by rw [e]; rfl)
                    have hx1 : (xi : Int) < (y106.length : Int) := by have h1 := HX1.out; have h2 := HL107.out; omega
                    have hx0 : (0 : Int) ≤ (xi : Int) := Int.natCast_nonneg _
                    obtain ⟨ck0, ckf⟩ := Kd.R_celln 0 r1'.out jj hj0 hj1
                    obtain ⟨cc0, ccf⟩ := Kd.R_celln 0 r2'.out (xi : Int) hx0 hx1
                    have CK0 := Aside0.mk ck0
                    have CKF := Aside0.mk ckf
                    have CC0 := Aside0.mk cc0
                    have CCF := Aside0.mk ccf
                    have P1 := Aside0.mk (Kd.R_putg r2'.out (xi : Int) (rd st.1 jj))
                    have Q1 := Aside0.mk (Kd.R_after (v := (.slice (some ⟨gc, 0, none⟩) y106.length co31)) (v1 := (.slice (some ⟨gc, 0, none⟩) y106.length co31)) (ok := (fun k_ => k_ ≠ gb101)) (Kd.R_mono r1'.out (fun _ hk => ⟨hk.2, hk.1⟩)) P1.out.2 (.inl rfl))
                    have P2 := Aside0.mk (Kd.R_putg Q1.out jj (wrap64 ((xi : Int) + 1)))
                    have Q2 := Aside0.mk (Kd.R_after (v := (.slice (some ⟨gk, 0, none⟩) y103.length co32)) (v1 := (.slice (some ⟨gk, 0, none⟩) y103.length co32)) (ok := (fun k_ => k_ ≠ gb101)) (Kd.R_mono P1.out.1 (fun _ hk => ⟨hk.2, hk.1⟩)) P2.out.2 (.inl rfl))
                    simp only [Int.toNat_natCast] at P1 Q1 P2 Q2 CC0 CCF
                    clear ck0 ckf cc0 ccf ek2 ek3 ec2 ec3 gkl gcl HGk HGc gkb gcb hHeld
                    gi_wp2
                    have B2 := Aside0.mk (below_drew1 B1'.out)
                    have v1 : Aside0 (w3.drew.heap[gb101]? = some (.cells #[.int .i64 a1] 3 (0, 0))) := ⟨blk_drew b1'.out⟩
                    have v2 : Aside0 (w3.drew.heap[gb102]? = some (.cells #[.slice none 0 0, .slice none 0 0] 77 (0, 0))) := ⟨blk_drew b2'.out⟩
                    have v3 : Aside0 (w3.drew.heap[gb109]? = some (.cells #[.slice (some ⟨gk, 0, none⟩) y103.length co32, .slice (some ⟨gc, 0, none⟩) y106.length co31] 77 (0, 0))) := ⟨blk_drew b3'.out⟩
                    have D2 := Aside0.mk (below_drew1 D1'.out)
                    have hj0' := eq_true hj0
                    have hj1' := eq_true hj1
                    have hx0' := eq_true hx0
                    have hx1' := eq_true hx1
                    refine startIn_ (n := 17) (S := fun w' => w'.cell? ⟨gb109, 0, none⟩ = some (.slice (some ⟨gk, 0, none⟩) y103.length co32) ∧ w'.cell? ⟨gb109, 1, none⟩ = some (.slice (some ⟨gc, 0, none⟩) y106.length co31) ∧ w'.cell? ⟨gk, jj.toNat, none⟩ = some (.int .i64 (rd st.1 jj))) (ds := [16]) #[false, false, false, false, false, false, false, false, false, false, false, false, false, false, false, false, false] (by kernel_rfl) rfl rfl (by kernel_rfl) (by rintro ⟨_, _, h⟩; exact h) ⟨(blk_cell v3.out 0).trans rfl, (blk_cell v3.out 1).trans rfl, CK0.out⟩ (fun hHeld => ?_)
                    refine pure_ (i := 0) (N := some 40) (v := ?_) (a' := ?_) #[true, false, false, false, false, false, false, false, false, false, false, false, false, false, false, false, false] rfl rfl (by kernel_rfl) (fun _ _ _ h => h) (Or.inl ⟨by rfl, ?_⟩) ?_ ?_
                    rotate_left
                    · intro w'
                      go_simp
                      with_reducible rfl
                    rotate_left
                    · simp only [Act.put, List.setIfInBounds_toArray, List.set_cons_zero, List.set_cons_succ, i64_w, i32_w]
                      rfl
                    refine take_ (i := 1) (N := some 41) (v := ?_) (a' := ?_) #[true, true, false, false, false, false, false, false, false, false, false, false, false, false, false, false, false] rfl rfl (by kernel_rfl) (fun _ _ _ h => h) (Or.inl ⟨by rfl, ?_⟩) hHeld ?_ ?_
                    rotate_left
                    · rintro w' ⟨s0, s1, s2⟩
                      go_simp
                      with_reducible rfl
                    rotate_left
                    · simp only [Act.put, List.setIfInBounds_toArray, List.set_cons_zero, List.set_cons_succ, i64_w, i32_w]
                      rfl
                    refine pure_ (i := 2) (N := some 42) (v := ?_) (a' := ?_) #[true, true, true, false, false, false, false, false, false, false, false, false, false, false, false, false, false] rfl rfl (by kernel_rfl) (fun _ _ _ h => h) (Or.inl ⟨by rfl, ?_⟩) ?_ ?_
                    rotate_left
                    · intro w'
                      go_simp
                      with_reducible rfl
                    rotate_left
                    · simp only [Act.put, List.setIfInBounds_toArray, List.set_cons_zero, List.set_cons_succ, i64_w, i32_w]
                      rfl
                    refine pure_ (i := 3) (N := some 43) (v := ?_) (a' := ?_) #[true, true, true, true, false, false, false, false, false, false, false, false, false, false, false, false, false] rfl rfl (by kernel_rfl) (fun _ _ _ h => h) (Or.inl ⟨by rfl, ?_⟩) ?_ ?_
                    rotate_left
                    · intro w'
                      go_simp
                      with_reducible rfl
                    rotate_left
                    · simp only [Act.put, List.setIfInBounds_toArray, List.set_cons_zero, List.set_cons_succ, i64_w, i32_w]
                      rfl
                    refine take_ (i := 4) (N := some 44) (v := ?_) (a' := ?_) #[true, true, true, true, true, false, false, false, false, false, false, false, false, false, false, false, false] rfl rfl (by kernel_rfl) (fun _ _ _ h => h) (Or.inl ⟨by rfl, ?_⟩) hHeld ?_ ?_
                    rotate_left
                    · rintro w' ⟨s0, s1, s2⟩
                      go_simp
                      with_reducible rfl
                    rotate_left
                    · simp only [Act.put, List.setIfInBounds_toArray, List.set_cons_zero, List.set_cons_succ, i64_w, i32_w]
                      rfl
                    refine pure_ (i := 5) (N := some 45) (v := ?_) (a' := ?_) #[true, true, true, true, true, true, false, false, false, false, false, false, false, false, false, false, false] rfl rfl (by kernel_rfl) (fun _ _ _ h => h) (Or.inl ⟨by rfl, ?_⟩) ?_ ?_
                    rotate_left
                    · intro w'
                      go_simp
                      with_reducible rfl
                    rotate_left
                    · simp only [Act.put, List.setIfInBounds_toArray, List.set_cons_zero, List.set_cons_succ, i64_w, i32_w]
                      rfl
                    refine pure_ (i := 6) (N := some 46) (v := ?_) (a' := ?_) #[true, true, true, true, true, true, true, false, false, false, false, false, false, false, false, false, false] rfl rfl (by kernel_rfl) (fun _ _ _ h => h) (Or.inl ⟨by rfl, ?_⟩) ?_ ?_
                    rotate_left
                    · intro w'
                      go_simp
                      with_reducible rfl
                    rotate_left
                    · simp only [Act.put, List.setIfInBounds_toArray, List.set_cons_zero, List.set_cons_succ, i64_w, i32_w]
                      rfl
                    refine take_ (i := 7) (N := some 47) (v := ?_) (a' := ?_) #[true, true, true, true, true, true, true, true, false, false, false, false, false, false, false, false, false] rfl rfl (by kernel_rfl) (fun _ _ _ h => h) (Or.inl ⟨by rfl, ?_⟩) hHeld ?_ ?_
                    rotate_left
                    · rintro w' ⟨s0, s1, s2⟩
                      go_simp
                      with_reducible rfl
                    rotate_left
                    · simp only [Act.put, List.setIfInBounds_toArray, List.set_cons_zero, List.set_cons_succ, i64_w, i32_w]
                      rfl
                    refine pure_ (i := 8) (N := some 48) (v := ?_) (a' := ?_) #[true, true, true, true, true, true, true, true, true, false, false, false, false, false, false, false, false] rfl rfl (by kernel_rfl) (fun _ _ _ h => h) (Or.inl ⟨by rfl, ?_⟩) ?_ ?_
                    rotate_left
                    · intro w'
                      go_simp
                      with_reducible rfl
                    rotate_left
                    · simp only [Act.put, List.setIfInBounds_toArray, List.set_cons_zero, List.set_cons_succ, i64_w, i32_w]
                      rfl
                    refine pure_ (i := 9) (N := some 49) (v := ?_) (a' := ?_) #[true, true, true, true, true, true, true, true, true, true, false, false, false, false, false, false, false] rfl rfl (by kernel_rfl) (fun _ _ _ h => h) (Or.inl ⟨by rfl, ?_⟩) ?_ ?_
                    rotate_left
                    · intro w'
                      go_simp
                      with_reducible rfl
                    rotate_left
                    · simp only [Act.put, List.setIfInBounds_toArray, List.set_cons_zero, List.set_cons_succ, i64_w, i32_w]
                      rfl
                    refine take_ (i := 10) (N := some 50) (v := ?_) (a' := ?_) #[true, true, true, true, true, true, true, true, true, true, true, false, false, false, false, false, false] rfl rfl (by kernel_rfl) (fun _ _ _ h => h) (Or.inl ⟨by rfl, ?_⟩) hHeld ?_ ?_
                    rotate_left
                    · rintro w' ⟨s0, s1, s2⟩
                      go_simp
                      with_reducible rfl
                    rotate_left
                    · simp only [Act.put, List.setIfInBounds_toArray, List.set_cons_zero, List.set_cons_succ, i64_w, i32_w]
                      rfl
                    refine pure_ (i := 11) (N := some 51) (v := ?_) (a' := ?_) #[true, true, true, true, true, true, true, true, true, true, true, true, false, false, false, false, false] rfl rfl (by kernel_rfl) (fun _ _ _ h => h) (Or.inl ⟨by rfl, ?_⟩) ?_ ?_
                    rotate_left
                    · intro w'
                      go_simp
                      with_reducible rfl
                    rotate_left
                    · simp only [Act.put, List.setIfInBounds_toArray, List.set_cons_zero, List.set_cons_succ, i64_w, i32_w]
                      rfl
                    refine pure_ (i := 12) (N := some 52) (v := ?_) (a' := ?_) #[true, true, true, true, true, true, true, true, true, true, true, true, true, false, false, false, false] rfl rfl (by kernel_rfl) (fun _ _ _ h => h) (Or.inl ⟨by rfl, ?_⟩) ?_ ?_
                    rotate_left
                    · intro w'
                      go_simp
                      with_reducible rfl
                    rotate_left
                    · simp only [Act.put, List.setIfInBounds_toArray, List.set_cons_zero, List.set_cons_succ, i64_w, i32_w]
                      rfl
                    refine pure_ (i := 13) (N := some 53) (v := ?_) (a' := ?_) #[true, true, true, true, true, true, true, true, true, true, true, true, true, true, false, false, false] rfl rfl (by kernel_rfl) (fun _ _ _ h => h) (Or.inl ⟨by rfl, ?_⟩) ?_ ?_
                    rotate_left
                    · intro w'
                      go_simp
                      with_reducible rfl
                    rotate_left
                    · simp only [Act.put, List.setIfInBounds_toArray, List.set_cons_zero, List.set_cons_succ, i64_w, i32_w]
                      rfl
                    refine one_ (i := 14) (N := none) #[true, true, true, true, true, true, true, true, true, true, true, true, true, true, true, false, false] rfl rfl (by kernel_rfl) (by decide) (fun K hK => ?_)
                    have cc0 : w3.drew.cell? ⟨gc, xi, none⟩ = _ := CC0.out
                    have ccf : w3.drew.frozen? ⟨gc, xi, none⟩ = _ := CCF.out
                    refine skip_ (w1 := (w3.setCell ⟨gc, xi, none⟩ (.int .i64 (rd st.1 jj))).drew) (by rfl) rfl ?_ ?_
                    · go_simp
                    have n1 : Aside0 ((w3.setCell ⟨gc, xi, none⟩ (.int .i64 (rd st.1 jj))).drew.heap[gb109]? = some (.cells #[.slice (some ⟨gk, 0, none⟩) y103.length co32, .slice (some ⟨gc, 0, none⟩) y106.length co31] 77 (0, 0))) := ⟨blk_drew (blk_far b3'.out NTC _)⟩
                    have ck1 := Kd.R_celln 0 Q1.out jj hj0 hj1
                    have CK1 := Aside0.mk ck1.1
                    have CK1F := Aside0.mk ck1.2
                    clear ck1 cc0 ccf
                    have nK0 : ((w3.setCell ⟨gc, xi, none⟩ (.int .i64 (rd st.1 jj))).drew.cell? ⟨gk, jj.toNat, none⟩ = some (.int .i64 (rd st.1 jj))) := CK1.out
                    refine hK.out _ _ ⟨(blk_cell n1.out 0).trans rfl, (blk_cell n1.out 1).trans rfl, nK0⟩ (fun hHeld => ?_)
                    clear hK K
                    refine pure_ (i := 15) (N := some 54) (v := ?_) (a' := ?_) #[true, true, true, true, true, true, true, true, true, true, true, true, true, true, true, true, false] rfl rfl (by kernel_rfl) (fun _ _ _ h => h) (Or.inl ⟨by rfl, ?_⟩) ?_ ?_
                    rotate_left
                    · intro w'
                      go_simp
                      with_reducible rfl
                    rotate_left
                    · simp only [Act.put, List.setIfInBounds_toArray, List.set_cons_zero, List.set_cons_succ, i64_w, i32_w]
                      rfl
                    refine last_ (i := 16) (N := none) #[true, true, true, true, true, true, true, true, true, true, true, true, true, true, true, true, true] rfl rfl (by kernel_rfl) (by decide) (fun K hK => ?_)
                    have ck0 : (w3.setCell ⟨gc, xi, none⟩ (.int .i64 (rd st.1 jj))).drew.cell? ⟨gk, jj.toNat, none⟩ = _ := CK1.out
                    have ckf : (w3.setCell ⟨gc, xi, none⟩ (.int .i64 (rd st.1 jj))).drew.frozen? ⟨gk, jj.toNat, none⟩ = _ := CK1F.out
                    refine skip_ (w1 := ((w3.setCell ⟨gc, xi, none⟩ (.int .i64 (rd st.1 jj))).setCell ⟨gk, jj.toNat, none⟩ (.int .i64 (wrap64 ((xi : Int) + 1)))).drew) (by rfl) rfl ?_ ?_
                    · go_simp
                    refine hK.out _ _ ?_
                    clear hK K
                    refine done_ (by kernel_rfl) ?_
                    have hm9 : mkStep a1 st (xi, xs) = (st.1.set jj.toNat (wrap64 ((xi : Int) + 1)), st.2.set xi (rd st.1 jj)) := by
                      unfold mkStep
                      rw [if_pos HE.out]
                      dsimp only
                      rw [HVE.out, HME.out, HJJ.out]
                    have HM := Aside0.mk (HF.out.trans hm9)
                    clear hm9
                    refine ⟨?_, ⟨?_, ?_⟩, ⟨?_⟩, ⟨?_⟩, ⟨?_⟩, ⟨?_⟩, ⟨?_⟩, ⟨?_⟩⟩
                    · exact KeepsFrom.trans ⟨D1'.out.size, fun k o _ hk _ => blk_below hk D1'.out⟩ (KeepsFrom.trans ((KeepsOthers.setCell _ _ _).from _) (KeepsFrom.trans ((KeepsOthers.setCell _ _ _).from _) ((KeepsOthers.drew _).from _)))
                    · exact below_drew (((D1'.out.mono q6.out.size).setCell (p := ⟨gc, xi, none⟩) GCB.out _).setCell (p := ⟨gk, jj.toNat, none⟩) GKB.out _)
                    · intro hb
                      have hb3 := blk_below hb D1'.out
                      have h1 := Kd.R_ne r2'.out hb3 (by decide)
                      have h2 := Kd.R_ne r1'.out hb3 (by decide)
                      exact blk_drew (blk_far (blk_far hb3 (fun e => h1 (by rw [e]; rfl)) _) (fun e => h2 (by rw [e]; rfl)) _)
                    · exact blk_drew (blk_far (blk_far b1'.out (Ne.symm NC2) _) (Ne.symm NK2) _)
                    · exact blk_drew (blk_far (blk_far b2'.out NRC _) NRK _)
                    · exact blk_drew (blk_far (blk_far b3'.out NTC _) NTK _)
                    · rw [HM.out]
                      exact Kd.R_drew (Kd.R_mono P2.out.1 (fun _ hk => ⟨hk.2, hk.1⟩))
                    · rw [HM.out]
                      exact Kd.R_drew (Kd.R_mono Q2.out (fun _ hk => ⟨hk.2, hk.1⟩))
                    · exact below_drew1 (below_set (below_set B1'.out GCB.out) GKB.out)
                case done =>
                  rintro D ys W hD hS ⟨q1, q2, q3, q4, q5, q6⟩ hK
                  have hS' : (ys.map Subtype.val).foldl (mkStep a1) (y103, y106) = mkAll l0 a1 y103 y106 := by rw [hS]; rfl
                  rw [hS'] at q4 q5
                  have HK := Aside0.mk hK
                  have HD := Aside0.mk hD
                  clear hS hS' hK hD
                  have t0 : W.cell? ⟨gb109, 0, none⟩ = some (.slice Ao32 y103.length co32) := (blk_cell q3.out 0).trans rfl
                  have t1 : W.cell? ⟨gb109, 1, none⟩ = some (.slice Ao31 y106.length co31) := (blk_cell q3.out 1).trans rfl
                  have z0 : W.cell? ⟨gb102, 0, none⟩ = some (.slice none 0 0) := (blk_cell q2.out 0).trans rfl
                  have z1 : W.cell? ⟨gb102, 1, none⟩ = some (.slice none 0 0) := (blk_cell q2.out 1).trans rfl
                  have zf0 := blk_frozen q2.out 0
                  have zf1 := blk_frozen q2.out 1
                  go_wp2
                  have e0 := blk_put q2.out 0 (.slice Ao32 y103.length co32) rfl
                  have e1 := blk_put e0 1 (.slice Ao31 y106.length co31) rfl
                  have hKs : ((W.setCell ⟨gb102, 0, none⟩ (.slice Ao32 y103.length co32)).setCell ⟨gb102, 1, none⟩ (.slice Ao31 y106.length co31)).heap[D]? = some (.deferred (some [])) := ((KeepsOthers.setCell _ _ _).same D _ ((KeepsOthers.setCell _ _ _).same D _ HK.out rfl) rfl)
                  have hrow : ∀ r, some D = some r → ∃ o : Obj, ((W.setCell ⟨gb102, 0, none⟩ (.slice Ao32 y103.length co32)).setCell ⟨gb102, 1, none⟩ (.slice Ao31 y106.length co31)).heap[r]? = some o ∧ o.isCells = false := fun r e => by cases e; exact ⟨_, hKs, rfl⟩
                  have hg := grownBy_putObj' ((W.setCell ⟨gb102, 0, none⟩ (.slice Ao32 y103.length co32)).setCell ⟨gb102, 1, none⟩ (.slice Ao31 y106.length co31)) D (.deferred none)
                  refine postM_col hKs ?hdd (results_ct (p := 4) (u := 5) (ty := 77) ?hfr _ _ gb102 77 #[.slice Ao32 y103.length co32, .slice Ao31 y106.length co31] (0, 0) _ ?hpp ((grownBy_keeps_cells hg hrow e1 rfl).trans e1) Try.underlying77 rfl (by kernel_rfl)) ?hpost
                  case hdd => rfl
                  case hfr => rfl
                  case hpp => rfl
                  refine ⟨_, _, rfl, ?_, ?_, ?_⟩
                  · exact Kd.R_mono (R_own (Kd.R_set (Kd.R_set q4.out q2.out (by decide) 0 _) e0 (by decide) 1 _) hg hrow) (fun _ hk => hk.1)
                  · exact Kd.R_mono (R_own (Kd.R_set (Kd.R_set q5.out q2.out (by decide) 0 _) e0 (by decide) 1 _) hg hrow) (fun _ hk => hk.1)
                  · exact (below_set (below_set q6.out GE102.out) GE102.out).trans (belowK_b (w := W0) TB.out.size _ D _ _ HD.out hKs rfl rfl)
                case stop =>
                  rintro D c pre W _ _ h _
                  exact h.elim
              · rw [if_neg c21] at H
                exact absurd H (by simp)
            · rw [if_neg c20] at H
              exact absurd H (by simp)
          · rw [if_neg c19] at H
            exact absurd H (by simp)
        · rw [if_neg c18] at H
          exact absurd H (by simp)

def hash_Make.f (l0 : List (S42)) (a1 : Int) : Option (List Int × List Int × Int) := hash_Make.g 1 l0 a1
theorem hash_Make.calls (A0 : Option Addr) (c0 : Nat) (l0 : List (S42)) (a1 : Int) (r1 : List Int) (r2 : List Int) (r3 : Int) (w : World) (hr0 : Kd.C k42 w A0 l0.length l0) (hc0 : l0.length ≤ c0) (h : hash_Make.f l0 a1 = some (r1, r2, r3)) :
    Calls Try.prog 49 #[.slice A0 l0.length c0, .int .i64 a1] w fun e w' => ∃ v0_ v1_ : Value, e = .returned (.tuple #[.agg #[v0_, v1_], .int .i64 r3]) ∧ Kd.R (Kd.int .i64) 3 w' w.heap.size (fun k_ => some k_ ≠ (v1_ : Value).ownBlock) v0_ r1 ∧ Kd.R (Kd.int .i64) 3 w' w.heap.size (fun k_ => some k_ ≠ (v0_ : Value).ownBlock) v1_ r2 ∧ Below w.heap.size w w' := hash_Make.gcalls 1 A0 c0 l0 a1 r1 r2 r3 w hr0 hc0 h
end

end Go.Proofs.Ytoakeildgpeffaa.P
