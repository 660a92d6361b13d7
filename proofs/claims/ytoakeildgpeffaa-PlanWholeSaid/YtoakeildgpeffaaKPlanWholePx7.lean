/- What functions of the program, and of its laws, give, each proved of its code by a walk; no condition. -/
import Derived.Test.YtoakeildgpeffaaKPlanWholePx0
import Derived.Laws.EntriesVeiled
import Derived.WalkSpells
import Derived.Lib.SliceRun
import Derived.Lib.SlicesCompact
import Derived.Test.YtoakeildgpeffaaKPlanWholeShelf
import Derived.Sort.OwnSortedInts
namespace Go.Proofs.Ytoakeildgpeffaa.P
open Go.RowKit Go.Proofs.YtoakeildgpeffaaW.PrintWords Go.Proofs.YtoakeildgpeffaaW.PrintLast Go.Proofs.YtoakeildgpeffaaW.PrintMore
attribute [local go_sem] max2_int min2_int max_two min_two max_three min_three max_four min_four   -- for this text's walks alone
set_option linter.unusedVariables false
set_option linter.unusedSimpArgs false

def isUse (obj : Int) (x : S28) : Prop := x.f2 = obj ∧ x.f0 ≠ obj
set_option maxHeartbeats 400000 in
theorem plan_Users_1.calls (x : S28) (obj : Int) (g : Nat) (w : World) (hg : w.heap[g]? = some (.cells #[.int .i64 obj] 3 (0, 0))) (hx : isUse obj x) :
    Calls Try.prog 19 #[.agg #[.int .i64 x.f0, .int .i64 x.f1, .int .i64 x.f2, .int .i64 x.f3], .pointer (some ⟨g, 0, none⟩)] w fun e w' => e = .returned (.bool true) ∧ Below w.heap.size w w' := by
  have hu28 := Try.underlying28
  obtain ⟨hx2, hx0⟩ := hx
  have hgl := blk_lt hg
  have hg1 := blk_cell hg 0
  have HNE : ¬ (w.heap.size = g) := by omega
  have HG := Aside0.mk hg
  have b1 : (x.f2 == obj) = true := beq_iff_eq.2 hx2
  have b2 : (x.f0 != obj) = true := bne_iff_ne.2 hx0
  clear hg hx2 hx0
  go_enter Try.func19, Try.ntmps19
  go_wp2
  go_ret
  exact ⟨rfl, (Below.refl _ _).alloc (Nat.le_refl _) _⟩
set_option maxHeartbeats 400000 in
theorem plan_picked_1.calls (x : S28) (obj : Int) (g p : Nat) (w : World) (hg : w.heap[g]? = some (.cells #[.int .i64 obj] 3 (0, 0))) (hp : w.heap[p]? = some (.cells #[.func (.func 19) #[] #[.pointer (some ⟨g, 0, none⟩)]] 52 (0, 0))) (hx : isUse obj x) :
    Calls Try.prog 29 #[.agg #[.int .i64 x.f0, .int .i64 x.f1, .int .i64 x.f2, .int .i64 x.f3], .pointer (some ⟨p, 0, none⟩)] w fun e w' => e = .returned (.bool false) ∧ Below w.heap.size w w' := by
  have hu28 := Try.underlying28
  have hgl := blk_lt hp
  have hp1 := blk_cell hp 0
  have HNE : ¬ (w.heap.size = p) := by omega
  have HG := Aside0.mk hg
  have HX := Aside0.mk hx
  have hnot : ∀ (x : Bool) (w : World), (Op.unary .not (.bool x)).run Try.prog w = .ok (.bool (!x)) w := fun _ _ => rfl
  clear hg hp hx
  go_enter Try.func29, Try.ntmps29
  go_wp2_with (first | (go_at_call 19; refine (plan_Users_1.calls x obj g _ (blk_alloc HG.out _) HX.out).mono ?_; rintro e w' ⟨rfl, hb⟩; have HB := Aside0.mk hb; clear hb))
  go_ret
  exact ⟨rfl, below_step ((Below.refl _ _).alloc (Nat.le_refl _) _) HB.out⟩
set_option maxHeartbeats 1000000 in
set_option maxRecDepth 100000 in
theorem slices_IndexFunc_use.calls (A0 : Option Addr) (c0 : Nat) (l0 : List S28) (obj : Int) (g p : Nat) (w : World) (hr0 : Kd.C k28 w A0 l0.length l0) (hc0 : l0.length ≤ c0) (hg : w.heap[g]? = some (.cells #[.int .i64 obj] 3 (0, 0))) (hp : w.heap[p]? = some (.cells #[.func (.func 19) #[] #[.pointer (some ⟨g, 0, none⟩)]] 52 (0, 0))) (hx : ∀ i : Int, 0 ≤ i → i < l0.length → isUse obj (rd_T28 l0 i)) :
    Calls Try.prog 35 #[.slice A0 l0.length c0, .func (.func 29) #[] #[.pointer (some ⟨p, 0, none⟩)]] w fun e w' => e = .returned (.int .i64 (-1)) ∧ Below w.heap.size w w' := by
  have HR0 := Aside0.mk hr0
  have HC0 := Aside0.mk hc0
  have HG := Aside0.mk hg
  have HP := Aside0.mk hp
  have HX := Aside0.mk hx
  have hlen : l0.length ≤ 9223372036854775807 := hr0.2.1
  clear hr0 hc0 hg hp hx
  go_enter Try.func35, Try.ntmps35
  go_wp2
  go_loopw [5, 8] (fun v5 v8 wr => ∃ (j : Nat), v8 = .int .i64 j ∧ j ≤ l0.length ∧ Aside0 (Below w.heap.size w wr)) (fun _ v8 _ => l0.length - (intOf v8).toNat)
  case atStart => exact ⟨0, rfl, by omega, ⟨Below.refl _ _⟩⟩
  case round =>
    obtain ⟨j, rfl, hj, HB⟩ := hrel
    by_cases hlt : j < l0.length
    · have p1 : 0 ≤ (j : Int) := by omega
      have q1 : (j : Int) < l0.length := by omega
      obtain ⟨ad, eA, hx0, hx1, hx2, hx3⟩ := at_T28 (Kd.C_below HR0.out HB.out) (j : Int) p1 q1
      cases eA
      simp only [Int.toNat_natCast] at hx0 hx1 hx2 hx3
      have HXJ := Aside0.mk (HX.out j p1 q1)
      go_wp2_with (go_at_call 29; refine (plan_picked_1.calls (rd_T28 l0 (j : Int)) obj g p _ (blk_below HG.out HB.out) (blk_below HP.out HB.out) HXJ.out).mono ?_; rintro e w' ⟨rfl, hb⟩; have HB2 := Aside0.mk (below_step HB.out hb); clear hb)
      go_roundw
      case rel => exact ⟨j + 1, by go_num, by omega, HB2⟩
      case measure => simp [intOf]; omega
    · go_wp2
      go_ret
      exact ⟨rfl, HB.out⟩
set_option maxHeartbeats 1000000 in
set_option maxRecDepth 100000 in
theorem slices_DeleteFunc_use.calls (A0 : Option Addr) (c0 : Nat) (l0 : List S28) (obj : Int) (g p : Nat) (w : World) (hr0 : Kd.C k28 w A0 l0.length l0) (hc0 : l0.length ≤ c0) (hg : w.heap[g]? = some (.cells #[.int .i64 obj] 3 (0, 0))) (hp : w.heap[p]? = some (.cells #[.func (.func 19) #[] #[.pointer (some ⟨g, 0, none⟩)]] 52 (0, 0))) (hx : ∀ i : Int, 0 ≤ i → i < l0.length → isUse obj (rd_T28 l0 i)) :
    Calls Try.prog 27 #[.slice A0 l0.length c0, .func (.func 29) #[] #[.pointer (some ⟨p, 0, none⟩)]] w fun e w' => e = .returned (.slice A0 l0.length c0) ∧ Below w.heap.size w w' := by
  have HR0 := Aside0.mk hr0
  have HC0 := Aside0.mk hc0
  have HG := Aside0.mk hg
  have HP := Aside0.mk hp
  have HX := Aside0.mk hx
  clear hr0 hc0 hg hp hx
  go_enter Try.func27, Try.ntmps27
  go_wp2_with (go_at_call 35; refine (slices_IndexFunc_use.calls A0 c0 l0 obj g p _ HR0.out HC0.out HG.out HP.out HX.out).mono ?_; rintro e w' ⟨rfl, hb⟩; have HB2 := Aside0.mk hb; clear hb)
  go_ret
  exact ⟨rfl, HB2.out⟩
set_option maxHeartbeats 1000000 in
set_option maxRecDepth 100000 in
theorem slices_Clone_use.calls (A0 : Option Addr) (c0 : Nat) (l0 : List S28) (w : World) (hr0 : Kd.C k28 w A0 l0.length l0) (hc0 : l0.length ≤ c0) (h0 : 0 < l0.length) (h1 : l0.length ≤ 1000) :
    Calls Try.prog 28 #[.slice A0 l0.length c0] w fun e w' => ∃ v, e = .returned v ∧ Kd.R k28 28 w' w.heap.size (fun _ => True) v l0 ∧ Below w.heap.size w w' := by
  obtain ⟨ad, rfl, _⟩ := hr0.2.2 h0
  have HR0 := Aside0.mk hr0
  have HC0 := Aside0.mk hc0
  have H1 := Aside0.mk h1
  have HB := Aside0.mk (Below.refl w.heap.size w)
  clear hr0 hc0 h0 h1
  have qT : ∀ (w : World) (a : Option Addr) (n c n' c' : Nat), (binOp .eql 26 (.slice a n c) (.slice none n' c')).run Try.prog w = .ok (.bool a.isNone) w := fun w a n c n' c' => Lib.run_eql_slice_nil w _ _ a n c n' c' Try.underlying26
  go_enter Try.func28, Try.ntmps28
  go_wp2_with (first | ((with_reducible refine gate_dst (N := 5) rfl ?_); refine Kd.R_lit k28 (w0 := w) w.heap.size 28 rfl (N := 5) rfl (xs := ([] : List S28)) (inner := []) (ok := fun _ => True) (okp := fun _ => False) ?hr (Reps.none _ _) (fun _ _ => trivial) trivial HB.out (below_size HB.out) (by decide) ?_; (case hr => first | (go_simp; done) | (go_simp; rfl)); intro v1 w1 ho hb1 hgr hat; have HO1 := Aside0.mk ho; have HB1 := Aside0.mk hb1; clear ho hb1 hgr hat) | ((with_reducible refine gate_builtin (b := .append) (xs := #[.tmp 5, .tmp 6]) rfl ?_); at_builtin; refine Kd.R_append_rows k28 (w0 := w) w.heap.size rfl (.tmp 5) (.tmp 6) 26 28 (.agg #[(.int .i64 0), (.int .i64 0), (.int .i64 0), (.int .i64 0)]) 32 rfl Try.underlying26 info28 rfl (by decide) (by omega) v1 [] l0 _ _ _ (fun _ => True) (fun _ => False) rfl rfl ?aO ?aR (fun _ _ h => h) (fun _ h => h.elim) ?aF ?aB ?aS ?aL ?_; (case aR => exact (Kd.C_below HR0.out HB1.out)); (case aB => exact HB1.out); (case aF => exact (fun _ _ => trivial)); (case aO => exact HO1.out); (case aS => exact (below_size HB1.out)); (case aL => have := H1.out; simp; omega); intro v2 w2 ho hb2 hgr hat; have HO2 := Aside0.mk ho; have HB2 := Aside0.mk hb2; clear ho hb2 hgr hat))
  go_ret
  exact ⟨_, rfl, HO2.out, HB2.out⟩
set_option maxHeartbeats 1000000 in
set_option maxRecDepth 100000 in
theorem plan_picked_use.calls (A0 : Option Addr) (c0 : Nat) (l0 : List S28) (obj : Int) (g : Nat) (w : World) (hr0 : Kd.C k28 w A0 l0.length l0) (hc0 : l0.length ≤ c0) (hg : w.heap[g]? = some (.cells #[.int .i64 obj] 3 (0, 0))) (h0 : 0 < l0.length) (h1 : l0.length ≤ 1000) (hx : ∀ i : Int, 0 ≤ i → i < l0.length → isUse obj (rd_T28 l0 i)) :
    Calls Try.prog 18 #[.slice A0 l0.length c0, .func (.func 19) #[] #[.pointer (some ⟨g, 0, none⟩)]] w fun e w' => ∃ A c, e = .returned (.slice A l0.length c) ∧ l0.length ≤ c ∧ Kd.C k28 w' A l0.length l0 ∧ Below w.heap.size w w' := by
  have HR0 := Aside0.mk hr0
  have HC0 := Aside0.mk hc0
  have HG := Aside0.mk hg
  have HX := Aside0.mk hx
  have H0 := Aside0.mk h0
  have H1 := Aside0.mk h1
  clear hr0 hc0 hg hx h0 h1
  have hmf : ∀ (fn : Fn) (first cap : Array Value) (w : World), (Instr.makeFunc fn first cap).run Try.prog w = .ok (.func fn first cap) w := fun _ _ _ _ => rfl
  go_enter Try.func18, Try.ntmps18
  go_wp2_with (first | ((with_reducible refine gate_dst (N := 3) rfl ?_); refine box_event ?hg (N := 3) ?hd (cs := #[.func (.func 19) #[] #[.pointer (some ⟨g, 0, none⟩)]]) (t := 52) ?hr ?_; (case hd => rfl); (case hg => rfl); (case hr => first | (go_simp; done) | (go_simp; rfl)); intro p hp w1 hbox hb; have HP := Aside0.mk hbox; have HB := Aside0.mk hb; clear hb hbox hp) | (go_at_call 28; refine (slices_Clone_use.calls A0 c0 l0 _ (Kd.C_below HR0.out HB.out) HC0.out H0.out H1.out).mono ?_; rintro e w2 ⟨v, rfl, hv, hb⟩; obtain ⟨A1, c1, rfl, hl1, hr1⟩ := Kd.R_reads hv; have HR1 := Aside0.mk hr1; have HL1 := Aside0.mk hl1; have HB2 := Aside0.mk (below_step HB.out hb); have HP2 := Aside0.mk (blk_below HP.out hb); clear hv hb hr1 hl1) | (go_at_call 27; refine (slices_DeleteFunc_use.calls A1 c1 l0 obj g p _ HR1.out HL1.out (blk_below HG.out HB2.out) HP2.out HX.out).mono ?_; rintro e w3 ⟨rfl, hb⟩; have HB3 := Aside0.mk (below_step HB2.out hb); have HR3 := Aside0.mk (Kd.C_below HR1.out hb); clear hb))
  go_ret
  exact ⟨_, _, rfl, HL1.out, HR3.out, HB3.out⟩
theorem merge1 (y : Int) : ([y].mergeSort fun x y => decide (x ≤ y)) = [y] := by simp
theorem slices_Sort_one.calls (u9000_ : Value) (y : Int) (w0 w : World) (hB : Below w0.heap.size w0 w) (ho0 : Kd.R (Kd.int .i64) 3 w w0.heap.size (fun _ => True) u9000_ [y]) :
    Calls Try.prog 20 #[u9000_] w fun e w' => e = .returned (.tuple #[]) ∧ Kd.R (Kd.int .i64) 3 w' w0.heap.size (fun _ => True) u9000_ [y] ∧ Below w0.heap.size w0 w' := by
  have hown := Kd.own_of_R ho0
  rcases hown.2 with ⟨_, h0⟩ | ⟨g, cap, cur, rfl, hbg, hg, hnc, hcm, hcs, htk⟩
  · simp [encs] at h0
  have htk' : cur.toList.take [y].length = [y].map (Value.int .i64) := by simpa [Nat.mul_one, encs] using htk
  refine (Try.slices_Sort_int g 0 cap [y] w (Go.holds_of_blockI hg htk') (blk_lt hg) (by simp)).mono ?_
  rintro e w' ⟨rfl, n, os, rfl⟩
  rw [merge1]
  have hgr := Go.grownBy_sortedI (w := w) (g := g) (n := n) (os := os) [y].toArray
  have hso := Go.ownsRow_sortedI (ss := [y]) (ts := [y]) (n := n) (os := os) rfl hbg hg hnc hcm hcs
  exact ⟨rfl, Kd.R_of_own hso (fun k hk => trivial), hB.grown hgr hB.size (fun k hk => by cases hk; exact hbg)⟩
theorem compact1 (y : Int) : Go.Lib.compact [y] = [y] := by
  refine Go.Lib.compact_all [y] fun j hj => ?_
  have : j = 0 := by simp at hj; exact hj
  subst this
  exact Go.Lib.keeps_lt_one _ 0 (by omega)
theorem slices_Compact_one.calls (u9000_ : Value) (y : Int) (w0 w : World) (hB : Below w0.heap.size w0 w) (ho0 : Kd.R (Kd.int .i64) 3 w w0.heap.size (fun _ => True) u9000_ [y]) :
    Calls Try.prog 21 #[u9000_] w fun e w' => e = .returned u9000_ ∧ Kd.R (Kd.int .i64) 3 w' w0.heap.size (fun _ => True) u9000_ [y] ∧ Below w0.heap.size w0 w' := by
  have hown := Kd.own_of_R ho0
  rcases hown.2 with ⟨_, h0⟩ | ⟨g, cap, cur, rfl, hbg, hg, hnc, hcm, hcs, htk⟩
  · simp [encs] at h0
  have htk' : cur.toList.take [y].length = [y].map (Value.int .i64) := by simpa [Nat.mul_one, encs] using htk
  refine (Try.slices_Compact_int g 0 cap [y] w (Go.holds_of_blockI hg htk') (by simp) hnc).mono ?_
  rintro e w' ⟨rfl, n, rfl⟩
  rw [compact1]
  have hgw : Go.Sort.grow (Go.Sort.putRow (Value.int .i64) (Go.Sort.ahead w n) g 0 [y].toArray) #[] = Go.Sort.putRow (Value.int .i64) (Go.Sort.ahead w n) g 0 [y].toArray := Go.Sort.grow_empty _
  have hgr := Go.grownBy_sortedI (w := w) (g := g) (n := n) (os := #[]) [y].toArray
  have hso := Go.ownsRow_sortedI (ss := [y]) (ts := [y]) (n := n) (os := #[]) rfl hbg hg hnc hcm hcs
  rw [hgw] at hgr hso
  have e0 : [y] ++ List.replicate ([y].length - [y].length) (0 : Int) = [y] := by simp
  first
    | exact ⟨rfl, Kd.R_of_own hso (fun k hk => trivial), hB.grown hgr hB.size (fun k hk => by cases hk; exact hbg)⟩
    | (rw [e0]; exact ⟨rfl, Kd.R_of_own hso (fun k hk => trivial), hB.grown hgr hB.size (fun k hk => by cases hk; exact hbg)⟩)
open Classical in
noncomputable def plan_Users.f (l0 : List (S28)) (a1 : Int) : Option (List Int) :=
  match l0 with
  | [x] => if x.f2 = a1 then (if x.f0 = a1 then none else some [x.f0]) else none
  | _ => none
set_option maxHeartbeats 2000000 in
set_option maxRecDepth 100000 in
theorem plan_Users.calls (A0 : Option Addr) (c0 : Nat) (l0 : List (S28)) (a1 : Int) (r : List Int) (w : World) (hr0 : Kd.C k28 w A0 l0.length l0) (hc0 : l0.length ≤ c0) (h : plan_Users.f l0 a1 = some r) :
    Calls Try.prog 11 #[.slice A0 l0.length c0, .int .i64 a1] w fun e w' => ∃ v0_ : Value, e = .returned (v0_) ∧ Kd.R (Kd.int .i64) 3 w' w.heap.size (fun _ => True) v0_ r ∧ Below w.heap.size w w' := by
  obtain ⟨x, hlx, hx, rfl⟩ : ∃ x, l0 = [x] ∧ isUse a1 x ∧ r = [x.f0] := by
    unfold plan_Users.f at h
    split at h
    · rename_i x
      by_cases q1 : x.f2 = a1
      · rw [if_pos q1] at h
        by_cases q2 : x.f0 = a1
        · rw [if_pos q2] at h; cases h
        · rw [if_neg q2] at h; exact ⟨x, rfl, ⟨q1, q2⟩, (Option.some.inj h).symm⟩
      · rw [if_neg q1] at h; cases h
    · cases h
  have hu28 := Try.underlying28
  have hxx : ∀ i : Int, 0 ≤ i → i < (l0.length : Int) → isUse a1 (rd_T28 l0 i) := fun i p q => by
    subst hlx
    have : i = 0 := by simp at q; omega
    subst this; exact hx
  have HR0 := Aside0.mk hr0
  have HC0 := Aside0.mk hc0
  have HX := Aside0.mk hxx
  have HL0 := Aside0.mk (show 0 < l0.length by rw [hlx]; simp)
  have HL1 := Aside0.mk (show l0.length ≤ 1000 by rw [hlx]; simp)
  have HL := Aside0.mk (show l0.length = 1 by rw [hlx]; rfl)
  have HLX := Aside0.mk (show rd_T28 l0 ((0 : Nat) : Int) = x by rw [hlx]; rfl)
  clear hr0 hc0 h hx hxx hlx
  have hmf : ∀ (fn : Fn) (first cap : Array Value) (w : World), (Instr.makeFunc fn first cap).run Try.prog w = .ok (.func fn first cap) w := fun _ _ _ _ => rfl
  go_enter Try.func11, Try.ntmps11
  go_wp2_with (first | ((with_reducible refine gate_dst (N := 3) rfl ?_); refine box_event ?hg (N := 3) ?hd (cs := #[.int .i64 a1]) (t := 3) ?hr ?_; (case hd => rfl); (case hg => rfl); (case hr => first | (go_simp; done) | (go_simp; rfl)); intro g hg w1 hbox hb; have HG := Aside0.mk hbox; have HB := Aside0.mk hb; clear hb hbox hg) | (go_at_call 18; refine (plan_picked_use.calls A0 c0 l0 a1 g _ (Kd.C_below HR0.out HB.out) HC0.out HG.out HL0.out HL1.out HX.out).mono ?_; rintro e w2 ⟨A1, c1, rfl, hc, hr, hb⟩; have HR1 := Aside0.mk hr; have HC1 := Aside0.mk hc; have HB2 := Aside0.mk (below_step HB.out hb); clear hc hr hb))
  go_loopw [5, 7, 12] (fun v5 v7 v12 wr => ∃ (j : Nat), v12 = .int .i64 j ∧ ((j = 0 ∧ v5 = .slice none 0 0) ∨ (j = 1 ∧ Aside0 (Kd.R (Kd.int .i64) 3 wr w.heap.size (fun _ => True) v5 [x.f0]))) ∧ Aside0 (Kd.C k28 wr A1 l0.length l0) ∧ Aside0 (Below w.heap.size w wr)) (fun _ _ v12 _ => 1 - (intOf v12).toNat)
  case atStart => exact ⟨0, rfl, Or.inl ⟨rfl, rfl⟩, HR1, HB2⟩
  case round =>
    obtain ⟨j, rfl, hj, HRJ, HBJ⟩ := hrel
    have HL2 := HL.out
    rcases hj with ⟨hj0, rfl⟩ | ⟨hj1, HO⟩
    · have HJ0 := Aside0.mk hj0
      have p1 : 0 ≤ (j : Int) := by omega
      have q1 : (j : Int) < l0.length := by omega
      obtain ⟨ad, eA, hx0, hx1, hx2, hx3⟩ := at_T28 HRJ.out (j : Int) p1 q1
      cases eA
      rw [show rd_T28 l0 (j : Int) = x by rw [hj0]; exact HLX.out] at hx0 hx1 hx2 hx3
      simp only [Int.toNat_natCast] at hx0 hx1 hx2 hx3
      clear HL2 hj0
      go_wp2_with (first | ((with_reducible refine gate_dst (N := 7) rfl ?_); refine box_event ?hg (N := 7) ?hd (cs := #[.int .i64 0, .int .i64 0, .int .i64 0, .int .i64 0]) (t := 28) ?hr ?_; (case hd => rfl); (case hg => rfl); (case hr => first | (go_simp; done) | (go_simp; rfl)); intro g2 hg2 w3 hbox hb; have HG2 := Aside0.mk hbox; have HE2 := Aside0.mk (Nat.le_of_eq hg2.symm); have HBR := Aside0.mk hb; have hcz0 : w3.cell? ⟨g2, 0, none⟩ = some (.int .i64 0) := (blk_cell HG2.out 0).trans rfl; have hcz1 : w3.cell? ⟨g2, 1, none⟩ = some (.int .i64 0) := (blk_cell HG2.out 1).trans rfl; have hcz2 : w3.cell? ⟨g2, 2, none⟩ = some (.int .i64 0) := (blk_cell HG2.out 2).trans rfl; have hcz3 : w3.cell? ⟨g2, 3, none⟩ = some (.int .i64 0) := (blk_cell HG2.out 3).trans rfl; have hfz0 := blk_frozen HG2.out 0; have hfz1 := blk_frozen HG2.out 1; have hfz2 := blk_frozen HG2.out 2; have hfz3 := blk_frozen HG2.out 3; clear hb hbox hg2) | ((with_reducible refine gate_store (t := 28) (p := 7) rfl ?_); refine store_event (t := 28) (p := 7) (v := ?vo_w) (w1 := ((((w3.setCell ⟨g2, 0, none⟩ (.int .i64 x.f0)).setCell ⟨g2, 1, none⟩ (.int .i64 x.f1)).setCell ⟨g2, 2, none⟩ (.int .i64 x.f2)).setCell ⟨g2, 3, none⟩ (.int .i64 x.f3))) ?hg ?ho ?hn ?hr ?_; (case ho => rfl); (case hg => rfl); (case hn => rfl); (case hr => first | (go_simp; done) | (go_simp; rfl)); intro w4 hw; have HBR4 := Aside0.mk (show Below wr.heap.size wr w4 by rw [hw]; exact (((HBR.out.setCell (p := ⟨g2, 0, none⟩) HE2.out _).setCell (p := ⟨g2, 1, none⟩) HE2.out _).setCell (p := ⟨g2, 2, none⟩) HE2.out _).setCell (p := ⟨g2, 3, none⟩) HE2.out _); have HG4 := Aside0.mk (show w4.heap[g2]? = some (.cells #[.int .i64 x.f0, .int .i64 x.f1, .int .i64 x.f2, .int .i64 x.f3] 28 (0, 0)) by rw [hw]; exact blk_put (blk_put (blk_put (blk_put HG2.out 0 _ rfl) 1 _ rfl) 2 _ rfl) 3 _ rfl); have hcy0 : w4.cell? ⟨g2, 0, none⟩ = some (.int .i64 x.f0) := (blk_cell HG4.out 0).trans rfl; clear hcz0 hcz1 hcz2 hcz3 hfz0 hfz1 hfz2 hfz3 hw) | ((with_reducible refine gate_builtin (b := .append) (xs := #[.tmp 16, .tmp 19]) rfl ?_); at_builtin; (refine Kd.R_append (Kd.int .i64) (w0 := w) w.heap.size rfl (.tmp 16) (.tmp 19) 23 3 (.int .i64 0) 8 rfl Try.underlying23 info3 rfl (by decide) (by omega) (.slice none 0 0) [] x.f0 [.int .i64 x.f0] (fun _ => True) (fun _ => False) rfl rfl ?aP (fun _ hk => hk.elim) ?aF ?aO ?aB ?aS ?aL ?_); ((case aP => exact rfl)); ((case aB => exact below_step HBJ.out HBR4.out)); ((case aF => exact (fun _ _ => trivial))); ((case aO => exact Kd.R_nil _ _ _ _ _)); ((case aS => exact below_size (below_step HBJ.out HBR4.out))); ((case aL => simp)); intro v5 w5 ho hb5 hgr hat; (have HO5 := Aside0.mk ho); (have HB5 := Aside0.mk hb5); (have HR5 := Aside0.mk (Kd.C_below (Kd.C_below HRJ.out HBR4.out) (Below.grown (Below.refl _ _) hgr (Nat.le_refl _) (fun k hk => by simp [Value.ownBlock] at hk)))); clear ho hb5 hgr hat))
      go_roundw
      case rel => exact ⟨1, by rw [HJ0.out, show wrap64 (((0 : Nat) : Int) + 1) = ((1 : Nat) : Int) by unfold wrap64; omega], Or.inr ⟨rfl, HO5⟩, HR5, HB5⟩
      case measure =>
        have e : wrap64 (((0 : Nat) : Int) + 1) = ((1 : Nat) : Int) := by unfold wrap64; omega
        rw [HJ0.out, e]
        simp [intOf]
    · have HJ1 := Aside0.mk hj1
      obtain ⟨Ao, co, eo⟩ := Kd.R_slice HO.out
      subst eo
      have q1 : ¬ (j : Int) < l0.length := by omega
      clear hj1 HL2
      go_wp2_with (first | (go_at_call 20; refine (slices_Sort_one.calls _ x.f0 w _ HBJ.out HO.out).mono ?_; rintro e w3 ⟨rfl, hr, hb⟩; have HR3 := Aside0.mk hr; have HB3 := Aside0.mk hb; clear hr hb) | (go_at_call 21; refine (slices_Compact_one.calls _ x.f0 w _ HB3.out HR3.out).mono ?_; rintro e w4 ⟨rfl, hr, hb⟩; have HR4 := Aside0.mk hr; have HB4 := Aside0.mk hb; clear hr hb))
      go_ret
      exact ⟨_, rfl, HR4.out, HB4.out⟩

end Go.Proofs.Ytoakeildgpeffaa.P
