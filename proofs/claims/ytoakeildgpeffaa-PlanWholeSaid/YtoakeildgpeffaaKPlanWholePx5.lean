/- What functions of the program, and of its laws, give, each proved of its code by a walk; no condition. -/
import Derived.Test.YtoakeildgpeffaaKPlanWholePx0
import Derived.Test.YtoakeildgpeffaaKPlanWholePx3
import Derived.Test.YtoakeildgpeffaaKPlanWholePx4
import Derived.Laws.Pointers
import Derived.Laws.LoneSync
import Derived.RegionCalls
import Derived.Defers
import Derived.ChangeAlike
import Derived.Tactics2
import Derived.RegionTactic
namespace Go.Proofs.Ytoakeildgpeffaa.P
open Go.RowKit Go.Proofs.YtoakeildgpeffaaW.PrintWords Go.Proofs.YtoakeildgpeffaaW.PrintLast Go.Proofs.YtoakeildgpeffaaW.PrintMore
attribute [local go_sem] max2_int min2_int max_two min_two max_three min_three max_four min_four   -- for this text's walks alone
set_option linter.unusedVariables false
set_option linter.unusedSimpArgs false

theorem race_disable (w : World) : (callFunc 71 #[]).run Try.prog w = .ok (.value (.tuple #[])) w := run_call_mark0 Try.func71 (by kernel_rfl) (by kernel_rfl) (by kernel_rfl) .disable (by kernel_rfl) w
theorem race_enable (w : World) : (callFunc 73 #[]).run Try.prog w = .ok (.value (.tuple #[])) w := run_call_mark0 Try.func73 (by kernel_rfl) (by kernel_rfl) (by kernel_rfl) .enable (by kernel_rfl) w
theorem race_acquire (a : Addr) (w : World) : (callFunc 74 #[.pointer (some a)]).run Try.prog w = .ok (.value (.tuple #[])) w := run_call_marked Try.func74 (by kernel_rfl) (by kernel_rfl) (by kernel_rfl) .acquire (by kernel_rfl) a w
theorem race_releaseMerge (a : Addr) (w : World) : (callFunc 76 #[.pointer (some a)]).run Try.prog w = .ok (.value (.tuple #[])) w := run_call_marked Try.func76 (by kernel_rfl) (by kernel_rfl) (by kernel_rfl) .releaseMerge (by kernel_rfl) a w
set_option maxRecDepth 100000 in
set_option maxHeartbeats 1600000 in
theorem store_deferred (a : Addr) (x : Value) (u : FrameMode) (w : World) (hc : w.cell? a = some x) (hz : w.frozen? a = false) :
    CallsD Try.prog 65 #[.pointer (some a), .bool true] u w fun e u' w' => u' = u ∧ (e = .returned (.tuple #[]) ∧ w' = w.drew.setCell a (.int .u32 1)) := by
  have hc' : w.drew.cell? a = some x := by go_simp
  have hz' : w.drew.frozen? a = false := by go_simp
  have hst := run_call_store (P := Try.prog) Try.func69 (by kernel_rfl) (by kernel_rfl) (by kernel_rfl) (by kernel_rfl) (k := .u32) (y := 1) hc' hz'
  go_enter_d Try.func65, Try.ntmps65
  go_wp2
  go_region_calls
  all_goals (go_end0; exact ⟨rfl, rfl⟩)
set_option maxRecDepth 100000 in
set_option maxHeartbeats 1600000 in
theorem unlock_free (a : Addr) (w : World) (hc : w.cell? a = some (.int .i32 1)) (hz : w.frozen? a = false) :
    Calls Try.prog 68 #[.pointer (some a)] w fun e w' => e = .returned (.tuple #[]) ∧ w' = w.setCell a (.int .i32 0) := by
  have hd := race_disable
  have he := race_enable
  have hr := race_releaseMerge
  have hadd := run_call_add (P := Try.prog) Try.func77 (by kernel_rfl) (by kernel_rfl) (by kernel_rfl) .i32 (by kernel_rfl) (y := -1) (s := 0) hc hz (by simp [go_sem]; rfl)
  have hcv := run_convert_to_unsafe (P := Try.prog) (src := 121) (dst := 125) Try.underlying121 Try.underlying125 (by kernel_rfl) hc
  go_enter Try.func68, Try.ntmps68
  go_wp2
  go_end0
  exact ⟨rfl, rfl⟩
set_option maxRecDepth 100000 in
set_option maxHeartbeats 1600000 in
theorem unlock_deferred (a : Addr) (u : FrameMode) (w : World) (hc : w.cell? a = some (.int .i32 1)) (hz : w.frozen? a = false) :
    CallsD Try.prog 64 #[.pointer (some a)] u w fun e u' w' => u' = u ∧ (e = .returned (.tuple #[]) ∧ w' = w.setCell a (.int .i32 0)) := by
  go_enter_d Try.func64, Try.ntmps64
  go_wp2_with (go_at_call 68; refine (unlock_free a _ hc hz).mono ?_; rintro e w' ⟨rfl, rfl⟩)
  go_end0
  exact ⟨rfl, rfl⟩
set_option maxRecDepth 100000 in
set_option maxHeartbeats 1600000 in
theorem lock_free (a : Addr) (w : World) (hc : w.cell? a = some (.int .i32 0)) (hz : w.frozen? a = false) :
    Calls Try.prog 63 #[.pointer (some a)] w fun e w' => e = .returned (.tuple #[]) ∧ w' = w.setCell a (.int .i32 1) := by
  have hd := race_disable
  have he := race_enable
  have ha := race_acquire
  have hcas := run_call_cas_hit (P := Try.prog) Try.func72 (by kernel_rfl) (by kernel_rfl) (by kernel_rfl) .i32 (by kernel_rfl) (y := 1) hc hz
  have hc' : (w.setCell a (.int .i32 1)).cell? a = some (.int .i32 1) := World.cell?_setCell_same w a _ hc
  have hcv := run_convert_to_unsafe (P := Try.prog) (src := 121) (dst := 125) Try.underlying121 Try.underlying125 (by kernel_rfl) hc'
  go_enter Try.func63, Try.ntmps63
  go_wp2
  first | go_end0 | (simp only [Exit.inBlock, Exit.then]; refine bodyPost_ret (results_none rfl _ _ _) rfl ?_) | refine bodyPost_ret (results_none rfl _ _ _) rfl ?_
  go_wp2
  go_end0
  exact ⟨rfl, rfl⟩
set_option maxHeartbeats 1600000 in
set_option maxRecDepth 100000 in
theorem lookup_find_1.calls (g p : Nat) (x0 x1 x2 x4 x5 x6 d m z t0 t1 : Value) (A : Option Addr) (c : Nat) (l : List S42) (r1 r2 : List Int) (r3 : Int) (w : World)
    (hp : w.heap[p]? = some (.cells #[.pointer (some ⟨g, 0, none⟩)] 63 (0, 0))) (hg : w.heap[g]? = some (.cells #[x0, x1, x2, .slice A l.length c, x4, x5, x6, d, m, z, t0, t1] 79 (0, 0)))
    (hr : Kd.C k42 w A l.length l) (hc : l.length ≤ c) (h : hash_Make.f l 8 = some (r1, r2, r3)) :
    Calls Try.prog 48 #[.pointer (some ⟨p, 0, none⟩)] w fun e w' => e = .returned (.tuple #[]) ∧ ∃ w1 v0 v1, Below w.heap.size w w1 ∧ Kd.R (Kd.int .i64) 3 w1 w.heap.size (fun _ => True) v0 r1 ∧ Kd.R (Kd.int .i64) 3 w1 w.heap.size (fun _ => True) v1 r2 ∧ w' = (w1.setCell ⟨g, 10, none⟩ v0).setCell ⟨g, 11, none⟩ v1 := by
  have hu64 := Try.underlying77
  have HP := Aside0.mk hp
  have HG := Aside0.mk hg
  have HR := Aside0.mk hr
  have HC := Aside0.mk hc
  have H1 := Aside0.mk h
  have hp0 := blk_cell hp 0
  have hg3 := blk_cell hg 3
  clear hp hg hr hc h
  go_enter Try.func48, Try.ntmps48
  go_wp2
  refine start_ (n := 13) (S := fun w' => w'.cell? ⟨p, 0, none⟩ = some (.pointer (some ⟨g, 0, none⟩)) ∧ w'.cell? ⟨g, 3, none⟩ = some (.slice A l.length c)) (ds := [12]) #[false, false, false, false, false, false, false, false, false, false, false, false, false] (by kernel_rfl) rfl rfl ⟨hp0, hg3⟩ (fun hHeld => ?_)
  have HB := Aside0.mk (below_drew (Below.refl w.heap.size w))
  clear hp0 hg3
  generalize w.drew = wd at HB hHeld ⊢
  refine take_ (i := 0) (N := some 2) (v := ?_) (a' := ?_) #[true, false, false, false, false, false, false, false, false, false, false, false, false] rfl rfl (by kernel_rfl) (fun _ _ _ h => h) (Or.inl ⟨by rfl, ?_⟩) hHeld ?_ ?_
  rotate_left
  · rintro w' ⟨s0, s1⟩
    go_simp
    with_reducible rfl
  rotate_left
  · simp only [Act.put, List.setIfInBounds_toArray, List.set_cons_zero, List.set_cons_succ, i64_w, i32_w]
    rfl
  refine take_ (i := 1) (N := some 3) (v := ?_) (a' := ?_) #[true, true, false, false, false, false, false, false, false, false, false, false, false] rfl rfl (by kernel_rfl) (fun _ _ _ h => h) (Or.inl ⟨by rfl, ?_⟩) hHeld ?_ ?_
  rotate_left
  · rintro w' ⟨s0, s1⟩
    go_simp
    with_reducible rfl
  rotate_left
  · simp only [Act.put, List.setIfInBounds_toArray, List.set_cons_zero, List.set_cons_succ, i64_w, i32_w]
    rfl
  refine pure_ (i := 2) (N := some 4) (v := ?_) (a' := ?_) #[true, true, true, false, false, false, false, false, false, false, false, false, false] rfl rfl (by kernel_rfl) (fun _ _ _ h => h) (Or.inl ⟨by rfl, ?_⟩) ?_ ?_
  rotate_left
  · intro w'
    go_simp
    with_reducible rfl
  rotate_left
  · simp only [Act.put, List.setIfInBounds_toArray, List.set_cons_zero, List.set_cons_succ, i64_w, i32_w]
    rfl
  refine pure_ (i := 3) (N := some 5) (v := ?_) (a' := ?_) #[true, true, true, true, false, false, false, false, false, false, false, false, false] rfl rfl (by kernel_rfl) (fun _ _ _ h => h) (Or.inl ⟨by rfl, ?_⟩) ?_ ?_
  rotate_left
  · intro w'
    go_simp
    with_reducible rfl
  rotate_left
  · simp only [Act.put, List.setIfInBounds_toArray, List.set_cons_zero, List.set_cons_succ, i64_w, i32_w]
    rfl
  refine pure_ (i := 4) (N := some 6) (v := ?_) (a' := ?_) #[true, true, true, true, true, false, false, false, false, false, false, false, false] rfl rfl (by kernel_rfl) (fun _ _ _ h => h) (Or.inl ⟨by rfl, ?_⟩) ?_ ?_
  rotate_left
  · intro w'
    go_simp
    with_reducible rfl
  rotate_left
  · simp only [Act.put, List.setIfInBounds_toArray, List.set_cons_zero, List.set_cons_succ, i64_w, i32_w]
    rfl
  refine take_ (i := 5) (N := some 7) (v := ?_) (a' := ?_) #[true, true, true, true, true, true, false, false, false, false, false, false, false] rfl rfl (by kernel_rfl) (fun _ _ _ h => h) (Or.inl ⟨by rfl, ?_⟩) hHeld ?_ ?_
  rotate_left
  · rintro w' ⟨s0, s1⟩
    go_simp
    with_reducible rfl
  rotate_left
  · simp only [Act.put, List.setIfInBounds_toArray, List.set_cons_zero, List.set_cons_succ, i64_w, i32_w]
    rfl
  refine one_ (i := 6) (N := some 8) #[true, true, true, true, true, true, true, false, false, false, false, false, false] rfl rfl (by kernel_rfl) (by decide) (fun K hK => ?_)
  refine goes_ Try.func49 (by kernel_rfl) rfl #[.slice A l.length c, .int .i64 8] (by rfl) rfl rfl (by (try simp only [List.map_toArray, List.map_cons, List.map_nil]); first | done | rfl) ?_
  refine (hash_Make.calls A c l 8 r1 r2 r3 _ (Kd.C_below HR.out HB.out) HC.out H1.out).mono ?_
  rintro e w2 ⟨v0, v1, rfl, hv0, hv1, hb⟩
  refine ⟨_, rfl, ?_⟩
  have HV0 := Aside0.mk hv0
  have HV1 := Aside0.mk hv1
  have HB2 := Aside0.mk (below_step HB.out hb)
  have HSZ := Aside0.mk HB.out.size
  clear HB hHeld hb hv0 hv1
  refine hK _ _ ⟨blk_cell (blk_below HP.out HB2.out) 0, blk_cell (blk_below HG.out HB2.out) 3⟩ (fun hHeld => ?_)
  clear hK K
  refine pure_ (i := 7) (N := some 1) (v := ?_) (a' := ?_) #[true, true, true, true, true, true, true, true, false, false, false, false, false] rfl rfl (by kernel_rfl) (fun _ _ _ h => h) (Or.inl ⟨by rfl, ?_⟩) ?_ ?_
  rotate_left
  · intro w'
    go_simp
    with_reducible rfl
  rotate_left
  · simp only [Act.put, List.setIfInBounds_toArray, List.set_cons_zero, List.set_cons_succ, i64_w, i32_w]
    rfl
  refine pure_ (i := 8) (N := some 9) (v := ?_) (a' := ?_) #[true, true, true, true, true, true, true, true, true, false, false, false, false] rfl rfl (by kernel_rfl) (fun _ _ _ h => h) (Or.inl ⟨by rfl, ?_⟩) ?_ ?_
  rotate_left
  · intro w'
    go_simp
    with_reducible rfl
  rotate_left
  · simp only [Act.put, List.setIfInBounds_toArray, List.set_cons_zero, List.set_cons_succ, i64_w, i32_w]
    rfl
  refine pure_ (i := 9) (N := some 10) (v := ?_) (a' := ?_) #[true, true, true, true, true, true, true, true, true, true, false, false, false] rfl rfl (by kernel_rfl) (fun _ _ _ h => h) (Or.inl ⟨by rfl, ?_⟩) ?_ ?_
  rotate_left
  · intro w'
    go_simp
    with_reducible rfl
  rotate_left
  · simp only [Act.put, List.setIfInBounds_toArray, List.set_cons_zero, List.set_cons_succ, i64_w, i32_w]
    rfl
  refine pure_ (i := 10) (N := some 11) (v := ?_) (a' := ?_) #[true, true, true, true, true, true, true, true, true, true, true, false, false] rfl rfl (by kernel_rfl) (fun _ _ _ h => h) (Or.inl ⟨by rfl, ?_⟩) ?_ ?_
  rotate_left
  · intro w'
    go_simp
    with_reducible rfl
  rotate_left
  · simp only [Act.put, List.setIfInBounds_toArray, List.set_cons_zero, List.set_cons_succ, i64_w, i32_w]
    rfl
  refine pure_ (i := 11) (N := some 12) (v := ?_) (a' := ?_) #[true, true, true, true, true, true, true, true, true, true, true, true, false] rfl rfl (by kernel_rfl) (fun _ _ _ h => h) (Or.inl ⟨by rfl, ?_⟩) ?_ ?_
  rotate_left
  · intro w'
    go_simp
    with_reducible rfl
  rotate_left
  · simp only [Act.put, List.setIfInBounds_toArray, List.set_cons_zero, List.set_cons_succ, i64_w, i32_w]
    rfl
  refine last_ (i := 12) (N := none) #[true, true, true, true, true, true, true, true, true, true, true, true, true] rfl rfl (by kernel_rfl) (by decide) (fun K hK => ?_)
  have hg2 := blk_below HG.out HB2.out
  have hg10 := blk_cell hg2 10
  have hg11 := blk_cell hg2 11
  have hf10 := blk_frozen hg2 10
  have hf11 := blk_frozen hg2 11
  clear hg2
  obtain ⟨A0, c0, e0, _⟩ := Kd.R_reads HV0.out
  subst e0
  obtain ⟨A1, c1, e1, _⟩ := Kd.R_reads HV1.out
  subst e1
  refine skip_ (w1 := ?_) (by rfl) rfl ?_ ?_
  rotate_left
  · go_simp
    rfl
  refine hK _ _ ?_
  clear hK K
  refine done_ (by kernel_rfl) ?_
  try go_wp2
  go_end0
  exact ⟨rfl, w2, _, _, HB2.out, Kd.R_lower (Kd.R_mono HV0.out (fun _ _ => trivial)) HSZ.out, Kd.R_lower (Kd.R_mono HV1.out (fun _ _ => trivial)) HSZ.out, rfl⟩
/-- What a call has done to one block g (and to new ones): all blocks below g, and block p, are as they were. -/
def OnceKept (g p : Nat) (w w' : World) : Prop := Below g w w' ∧ w'.heap[p]? = w.heap[p]?
theorem OnceKept.set {g p : Nat} {w w' : World} (h : OnceKept g p w w') (hpg : g ≠ p) (j : Nat) (u : Value) : OnceKept g p w (w'.setCell ⟨g, j, none⟩ u) :=
  ⟨h.1.setCell (Nat.le_refl _) _, (Below.heap_setCell w' ⟨g, j, none⟩ u p (Ne.symm hpg)).trans h.2⟩
theorem OnceKept.drew {g p : Nat} {w w' : World} (h : OnceKept g p w w') : OnceKept g p w w'.drew := ⟨h.1.drew, h.2⟩
theorem OnceKept.below {g p : Nat} {w w1 w2 : World} (h : OnceKept g p w w1) (hg : g < w1.heap.size) (hp : p < w1.heap.size) (hb : Below w1.heap.size w1 w2) : OnceKept g p w w2 :=
  ⟨h.1.trans (hb.mono (Nat.le_of_lt hg)), (hb.block p hp).trans h.2⟩
theorem lint_E (q : Nat) (h : q ∈ 3 :: (Kd.int .i64).E) : q ≠ 79 := by
  rcases List.mem_cons.1 h with e | e
  · rw [e]; decide
  · exact absurd e (by simp [Kd.int, Kd.scalar])
set_option maxHeartbeats 1600000 in
set_option maxRecDepth 100000 in
theorem once_doSlow.calls (g p : Nat) (x0 x1 x2 x4 x5 x6 z t0 t1 : Value) (A : Option Addr) (c : Nat) (l : List S42) (r1 r2 : List Int) (r3 : Int) (w : World)
    (hp : w.heap[p]? = some (.cells #[.pointer (some ⟨g, 0, none⟩)] 63 (0, 0))) (hg : w.heap[g]? = some (.cells #[x0, x1, x2, .slice A l.length c, x4, x5, x6, .int .u32 0, .int .i32 0, z, t0, t1] 79 (0, 0)))
    (hr : Kd.C k42 (w.setCell ⟨g, 8, none⟩ (.int .i32 1)) A l.length l) (hc : l.length ≤ c) (h : hash_Make.f l 8 = some (r1, r2, r3)) :
    Calls Try.prog 58 #[.pointer (some ⟨g, 7, none⟩), .func (.func 48) #[] #[.pointer (some ⟨p, 0, none⟩)]] w fun e w' => e = .returned (.tuple #[]) ∧ ∃ v0 v1, OnceKept g p w w' ∧ Kd.R (Kd.int .i64) 3 w' w.heap.size (fun _ => True) v0 r1 ∧ Kd.R (Kd.int .i64) 3 w' w.heap.size (fun _ => True) v1 r2 ∧ w'.heap[g]? = some (.cells #[x0, x1, x2, .slice A l.length c, x4, x5, x6, .int .u32 1, .int .i32 0, z, v0, v1] 79 (0, 0)) := by
  have hpg : g ≠ p := (blk_ne hg hp (by decide))
  have NPG := Aside0.mk hpg
  have HG1 := Aside0.mk (show (w.setCell ⟨g, 8, none⟩ (.int .i32 1)).heap[g]? = some (.cells #[x0, x1, x2, .slice A l.length c, x4, x5, x6, .int .u32 0, .int .i32 1, z, t0, t1] 79 (0, 0)) from blk_put hg 8 _ rfl)
  have HP1 := Aside0.mk (show (w.setCell ⟨g, 8, none⟩ (.int .i32 1)).heap[p]? = some (.cells #[.pointer (some ⟨g, 0, none⟩)] 63 (0, 0)) from blk_far hp hpg.symm _)
  have HK1 := Aside0.mk (show OnceKept g p w (w.setCell ⟨g, 8, none⟩ (.int .i32 1)) from OnceKept.set ⟨Below.refl _ _, rfl⟩ hpg 8 _)
  have HS1 := Aside0.mk (show (w.setCell ⟨g, 8, none⟩ (.int .i32 1)).heap.size = w.heap.size by simp [World.setCell])
  have HG0 := Aside0.mk hg
  have HR := Aside0.mk hr
  have HC := Aside0.mk hc
  have H1 := Aside0.mk h
  have hl := run_call_load (P := Try.prog) Try.func62 (by kernel_rfl) (by kernel_rfl) (by kernel_rfl) .u32 (by kernel_rfl) (w := w.setCell ⟨g, 8, none⟩ (.int .i32 1)) (a := ⟨g, 7, none⟩) (x := 0) (blk_cell HG1.out 7)
  clear hp hg hr hc h hpg
  have hnot : ∀ (x : Bool) (w : World), (Op.unary .not (.bool x)).run Try.prog w = .ok (.bool (!x)) w := fun _ _ => rfl
  go_enter_defers Try.func58, Try.ntmps58
  go_wp2_with (first | (go_at_call 63; refine (lock_free ⟨g, 8, none⟩ _ (blk_cell HG0.out 8) (blk_frozen HG0.out 8)).mono ?_; rintro e w' ⟨rfl, rfl⟩))
  go_wp2_with (first | (go_at_call 48; refine (lookup_find_1.calls g p x0 x1 x2 x4 x5 x6 _ _ z t0 t1 A c l r1 r2 r3 _ HP1.out HG1.out HR.out HC.out H1.out).mono ?_; rintro e w' ⟨rfl, w1, v0, v1, hb, hv0, hv1, rfl⟩; have HB1 := Aside0.mk hb; have HV0 := Aside0.mk hv0; have HV1 := Aside0.mk hv1; clear hb hv0 hv1) | (go_at_call 57; go_in))
  have hg2 := blk_put (blk_put (blk_below HG1.out HB1.out) 10 v0 rfl) 11 v1 rfl
  have HK2 := ((HK1.out.below (blk_lt HG1.out) (blk_lt HP1.out) HB1.out).set NPG.out 10 v0).set NPG.out 11 v1
  have hr0 := Kd.R_set (Kd.R_set HV0.out (blk_below HG1.out HB1.out) lint_E 10 v0) (blk_put (blk_below HG1.out HB1.out) 10 v0 rfl) lint_E 11 v1
  have hr1 := Kd.R_set (Kd.R_set HV1.out (blk_below HG1.out HB1.out) lint_E 10 v0) (blk_put (blk_below HG1.out HB1.out) 10 v0 rfl) lint_E 11 v1
  rw [HS1.out] at hr0 hr1
  generalize (w1.setCell ⟨g, 10, none⟩ v0).setCell ⟨g, 11, none⟩ v1 = w2 at *
  refine leaves_cons (f := 65) (args := #[.pointer (some ⟨g, 7, none⟩), .bool true]) (by simp) (by simp [go_sem]) ?_
  refine (store_deferred ⟨g, 7, none⟩ (.int .u32 0) .returning _ (blk_cell hg2 7) (blk_frozen hg2 7)).mono ?_
  rintro e u' w'' ⟨rfl, rfl, rfl⟩
  have hg3 := blk_put (blk_drew hg2) 7 (.int .u32 1) rfl
  have hq0 := Kd.R_set (Kd.R_drew hr0) (blk_drew hg2) lint_E 7 (.int .u32 1)
  have hq1 := Kd.R_set (Kd.R_drew hr1) (blk_drew hg2) lint_E 7 (.int .u32 1)
  refine leaves_cons (f := 64) (args := #[.pointer (some ⟨g, 8, none⟩)]) (by simp [settle]) (by simp [go_sem]) ?_
  refine (unlock_deferred ⟨g, 8, none⟩ _ _ (blk_cell hg3 8) (blk_frozen hg3 8)).mono ?_
  rintro e u' w'' ⟨rfl, rfl, rfl⟩
  have hg4 := blk_put hg3 8 (.int .i32 0) rfl
  have hs0 := Kd.R_set hq0 hg3 lint_E 8 (.int .i32 0)
  have hs1 := Kd.R_set hq1 hg3 lint_E 8 (.int .i32 0)
  have hk4 := (HK2.drew.set NPG.out 7 (.int .u32 1)).set NPG.out 8 (.int .i32 0)
  generalize ((w2.drew.setCell ⟨g, 7, none⟩ (.int .u32 1)).setCell ⟨g, 8, none⟩ (.int .i32 0)) = w3 at *
  have hfin : ∃ v0 v1, OnceKept g p w w3 ∧ Kd.R (Kd.int .i64) 3 w3 w.heap.size (fun _ => True) v0 r1 ∧ Kd.R (Kd.int .i64) 3 w3 w.heap.size (fun _ => True) v1 r2 ∧ w3.heap[g]? = some (.cells #[x0, x1, x2, .slice A l.length c, x4, x5, x6, .int .u32 1, .int .i32 0, z, v0, v1] 79 (0, 0)) := ⟨_, _, hk4, hs0, hs1, hg4⟩
  clear hk4 hs0 hs1 hg4 hq0 hq1 hg3 hr0 hr1 HK2 hg2 HV0 HV1 HB1 hl
  simp [Leaves, settle, results, Try.results58]
  obtain ⟨v0, v1, q1, q2, q3, q4⟩ := hfin
  exact ⟨q1, v0, q2, v1, q3, q4⟩
set_option maxHeartbeats 1600000 in
set_option maxRecDepth 100000 in
theorem once_Do.calls (g p : Nat) (x0 x1 x2 x4 x5 x6 z t0 t1 : Value) (A : Option Addr) (c : Nat) (l : List S42) (r1 r2 : List Int) (r3 : Int) (w : World)
    (hp : w.heap[p]? = some (.cells #[.pointer (some ⟨g, 0, none⟩)] 63 (0, 0))) (hg : w.heap[g]? = some (.cells #[x0, x1, x2, .slice A l.length c, x4, x5, x6, .int .u32 0, .int .i32 0, z, t0, t1] 79 (0, 0)))
    (hr : Kd.C k42 (w.setCell ⟨g, 8, none⟩ (.int .i32 1)) A l.length l) (hc : l.length ≤ c) (h : hash_Make.f l 8 = some (r1, r2, r3)) :
    Calls Try.prog 47 #[.pointer (some ⟨g, 7, none⟩), .func (.func 48) #[] #[.pointer (some ⟨p, 0, none⟩)]] w fun e w' => e = .returned (.tuple #[]) ∧ ∃ v0 v1, OnceKept g p w w' ∧ Kd.R (Kd.int .i64) 3 w' w.heap.size (fun _ => True) v0 r1 ∧ Kd.R (Kd.int .i64) 3 w' w.heap.size (fun _ => True) v1 r2 ∧ w'.heap[g]? = some (.cells #[x0, x1, x2, .slice A l.length c, x4, x5, x6, .int .u32 1, .int .i32 0, z, v0, v1] 79 (0, 0)) := by
  have HP := Aside0.mk hp
  have HG := Aside0.mk hg
  have HR := Aside0.mk hr
  have HC := Aside0.mk hc
  have H1 := Aside0.mk h
  have hl := run_call_load (P := Try.prog) Try.func62 (by kernel_rfl) (by kernel_rfl) (by kernel_rfl) .u32 (by kernel_rfl) (w := w) (a := ⟨g, 7, none⟩) (x := 0) (blk_cell hg 7)
  clear hp hg hr hc h
  have hnot : ∀ (x : Bool) (w : World), (Op.unary .not (.bool x)).run Try.prog w = .ok (.bool (!x)) w := fun _ _ => rfl
  go_enter Try.func47, Try.ntmps47
  go_wp2_with (first | (go_at_call 58; refine (once_doSlow.calls g p x0 x1 x2 x4 x5 x6 z t0 t1 A c l r1 r2 r3 _ HP.out HG.out HR.out HC.out H1.out).mono ?_; rintro e w' ⟨rfl, hfin⟩; have HF := Aside0.mk hfin; clear hfin) | (go_at_call 57; go_in))
  go_end0
  exact ⟨rfl, HF.out⟩
set_option maxHeartbeats 1600000 in
set_option maxRecDepth 100000 in
theorem lookup_find.calls (k g : Nat) (x0 x1 x2 x4 x5 x6 z t0 t1 : Value) (A : Option Addr) (c : Nat) (l : List S42) (nm ver : ByteArray) (r1 r2 : List Int) (r3 r : Int) (w0 w : World)
    (hW : Below w0.heap.size w0 w) (hgw : w0.heap.size ≤ g) (hg : w.heap[g]? = some (.cells #[x0, x1, x2, .slice A l.length c, x4, x5, x6, .int .u32 0, .int .i32 0, z, t0, t1] 79 (0, 0)))
    (hr : Kd.C k42 w0 A l.length l) (hc : l.length ≤ c) (h : hash_Make.f l 8 = some (r1, r2, r3)) (h2 : hash_Find.f k r1 r2 l nm ver = some r) :
    Calls Try.prog 32 #[.pointer (some ⟨g, 0, none⟩), .string nm, .string ver] w fun e w' => e = .returned (.int .i64 r) ∧ Below w0.heap.size w0 w' := by
  have hu64 := Try.underlying77
  have HW := Aside0.mk hW
  have HGW := Aside0.mk hgw
  have HG := Aside0.mk hg
  have HR := Aside0.mk hr
  have HC := Aside0.mk hc
  have H1 := Aside0.mk h
  have H2 := Aside0.mk h2
  have HLT := Aside0.mk (blk_lt hg)
  have HP := Aside0.mk (blk_new w (.cells #[.pointer (some ⟨g, 0, none⟩)] 63 (0, 0)))
  have HG1 := Aside0.mk (blk_alloc hg (.cells #[.pointer (some ⟨g, 0, none⟩)] 63 (0, 0)))
  have HW1 := Aside0.mk (below_alloc hW (.cells #[.pointer (some ⟨g, 0, none⟩)] 63 (0, 0)))
  have hp0 := blk_cell HP.out 0
  clear hW hgw hg hr hc h h2
  have hmf : ∀ (fn : Fn) (first cap : Array Value) (w : World), (Instr.makeFunc fn first cap).run Try.prog w = .ok (.func fn first cap) w := fun _ _ _ _ => rfl
  go_enter Try.func32, Try.ntmps32
  go_upto_region 2 with (first | (go_at_call 47; refine (once_Do.calls g w.heap.size x0 x1 x2 x4 x5 x6 z t0 t1 A c l r1 r2 r3 _ HP.out HG1.out (Kd.C_below HR.out (HW1.out.setCell HGW.out _)) HC.out H1.out).mono ?_; rintro e w' ⟨rfl, v0, v1, hk, hv0, hv1, hg2⟩; have HK := Aside0.mk hk; have HV0 := Aside0.mk hv0; have HV1 := Aside0.mk hv1; have HG2 := Aside0.mk hg2; have HP2 := Aside0.mk (hk.2.trans HP.out); have HB2 := Aside0.mk (HW1.out.trans (hk.1.mono HGW.out)); clear hk hv0 hv1 hg2))
  obtain ⟨A0, c0, e0, hl0, hc0⟩ := Kd.R_reads HV0.out
  subst e0
  obtain ⟨A1, c1, e1, hl1, hc1⟩ := Kd.R_reads HV1.out
  subst e1
  have HL0 := Aside0.mk hl0
  have HL1 := Aside0.mk hl1
  have HC0 := Aside0.mk hc0
  have HC1 := Aside0.mk hc1
  have hp2 := blk_cell HP2.out 0
  have hg3 := blk_cell HG2.out 3
  have hg10 := blk_cell HG2.out 10
  have hg11 := blk_cell HG2.out 11
  clear hl0 hl1 hc0 hc1 hp0
  refine start_ (n := 13) (S := fun u => u.cell? ⟨w.heap.size, 0, none⟩ = some (.pointer (some ⟨g, 0, none⟩)) ∧ u.cell? ⟨g, 3, none⟩ = some (.slice A l.length c) ∧ u.cell? ⟨g, 10, none⟩ = some (.slice A0 r1.length c0) ∧ u.cell? ⟨g, 11, none⟩ = some (.slice A1 r2.length c1)) (ds := [12]) #[false, false, false, false, false, false, false, false, false, false, false, false, false] (by kernel_rfl) rfl rfl ⟨hp2, hg3, hg10, hg11⟩ (fun hHeld => ?_)
  clear hp2 hg3 hg10 hg11
  have HD := Aside0.mk (below_drew (Below.refl w'.heap.size w'))
  generalize w'.drew = wd at HD hHeld ⊢
  refine take_ (i := 0) (N := some 12) (v := ?_) (a' := ?_) #[true, false, false, false, false, false, false, false, false, false, false, false, false] rfl rfl (by kernel_rfl) (fun _ _ _ h => h) (Or.inl ⟨by rfl, ?_⟩) hHeld ?_ ?_
  rotate_left
  · rintro u ⟨s0, s1, s2, s3⟩
    go_simp
    with_reducible rfl
  rotate_left
  · simp only [Act.put, List.setIfInBounds_toArray, List.set_cons_zero, List.set_cons_succ, i64_w, i32_w]
    rfl
  refine pure_ (i := 1) (N := some 13) (v := ?_) (a' := ?_) #[true, true, false, false, false, false, false, false, false, false, false, false, false] rfl rfl (by kernel_rfl) (fun _ _ _ h => h) (Or.inl ⟨by rfl, ?_⟩) ?_ ?_
  rotate_left
  · intro u
    go_simp
    with_reducible rfl
  rotate_left
  · simp only [Act.put, List.setIfInBounds_toArray, List.set_cons_zero, List.set_cons_succ, i64_w, i32_w]
    rfl
  refine pure_ (i := 2) (N := some 14) (v := ?_) (a' := ?_) #[true, true, true, false, false, false, false, false, false, false, false, false, false] rfl rfl (by kernel_rfl) (fun _ _ _ h => h) (Or.inl ⟨by rfl, ?_⟩) ?_ ?_
  rotate_left
  · intro u
    go_simp
    with_reducible rfl
  rotate_left
  · simp only [Act.put, List.setIfInBounds_toArray, List.set_cons_zero, List.set_cons_succ, i64_w, i32_w]
    rfl
  refine take_ (i := 3) (N := some 15) (v := ?_) (a' := ?_) #[true, true, true, true, false, false, false, false, false, false, false, false, false] rfl rfl (by kernel_rfl) (fun _ _ _ h => h) (Or.inl ⟨by rfl, ?_⟩) hHeld ?_ ?_
  rotate_left
  · rintro u ⟨s0, s1, s2, s3⟩
    go_simp
    with_reducible rfl
  rotate_left
  · simp only [Act.put, List.setIfInBounds_toArray, List.set_cons_zero, List.set_cons_succ, i64_w, i32_w]
    rfl
  refine take_ (i := 4) (N := some 16) (v := ?_) (a' := ?_) #[true, true, true, true, true, false, false, false, false, false, false, false, false] rfl rfl (by kernel_rfl) (fun _ _ _ h => h) (Or.inl ⟨by rfl, ?_⟩) hHeld ?_ ?_
  rotate_left
  · rintro u ⟨s0, s1, s2, s3⟩
    go_simp
    with_reducible rfl
  rotate_left
  · simp only [Act.put, List.setIfInBounds_toArray, List.set_cons_zero, List.set_cons_succ, i64_w, i32_w]
    rfl
  refine pure_ (i := 5) (N := some 17) (v := ?_) (a' := ?_) #[true, true, true, true, true, true, false, false, false, false, false, false, false] rfl rfl (by kernel_rfl) (fun _ _ _ h => h) (Or.inl ⟨by rfl, ?_⟩) ?_ ?_
  rotate_left
  · intro u
    go_simp
    with_reducible rfl
  rotate_left
  · simp only [Act.put, List.setIfInBounds_toArray, List.set_cons_zero, List.set_cons_succ, i64_w, i32_w]
    rfl
  refine pure_ (i := 6) (N := some 18) (v := ?_) (a' := ?_) #[true, true, true, true, true, true, true, false, false, false, false, false, false] rfl rfl (by kernel_rfl) (fun _ _ _ h => h) (Or.inl ⟨by rfl, ?_⟩) ?_ ?_
  rotate_left
  · intro u
    go_simp
    with_reducible rfl
  rotate_left
  · simp only [Act.put, List.setIfInBounds_toArray, List.set_cons_zero, List.set_cons_succ, i64_w, i32_w]
    rfl
  refine pure_ (i := 7) (N := some 19) (v := ?_) (a' := ?_) #[true, true, true, true, true, true, true, true, false, false, false, false, false] rfl rfl (by kernel_rfl) (fun _ _ _ h => h) (Or.inl ⟨by rfl, ?_⟩) ?_ ?_
  rotate_left
  · intro u
    go_simp
    with_reducible rfl
  rotate_left
  · simp only [Act.put, List.setIfInBounds_toArray, List.set_cons_zero, List.set_cons_succ, i64_w, i32_w]
    rfl
  refine take_ (i := 8) (N := some 20) (v := ?_) (a' := ?_) #[true, true, true, true, true, true, true, true, true, false, false, false, false] rfl rfl (by kernel_rfl) (fun _ _ _ h => h) (Or.inl ⟨by rfl, ?_⟩) hHeld ?_ ?_
  rotate_left
  · rintro u ⟨s0, s1, s2, s3⟩
    go_simp
    with_reducible rfl
  rotate_left
  · simp only [Act.put, List.setIfInBounds_toArray, List.set_cons_zero, List.set_cons_succ, i64_w, i32_w]
    rfl
  refine pure_ (i := 9) (N := some 21) (v := ?_) (a' := ?_) #[true, true, true, true, true, true, true, true, true, true, false, false, false] rfl rfl (by kernel_rfl) (fun _ _ _ h => h) (Or.inl ⟨by rfl, ?_⟩) ?_ ?_
  rotate_left
  · intro u
    go_simp
    with_reducible rfl
  rotate_left
  · simp only [Act.put, List.setIfInBounds_toArray, List.set_cons_zero, List.set_cons_succ, i64_w, i32_w]
    rfl
  refine pure_ (i := 10) (N := some 22) (v := ?_) (a' := ?_) #[true, true, true, true, true, true, true, true, true, true, true, false, false] rfl rfl (by kernel_rfl) (fun _ _ _ h => h) (Or.inl ⟨by rfl, ?_⟩) ?_ ?_
  rotate_left
  · intro u
    go_simp
    with_reducible rfl
  rotate_left
  · simp only [Act.put, List.setIfInBounds_toArray, List.set_cons_zero, List.set_cons_succ, i64_w, i32_w]
    rfl
  refine one_ (i := 11) (N := some 23) #[true, true, true, true, true, true, true, true, true, true, true, true, false] rfl rfl (by kernel_rfl) (by decide) (fun K hK => ?_)
  refine goes_ Try.func50 (by kernel_rfl) rfl #[.agg #[.slice A0 r1.length c0, .slice A1 r2.length c1], .slice A l.length c, .string nm, .string ver] (by rfl) rfl rfl (by (try simp only [List.map_toArray, List.map_cons, List.map_nil]); first | done | rfl) ?_
  refine (hash_Find.calls k A0 c0 r1 A1 c1 r2 A c l nm ver r _ (Kd.C_below HC0.out HD.out) HL0.out (Kd.C_below HC1.out HD.out) HL1.out (Kd.C_below (Kd.C_below HR.out HB2.out) HD.out) HC.out H2.out).mono ?_
  rintro e w2 ⟨rfl, hb⟩
  refine ⟨_, rfl, ?_⟩
  have HB3 := Aside0.mk (below_step HD.out hb)
  clear hHeld hb
  refine hK _ _ ⟨blk_cell (blk_below HP2.out HB3.out) 0, blk_cell (blk_below HG2.out HB3.out) 3, blk_cell (blk_below HG2.out HB3.out) 10, blk_cell (blk_below HG2.out HB3.out) 11⟩ (fun hHeld => ?_)
  clear hK K
  refine pure_ (i := 12) (N := some 6) (v := ?_) (a' := ?_) #[true, true, true, true, true, true, true, true, true, true, true, true, true] rfl rfl (by kernel_rfl) (fun _ _ _ h => h) (Or.inl ⟨by rfl, ?_⟩) ?_ ?_
  rotate_left
  · intro u
    go_simp
    with_reducible rfl
  rotate_left
  · simp only [Act.put, List.setIfInBounds_toArray, List.set_cons_zero, List.set_cons_succ, i64_w, i32_w]
    rfl
  refine done_ (by kernel_rfl) ?_
  go_wp2
  go_ret
  exact ⟨rfl, below_step HB2.out HB3.out⟩
def lookup_In.one (k : Nat) (l : List S39) (nm ver : ByteArray) (i : Int) : Option Int :=
  if 0 ≤ i then if i < (l.length : Int) then (hash_Make.f (rd_T39 l i).f3 8).bind fun t => hash_Find.f k t.1 t.2.1 (rd_T39 l i).f3 nm ver else none else none
def lookup_In.l0 (k : Nat) (l : List S39) (nm ver : ByteArray) : List Int → Option (Int × Int)
  | [] => some (-1, -1)
  | i :: is => (lookup_In.one k l nm ver i).bind fun s => if 0 ≤ s then some (i, s) else lookup_In.l0 k l nm ver is
def lookup_In.f (k : Nat) (l0 : List S39) (l1 : List Int) (a2 a3 : ByteArray) : Option (Int × Int) := lookup_In.l0 k l0 a2 a3 l1
theorem lookup_In.one_mono (l : List S39) (nm ver : ByteArray) (i : Int) (k : Nat) : LeO (lookup_In.one k l nm ver i) (lookup_In.one (k + 1) l nm ver i) := by
  unfold lookup_In.one
  refine LeO.ite (LeO.ite (LeO.bind (LeO.refl _) (fun _ => ?_)) (LeO.refl _)) (LeO.refl _)
  exact hash_Find.mono _ _ _ _ _ _
theorem lookup_In.mono_l (l : List S39) (nm ver : ByteArray) (k : Nat) : ∀ is, LeO (lookup_In.l0 k l nm ver is) (lookup_In.l0 (k + 1) l nm ver is)
  | [] => LeO.refl _
  | i :: is => by
    unfold lookup_In.l0
    exact LeO.bind (lookup_In.one_mono l nm ver i k) (fun _ => LeO.ite (LeO.refl _) (lookup_In.mono_l l nm ver k is))
theorem lookup_In.mono : ∀ a0 a1 a2 a3 k, LeO (lookup_In.f k a0 a1 a2 a3) (lookup_In.f (k + 1) a0 a1 a2 a3) := fun a0 a1 a2 a3 k => lookup_In.mono_l a0 a2 a3 k a1
theorem ret_ii {a b c d : Int} (h : (a, b) = (c, d)) : Ending.returned (.tuple #[.int .i64 a, .int .i64 b]) = .returned (.tuple #[.int .i64 c, .int .i64 d]) := by
  injection h with h1 h2
  rw [h1, h2]
set_option maxHeartbeats 4000000 in
set_option maxRecDepth 100000 in
theorem lookup_In.calls (k : Nat) (A0 : Option Addr) (c0 : Nat) (l0 : List (S39)) (A1 : Option Addr) (c1 : Nat) (l1 : List Int) (a2 : ByteArray) (a3 : ByteArray) (r1 : Int) (r2 : Int) (w : World) (hr0 : Kd.C k39 w A0 l0.length l0) (hc0 : l0.length ≤ c0) (hr1 : Kd.C (Kd.int .i64) w A1 l1.length l1) (hc1 : l1.length ≤ c1) (h : lookup_In.f k l0 l1 a2 a3 = some (r1, r2)) :
    Calls Try.prog 23 #[.slice A0 l0.length c0, .slice A1 l1.length c1, .string a2, .string a3] w fun e w' => e = .returned (.tuple #[.int .i64 r1, .int .i64 r2]) ∧ Below w.heap.size w w' := by
  have hu32 := Try.underlying39
  have hu66 := Try.underlying79
  have HR0 := Aside0.mk hr0
  have HC0 := Aside0.mk hc0
  have HR1 := Aside0.mk hr1
  have HC1 := Aside0.mk hc1
  have hlen : l1.length ≤ 9223372036854775807 := hr1.2.1
  have H0 := Aside0.mk (show lookup_In.l0 k l0 a2 a3 (l1.drop 0) = some (r1, r2) from h)
  clear hr0 hc0 hr1 hc1 h
  go_enter Try.func23, Try.ntmps23
  go_wp2
  go_loopw [11, 12, 13, 16] (fun v11 v12 v13 v16 wr => ∃ (j : Nat), v16 = .int .i64 j ∧ j ≤ l1.length ∧ Aside0 (lookup_In.l0 k l0 a2 a3 (l1.drop j) = some (r1, r2)) ∧ Aside0 (Below w.heap.size w wr)) (fun _ _ _ v16 _ => l1.length - (intOf v16).toNat)
  case atStart => exact ⟨0, rfl, by omega, H0, ⟨Below.refl _ _⟩⟩
  case round =>
    obtain ⟨j, rfl, hj, HL, HB⟩ := hrel
    by_cases hlt : j < l1.length
    · have p1 : 0 ≤ (j : Int) := by omega
      have q1 : (j : Int) < l1.length := by omega
      obtain ⟨ad1, eA1, hx⟩ := Kd.at_int (Kd.C_below HR1.out HB.out) (j : Int) p1 q1
      cases eA1
      simp only [Int.toNat_natCast] at hx
      have hl := HL.out
      have ei : l1[j] = rd l1 (j : Int) := by simp [rd, List.getD_eq_getElem?_getD, List.getElem?_eq_getElem hlt]
      rw [List.drop_eq_getElem_cons hlt, lookup_In.l0, ei] at hl
      clear ei
      generalize rd l1 (j : Int) = i at hl hx
      obtain ⟨s, hs, hl⟩ := Option.bind_eq_some_iff.1 hl
      unfold lookup_In.one at hs
      by_cases pi : 0 ≤ i
      case neg => rw [if_neg pi] at hs; cases hs
      by_cases qi : i < (l0.length : Int)
      case neg => rw [if_pos pi, if_neg qi] at hs; cases hs
      rw [if_pos pi, if_pos qi] at hs
      obtain ⟨⟨t1, t2, t3⟩, ht, hs⟩ := Option.bind_eq_some_iff.1 hs
      obtain ⟨ad, B1, d1, B2, d2, B3, d3, B4, d4, B5, d5, B6, d6, eA, hx0, hx1, hx2, hx3, hx4, hx5, hx6, hl1, hi1, hl2, hi2, hl3, hi3, hl4, hi4, hl5, hi5, hl6, hi6⟩ := at_T39 (Kd.C_below HR0.out HB.out) i pi qi
      cases eA
      have HT := Aside0.mk ht
      have HS := Aside0.mk hs
      have HI3 := Aside0.mk hi3
      have HD3 := Aside0.mk hl3
      have HL2 := Aside0.mk hl
      clear hl1 hi1 hl2 hi2 hl3 hi3 hl4 hi4 hl5 hi5 hl6 hi6 ht hs hl HL
      by_cases hs0 : 0 ≤ s
      · have hsb : (decide (s ≥ 0)) = true := decide_eq_true hs0
        go_wp2_with (first | ((with_reducible refine gate_dst (N := 25) rfl ?_); refine box_event ?hg (N := 25) ?hd (cs := #[.string (rd_T39 l0 i).f0, .slice B1 (rd_T39 l0 i).f1.length d1, .slice B2 (rd_T39 l0 i).f2.length d2, .slice B3 (rd_T39 l0 i).f3.length d3, .slice B4 (rd_T39 l0 i).f4.length d4, .slice B5 (rd_T39 l0 i).f5.length d5, .slice B6 (rd_T39 l0 i).f6.length d6, .int .u32 0, .int .i32 0, .int .u32 0, .slice none 0 0, .slice none 0 0]) (t := 79) ?hr ?_; (case hd => rfl); (case hg => rfl); (case hr => first | (go_simp; done) | (go_simp; rfl)); intro gb hg w10 hbox hb; have HG := Aside0.mk hbox; have HGE := Aside0.mk hg; have HB1 := Aside0.mk (below_step HB.out hb); have HBB := Aside0.mk hb; clear hb hbox hg) | (go_at_call 32; refine (lookup_find.calls k gb _ _ _ _ _ _ _ _ _ B3 d3 (rd_T39 l0 i).f3 a2 a3 t1 t2 t3 s _ _ HBB.out (Nat.le_of_eq HGE.out.symm) HG.out HI3.out HD3.out HT.out HS.out).mono ?_; rintro e w' ⟨rfl, hb⟩; have HB2 := Aside0.mk (below_step HB.out hb); clear hb))
        go_ret2
        refine ⟨ret_ii ?_, HB2.out⟩
        have := HL2.out
        rw [if_pos hs0] at this
        exact Option.some.inj this
      · have hsb : (decide (s ≥ 0)) = false := decide_eq_false hs0
        go_wp2_with (first | ((with_reducible refine gate_dst (N := 25) rfl ?_); refine box_event ?hg (N := 25) ?hd (cs := #[.string (rd_T39 l0 i).f0, .slice B1 (rd_T39 l0 i).f1.length d1, .slice B2 (rd_T39 l0 i).f2.length d2, .slice B3 (rd_T39 l0 i).f3.length d3, .slice B4 (rd_T39 l0 i).f4.length d4, .slice B5 (rd_T39 l0 i).f5.length d5, .slice B6 (rd_T39 l0 i).f6.length d6, .int .u32 0, .int .i32 0, .int .u32 0, .slice none 0 0, .slice none 0 0]) (t := 79) ?hr ?_; (case hd => rfl); (case hg => rfl); (case hr => first | (go_simp; done) | (go_simp; rfl)); intro gb hg w10 hbox hb; have HG := Aside0.mk hbox; have HGE := Aside0.mk hg; have HB1 := Aside0.mk (below_step HB.out hb); have HBB := Aside0.mk hb; clear hb hbox hg) | (go_at_call 32; refine (lookup_find.calls k gb _ _ _ _ _ _ _ _ _ B3 d3 (rd_T39 l0 i).f3 a2 a3 t1 t2 t3 s _ _ HBB.out (Nat.le_of_eq HGE.out.symm) HG.out HI3.out HD3.out HT.out HS.out).mono ?_; rintro e w' ⟨rfl, hb⟩; have HB2 := Aside0.mk (below_step HB.out hb); clear hb))
        go_roundw
        case rel => exact ⟨j + 1, by go_num, by omega, ⟨by have := HL2.out; rw [if_neg (show ¬ (0 ≤ s) by omega)] at this; exact this⟩, HB2⟩
        case measure => simp [intOf]; omega
    · obtain rfl : j = l1.length := by omega
      have hl := HL.out
      rw [List.drop_length, lookup_In.l0] at hl
      have HE := Aside0.mk (Option.some.inj hl)
      clear hl
      go_wp2
      go_ret2
      exact ⟨ret_ii HE.out, HB.out⟩

end Go.Proofs.Ytoakeildgpeffaa.P
