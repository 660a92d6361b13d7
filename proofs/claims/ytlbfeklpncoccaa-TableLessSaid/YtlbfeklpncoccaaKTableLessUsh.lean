/- Short words for walks: a fact carried over steps that don't touch it. No condition. -/
import Derived.Test.YtlbfeklpncoccaaKTableLessWWords
import Derived.Test.YtlbfeklpncoccaaKTableLessWTab
import Derived.Test.YtlbfeklpncoccaaKTableLessWMore
namespace Go.Proofs.Ytlbfeklpncoccaa.P
open Go.RowKit Go.Proofs.YtlbfeklpncoccaaW.PrintWords Go.Proofs.YtlbfeklpncoccaaW.PrintLast Go.Proofs.YtlbfeklpncoccaaW.PrintMore
set_option linter.unusedVariables false
theorem ua {P Q : Prop} (p : P) (h : P → Q := by intro h; (with_reducible repeat (first | apply Kd.R_alloc | apply Kd.R_drewN | apply Kd.R_drew)); exact h) : Q := h p
theorem ub {P Q : Prop} (p : P) (h : P → Q := by intro h; (with_reducible repeat (first | refine blk_drewN ?_ _ | refine blk_drew ?_ | refine blk_alloc ?_ _)); exact h) : Q := h p
theorem uc {P Q : Prop} (p : P) (h : P → Q := by intro h; repeat (first | (with_reducible first | exact h | apply below_alloc | apply pw_below_drewN | apply below_drew1 | refine below_set ?_ (Aside0.out (by assumption))) | exact h)) : Q := h p
theorem ud {p : Prop} [Decidable p] (h : decide p = true := by first | (with_reducible assumption) | assumption) : p := of_decide_eq_true h
abbrev ow {α : Type} (A : Option Addr) (l : List α) (c : Nat) : Option Nat := (Value.slice A l.length c).ownBlock
abbrev nw {α : Type} (k : Nat) (A : Option Addr) (l : List α) (c : Nat) : Prop := some k ≠ ow A l c
theorem am {P : Prop} (h : P) : Aside0 P := Aside0.mk h
theorem us {P Q : Prop} (p : P) (h : P → Q := by intro h; repeat (first | exact h | (with_reducible refine Kd.C_alloc ?_ _) | (with_reducible refine Kd.C_drewN ?_ _) | (with_reducible refine Kd.C_drew ?_))) : Q := h p
theorem uf {P : Prop} (h : P := by first | rfl | (simp; done) | (simp [*]; done)) : P := h
theorem st6 (ok' : Nat → Prop) {α : Type} {d : Kd α} {e t base g : Nat} {w w1 : World} {ok : Nat → Prop} {v : Value} {xs : List α} {cells : Array Value} {u0 u1 u2 u3 u4 u5 : Value} {j0 j1 j2 j3 j4 j5 : Nat} (hw : w1 = ((((((w.setCell ⟨g, j0, none⟩ u0).setCell ⟨g, j1, none⟩ u1).setCell ⟨g, j2, none⟩ u2).setCell ⟨g, j3, none⟩ u3).setCell ⟨g, j4, none⟩ u4).setCell ⟨g, j5, none⟩ u5)) (HO : Aside0 (Kd.R d e w base ok v xs)) (BK : Aside0 (w.heap[g]? = some (.cells cells t (0, 0)))) (hp : ∀ k, ok k → ok' k) (ht : ∀ q, q ∈ e :: d.E → q ≠ t := by decide) : Aside0 (Kd.R d e w1 base ok' v xs) :=
  ⟨by rw [hw]; exact Kd.R_mono (Kd.R_far (p := ⟨g, j5, none⟩) (Kd.R_far (p := ⟨g, j4, none⟩) (Kd.R_far (p := ⟨g, j3, none⟩) (Kd.R_far (p := ⟨g, j2, none⟩) (Kd.R_far (p := ⟨g, j1, none⟩) (Kd.R_far (p := ⟨g, j0, none⟩) (Kd.R_types HO.out BK.out ht) (fun _ hk => hk.2) u0) (fun _ hk => hk.2) u1) (fun _ hk => hk.2) u2) (fun _ hk => hk.2) u3) (fun _ hk => hk.2) u4) (fun _ hk => hk.2) u5) (fun k hk => hp k hk.1)⟩
abbrev nv (k : Nat) (v : Value) : Prop := some k ≠ v.ownBlock
theorem gl {P : Program} {ops : Array Oper} {Q : Exit → Act → World → Prop} {rest : List Oper} {oi : Oper} {a : Act} {w : World} (N : Option Tmp) {f : FuncId} {fn : Func} {as : Array Operand} {ts : Array TypeId} (hf : P.funcs[f]? = some fn) (args : Array Value)
    (h : Calls P f args w fun e w' => ∃ v, e = .returned v ∧ wpList P ops Q rest (a.put N v) w') (hd : oi.dst = N := by rfl) (hg : oi.guard = none := by rfl) (hname : (fn.name == "runtime.NumGoroutine") = false := by kernel_rfl) (hb : fn.body.isSome = true := by rfl)
    (hop : oi.op = .call { callee := .value (.func f), args := as, argTypes := ts } := by rfl) (hargs : as.map a.eval = args := by (try simp only [List.map_toArray, List.map_cons, List.map_nil]); first | done | rfl | (simp only [List.length_drop, List.length_take]; rfl)) : wpList P ops Q (oi :: rest) a w :=
  goesL_ N hd hg hf hname hb args hop hargs h
theorem bf1 {w w1 : World} {g p : Nat} {t : TypeId} {cs : Array Value} {u0 : Value} {j0 : Nat} (hw : w1 = (w.setCell ⟨p, j0, none⟩ u0)) (NE : Aside0 (g ≠ p)) (h : Aside0 (w.heap[g]? = some (.cells cs t (0, 0)))) : Aside0 (w1.heap[g]? = some (.cells cs t (0, 0))) := by
  obtain ⟨h⟩ := h
  obtain ⟨ne⟩ := NE
  subst hw
  exact ⟨blk_far (p := ⟨p, j0, none⟩) h ne u0⟩
theorem bp2 (cs' : Array Value) {w w1 : World} {g : Nat} {t : TypeId} {cs : Array Value} {u0 u1 : Value} (hw : w1 = ((w.setCell ⟨g, 0, none⟩ u0).setCell ⟨g, 1, none⟩ u1)) (h : Aside0 (w.heap[g]? = some (.cells cs t (0, 0)))) (e : ((cs.setIfInBounds 0 u0).setIfInBounds 1 u1) = cs' := by rfl) : Aside0 (w1.heap[g]? = some (.cells cs' t (0, 0))) := by
  obtain ⟨h⟩ := h
  subst hw; subst e
  exact ⟨blk_set (blk_set h 0 u0) 1 u1⟩
theorem bf2 {w w1 : World} {g p : Nat} {t : TypeId} {cs : Array Value} {u0 u1 : Value} {j0 j1 : Nat} (hw : w1 = ((w.setCell ⟨p, j0, none⟩ u0).setCell ⟨p, j1, none⟩ u1)) (NE : Aside0 (g ≠ p)) (h : Aside0 (w.heap[g]? = some (.cells cs t (0, 0)))) : Aside0 (w1.heap[g]? = some (.cells cs t (0, 0))) := by
  obtain ⟨h⟩ := h
  obtain ⟨ne⟩ := NE
  subst hw
  exact ⟨blk_far (p := ⟨p, j1, none⟩) (blk_far (p := ⟨p, j0, none⟩) h ne u0) ne u1⟩
theorem bp4 (cs' : Array Value) {w w1 : World} {g : Nat} {t : TypeId} {cs : Array Value} {u0 u1 u2 u3 : Value} (hw : w1 = ((((w.setCell ⟨g, 0, none⟩ u0).setCell ⟨g, 1, none⟩ u1).setCell ⟨g, 2, none⟩ u2).setCell ⟨g, 3, none⟩ u3)) (h : Aside0 (w.heap[g]? = some (.cells cs t (0, 0)))) (e : ((((cs.setIfInBounds 0 u0).setIfInBounds 1 u1).setIfInBounds 2 u2).setIfInBounds 3 u3) = cs' := by rfl) : Aside0 (w1.heap[g]? = some (.cells cs' t (0, 0))) := by
  obtain ⟨h⟩ := h
  subst hw; subst e
  exact ⟨blk_set (blk_set (blk_set (blk_set h 0 u0) 1 u1) 2 u2) 3 u3⟩
theorem bf4 {w w1 : World} {g p : Nat} {t : TypeId} {cs : Array Value} {u0 u1 u2 u3 : Value} {j0 j1 j2 j3 : Nat} (hw : w1 = ((((w.setCell ⟨p, j0, none⟩ u0).setCell ⟨p, j1, none⟩ u1).setCell ⟨p, j2, none⟩ u2).setCell ⟨p, j3, none⟩ u3)) (NE : Aside0 (g ≠ p)) (h : Aside0 (w.heap[g]? = some (.cells cs t (0, 0)))) : Aside0 (w1.heap[g]? = some (.cells cs t (0, 0))) := by
  obtain ⟨h⟩ := h
  obtain ⟨ne⟩ := NE
  subst hw
  exact ⟨blk_far (p := ⟨p, j3, none⟩) (blk_far (p := ⟨p, j2, none⟩) (blk_far (p := ⟨p, j1, none⟩) (blk_far (p := ⟨p, j0, none⟩) h ne u0) ne u1) ne u2) ne u3⟩
theorem bp6 (cs' : Array Value) {w w1 : World} {g : Nat} {t : TypeId} {cs : Array Value} {u0 u1 u2 u3 u4 u5 : Value} (hw : w1 = ((((((w.setCell ⟨g, 0, none⟩ u0).setCell ⟨g, 1, none⟩ u1).setCell ⟨g, 2, none⟩ u2).setCell ⟨g, 3, none⟩ u3).setCell ⟨g, 4, none⟩ u4).setCell ⟨g, 5, none⟩ u5)) (h : Aside0 (w.heap[g]? = some (.cells cs t (0, 0)))) (e : ((((((cs.setIfInBounds 0 u0).setIfInBounds 1 u1).setIfInBounds 2 u2).setIfInBounds 3 u3).setIfInBounds 4 u4).setIfInBounds 5 u5) = cs' := by rfl) : Aside0 (w1.heap[g]? = some (.cells cs' t (0, 0))) := by
  obtain ⟨h⟩ := h
  subst hw; subst e
  exact ⟨blk_set (blk_set (blk_set (blk_set (blk_set (blk_set h 0 u0) 1 u1) 2 u2) 3 u3) 4 u4) 5 u5⟩
theorem bf6 {w w1 : World} {g p : Nat} {t : TypeId} {cs : Array Value} {u0 u1 u2 u3 u4 u5 : Value} {j0 j1 j2 j3 j4 j5 : Nat} (hw : w1 = ((((((w.setCell ⟨p, j0, none⟩ u0).setCell ⟨p, j1, none⟩ u1).setCell ⟨p, j2, none⟩ u2).setCell ⟨p, j3, none⟩ u3).setCell ⟨p, j4, none⟩ u4).setCell ⟨p, j5, none⟩ u5)) (NE : Aside0 (g ≠ p)) (h : Aside0 (w.heap[g]? = some (.cells cs t (0, 0)))) : Aside0 (w1.heap[g]? = some (.cells cs t (0, 0))) := by
  obtain ⟨h⟩ := h
  obtain ⟨ne⟩ := NE
  subst hw
  exact ⟨blk_far (p := ⟨p, j5, none⟩) (blk_far (p := ⟨p, j4, none⟩) (blk_far (p := ⟨p, j3, none⟩) (blk_far (p := ⟨p, j2, none⟩) (blk_far (p := ⟨p, j1, none⟩) (blk_far (p := ⟨p, j0, none⟩) h ne u0) ne u1) ne u2) ne u3) ne u4) ne u5⟩
theorem bp7 (cs' : Array Value) {w w1 : World} {g : Nat} {t : TypeId} {cs : Array Value} {u0 u1 u2 u3 u4 u5 u6 : Value} (hw : w1 = (((((((w.setCell ⟨g, 0, none⟩ u0).setCell ⟨g, 1, none⟩ u1).setCell ⟨g, 2, none⟩ u2).setCell ⟨g, 3, none⟩ u3).setCell ⟨g, 4, none⟩ u4).setCell ⟨g, 5, none⟩ u5).setCell ⟨g, 6, none⟩ u6)) (h : Aside0 (w.heap[g]? = some (.cells cs t (0, 0)))) (e : (((((((cs.setIfInBounds 0 u0).setIfInBounds 1 u1).setIfInBounds 2 u2).setIfInBounds 3 u3).setIfInBounds 4 u4).setIfInBounds 5 u5).setIfInBounds 6 u6) = cs' := by rfl) : Aside0 (w1.heap[g]? = some (.cells cs' t (0, 0))) := by
  obtain ⟨h⟩ := h
  subst hw; subst e
  exact ⟨blk_set (blk_set (blk_set (blk_set (blk_set (blk_set (blk_set h 0 u0) 1 u1) 2 u2) 3 u3) 4 u4) 5 u5) 6 u6⟩
theorem bf7 {w w1 : World} {g p : Nat} {t : TypeId} {cs : Array Value} {u0 u1 u2 u3 u4 u5 u6 : Value} {j0 j1 j2 j3 j4 j5 j6 : Nat} (hw : w1 = (((((((w.setCell ⟨p, j0, none⟩ u0).setCell ⟨p, j1, none⟩ u1).setCell ⟨p, j2, none⟩ u2).setCell ⟨p, j3, none⟩ u3).setCell ⟨p, j4, none⟩ u4).setCell ⟨p, j5, none⟩ u5).setCell ⟨p, j6, none⟩ u6)) (NE : Aside0 (g ≠ p)) (h : Aside0 (w.heap[g]? = some (.cells cs t (0, 0)))) : Aside0 (w1.heap[g]? = some (.cells cs t (0, 0))) := by
  obtain ⟨h⟩ := h
  obtain ⟨ne⟩ := NE
  subst hw
  exact ⟨blk_far (p := ⟨p, j6, none⟩) (blk_far (p := ⟨p, j5, none⟩) (blk_far (p := ⟨p, j4, none⟩) (blk_far (p := ⟨p, j3, none⟩) (blk_far (p := ⟨p, j2, none⟩) (blk_far (p := ⟨p, j1, none⟩) (blk_far (p := ⟨p, j0, none⟩) h ne u0) ne u1) ne u2) ne u3) ne u4) ne u5) ne u6⟩
theorem bp8 (cs' : Array Value) {w w1 : World} {g : Nat} {t : TypeId} {cs : Array Value} {u0 u1 u2 u3 u4 u5 u6 u7 : Value} (hw : w1 = ((((((((w.setCell ⟨g, 0, none⟩ u0).setCell ⟨g, 1, none⟩ u1).setCell ⟨g, 2, none⟩ u2).setCell ⟨g, 3, none⟩ u3).setCell ⟨g, 4, none⟩ u4).setCell ⟨g, 5, none⟩ u5).setCell ⟨g, 6, none⟩ u6).setCell ⟨g, 7, none⟩ u7)) (h : Aside0 (w.heap[g]? = some (.cells cs t (0, 0)))) (e : ((((((((cs.setIfInBounds 0 u0).setIfInBounds 1 u1).setIfInBounds 2 u2).setIfInBounds 3 u3).setIfInBounds 4 u4).setIfInBounds 5 u5).setIfInBounds 6 u6).setIfInBounds 7 u7) = cs' := by rfl) : Aside0 (w1.heap[g]? = some (.cells cs' t (0, 0))) := by
  obtain ⟨h⟩ := h
  subst hw; subst e
  exact ⟨blk_set (blk_set (blk_set (blk_set (blk_set (blk_set (blk_set (blk_set h 0 u0) 1 u1) 2 u2) 3 u3) 4 u4) 5 u5) 6 u6) 7 u7⟩
theorem bf8 {w w1 : World} {g p : Nat} {t : TypeId} {cs : Array Value} {u0 u1 u2 u3 u4 u5 u6 u7 : Value} {j0 j1 j2 j3 j4 j5 j6 j7 : Nat} (hw : w1 = ((((((((w.setCell ⟨p, j0, none⟩ u0).setCell ⟨p, j1, none⟩ u1).setCell ⟨p, j2, none⟩ u2).setCell ⟨p, j3, none⟩ u3).setCell ⟨p, j4, none⟩ u4).setCell ⟨p, j5, none⟩ u5).setCell ⟨p, j6, none⟩ u6).setCell ⟨p, j7, none⟩ u7)) (NE : Aside0 (g ≠ p)) (h : Aside0 (w.heap[g]? = some (.cells cs t (0, 0)))) : Aside0 (w1.heap[g]? = some (.cells cs t (0, 0))) := by
  obtain ⟨h⟩ := h
  obtain ⟨ne⟩ := NE
  subst hw
  exact ⟨blk_far (p := ⟨p, j7, none⟩) (blk_far (p := ⟨p, j6, none⟩) (blk_far (p := ⟨p, j5, none⟩) (blk_far (p := ⟨p, j4, none⟩) (blk_far (p := ⟨p, j3, none⟩) (blk_far (p := ⟨p, j2, none⟩) (blk_far (p := ⟨p, j1, none⟩) (blk_far (p := ⟨p, j0, none⟩) h ne u0) ne u1) ne u2) ne u3) ne u4) ne u5) ne u6) ne u7⟩
theorem bw {w W w1 : World} {g : Nat} {o : Obj} (h : Aside0 (W.heap[g]? = some o)) (hb : Below w.heap.size w w1) (hm : W.heap[g]? = some o → w.heap[g]? = some o := by intro h; (with_reducible repeat (first | refine blk_drewN ?_ _ | refine blk_drew ?_ | refine blk_alloc ?_ _)); exact h) : Aside0 (w1.heap[g]? = some o) := ⟨blk_below (hm h.out) hb⟩
theorem nl {w W : World} {g g' : Nat} {o : Obj} (h : Aside0 (W.heap[g]? = some o)) (hg : g' = w.heap.size) (hm : W.heap[g]? = some o → w.heap[g]? = some o := by intro h; (with_reducible repeat (first | refine blk_drewN ?_ _ | refine blk_drew ?_ | refine blk_alloc ?_ _)); exact h) : Aside0 (g ≠ g') := ⟨by rw [hg]; exact Nat.ne_of_lt (blk_lt (hm h.out))⟩
theorem nr {w W : World} {g g' : Nat} {o : Obj} (h : Aside0 (W.heap[g]? = some o)) (hg : g' = w.heap.size) (hm : W.heap[g]? = some o → w.heap[g]? = some o := by intro h; (with_reducible repeat (first | refine blk_drewN ?_ _ | refine blk_drew ?_ | refine blk_alloc ?_ _)); exact h) : Aside0 (g' ≠ g) := ⟨by rw [hg]; exact Nat.ne_of_gt (blk_lt (hm h.out))⟩
theorem nz {w0 w W : World} {g : Nat} (h : Aside0 (Below w0.heap.size w0 W)) (hg : g = w.heap.size) (hm : Below w0.heap.size w0 W → Below w0.heap.size w0 w := by intro h; repeat (first | (with_reducible first | exact h | apply below_alloc | apply pw_below_drewN | apply below_drew1 | refine below_set ?_ (Aside0.out (by assumption))) | exact h)) : Aside0 (w0.heap.size ≤ g) := ⟨by rw [hg]; exact below_size (hm h.out)⟩
theorem bs {w0 w w1 W : World} (h : Aside0 (Below w0.heap.size w0 W)) (hb : Below w.heap.size w w1) (hm : Below w0.heap.size w0 W → Below w0.heap.size w0 w := by intro h; repeat (first | (with_reducible first | exact h | apply below_alloc | apply pw_below_drewN | apply below_drew1 | refine below_set ?_ (Aside0.out (by assumption))) | exact h)) : Aside0 (Below w0.heap.size w0 w1) := ⟨below_step (hm h.out) hb⟩
theorem cz {w : World} {g t : Nat} {cs : Array Value} (h : Aside0 (w.heap[g]? = some (.cells cs t (0, 0)))) (i : Nat) {v : Value} (e : cs[i]? = some v := by rfl) : w.cell? ⟨g, i, none⟩ = some v := (blk_cell h.out i).trans e
theorem fz {w : World} {g t : Nat} {cs : Array Value} (h : Aside0 (w.heap[g]? = some (.cells cs t (0, 0)))) (i : Nat) : w.frozen? ⟨g, i, none⟩ = false := blk_frozen h.out i
end Go.Proofs.Ytlbfeklpncoccaa.P
