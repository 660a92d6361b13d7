/- A struct's store into a box of the call's own, told as one step; no condition. -/
import Derived.Test.YtoakeildgpeffaaKPlanWholePx0
namespace Go.Proofs.Ytoakeildgpeffaa.P
open Go.RowKit Go.Proofs.YtoakeildgpeffaaW.PrintWords Go.Proofs.YtoakeildgpeffaaW.PrintLast
theorem skip_box {P : Program} {ops : Array Oper} {Q : Exit → Act → World → Prop} {oi : Oper} {a : Act} {w w1 : World} {K : Act → World → Prop} {t : TypeId} {p x : Operand} {g e : Nat} {cs : Array Value} {u : Value} (seg : List Value)
    (hw : Region.wanted oi (yielded ops a.tmps) = true) (hN : oi.dst = none) (ho : oi.op = .store t p x) (haddr : a.eval p = .pointer (some ⟨g, 0, none⟩)) (hx : a.eval x = u) (hu : u.cells.toList = seg)
    (ht : (P.info? t).map (·.size) = some seg.length) (hb : w.heap[g]? = some (.cells cs e (0, 0))) (hfit : seg.length ≤ cs.size) (h1 : (seg.all fun q => q.oneCell') = true) (hw1 : w.setCells g 0 seg = w1) (h : K a w1) :
    if Region.wanted oi (yielded ops a.tmps) = true then Oper.wp P oi a w K Q else K (a.put none undef) w := by
  refine skip_ hw hN ?_ h
  subst hw1
  have hrun := run_store_run (P := P) (o := 0) t u seg hb hu ht (by omega) (fun q hq => List.all_eq_true.1 h1 q hq)
  unfold execOp
  simp only [ho, haddr, hx, Sem.run_bind, Sem.run_pure, Result.andThen_ok, hrun]
end Go.Proofs.Ytoakeildgpeffaa.P
