/- What functions of the program, and of its laws, give, each proved of its code by a walk; no condition. -/
import Derived.Test.YtociaidhgefpiaaKDlPlaysPx0
import Derived.Test.YtociaidhgefpiaaKDlPlaysShelf
import Derived.Sort.OwnSortedInts
import Derived.Test.YtociaidhgefpiaaKDlPlaysSq
import Derived.Test.YtociaidhgefpiaaKDlPlaysUsh
namespace Go.Proofs.Ytociaidhgefpiaa.P
open Go.RowKit Go.Proofs.YtociaidhgefpiaaW.PrintWords Go.Proofs.YtociaidhgefpiaaW.PrintLast Go.Proofs.YtociaidhgefpiaaW.PrintMore
attribute [local go_sem] max2_int min2_int max_two min_two max_three min_three max_four min_four   -- for this text's walks alone
set_option linter.unusedVariables false
set_option linter.unusedSimpArgs false

def slices_Delete_int_int.f (l0 : List Int) (a1 : Int) (a2 : Int) : Option (List Int) := if 0 < l0.length ∧ 0 ≤ a1 ∧ a1 ≤ a2 ∧ a2 ≤ l0.length then some (l0.take a1.toNat ++ l0.drop a2.toNat) else none
theorem slices_Delete_int_int.calls (P0_ : Nat → Prop) (u9000_ : Value) (l0 : List Int) (a1 : Int) (a2 : Int) (r : List Int) (w0 w : World) (hB : Below w0.heap.size w0 w) (ho0 : Kd.R (Kd.int .i64) 3 w w0.heap.size P0_ u9000_ l0) (h : slices_Delete_int_int.f l0 a1 a2 = some r) :
  Calls Try.prog 34 #[u9000_, .int .i64 a1, .int .i64 a2] w fun e w' => ∃ v0_ : Value, e = .returned (v0_) ∧ Kd.R (Kd.int .i64) 3 w' w0.heap.size (fun k_ => (P0_ k_ ∨ w.heap.size ≤ k_)) v0_ r ∧ Below w0.heap.size w0 w' ∧ Kept w w' (fun k_ => P0_ k_) := by
 unfold slices_Delete_int_int.f at h
 by_cases hl : 0 < l0.length ∧ 0 ≤ a1 ∧ a1 ≤ a2 ∧ a2 ≤ l0.length
 case neg => rw [if_neg hl] at h; cases h
 rw [if_pos hl] at h
 obtain ⟨hl0, hl1, hl2, hl3⟩ := hl
 obtain ⟨i, rfl⟩ : ∃ i : Nat, a1 = (i : Int) := ⟨a1.toNat, by omega⟩
 obtain ⟨j, rfl⟩ : ∃ j : Nat, a2 = (j : Int) := ⟨a2.toNat, by omega⟩
 simp only [Int.toNat_natCast] at h
 obtain rfl := Option.some.inj h
 have hown := Kd.own_of_R ho0
 rcases hown.2 with ⟨_, h0⟩ | ⟨g, cap, cur, rfl, hbg, hg, hnc, hcm, hcs, htk⟩
 ·omega
 have hP : P0_ g := ho0.1 g rfl
 have htk' : cur.toList.take l0.length = l0.map (Value.int .i64) := by simpa [Nat.mul_one, encs] using htk
 have hlr : (l0.take i ++ l0.drop j).length = l0.length - (j - i) := by simp; omega
 refine (Try.slices_Delete_int g 0 cap i j l0 w (Go.holds_of_blockI hg htk') hnc hcm (by omega) (by omega)).mono ?_
 rintro e w' ⟨rfl, n, rfl⟩
 generalize hts : l0.take i ++ l0.drop j ++ List.replicate (j - i) (0 : Int) = ts
 have hlt : ts.length = l0.length := by rw [← hts, List.length_append, hlr]; simp; omega
 have hgw : Go.Sort.grow (Go.Sort.putRow (Value.int .i64) (Go.Sort.ahead w n) g 0 ts.toArray) #[] = Go.Sort.putRow (Value.int .i64) (Go.Sort.ahead w n) g 0 ts.toArray := Go.Sort.grow_empty _
 have hgr := Go.grownBy_sortedI (w := w) (g := g) (n := n) (os := #[]) ts.toArray
 have hhp := Go.heap_sortedI (w := w) (g := g) (n := n) (os := #[]) ts.toArray hg
 rw [hgw] at hgr hhp
 have htk2 := Go.take_putCellsI cur ts (by rw [hlt, hcs]; omega)
 have hso : (Go.Sort.putRow (Value.int .i64) (Go.Sort.ahead w n) g 0 ts.toArray).ownsRow w0.heap.size 3 1 (.slice (some ⟨g, 0, none⟩) (l0.take i ++ l0.drop j).length cap) (l0.take i ++ l0.drop j).length ((l0.take i ++ l0.drop j).map (Value.int .i64)) := by
  refine ⟨by simp, .inr ⟨g, cap, _, rfl, hbg, hhp, by rw [hlr]; omega, hcm, by simp [Go.Sort.putCells, hcs], ?_⟩⟩
  rw [Nat.mul_one]
  have h1 := congrArg (List.take (l0.take i ++ l0.drop j).length) htk2
  rw [List.take_take, Nat.min_eq_left (by rw [hlr, hlt]; omega), ← List.map_take, ← hts, List.take_left] at h1
  rw [hts] at h1
  exact h1
 refine ⟨_, rfl, ?_, hB.grown hgr hB.size (fun k hk => ?_), hgr.size, fun q hq hn => hgr.block q hq (fun e => ?_)⟩
 ·rw [← hlr]
  exact Kd.R_of_own hso (fun k hk => by left; cases hk; exact hP)
 ·cases hk; exact hbg
 ·cases e; exact hn hP

end Go.Proofs.Ytociaidhgefpiaa.P
