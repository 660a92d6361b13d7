/- What functions of the program, and of its laws, give, each proved of its code by a walk; no condition. -/
import Derived.Test.YtndmfjdoekdleaaKGraphAllPx0
import Derived.Test.YtndmfjdoekdleaaKGraphAllShelf
import Derived.Sort.OwnSortedInts
namespace Go.Proofs.Ytndmfjdoekdleaa.P
open Go.RowKit Go.Proofs.YtndmfjdoekdleaaW.PrintWords Go.Proofs.YtndmfjdoekdleaaW.PrintLast Go.Proofs.YtndmfjdoekdleaaW.PrintMore
attribute [local go_sem] max2_int min2_int max_two min_two max_three min_three max_four min_four   -- for this text's walks alone
set_option linter.unusedVariables false
set_option linter.unusedSimpArgs false

def sorted (l : List Int) : List Int := l.mergeSort fun x y => decide (x ≤ y)
def slices_Sort_int_int.f (k : Nat) (l0 : List Int) : Option (List Int) := if 0 < l0.length ∧ l0.length < 4611686018427387904 then some (sorted l0) else none
theorem slices_Sort_int_int.mono : ∀ a0 k, LeO (slices_Sort_int_int.f k a0) (slices_Sort_int_int.f (k + 1) a0) := fun _ _ => LeO.refl _
theorem slices_Sort_int_int.calls (k : Nat) (P0_ : Nat → Prop) (u9000_ : Value) (l0 : List Int) (r : List Int) (w0 w : World) (hB : Below w0.heap.size w0 w) (ho0 : Kd.R (Kd.int .i64) 3 w w0.heap.size P0_ u9000_ l0) (h : slices_Sort_int_int.f k l0 = some r) :
    Calls Try.prog 28 #[u9000_] w fun e w' => e = .returned (.tuple #[]) ∧ Kd.R (Kd.int .i64) 3 w' w0.heap.size (fun k_ => (P0_ k_ ∨ w.heap.size ≤ k_)) u9000_ r ∧ Below w0.heap.size w0 w' ∧ Kept w w' (fun k_ => P0_ k_) := by
  unfold slices_Sort_int_int.f at h
  by_cases hl : 0 < l0.length ∧ l0.length < 4611686018427387904
  case neg => rw [if_neg hl] at h; cases h
  rw [if_pos hl] at h
  obtain rfl := Option.some.inj h
  have hown := Kd.own_of_R ho0
  rcases hown.2 with ⟨_, h0⟩ | ⟨g, cap, cur, rfl, hbg, hg, hnc, hcm, hcs, htk⟩
  · omega
  have hP : P0_ g := ho0.1 g rfl
  have htk' : cur.toList.take l0.length = l0.map (Value.int .i64) := by simpa [Nat.mul_one, encs] using htk
  have hlt := blk_lt hg
  have hsl : (sorted l0).length = l0.length := by unfold sorted; exact List.length_mergeSort _
  refine (Try.slices_Sort_int g 0 cap l0 w (Go.holds_of_blockI hg htk') hlt hl.2).mono ?_
  rintro e w' ⟨rfl, n, os, rfl⟩
  have hgr := Go.grownBy_sortedI (w := w) (g := g) (n := n) (os := os) (sorted l0).toArray
  have hso := Go.ownsRow_sortedI (n := n) (os := os) hsl hbg hg hnc hcm hcs
  refine ⟨rfl, Kd.R_of_own (by rw [hsl]; exact hso) (fun k hk => ?_), hB.grown hgr hB.size (fun k hk => ?_), hgr.size, fun i hi hn => hgr.block i hi (fun e => ?_)⟩
  · left; cases hk; exact hP
  · cases hk; exact hbg
  · cases e; exact hn hP

end Go.Proofs.Ytndmfjdoekdleaa.P
