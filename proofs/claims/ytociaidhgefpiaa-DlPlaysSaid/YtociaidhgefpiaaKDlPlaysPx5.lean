/- What functions of the program, and of its laws, give, each proved of its code by a walk; no condition. -/
import Derived.Test.YtociaidhgefpiaaKDlPlaysPx0
import Derived.Test.YtociaidhgefpiaaKDlPlaysShelf
import Derived.Sort.OwnSortedInts
import Derived.Test.YtociaidhgefpiaaKDlPlaysSq
import Derived.Test.YtociaidhgefpiaaKDlPlaysUsh
namespace Go.Proofs.Ytociaidhgefpiaa.P
open Go.RowKit Go.Proofs.YtociaidhgefpiaaW.PrintWords Go.Proofs.YtociaidhgefpiaaW.PrintLast Go.Proofs.YtociaidhgefpiaaW.PrintMore
attribute [local go_sem] max2_int min2_int max_two min_two max_three min_three max_four min_four   -- for this text's walks alone
set_option linter.unusedVariables false
set_option linter.unusedSimpArgs false

def ins (x : Int) : List Int → List Int
  | [] => [x]
  | y :: l => if x ≤ y then x :: y :: l else y :: ins x l
def sorted : List Int → List Int
  | [] => []
  | x :: l => ins x (sorted l)
theorem ins_perm (x : Int) : ∀ l, (ins x l).Perm (x :: l)
  | [] => List.Perm.refl _
  | y :: l => by
    unfold ins
    split
    · exact List.Perm.refl _
    · exact ((ins_perm x l).cons y).trans (List.Perm.swap x y l)
theorem sorted_perm : ∀ l, (sorted l).Perm l
  | [] => List.Perm.refl _
  | x :: l => (ins_perm x (sorted l)).trans ((sorted_perm l).cons x)
theorem ins_up (x : Int) : ∀ l : List Int, l.Pairwise (· ≤ ·) → (ins x l).Pairwise (· ≤ ·)
  | [], _ => by simp [ins]
  | y :: l, h => by
    have h' := List.pairwise_cons.1 h
    unfold ins
    split
    · rename_i hxy
      exact List.pairwise_cons.2 ⟨fun z hz => by
        rcases List.mem_cons.1 hz with e | e
        · omega
        · have := h'.1 z e; omega, h⟩
    · rename_i hxy
      exact List.pairwise_cons.2 ⟨fun z hz => by
        rcases List.mem_cons.1 ((ins_perm x l).mem_iff.1 hz) with e | e
        · omega
        · exact h'.1 z e, ins_up x l h'.2⟩
theorem sorted_up : ∀ l, (sorted l).Pairwise (· ≤ ·)
  | [] => List.Pairwise.nil
  | x :: l => ins_up x _ (sorted_up l)
theorem up_unique : ∀ {a b : List Int}, a.Perm b → a.Pairwise (· ≤ ·) → b.Pairwise (· ≤ ·) → a = b
  | [], b, h, _, _ => by have := h.length_eq; cases b with | nil => rfl | cons y b => simp at this
  | x :: a, b, h, ha, hb => by
    cases b with
    | nil => have := h.length_eq; simp at this
    | cons y b =>
      have ha' := List.pairwise_cons.1 ha
      have hb' := List.pairwise_cons.1 hb
      have hxy : x = y := by
        rcases List.mem_cons.1 (h.mem_iff.1 (List.mem_cons_self : x ∈ x :: a)) with e | e
        · exact e
        · rcases List.mem_cons.1 (h.mem_iff.2 (List.mem_cons_self : y ∈ y :: b)) with e' | e'
          · exact e'.symm
          · have h1 := ha'.1 y e'; have h2 := hb'.1 x e; omega
      subst hxy
      rw [up_unique (List.Perm.cons_inv h) ha'.2 hb'.2]
theorem sorted_eq (l : List Int) : (l.mergeSort fun x y => decide (x ≤ y)) = sorted l := by
  have h1 : (l.mergeSort fun x y => decide (x ≤ y)).Pairwise (fun a b => decide (a ≤ b) = true) := List.pairwise_mergeSort (fun a b c h1 h2 => by simp at *; omega) (fun a b => by simp; omega) l
  exact up_unique ((List.mergeSort_perm l _).trans (sorted_perm l).symm) (h1.imp fun h => of_decide_eq_true h) (sorted_up l)
def slices_Sort_int_int.f (k : Nat) (l0 : List Int) : Option (List Int) := if 0 < l0.length ∧ l0.length < 4611686018427387904 then some (sorted l0) else none
theorem slices_Sort_int_int.mono : ∀ a0 k, LeO (slices_Sort_int_int.f k a0) (slices_Sort_int_int.f (k + 1) a0) := fun _ _ => LeO.refl _
theorem slices_Sort_int_int.calls (k : Nat) (P0_ : Nat → Prop) (u9000_ : Value) (l0 : List Int) (r : List Int) (w0 w : World) (hB : Below w0.heap.size w0 w) (ho0 : Kd.R (Kd.int .i64) 3 w w0.heap.size P0_ u9000_ l0) (h : slices_Sort_int_int.f k l0 = some r) :
  Calls Try.prog 48 #[u9000_] w fun e w' => e = .returned (.tuple #[]) ∧ Kd.R (Kd.int .i64) 3 w' w0.heap.size (fun k_ => (P0_ k_ ∨ w.heap.size ≤ k_)) u9000_ r ∧ Below w0.heap.size w0 w' ∧ Kept w w' (fun k_ => P0_ k_) := by
 unfold slices_Sort_int_int.f at h
 by_cases hl : 0 < l0.length ∧ l0.length < 4611686018427387904
 case neg => rw [if_neg hl] at h; cases h
 rw [if_pos hl] at h
 obtain rfl := Option.some.inj h
 have hown := Kd.own_of_R ho0
 rcases hown.2 with ⟨_, h0⟩ | ⟨g, cap, cur, rfl, hbg, hg, hnc, hcm, hcs, htk⟩
 ·omega
 have hP : P0_ g := ho0.1 g rfl
 have htk' : cur.toList.take l0.length = l0.map (Value.int .i64) := by simpa [Nat.mul_one, encs] using htk
 have hlt := blk_lt hg
 have hsl : (sorted l0).length = l0.length := (sorted_perm l0).length_eq
 refine (Try.slices_Sort_int g 0 cap l0 w (Go.holds_of_blockI hg htk') hlt hl.2).mono ?_
 rintro e w' ⟨rfl, n, os, rfl⟩
 rw [sorted_eq]
 have hgr := Go.grownBy_sortedI (w := w) (g := g) (n := n) (os := os) (sorted l0).toArray
 have hso := Go.ownsRow_sortedI (n := n) (os := os) hsl hbg hg hnc hcm hcs
 refine ⟨rfl, Kd.R_of_own (by rw [hsl]; exact hso) (fun k hk => ?_), hB.grown hgr hB.size (fun k hk => ?_), hgr.size, fun i hi hn => hgr.block i hi (fun e => ?_)⟩
 ·left; cases hk; exact hP
 ·cases hk; exact hbg
 ·cases e; exact hn hP

end Go.Proofs.Ytociaidhgefpiaa.P
