/- What functions of the program, and of its laws, give, each proved of its code by a walk; no condition. -/
import Derived.Test.YtdgmkmjmddjcfaaKLookupTwicePx0
import Derived.Test.YtdgmkmjmddjcfaaKLookupTwiceShelf
import Derived.Sort.OwnSorted
namespace Go.Proofs.Ytdgmkmjmddjcfaa.P
open Go.RowKit Go.Proofs.YtdgmkmjmddjcfaaW.PrintWords Go.Proofs.YtdgmkmjmddjcfaaW.PrintLast Go.Proofs.YtdgmkmjmddjcfaaW.PrintMore
attribute [local go_sem] max2_int min2_int max_two min_two max_three min_three max_four min_four   -- for this text's walks alone
set_option linter.unusedVariables false
set_option linter.unusedSimpArgs false

def bsOf (s : ByteArray) : List UInt8 := s.data.toList
def ofBs (l : List UInt8) : ByteArray := ⟨l.toArray⟩
theorem encStr_bs (l : List ByteArray) : (l.map bsOf).map encStr = l.map Value.string := by
  rw [List.map_map]
  exact List.map_congr_left fun s _ => by cases s; rfl
theorem encStr_of (l : List (List UInt8)) : (l.map ofBs).map Value.string = l.map encStr := by
  rw [List.map_map]
  exact List.map_congr_left fun s _ => rfl
def sortedS (l : List ByteArray) : List ByteArray := ((l.map bsOf).mergeSort fun x y => decide (x ≤ y)).map ofBs
def slices_Sort_string_string.f (l0 : List ByteArray) : Option (List ByteArray) := if l0.length < 4611686018427387904 then some (sortedS l0) else none
theorem slices_Sort_string_string.calls (P0_ : Nat → Prop) (u9000_ : Value) (l0 : List ByteArray) (r : List ByteArray) (w0 w : World) (hB : Below w0.heap.size w0 w) (ho0 : Kd.R Kd.string 9 w w0.heap.size P0_ u9000_ l0) (h : slices_Sort_string_string.f l0 = some r) :
    Calls Try.prog 25 #[u9000_] w fun e w' => e = .returned (.tuple #[]) ∧ Kd.R Kd.string 9 w' w0.heap.size (fun k_ => (P0_ k_ ∨ w.heap.size ≤ k_)) u9000_ r ∧ Below w0.heap.size w0 w' ∧ Kept w w' (fun k_ => P0_ k_) := by
  unfold slices_Sort_string_string.f at h
  by_cases hl : l0.length < 4611686018427387904
  case neg => rw [if_neg hl] at h; cases h
  rw [if_pos hl] at h
  obtain rfl := Option.some.inj h
  have hown := Kd.own_of_R ho0
  rcases hown.2 with ⟨rfl, h0⟩ | ⟨g, cap, cur, rfl, hbg, hg, hnc, hcm, hcs, htk⟩
  · have e0 : l0 = [] := by first | exact List.length_eq_zero_iff.1 (by simpa [encs] using h0) | exact List.map_eq_nil_iff.1 (by simpa [encs] using h0)
    subst e0
    refine (Try.slices_Sort_string_none none 0 w).mono ?_
    rintro e w' ⟨rfl, rfl⟩
    exact ⟨rfl, by rw [show sortedS [] = [] by simp [sortedS]]; exact Kd.R_nil _ _ _ _ _, hB, Nat.le_refl _, fun _ _ _ => rfl⟩
  have hP : P0_ g := ho0.1 g rfl
  have htk' : cur.toList.take (l0.map bsOf).length = (l0.map bsOf).map encStr := by rw [encStr_bs]; simpa [Nat.mul_one, encs] using htk
  have hlt := blk_lt hg
  have hc := Try.slices_Sort_string g 0 cap (l0.map bsOf) w (Go.holds_of_block hg htk') hlt (by simpa using hl)
  rw [List.length_map] at hc
  refine hc.mono ?_
  rintro e w' ⟨rfl, n, os, rfl⟩
  generalize hts : ((l0.map bsOf).mergeSort fun x y => decide (x ≤ y)) = ts
  have hsl : ts.length = (l0.map bsOf).length := by rw [← hts]; exact List.length_mergeSort _
  have hsl' : ts.length = l0.length := by rw [hsl, List.length_map]
  have hgr := Go.grownBy_sorted (w := w) (g := g) (n := n) (os := os) ts.toArray
  have hso := Go.ownsRow_sorted (n := n) (os := os) hsl hbg hg (by rw [List.length_map]; exact hnc) hcm hcs
  have hes : sortedS l0 = ts.map ofBs := by unfold sortedS; rw [hts]
  rw [hes]
  refine ⟨rfl, Kd.R_of_own (by rw [List.length_map, show encs Value.string (ts.map ofBs) = ts.map encStr from encStr_of ts]; rw [List.length_map] at hso; rw [hsl']; exact hso) (fun k hk => ?_), hB.grown hgr hB.size (fun k hk => ?_), hgr.size, fun i hi hn => hgr.block i hi (fun e => ?_)⟩
  · left; cases hk; exact hP
  · cases hk; exact hbg
  · cases e; exact hn hP

end Go.Proofs.Ytdgmkmjmddjcfaa.P
