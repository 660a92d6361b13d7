/- What functions of the program, and of its laws, give, each proved of its code by a walk; no condition. -/
import Derived.Test.YtdgmkmjmddjcfaaKLookupTwicePx0
import Derived.Test.YtdgmkmjmddjcfaaKLookupTwicePx1
import Derived.Test.YtdgmkmjmddjcfaaKLookupTwiceShelf
import Derived.Sort.OwnSorted
import Derived.Lib.RowBridge
namespace Go.Proofs.Ytdgmkmjmddjcfaa.P
open Go.RowKit Go.Proofs.YtdgmkmjmddjcfaaW.PrintWords Go.Proofs.YtdgmkmjmddjcfaaW.PrintLast Go.Proofs.YtdgmkmjmddjcfaaW.PrintMore
attribute [local go_sem] max2_int min2_int max_two min_two max_three min_three max_four min_four   -- for this text's walks alone
set_option linter.unusedVariables false
set_option linter.unusedSimpArgs false

def compactS (l : List ByteArray) : List ByteArray := (Go.Lib.compact (l.map bsOf)).map ofBs
def slices_Compact_string_string.f (l0 : List ByteArray) : Option (List ByteArray) := some (compactS l0)
theorem slices_Compact_string_string.calls (P0_ : Nat → Prop) (u9000_ : Value) (l0 : List ByteArray) (r : List ByteArray) (w0 w : World) (hB : Below w0.heap.size w0 w) (ho0 : Kd.R Kd.string 9 w w0.heap.size P0_ u9000_ l0) (h : slices_Compact_string_string.f l0 = some r) :
    Calls Try.prog 26 #[u9000_] w fun e w' => ∃ v0_ : Value, e = .returned (v0_) ∧ Kd.R Kd.string 9 w' w0.heap.size (fun k_ => (P0_ k_ ∨ w.heap.size ≤ k_)) v0_ r ∧ Below w0.heap.size w0 w' ∧ Kept w w' (fun k_ => P0_ k_) := by
  obtain rfl := Option.some.inj h
  have hown := Kd.own_of_R ho0
  rcases hown.2 with ⟨rfl, h0⟩ | ⟨g, cap, cur, rfl, hbg, hg, hnc, hcm, hcs, htk⟩
  · have e0 : l0 = [] := by first | exact List.length_eq_zero_iff.1 (by simpa [encs] using h0) | exact List.map_eq_nil_iff.1 (by simpa [encs] using h0)
    subst e0
    refine (Try.slices_Compact_string_empty none 0 w).mono ?_
    rintro e w' ⟨rfl, rfl⟩
    exact ⟨_, rfl, Kd.R_nil _ _ _ _ _, hB, Nat.le_refl _, fun _ _ _ => rfl⟩
  have hP : P0_ g := ho0.1 g rfl
  have htk' : cur.toList.take (l0.map bsOf).length = (l0.map bsOf).map encStr := by rw [encStr_bs]; simpa [Nat.mul_one, encs] using htk
  have hlt := blk_lt hg
  have hc := Try.slices_Compact_string g 0 cap (l0.map bsOf) w (Go.holds_of_block hg htk') (by rw [List.length_map]; have h9 := hcm; simp only [maxLen] at h9; omega) (by rw [List.length_map]; omega)
  rw [List.length_map] at hc
  refine hc.mono ?_
  rintro e w' ⟨rfl, n, rfl⟩
  generalize hcs' : Go.Lib.compact (l0.map bsOf) = cs
  have hcl : cs.length ≤ l0.length := by rw [← hcs']; have := Go.Lib.compact_length_le (l0.map bsOf); simpa using this
  generalize hts : cs ++ List.replicate (l0.length - cs.length) ([] : List UInt8) = ts
  have htl : ts.length = l0.length := by rw [← hts, List.length_append, List.length_replicate]; omega
  have hgw : Go.Sort.grow (Go.Sort.putRow encStr (Go.Sort.ahead w n) g 0 ts.toArray) #[] = Go.Sort.putRow encStr (Go.Sort.ahead w n) g 0 ts.toArray := Go.Sort.grow_empty _
  have hgr := Go.grownBy_sorted (w := w) (g := g) (n := n) (os := #[]) ts.toArray
  have hhp := Go.heap_sorted (w := w) (g := g) (n := n) (os := #[]) ts.toArray hg
  rw [hgw] at hgr hhp
  have htk2 := Go.take_putCells cur ts (by rw [htl, hcs]; omega)
  have hso : (Go.Sort.putRow encStr (Go.Sort.ahead w n) g 0 ts.toArray).ownsRow w0.heap.size 9 1 (.slice (some ⟨g, 0, none⟩) cs.length cap) cs.length (cs.map encStr) := by
    refine ⟨by simp, .inr ⟨g, cap, _, rfl, hbg, hhp, by omega, hcm, by simp [Go.Sort.putCells, hcs], ?_⟩⟩
    rw [Nat.mul_one]
    have h1 := congrArg (List.take cs.length) htk2
    rw [List.take_take, Nat.min_eq_left (by rw [htl]; exact hcl), ← List.map_take, ← hts, List.take_left] at h1
    rw [hts] at h1
    exact h1
  have hes : compactS l0 = cs.map ofBs := by unfold compactS; rw [hcs']
  rw [hes]
  refine ⟨_, rfl, ?_, hB.grown hgr hB.size (fun k hk => ?_), hgr.size, fun q hq hn => hgr.block q hq (fun e => ?_)⟩
  · rw [show (cs.length) = (cs.map ofBs).length by simp] at hso ⊢
    exact Kd.R_of_own (by rw [show encs Value.string (cs.map ofBs) = cs.map encStr from encStr_of cs]; exact hso) (fun k hk => by left; cases hk; exact hP)
  · cases hk; exact hbg
  · cases e; exact hn hP

end Go.Proofs.Ytdgmkmjmddjcfaa.P
