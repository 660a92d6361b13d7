/- Words of the walks: lemmas about memory, cut down to what this proof uses. No condition. -/
import Derived.Test.YtccndffoljjadaaKAbiTextsMd1
import Derived.Test.YtccndffoljjadaaKAbiTextsPx3
import Derived.Laws.RangeString
import Derived.Laws.RangeAny
import Derived.LoopTactic
import Derived.FnLit
namespace Go.Proofs.Ytccndffoljjadaa.P
open Go.RowKit Go.Proofs.YtccndffoljjadaaW.PrintWords Go.Proofs.YtccndffoljjadaaW.PrintLast
set_option linter.unusedVariables false
set_option linter.unusedSimpArgs false
/-- Is one of the runes from a place on 0? -/
def zr (s : ByteArray) : Nat → Nat → Bool
  | 0, _ => false
  | k + 1, pos => if pos < s.size then (if (Utf8.decode s pos).1 = 0 then true else zr s k (pos + (Utf8.decode s pos).2)) else false
def abi_text.f (s : ByteArray) : Bool := if zr s s.size 0 then false else decide ((s.size : Int) ≤ 200)
theorem width_pos (s : ByteArray) (pos : Nat) (h : pos < s.size) : 1 ≤ (Utf8.decode s pos).2 := by
  by_cases ha : (s[pos]'h).toNat < 128
  · rw [decode_ascii s pos h ha]
    exact Nat.le_refl _
  · exact (decode_high s pos h (by omega)).2
theorem zr_end (s : ByteArray) (b pos : Nat) (h : ¬ pos < s.size) : zr s b pos = false := by
  cases b with
  | zero => rfl
  | succ b => simp [zr, h]
set_option maxHeartbeats 1000000 in
set_option maxRecDepth 100000 in
theorem abi_text.calls (s : ByteArray) (w : World) : Calls Try.prog 54 #[.string s] w fun e w' => e = .returned (.bool (abi_text.f s)) ∧ Below w.heap.size w w' := by
  go_enter Try.func54, Try.ntmps54
  go_wp2
  go_loopw [4] (fun _ w' => ∃ (pos b : Nat), w' = w.iter s pos ∧ Aside0 (zr s b pos = zr s s.size 0) ∧ s.size ≤ pos + b) (fun _ w' => s.size - w'.iterPos w.heap.size)
  case atStart => exact ⟨0, s.size, rfl, ⟨rfl⟩, by omega⟩
  case round =>
    obtain ⟨pos, b, rfl, HC, hb⟩ := hrel
    by_cases hp : pos < s.size
    · have hnx : ∀ ty, (Instr.next (.pointer (some ⟨w.heap.size, 0, none⟩)) true ty).run Try.prog (w.iter s pos) = _ := fun ty => run_next_any w s pos ty hp
      have hwd := width_pos s pos hp
      cases b with
      | zero => omega
      | succ b =>
        by_cases c0 : (Utf8.decode s pos).1 = 0
        · have E : abi_text.f s = false := by
            unfold abi_text.f
            rw [← HC.out]
            simp [zr, hp, c0]
          have HE := Aside0.mk E
          clear E
          rw [c0] at hnx
          go_wp2
          go_ret
          rw [HE.out]
          exact ⟨rfl, Below.alloc (Below.refl _ _) (Nat.le_refl _) _⟩
        · have HC2 := Aside0.mk (show zr s b (pos + (Utf8.decode s pos).2) = zr s s.size 0 by
            rw [← HC.out]; simp [zr, hp, c0])
          have c1 : ((((Utf8.decode s pos).1 : Nat) : Int) == 0) = false := by simp; omega
          clear HC
          generalize hd : (Utf8.decode s pos).1 = r at *
          go_wp2
          exact ⟨⟨_, b, rfl, HC2, by omega⟩, by simp; omega⟩
    · have hnx : ∀ ty, (Instr.next (.pointer (some ⟨w.heap.size, 0, none⟩)) true ty).run Try.prog (w.iter s pos) = _ := fun ty => run_next_end w s pos ty hp
      have hz : zr s s.size 0 = false := by rw [← HC.out]; exact zr_end s b pos hp
      have E : abi_text.f s = decide ((s.size : Int) ≤ 200) := by unfold abi_text.f; rw [hz]; rfl
      have HE := Aside0.mk E
      clear E hz HC
      go_wp2
      go_ret
      rw [HE.out]
      exact ⟨rfl, Below.alloc (Below.refl _ _) (Nat.le_refl _) _⟩
set_option maxHeartbeats 1000000 in
set_option maxRecDepth 100000 in
theorem abi_right_1.calls (s : ByteArray) (w : World) : Calls Try.prog 53 #[.string s] w fun e w' => e = .returned (.bool (!abi_text.f s)) ∧ Below w.heap.size w w' := by
  have A := Aside0.mk (abi_text.calls s w)
  go_enter Try.func53, Try.ntmps53
  go_wp2_with (first | (go_at_call 54; refine A.out.mono ?_; rintro e w' ⟨rfl, hb⟩; have HB := Aside0.mk hb; clear hb) | fail)
  go_ret
  exact ⟨rfl, HB.out⟩
end Go.Proofs.Ytccndffoljjadaa.P
