/- Texts of one proof, one behind the other. No condition. -/
import Derived.Test.YtccndffoljjadaaKAbiTextsAbb
import Derived.Test.YtccndffoljjadaaKAbiTextsPx12
import Derived.Test.YtccndffoljjadaaKAbiTextsAl0
import Derived.Test.YtccndffoljjadaaKAbiTextsAb9
import Derived.Test.YtccndffoljjadaaKAbiTextsMc6
import Derived.Test.YtccndffoljjadaaKAbiTextsPx4
namespace Go.Proofs.Ytccndffoljjadaa.P
open Go.RowKit Go.Proofs.YtccndffoljjadaaW.PrintWords Go.Proofs.YtccndffoljjadaaW.PrintLast
set_option linter.unusedVariables false
set_option linter.unusedSimpArgs false
theorem any_false {α : Type} {p : α → Bool} {l : List α} (h : (!l.any p) = true) {x : α} (hx : x ∈ l) : p x = false := by
  rw [Bool.not_eq_true'] at h
  have := List.any_eq_false.1 h x hx
  simpa using this
theorem right_small {y0 y1 : List ByteArray} {y2 : List S30} (h : abi_right.f y0 y1 y2 = true) : (∀ s ∈ y0, s.size ≤ 200) ∧ (∀ s ∈ y1, s.size ≤ 200) := by
  unfold abi_right.f at h
  simp only [Bool.and_eq_true] at h
  obtain ⟨⟨⟨⟨⟨_, _⟩, _⟩, h0⟩, h1⟩, _⟩ := h
  have key : ∀ s, badS s = false → s.size ≤ 200 := fun s hs => by
    unfold badS abi_text.f at hs
    rw [Bool.not_eq_false'] at hs
    split at hs
    · cases hs
    · have := of_decide_eq_true hs; omega
  exact ⟨fun s hs => key s (any_false h0 hs), fun s hs => key s (any_false h1 hs)⟩
def roomF (y0 y1 : List ByteArray) (y2 : Int) (need : Int) (pg : Int) : Option Bool :=
  if y0.length ≤ 8 ∧ y1.length ≤ 8 ∧ 0 ≤ need ∧ need ≤ 100000 then
    if 200 < pg + y2 then some true else if (buildF ⟨200, []⟩ 9 (pg + y2) y0 y1 []).e = 0 ∧ (buildF ⟨200, []⟩ 9 (pg - 1) y0 y1 []).e = 190 then some true else some false
  else none
def curtilagelaw19_AbiRoom.f (k : Nat) (y0 y1 : List ByteArray) (y2 : Int) : Option Bool :=
  (curtilageref19_Right.f k y0 y1 []).bind fun rt => if rt = false then some true else if y2 < 0 then some true else if 50 < y2 then some true else roomF y0 y1 y2 (abi_Need.g y0 y1 []) (Int.tdiv (abi_Need.g y0 y1 [] + 64 + 255) 256)
theorem upd_none {w W : World} {gm B : Nat} (hu : Upd w W (MS [] gm)) {w0 : World} (hb : Below w0.heap.size w0 w) (hg : w0.heap.size ≤ gm) : Below w0.heap.size w0 W :=
  hu.below hb hb.size (fun k hk => by rcases hk with hk | hk; rw [hk]; exact hg; simp [inL] at hk)
end Go.Proofs.Ytccndffoljjadaa.P

namespace Go.Proofs.Ytccndffoljjadaa.P
open Go.RowKit Go.Proofs.YtccndffoljjadaaW.PrintWords Go.Proofs.YtccndffoljjadaaW.PrintLast
set_option linter.unusedVariables false
set_option linter.unusedSimpArgs false
theorem MemL.none {w : World} {g gm : Nat} {L : List Lp} {clock : Nat} {b : Int} (h : MemL w g gm L clock ⟨b, []⟩) : L = [] := by
  have := h.pgs
  simpa using this.symm
end Go.Proofs.Ytccndffoljjadaa.P
