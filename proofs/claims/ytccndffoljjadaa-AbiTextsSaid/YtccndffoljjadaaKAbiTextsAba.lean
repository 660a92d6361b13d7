/- Words of the walks: lemmas about memory, cut down to what this proof uses. No condition. -/
import Derived.Test.YtccndffoljjadaaKAbiTextsAb9
import Derived.KernelRfl
namespace Go.Proofs.Ytccndffoljjadaa.P
open Go.RowKit Go.Proofs.YtccndffoljjadaaW.PrintWords Go.Proofs.YtccndffoljjadaaW.PrintLast
set_option linter.unusedVariables false
set_option linter.unusedSimpArgs false
def abS : ByteArray := ⟨#[97, 98]⟩
theorem need_ab : abi_Need.g [abS] [] [] = 160 := by kernel_rfl
theorem build_ab0 : ((buildF ⟨4, []⟩ 4 1 [abS] [] []).s0, (buildF ⟨4, []⟩ 4 1 [abS] [] []).s1, (buildF ⟨4, []⟩ 4 1 [abS] [] []).s2, (buildF ⟨4, []⟩ 4 1 [abS] [] []).s3, (buildF ⟨4, []⟩ 4 1 [abS] [] []).e) = (⟨1184, 1280, 1280, 27, -1, true⟩, ⟨1056, 1088, 1056, 9, -1, true⟩, ⟨1120, 1120, 1120, 9, -1, true⟩, ⟨1152, 1152, 1152, 9, -1, true⟩, 0) := by kernel_rfl
theorem bytes_ab : tagmem_Mem_Bytes.f (buildF ⟨4, []⟩ 4 1 [abS] [] []).m 1024 3 = [97, 98, 0] := by kernel_rfl
theorem cap_ab : tagmem_Mem_LoadCap.f 20 (buildF ⟨4, []⟩ 4 1 [abS] [] []).m 1056 = some (1024, 1027, 1024, 1, -1, true, 0) := by kernel_rfl
theorem build_ab : ∃ mm, buildF ⟨4, []⟩ 4 1 [abS] [] [] = ⟨mm, ⟨1184, 1280, 1280, 27, -1, true⟩, ⟨1056, 1088, 1056, 9, -1, true⟩, ⟨1120, 1120, 1120, 9, -1, true⟩, ⟨1152, 1152, 1152, 9, -1, true⟩, 0⟩ ∧ tagmem_Mem_Bytes.f mm 1024 3 = [97, 98, 0] ∧ tagmem_Mem_LoadCap.f 20 mm 1056 = some (1024, 1027, 1024, 1, -1, true, 0) := by
  have h := build_ab0
  have h1 := bytes_ab
  have h2 := cap_ab
  generalize buildF ⟨4, []⟩ 4 1 [abS] [] [] = B at h h1 h2
  obtain ⟨mm, a, b, c, d, e⟩ := B
  simp only [Prod.mk.injEq] at h
  obtain ⟨rfl, rfl, rfl, rfl, rfl⟩ := h
  exact ⟨mm, rfl, h1, h2⟩
end Go.Proofs.Ytccndffoljjadaa.P
