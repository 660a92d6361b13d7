/- Texts of one proof, one behind the other. No condition. -/
import Derived.Test.YtkppgepljjgjhaaKTagmemSparedRb2
import Derived.Test.YtkppgepljjgjhaaKTagmemSparedOpen
import Derived.Test.YtkppgepljjgjhaaKTagmemSparedRd5
import Derived.Test.YtkppgepljjgjhaaKTagmemSparedRe1
import Derived.DataShut
namespace Go.Proofs.Ytkppgepljjgjhaa.P
open Go.RowKit Go.Proofs.YtkppgepljjgjhaaW.PrintWords Go.Proofs.YtkppgepljjgjhaaW.PrintLast Go.Proofs.YtkppgepljjgjhaaW.PrintMore Go.Proofs.YtkppgepljjgjhaaW.Open
set_option linter.unusedVariables false
set_option linter.unusedSimpArgs false
def ok41 (x : S41) : Prop := (Lit.int .u64 x.f0).wf = true ∧ (Lit.int .u64 x.f1).wf = true ∧ (Lit.int .u64 x.f2).wf = true ∧ (Lit.int .i64 x.f3).wf = true ∧ (Lit.int .i64 x.f4).wf = true ∧ True
theorem opens41 : Opens Try.prog 41 k41 ok41 := (Opens.struct (f := fun x : S41 => (x.f0, x.f1, x.f2, x.f3, x.f4, x.f5)) (fun p => ⟨p.1, p.2.1, p.2.2.1, p.2.2.2.1, p.2.2.2.2.1, p.2.2.2.2.2⟩) (fun _ => rfl) Try.underlying41 (by kernel_rfl) (OpensF.cons 39 rfl rfl (by kernel_rfl) (Opens.int Try.underlying39) (OpensF.cons 39 rfl rfl (by kernel_rfl) (Opens.int Try.underlying39) (OpensF.cons 39 rfl rfl (by kernel_rfl) (Opens.int Try.underlying39) (OpensF.cons 3 rfl rfl (by kernel_rfl) (Opens.int Try.underlying3) (OpensF.cons 3 rfl rfl (by kernel_rfl) (Opens.int Try.underlying3) (OpensF.one 4 rfl rfl (by kernel_rfl) (Opens.bool Try.underlying4)))))))).imp (fun x h => h)
def ok53 (x : S53) : Prop := (Lit.int .i64 x.f0).wf = true ∧ (Lit.int .u64 x.f1).wf = true ∧ (Lit.int .i64 x.f2).wf = true ∧ (Lit.int .u64 x.f3).wf = true ∧ ok41 x.f4 ∧ (x.f5.length ≤ 9223372036854775807 ∧ x.f5.length * 1 ≤ 140737488351232 ∧ ∀ z ∈ x.f5, (Lit.int .u8 z).wf = true)
theorem opens53 : Opens Try.prog 53 k53 ok53 := (Opens.struct (f := fun x : S53 => (x.f0, x.f1, x.f2, x.f3, x.f4, x.f5)) (fun p => ⟨p.1, p.2.1, p.2.2.1, p.2.2.2.1, p.2.2.2.2.1, p.2.2.2.2.2⟩) (fun _ => rfl) Try.underlying53 (by kernel_rfl) (OpensF.cons 3 rfl rfl (by kernel_rfl) (Opens.int Try.underlying3) (OpensF.cons 39 rfl rfl (by kernel_rfl) (Opens.int Try.underlying39) (OpensF.cons 3 rfl rfl (by kernel_rfl) (Opens.int Try.underlying3) (OpensF.cons 39 rfl rfl (by kernel_rfl) (Opens.int Try.underlying39) (OpensF.cons 41 rfl rfl (by kernel_rfl) opens41 (OpensF.one 51 rfl rfl (by kernel_rfl) (Opens.slice 1 Try.underlying51 (by kernel_rfl) (by kernel_rfl) (Opens.int Try.underlying5))))))))).imp (fun x h => h)
end Go.Proofs.Ytkppgepljjgjhaa.P

namespace Go.Proofs.Ytkppgepljjgjhaa.P
open Go.RowKit Go.Proofs.YtkppgepljjgjhaaW.PrintWords Go.Proofs.YtkppgepljjgjhaaW.PrintLast Go.Proofs.YtkppgepljjgjhaaW.PrintMore Go.Proofs.YtkppgepljjgjhaaW.Open
set_option linter.unusedVariables false
set_option linter.unusedSimpArgs false
def curtilagelaw03_TagmemSpared.Pure : Prop := ∀ (y0 : Int) (y1 : List (S53)) (y2 : S53), (Lit.int .i64 y0).wf = true → (y1.length ≤ 9223372036854775807 ∧ y1.length * 104 ≤ 140737488351232 ∧ ∀ x ∈ y1, ok53 x) → ok53 y2 → (∀ x ∈ y1, OpOk2 x) ∧ (0 ≤ y2.f1 ∧ y2.f1 ≤ 18446744073709551615) ∧ ∀ M, madeP y0 y1 = some M → SparedHyp M y2.f1 y2.f2 y2.f3 y2.f4.f0 y2.f4.f1 y2.f4.f2 y2.f4.f3 y2.f4.f4 y2.f4.f5 y2.f5
end Go.Proofs.Ytkppgepljjgjhaa.P

namespace Go.Proofs.Ytkppgepljjgjhaa.Pure
open Go.RowKit Go.Proofs.Ytkppgepljjgjhaa.P Go.Proofs.YtkppgepljjgjhaaW.PrintWords Go.Proofs.YtkppgepljjgjhaaW.PrintLast
theorem u64_range {n : Int} (h : (Lit.int .u64 n).wf = true) : 0 ≤ n ∧ n ≤ 18446744073709551615 := by
  have := (Lit.wf_int_iff .u64 n).1 h
  simpa [IntKind.min, IntKind.max, IntKind.signed, IntKind.bits] using this
theorem u8_range {n : Int} (h : (Lit.int .u8 n).wf = true) : 0 ≤ n ∧ n < 256 := by
  have := (Lit.wf_int_iff .u8 n).1 h
  simp [IntKind.min, IntKind.max, IntKind.signed, IntKind.bits] at this
  omega
theorem op_ok {x : S53} (h : ok53 x) : OpOk2 x := by
  obtain ⟨h0, h1, h2, h3, ⟨c0, c1, c2, c3, c4, -⟩, -, -, h5⟩ := h
  exact ⟨⟨u64_range h1, u64_range h3, u64_range c0, u64_range c1, u64_range c2⟩, fun b hb => u8_range (h5 b hb)⟩
end Go.Proofs.Ytkppgepljjgjhaa.Pure

namespace Go.Proofs.Ytkppgepljjgjhaa.Pure
open Go.RowKit Go.Proofs.Ytkppgepljjgjhaa.P Go.Proofs.YtkppgepljjgjhaaW.PrintWords Go.Proofs.YtkppgepljjgjhaaW.PrintLast
theorem map_err (M : Mm) (p n : Int) : ∃ M1 q, tagmem_Mem_Map.f M p n = (M1, q) ∧ (q ≠ 0 → M1 = M) := by
  unfold tagmem_Mem_Map.f
  split
  · exact ⟨_, _, rfl, fun _ => rfl⟩
  · split
    · exact ⟨_, _, rfl, fun _ => rfl⟩
    · split
      · exact ⟨_, _, rfl, fun _ => rfl⟩
      · exact ⟨_, _, rfl, fun h => absurd rfl h⟩
theorem unmap_err (M : Mm) (p n : Int) : ∃ M1 q, tagmem_Mem_Unmap.f M p n = (M1, q) ∧ (q ≠ 0 → M1 = M) := by
  unfold tagmem_Mem_Unmap.f
  split
  · exact ⟨_, _, rfl, fun _ => rfl⟩
  · split
    · exact ⟨_, _, rfl, fun _ => rfl⟩
    · exact ⟨_, _, rfl, fun h => absurd rfl h⟩
theorem put_err (M : Mm) (a : Int) (l : List Int) : ∃ M1 q, tagmem_Mem_Put.f M a l = (M1, q) ∧ (q ≠ 0 → M1 = M) := by
  unfold tagmem_Mem_Put.f
  split
  · exact ⟨_, _, rfl, fun h => absurd rfl h⟩
  · exact ⟨_, _, rfl, fun _ => rfl⟩
theorem store_err' (M : Mm) (a n u : Int) (u0 : 0 ≤ u) (u1 : u ≤ 18446744073709551615) : ∃ M1 q, tagmem_Mem_Store.f 20 M a n u = some (M1, q) ∧ (q ≠ 0 → M1 = M) := by
  unfold tagmem_Mem_Store.f
  by_cases c1 : size_ok n
  · rw [if_pos c1]
    by_cases c2 : a % n = 0
    · rw [if_pos c2]
      cases hp : M.page (a / 256) with
      | none => exact ⟨_, _, rfl, fun _ => rfl⟩
      | some p =>
        have hn := sizes c1
        simp only
        rw [little_is u u0 u1 n hn, Option.bind_some]
        have hl := leb_part u hn
        have hfit : 0 < ((leb u).take n.toNat).length ∧ (a % 256).toNat + ((leb u).take n.toNat).length ≤ 256 := by
          rw [hl]; rcases hn with rfl | rfl | rfl | rfl <;> omega
        rw [if_pos hfit]
        exact ⟨_, _, rfl, fun h => absurd rfl h⟩
    · rw [if_neg c2]; exact ⟨_, _, rfl, fun _ => rfl⟩
  · rw [if_neg c1]; exact ⟨_, _, rfl, fun _ => rfl⟩
theorem storeCap_err' (M : Mm) (a c0 c1 c2 c3 c4 : Int) (c5 : Bool) : ∃ M1 q, tagmem_Mem_StoreCap.f 20 M a c0 c1 c2 c3 c4 c5 = some (M1, q) ∧ (q ≠ 0 → M1 = M) := by
  unfold tagmem_Mem_StoreCap.f
  by_cases c : a % 32 = 0
  · rw [if_pos c]
    cases hp : M.page (a / 256) with
    | none => exact ⟨_, _, rfl, fun _ => rfl⟩
    | some p =>
      simp only
      rw [little_eight, little_eight, little_eight, Option.bind_some, Option.bind_some, Option.bind_some, if_pos ⟨rfl, rfl, rfl⟩]
      exact ⟨_, _, rfl, fun h => absurd rfl h⟩
  · rw [if_neg c]; exact ⟨_, _, rfl, fun _ => rfl⟩
theorem TagmemSpared : curtilagelaw03_TagmemSpared.Pure := by
  intro y0 y1 y2 h0 h1 h2
  have hx : ∀ x ∈ y1, OpOk2 x := fun x hx => op_ok (h1.2.2 x hx)
  obtain ⟨-, q1, -, q3, -⟩ := h2
  exact ⟨hx, u64_range q1, fun M hM => ⟨madeP_ok hM hx, map_err M _ _, unmap_err M _ _, store_err' M _ _ _ (u64_range q3).1 (u64_range q3).2, storeCap_err' M _ _ _ _ _ _ _, put_err M _ _⟩⟩
end Go.Proofs.Ytkppgepljjgjhaa.Pure
