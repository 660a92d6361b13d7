/- Texts of one proof, one behind the other. No condition. -/
import Derived.Test.YtkppgepljjgjhaaKTagmemEitherRb2
import Derived.Test.YtkppgepljjgjhaaKTagmemEitherOpen
import Derived.Test.YtkppgepljjgjhaaKTagmemEitherRd4
import Derived.Test.YtkppgepljjgjhaaKTagmemEitherRe1
import Derived.DataShut
namespace Go.Proofs.Ytkppgepljjgjhaa.P
open Go.RowKit Go.Proofs.YtkppgepljjgjhaaW.PrintWords Go.Proofs.YtkppgepljjgjhaaW.PrintLast Go.Proofs.YtkppgepljjgjhaaW.PrintMore Go.Proofs.YtkppgepljjgjhaaW.Open
set_option linter.unusedVariables false
set_option linter.unusedSimpArgs false
def ok41 (x : S41) : Prop := (Lit.int .u64 x.f0).wf = true ∧ (Lit.int .u64 x.f1).wf = true ∧ (Lit.int .u64 x.f2).wf = true ∧ (Lit.int .i64 x.f3).wf = true ∧ (Lit.int .i64 x.f4).wf = true ∧ True
theorem opens41 : Opens Try.prog 41 k41 ok41 := (Opens.struct (f := fun x : S41 => (x.f0, x.f1, x.f2, x.f3, x.f4, x.f5)) (fun p => ⟨p.1, p.2.1, p.2.2.1, p.2.2.2.1, p.2.2.2.2.1, p.2.2.2.2.2⟩) (fun _ => rfl) Try.underlying41 (by kernel_rfl) (OpensF.cons 39 rfl rfl (by kernel_rfl) (Opens.int Try.underlying39) (OpensF.cons 39 rfl rfl (by kernel_rfl) (Opens.int Try.underlying39) (OpensF.cons 39 rfl rfl (by kernel_rfl) (Opens.int Try.underlying39) (OpensF.cons 3 rfl rfl (by kernel_rfl) (Opens.int Try.underlying3) (OpensF.cons 3 rfl rfl (by kernel_rfl) (Opens.int Try.underlying3) (OpensF.one 4 rfl rfl (by kernel_rfl) (Opens.bool Try.underlying4)))))))).imp (fun x h => h)
def ok53 (x : S53) : Prop := (Lit.int .i64 x.f0).wf = true ∧ (Lit.int .u64 x.f1).wf = true ∧ (Lit.int .i64 x.f2).wf = true ∧ (Lit.int .u64 x.f3).wf = true ∧ ok41 x.f4 ∧ (x.f5.length ≤ 9223372036854775807 ∧ x.f5.length * 1 ≤ 140737488351232 ∧ ∀ z ∈ x.f5, (Lit.int .u8 z).wf = true)
theorem opens53 : Opens Try.prog 53 k53 ok53 := (Opens.struct (f := fun x : S53 => (x.f0, x.f1, x.f2, x.f3, x.f4, x.f5)) (fun p => ⟨p.1, p.2.1, p.2.2.1, p.2.2.2.1, p.2.2.2.2.1, p.2.2.2.2.2⟩) (fun _ => rfl) Try.underlying53 (by kernel_rfl) (OpensF.cons 3 rfl rfl (by kernel_rfl) (Opens.int Try.underlying3) (OpensF.cons 39 rfl rfl (by kernel_rfl) (Opens.int Try.underlying39) (OpensF.cons 3 rfl rfl (by kernel_rfl) (Opens.int Try.underlying3) (OpensF.cons 39 rfl rfl (by kernel_rfl) (Opens.int Try.underlying39) (OpensF.cons 41 rfl rfl (by kernel_rfl) opens41 (OpensF.one 51 rfl rfl (by kernel_rfl) (Opens.slice 1 Try.underlying51 (by kernel_rfl) (by kernel_rfl) (Opens.int Try.underlying5))))))))).imp (fun x h => h)
end Go.Proofs.Ytkppgepljjgjhaa.P

namespace Go.Proofs.Ytkppgepljjgjhaa.P
open Go.RowKit Go.Proofs.YtkppgepljjgjhaaW.PrintWords Go.Proofs.YtkppgepljjgjhaaW.PrintLast Go.Proofs.YtkppgepljjgjhaaW.PrintMore Go.Proofs.YtkppgepljjgjhaaW.Open
set_option linter.unusedVariables false
set_option linter.unusedSimpArgs false
def curtilagelaw03_TagmemEither.Pure : Prop := ∀ (y0 : Int) (y1 : List (S53)) (y2 : Int) (y3 : Int) (y4 : Int) (y5 : Int), (Lit.int .i64 y0).wf = true → (y1.length ≤ 9223372036854775807 ∧ y1.length * 104 ≤ 140737488351232 ∧ ∀ x ∈ y1, ok53 x) → (Lit.int .u64 y2).wf = true → (Lit.int .u64 y3).wf = true → (Lit.int .u64 y4).wf = true → (Lit.int .u64 y5).wf = true → (∀ x ∈ y1, OpOk2 x) ∧ (0 ≤ y2 ∧ y2 ≤ 18446744073709551615) ∧ (0 ≤ y3 ∧ y3 ≤ 18446744073709551615) ∧ ∀ M, madeP y0 y1 = some M → y2 - y2 % 8 ≠ y3 - y3 % 8 → EitherHyp M (y2 - y2 % 8) (y3 - y3 % 8) y4 y5
end Go.Proofs.Ytkppgepljjgjhaa.P

namespace Go.Proofs.Ytkppgepljjgjhaa.Pure
open Go.RowKit Go.Proofs.Ytkppgepljjgjhaa.P Go.Proofs.YtkppgepljjgjhaaW.PrintWords Go.Proofs.YtkppgepljjgjhaaW.PrintLast
theorem u64_range {n : Int} (h : (Lit.int .u64 n).wf = true) : 0 ≤ n ∧ n ≤ 18446744073709551615 := by
  have := (Lit.wf_int_iff .u64 n).1 h
  simpa [IntKind.min, IntKind.max, IntKind.signed, IntKind.bits] using this
theorem u8_range {n : Int} (h : (Lit.int .u8 n).wf = true) : 0 ≤ n ∧ n < 256 := by
  have := (Lit.wf_int_iff .u8 n).1 h
  simp [IntKind.min, IntKind.max, IntKind.signed, IntKind.bits] at this
  omega
theorem op_ok {x : S53} (h : ok53 x) : OpOk2 x := by
  obtain ⟨h0, h1, h2, h3, ⟨c0, c1, c2, c3, c4, -⟩, -, -, h5⟩ := h
  exact ⟨⟨u64_range h1, u64_range h3, u64_range c0, u64_range c1, u64_range c2⟩, fun b hb => u8_range (h5 b hb)⟩
end Go.Proofs.Ytkppgepljjgjhaa.Pure

namespace Go.Proofs.Ytkppgepljjgjhaa.P
open Go.RowKit Go.Proofs.YtkppgepljjgjhaaW.PrintWords Go.Proofs.YtkppgepljjgjhaaW.PrintLast Go.Proofs.YtkppgepljjgjhaaW.PrintMore
set_option linter.unusedVariables false
set_option linter.unusedSimpArgs false
theorem fm_congr {α β : Type} {f g : α → Option β} : ∀ {l : List α}, (∀ k ∈ l, f k = g k) → l.filterMap f = l.filterMap g
  | [], _ => rfl
  | x :: l, h => by
    have h1 := h x List.mem_cons_self
    have h2 := fm_congr (l := l) (fun k hk => h k (List.mem_cons_of_mem _ hk))
    rw [List.filterMap_cons, List.filterMap_cons, h1, h2]
theorem marksOf_is (m : Mm) (n : Int) : m.marksOf n = (List.range 8).filterMap fun k : Nat => if m.tag (n * 256 + (k : Int) * 32) = true then some (n * 256 + (k : Int) * 32) else none := by
  unfold Mm.marksOf
  cases hp : m.page n with
  | none =>
    symm
    rw [List.filterMap_eq_nil_iff]
    intro k hk
    have hk8 := List.mem_range.1 hk
    have : m.tag (n * 256 + (k : Int) * 32) = false := by
      unfold Mm.tag
      rw [show (n * 256 + (k : Int) * 32) / 256 = n by omega, hp]
    rw [this]
    simp
  | some p =>
    show p.marks 8 = _
    unfold Pg.marks
    obtain ⟨h1, rfl⟩ := page_mem hp
    refine fm_congr fun k hk => ?_
    have hk8 := List.mem_range.1 hk
    have : m.tag (p.no * 256 + (k : Int) * 32) = p.ts.getD k false := by
      unfold Mm.tag
      rw [show (p.no * 256 + (k : Int) * 32) / 256 = p.no by omega, hp]
      simp only
      rw [show ((p.no * 256 + (k : Int) * 32) % 256 / 32).toNat = k by omega]
    rw [this]
theorem tags_ext {m m' : Mm} (hn : m.pages.map Pg.no = m'.pages.map Pg.no) (ht : ∀ x, m.tag x = m'.tag x) : tagmem_Mem_Tags.f m = tagmem_Mem_Tags.f m' := by
  have hp : tagmem_Mem_Pages.f m = tagmem_Mem_Pages.f m' := by unfold tagmem_Mem_Pages.f; rw [hn]
  have hm : m.marksOf = m'.marksOf := by
    funext n
    rw [marksOf_is, marksOf_is]
    simp only [ht]
  unfold tagmem_Mem_Tags.f
  rw [hp, hm]
theorem bytes_ext {m m' : Mm} (hh : ∀ x, m.has x = m'.has x) (hb : ∀ x, m.byte x = m'.byte x) (a n : Int) : tagmem_Mem_Bytes.f m a n = tagmem_Mem_Bytes.f m' a n := by
  have hm : mapd m a n = mapd m' a n := by
    unfold mapd
    have : ∀ i : Nat, (m.page ((a + (i : Int)) / 256)).isSome = (m'.page ((a + (i : Int)) / 256)).isSome := fun i => hh (a + (i : Int))
    simp only [this]
  unfold tagmem_Mem_Bytes.f
  rw [hm, bytes_is, bytes_is]
  simp only [hb]
theorem store_err {m : Mm} {a n u : Int} (hn : n = 1 ∨ n = 2 ∨ n = 4 ∨ n = 8) (ha : a % n = 0) (hh : ¬ m.has a = true) : tagmem_Mem_Store.f 20 m a n u = some (m, 30) := by
  unfold Mm.has at hh
  unfold tagmem_Mem_Store.f
  rw [if_pos (size_of hn), if_pos ha]
  cases hp : m.page (a / 256) with
  | none => rfl
  | some p => rw [hp] at hh; exact absurd rfl hh
theorem either_ok {M : Mm} (h : MOk M) {x y v u : Int} (x8 : x % 8 = 0) (y8 : y % 8 = 0) (hne : x ≠ y) (v0 : 0 ≤ v) (v1 : v ≤ 18446744073709551615) (u0 : 0 ≤ u) (u1 : u ≤ 18446744073709551615) : EitherHyp M x y v u := by
  have e8 : (8 : Int) = 1 ∨ (8 : Int) = 2 ∨ (8 : Int) = 4 ∨ (8 : Int) = 8 := by omega
  unfold EitherHyp
  by_cases hx : M.has x = true
  · obtain ⟨A1, a1, C1⟩ := store_at h.wf e8 x8 hx v0 v1
    have k1 := MOk_store' h v0 v1 a1
    by_cases hy : M.has y = true
    · obtain ⟨A2, a2, C2⟩ := store_at C1.wf e8 y8 (by rw [C1.has]; exact hy) u0 u1
      obtain ⟨B1, b1, D1⟩ := store_at h.wf e8 y8 hy u0 u1
      obtain ⟨B2, b2, D2⟩ := store_at D1.wf e8 x8 (by rw [D1.has]; exact hx) v0 v1
      have hh : ∀ z, A2.has z = B2.has z := fun z => by rw [C2.has, C1.has, D2.has, D1.has]
      have l8 : ∀ c : Int, ((leb c).take (8 : Int).toNat).length = 8 := fun c => rfl
      have hb : ∀ z, A2.byte z = B2.byte z := fun z => by
        rw [C2.byte, C1.byte, D2.byte, D1.byte, l8, l8]
        by_cases c1 : x ≤ z ∧ z < x + ((8 : Nat) : Int)
        · have c2 : ¬ (y ≤ z ∧ z < y + ((8 : Nat) : Int)) := by omega
          rw [if_neg c2, if_pos c1, if_pos c1]
        · rw [if_neg c1, if_neg c1]
      have ht : ∀ z, A2.tag z = B2.tag z := fun z => by
        rw [C2.tag, C1.tag, D2.tag, D1.tag]
        by_cases c1 : z / 32 = x / 32
        · rw [if_pos c1, if_pos c1]; split <;> rfl
        · rw [if_neg c1, if_neg c1]
      exact ⟨A1, A2, B1, B2, 0, 0, a1, a2, b1, b2, MOk_store' k1 u0 u1 a2, MOk_store' (MOk_store' h u0 u1 b1) v0 v1 b2, bytes_ext hh hb _ _, bytes_ext hh hb _ _, tags_ext (by rw [C2.nos, C1.nos, D2.nos, D1.nos]) ht⟩
    · have a2 := store_err (m := A1) (u := u) e8 y8 (by rw [C1.has]; exact hy)
      have b1 := store_err (m := M) (u := u) e8 y8 hy
      exact ⟨A1, A1, M, A1, 0, 30, a1, a2, b1, a1, k1, k1, rfl, rfl, rfl⟩
  · have a1 := store_err (m := M) (u := v) e8 x8 hx
    by_cases hy : M.has y = true
    · obtain ⟨A2, a2, C2⟩ := store_at h.wf e8 y8 hy u0 u1
      have k2 := MOk_store' h u0 u1 a2
      have b2 := store_err (m := A2) (u := v) e8 x8 (by rw [C2.has]; exact hx)
      exact ⟨M, A2, A2, A2, 30, 0, a1, a2, a2, b2, k2, k2, rfl, rfl, rfl⟩
    · have a2 := store_err (m := M) (u := u) e8 y8 hy
      exact ⟨M, M, M, M, 30, 30, a1, a2, a2, a1, h, h, rfl, rfl, rfl⟩
end Go.Proofs.Ytkppgepljjgjhaa.P

namespace Go.Proofs.Ytkppgepljjgjhaa.Pure
open Go.RowKit Go.Proofs.Ytkppgepljjgjhaa.P Go.Proofs.YtkppgepljjgjhaaW.PrintWords Go.Proofs.YtkppgepljjgjhaaW.PrintLast
theorem TagmemEither : curtilagelaw03_TagmemEither.Pure := by
  intro y0 y1 y2 y3 y4 y5 h0 h1 h2 h3 h4 h5
  have hx : ∀ x ∈ y1, OpOk2 x := fun x hx => op_ok (h1.2.2 x hx)
  exact ⟨hx, u64_range h2, u64_range h3, fun M hM k => either_ok (madeP_ok hM hx) (by omega) (by omega) k (u64_range h4).1 (u64_range h4).2 (u64_range h5).1 (u64_range h5).2⟩
end Go.Proofs.Ytkppgepljjgjhaa.Pure
