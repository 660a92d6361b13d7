/- Texts of one proof, one behind the other. No condition. -/
import Derived.Test.YtkppgepljjgjhaaKTagmemPutRb2
import Derived.Test.YtkppgepljjgjhaaKTagmemPutOpen
import Derived.Test.YtkppgepljjgjhaaKTagmemPutRd2
import Derived.DataShut
namespace Go.Proofs.Ytkppgepljjgjhaa.P
open Go.RowKit Go.Proofs.YtkppgepljjgjhaaW.PrintWords Go.Proofs.YtkppgepljjgjhaaW.PrintLast Go.Proofs.YtkppgepljjgjhaaW.PrintMore Go.Proofs.YtkppgepljjgjhaaW.Open
set_option linter.unusedVariables false
set_option linter.unusedSimpArgs false
def ok41 (x : S41) : Prop := (Lit.int .u64 x.f0).wf = true ∧ (Lit.int .u64 x.f1).wf = true ∧ (Lit.int .u64 x.f2).wf = true ∧ (Lit.int .i64 x.f3).wf = true ∧ (Lit.int .i64 x.f4).wf = true ∧ True
theorem opens41 : Opens Try.prog 41 k41 ok41 := (Opens.struct (f := fun x : S41 => (x.f0, x.f1, x.f2, x.f3, x.f4, x.f5)) (fun p => ⟨p.1, p.2.1, p.2.2.1, p.2.2.2.1, p.2.2.2.2.1, p.2.2.2.2.2⟩) (fun _ => rfl) Try.underlying41 (by kernel_rfl) (OpensF.cons 39 rfl rfl (by kernel_rfl) (Opens.int Try.underlying39) (OpensF.cons 39 rfl rfl (by kernel_rfl) (Opens.int Try.underlying39) (OpensF.cons 39 rfl rfl (by kernel_rfl) (Opens.int Try.underlying39) (OpensF.cons 3 rfl rfl (by kernel_rfl) (Opens.int Try.underlying3) (OpensF.cons 3 rfl rfl (by kernel_rfl) (Opens.int Try.underlying3) (OpensF.one 4 rfl rfl (by kernel_rfl) (Opens.bool Try.underlying4)))))))).imp (fun x h => h)
def ok53 (x : S53) : Prop := (Lit.int .i64 x.f0).wf = true ∧ (Lit.int .u64 x.f1).wf = true ∧ (Lit.int .i64 x.f2).wf = true ∧ (Lit.int .u64 x.f3).wf = true ∧ ok41 x.f4 ∧ (x.f5.length ≤ 9223372036854775807 ∧ x.f5.length * 1 ≤ 140737488351232 ∧ ∀ z ∈ x.f5, (Lit.int .u8 z).wf = true)
theorem opens53 : Opens Try.prog 53 k53 ok53 := (Opens.struct (f := fun x : S53 => (x.f0, x.f1, x.f2, x.f3, x.f4, x.f5)) (fun p => ⟨p.1, p.2.1, p.2.2.1, p.2.2.2.1, p.2.2.2.2.1, p.2.2.2.2.2⟩) (fun _ => rfl) Try.underlying53 (by kernel_rfl) (OpensF.cons 3 rfl rfl (by kernel_rfl) (Opens.int Try.underlying3) (OpensF.cons 39 rfl rfl (by kernel_rfl) (Opens.int Try.underlying39) (OpensF.cons 3 rfl rfl (by kernel_rfl) (Opens.int Try.underlying3) (OpensF.cons 39 rfl rfl (by kernel_rfl) (Opens.int Try.underlying39) (OpensF.cons 41 rfl rfl (by kernel_rfl) opens41 (OpensF.one 51 rfl rfl (by kernel_rfl) (Opens.slice 1 Try.underlying51 (by kernel_rfl) (by kernel_rfl) (Opens.int Try.underlying5))))))))).imp (fun x h => h)
end Go.Proofs.Ytkppgepljjgjhaa.P

namespace Go.Proofs.Ytkppgepljjgjhaa.P
open Go.RowKit Go.Proofs.YtkppgepljjgjhaaW.PrintWords Go.Proofs.YtkppgepljjgjhaaW.PrintLast Go.Proofs.YtkppgepljjgjhaaW.PrintMore Go.Proofs.YtkppgepljjgjhaaW.Open
set_option linter.unusedVariables false
set_option linter.unusedSimpArgs false
def curtilagelaw03_TagmemPut.Pure : Prop := ∀ (y0 : Int) (y1 : List (S53)) (y2 : Int) (y3 : List Int), (Lit.int .i64 y0).wf = true → (y1.length ≤ 9223372036854775807 ∧ y1.length * 104 ≤ 140737488351232 ∧ ∀ x ∈ y1, ok53 x) → (Lit.int .u64 y2).wf = true → (y3.length ≤ 9223372036854775807 ∧ y3.length * 1 ≤ 140737488351232 ∧ ∀ x ∈ y3, (Lit.int .u8 x).wf = true) → (∀ x ∈ y1, OpOk2 x) ∧ (0 ≤ y2 ∧ y2 ≤ 18446744073709551615) ∧ ∀ M, madeP y0 y1 = some M → 0 < y3.length → y3.length ≤ 600 → PutHyp M y2 y3
end Go.Proofs.Ytkppgepljjgjhaa.P

namespace Go.Proofs.Ytkppgepljjgjhaa.P
open Go.RowKit Go.Proofs.YtkppgepljjgjhaaW.PrintWords Go.Proofs.YtkppgepljjgjhaaW.PrintLast Go.Proofs.YtkppgepljjgjhaaW.PrintMore
set_option linter.unusedVariables false
set_option linter.unusedSimpArgs false
/-- Some bytes of a number stand at a; its granule has no tag. -/
structure StAt (m m' : Mm) (a : Int) (l : List Int) : Prop where
  wf : m'.Wf
  has : ∀ x, m'.has x = m.has x
  budget : m'.budget = m.budget
  nos : m'.pages.map Pg.no = m.pages.map Pg.no
  byte : ∀ x, m'.byte x = if a ≤ x ∧ x < a + l.length then l.getD (x - a).toNat 0 else m.byte x
  tag : ∀ x, m'.tag x = if x / 32 = a / 32 then false else m.tag x
theorem StAt.bytes {m m' : Mm} {a : Int} {l : List Int} (h : StAt m m' a l) : m'.bytes a l.length = l := by
  apply List.ext_getElem?
  intro j
  by_cases hj : j < l.length
  · rw [bytes_get _ _ hj, h.byte, if_pos (by omega), show (a + (j : Int) - a).toNat = j by omega, List.getD_eq_getElem?_getD, List.getElem?_eq_getElem (by omega)]
    rfl
  · rw [List.getElem?_eq_none (by rw [bytes_len]; omega), List.getElem?_eq_none (by omega)]
end Go.Proofs.Ytkppgepljjgjhaa.P

namespace Go.Proofs.Ytkppgepljjgjhaa.Pure
open Go.RowKit Go.Proofs.Ytkppgepljjgjhaa.P Go.Proofs.YtkppgepljjgjhaaW.PrintWords Go.Proofs.YtkppgepljjgjhaaW.PrintLast
theorem u64_range {n : Int} (h : (Lit.int .u64 n).wf = true) : 0 ≤ n ∧ n ≤ 18446744073709551615 := by
  have := (Lit.wf_int_iff .u64 n).1 h
  simpa [IntKind.min, IntKind.max, IntKind.signed, IntKind.bits] using this
theorem u8_range {n : Int} (h : (Lit.int .u8 n).wf = true) : 0 ≤ n ∧ n < 256 := by
  have := (Lit.wf_int_iff .u8 n).1 h
  simp [IntKind.min, IntKind.max, IntKind.signed, IntKind.bits] at this
  omega
theorem op_ok {x : S53} (h : ok53 x) : OpOk2 x := by
  obtain ⟨h0, h1, h2, h3, ⟨c0, c1, c2, c3, c4, -⟩, -, -, h5⟩ := h
  exact ⟨⟨u64_range h1, u64_range h3, u64_range c0, u64_range c1, u64_range c2⟩, fun b hb => u8_range (h5 b hb)⟩
end Go.Proofs.Ytkppgepljjgjhaa.Pure

namespace Go.Proofs.Ytkppgepljjgjhaa.P
open Go.RowKit Go.Proofs.YtkppgepljjgjhaaW.PrintWords Go.Proofs.YtkppgepljjgjhaaW.PrintLast Go.Proofs.YtkppgepljjgjhaaW.PrintMore
set_option linter.unusedVariables false
set_option linter.unusedSimpArgs false
theorem sortI_mem {l : List Int} {x : Int} : x ∈ sortI l ↔ x ∈ l := by unfold sortI; exact (List.mergeSort_perm l _).mem_iff
theorem page_of_mem {m : Mm} (h : m.Wf) {p : Pg} (hp : p ∈ m.pages) : m.page p.no = some p := by
  unfold Mm.page
  cases hf : m.pages.find? (fun q => p.no == q.no) with
  | none => exact absurd (beq_self_eq_true p.no) (by simpa using List.find?_eq_none.1 hf p hp)
  | some q =>
    have hq : p.no = q.no := beq_iff_eq.1 (show (p.no == q.no) = true from List.find?_some (p := fun q : Pg => p.no == q.no) hf)
    rw [nodup_inj h.keys hp (List.mem_of_find?_eq_some hf) hq]
theorem pages_iff {m : Mm} (h : m.Wf) {n : Int} : n ∈ tagmem_Mem_Pages.f m ↔ (m.page n).isSome = true := by
  unfold tagmem_Mem_Pages.f
  rw [sortI_mem]
  constructor
  · intro hn
    obtain ⟨p, hp, rfl⟩ := List.mem_map.1 hn
    rw [page_of_mem h hp]; rfl
  · intro hs
    cases hp : m.page n with
    | none => rw [hp] at hs; cases hs
    | some p =>
      obtain ⟨h1, rfl⟩ := page_mem hp
      exact List.mem_map_of_mem (f := Pg.no) h1
theorem marks_mem {p : Pg} {t : Int} : t ∈ p.marks 8 ↔ ∃ k : Nat, k < 8 ∧ p.ts.getD k false = true ∧ t = p.no * 256 + (k : Int) * 32 := by
  unfold Pg.marks
  rw [List.mem_filterMap]
  constructor
  · rintro ⟨k, hk, e⟩
    split at e
    · rename_i c
      exact ⟨k, List.mem_range.1 hk, c, (Option.some.inj e).symm⟩
    · cases e
  · rintro ⟨k, hk, c, rfl⟩
    exact ⟨k, List.mem_range.2 hk, by rw [if_pos c]⟩
/-- A tag's place stands in the list just if there is one. -/
theorem tags_mem {m : Mm} (h : m.Wf) {t : Int} : t ∈ tagmem_Mem_Tags.f m ↔ m.tag t = true ∧ t % 32 = 0 := by
  unfold tagmem_Mem_Tags.f
  rw [List.mem_flatMap]
  constructor
  · rintro ⟨n, hn, ht⟩
    unfold Mm.marksOf at ht
    cases hp : m.page n with
    | none => rw [hp] at ht; cases ht
    | some p =>
      rw [hp] at ht
      obtain ⟨k, hk, c, rfl⟩ := marks_mem.1 ht
      obtain ⟨h1, rfl⟩ := page_mem hp
      refine ⟨?_, by omega⟩
      unfold Mm.tag
      rw [show (p.no * 256 + (k : Int) * 32) / 256 = p.no by omega, hp]
      simp only
      rw [show ((p.no * 256 + (k : Int) * 32) % 256 / 32).toNat = k by omega]
      exact c
  · rintro ⟨ht, h32⟩
    unfold Mm.tag at ht
    cases hp : m.page (t / 256) with
    | none => rw [hp] at ht; cases ht
    | some p =>
      rw [hp] at ht
      simp only at ht
      obtain ⟨h1, h2⟩ := page_mem hp
      refine ⟨t / 256, (pages_iff h).2 (by rw [hp]; rfl), ?_⟩
      unfold Mm.marksOf
      rw [hp]
      exact marks_mem.2 ⟨(t % 256 / 32).toNat, by omega, ht, by rw [h2]; omega⟩
theorem tag_range {m : Mm} (h : m.Wf) {t : Int} (ht : m.tag t = true) : 0 ≤ t ∧ t < 16777216 := by
  unfold Mm.tag at ht
  cases hp : m.page (t / 256) with
  | none => rw [hp] at ht; cases ht
  | some p =>
    obtain ⟨h1, h2⟩ := page_mem hp
    have := h.no p h1
    omega
theorem flatMap_len (l : List Int) (f : Int → List Int) (hf : ∀ x, (f x).length ≤ 8) : (l.flatMap f).length ≤ 8 * l.length := by
  induction l with
  | nil => simp
  | cons x l ih =>
    rw [List.flatMap_cons, List.length_append, List.length_cons]
    have := hf x
    omega
theorem marksOf_len (m : Mm) (n : Int) : (m.marksOf n).length ≤ 8 := by
  unfold Mm.marksOf
  split
  · unfold Pg.marks
    exact Nat.le_trans (List.length_filterMap_le _ _) (by rw [List.length_range]; exact Nat.le_refl _)
  · simp
theorem tags_len {m : Mm} (h : MOk m) : (tagmem_Mem_Tags.f m).length ≤ 2048 := by
  have h1 := flatMap_len (tagmem_Mem_Pages.f m) m.marksOf (marksOf_len m)
  have h2 : (tagmem_Mem_Pages.f m).length = m.pages.length := by
    unfold tagmem_Mem_Pages.f sortI
    rw [List.length_mergeSort, List.length_map]
  have h3 := h.len
  have h4 := h.b
  unfold tagmem_Mem_Tags.f
  omega
theorem has_range {m : Mm} (h : m.Wf) {a : Int} (ha : m.has a = true) : 0 ≤ a ∧ a < 16777216 := by
  unfold Mm.has at ha
  cases hp : m.page (a / 256) with
  | none => rw [hp] at ha; cases ha
  | some p =>
    obtain ⟨h1, h2⟩ := page_mem hp
    have := h.no p h1
    omega
end Go.Proofs.Ytkppgepljjgjhaa.P

namespace Go.Proofs.Ytkppgepljjgjhaa.Pure
open Go.RowKit Go.Proofs.Ytkppgepljjgjhaa.P Go.Proofs.YtkppgepljjgjhaaW.PrintWords Go.Proofs.YtkppgepljjgjhaaW.PrintLast
theorem put_ok {M : Mm} (h : MOk M) {at_ : Int} {l : List Int} (a0 : 0 ≤ at_) (hb : ∀ b ∈ l, 0 ≤ b ∧ b < 256) (h0 : 0 < l.length) (h6 : l.length ≤ 600) : PutHyp M at_ l := by
  unfold PutHyp
  cases hm : mapd M at_ (l.length : Int) with
  | false =>
    refine .inl ⟨by unfold tagmem_Mem_Put.f; rw [hm]; rfl, ?_⟩
    unfold tagmem_Mem_Bytes.f
    rw [if_pos (.inr (.inr hm))]
  | true =>
    refine .inr ⟨M.pokes at_ l, by unfold tagmem_Mem_Put.f; rw [hm]; rfl, ?_⟩
    obtain ⟨h1, h2⟩ := mapd_has hm
    have hok : MOk (M.pokes at_ l) := by
      have := MOk_put (a := at_) h hb
      unfold tagmem_Mem_Put.f at this
      rw [hm] at this
      exact this
    have h3 := has_range h.wf (h2 (l.length - 1) (by omega))
    refine ⟨hok, by omega, ?_, by have := tags_len hok; omega, fun x hx => ?_⟩
    · unfold tagmem_Mem_Bytes.f
      have hm2 : mapd (M.pokes at_ l) at_ (l.length : Int) = true := by
        unfold mapd
        rw [Bool.and_eq_true, decide_eq_true_eq, List.all_eq_true]
        refine ⟨h1, fun i hi => ?_⟩
        have h4 := h2 i (by simpa using hi)
        have h5 := has_pokes l M at_ (at_ + (i : Int))
        rw [h4] at h5
        exact h5
      rw [if_neg (by rintro (c | c | c); omega; omega; rw [hm2] at c; cases c), Int.toNat_natCast]
      apply List.ext_getElem?
      intro j
      by_cases hj : j < l.length
      · rw [bytes_get _ _ hj, byte_pokes l h.wf at_ hb h2, if_pos (by omega), show (at_ + (j : Int) - at_).toNat = j by omega, List.getD_eq_getElem?_getD, List.getElem?_eq_getElem hj]
        rfl
      · rw [List.getElem?_eq_none (by rw [bytes_len]; omega), List.getElem?_eq_none (by omega)]
    · obtain ⟨t1, t2⟩ := (tags_mem hok.wf).1 hx
      have t3 := tag_range hok.wf t1
      refine ⟨⟨t3.1, by omega⟩, fun ⟨e1, e2⟩ => ?_⟩
      rw [tag_pokes l h.wf at_ hb h2, if_pos (by omega)] at t1
      cases t1
theorem TagmemPut : curtilagelaw03_TagmemPut.Pure := by
  intro y0 y1 y2 y3 h0 h1 h2 h3
  have hx : ∀ x ∈ y1, OpOk2 x := fun x hx => op_ok (h1.2.2 x hx)
  exact ⟨hx, u64_range h2, fun M hM k1 k2 => put_ok (madeP_ok hM hx) (u64_range h2).1 (fun b hb => u8_range (h3.2.2 b hb)) k1 k2⟩
end Go.Proofs.Ytkppgepljjgjhaa.Pure
