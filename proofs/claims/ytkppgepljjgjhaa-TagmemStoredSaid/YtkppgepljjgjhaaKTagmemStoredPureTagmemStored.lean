/- Texts of one proof, one behind the other. No condition. -/
import Derived.Test.YtkppgepljjgjhaaKTagmemStoredRb2
import Derived.Test.YtkppgepljjgjhaaKTagmemStoredOpen
import Derived.Test.YtkppgepljjgjhaaKTagmemStoredRd1
import Derived.Test.YtkppgepljjgjhaaKTagmemStoredRd0
import Derived.DataShut
namespace Go.Proofs.Ytkppgepljjgjhaa.P
open Go.RowKit Go.Proofs.YtkppgepljjgjhaaW.PrintWords Go.Proofs.YtkppgepljjgjhaaW.PrintLast Go.Proofs.YtkppgepljjgjhaaW.PrintMore Go.Proofs.YtkppgepljjgjhaaW.Open
set_option linter.unusedVariables false
set_option linter.unusedSimpArgs false
def ok41 (x : S41) : Prop := (Lit.int .u64 x.f0).wf = true ∧ (Lit.int .u64 x.f1).wf = true ∧ (Lit.int .u64 x.f2).wf = true ∧ (Lit.int .i64 x.f3).wf = true ∧ (Lit.int .i64 x.f4).wf = true ∧ True
theorem opens41 : Opens Try.prog 41 k41 ok41 := (Opens.struct (f := fun x : S41 => (x.f0, x.f1, x.f2, x.f3, x.f4, x.f5)) (fun p => ⟨p.1, p.2.1, p.2.2.1, p.2.2.2.1, p.2.2.2.2.1, p.2.2.2.2.2⟩) (fun _ => rfl) Try.underlying41 (by kernel_rfl) (OpensF.cons 39 rfl rfl (by kernel_rfl) (Opens.int Try.underlying39) (OpensF.cons 39 rfl rfl (by kernel_rfl) (Opens.int Try.underlying39) (OpensF.cons 39 rfl rfl (by kernel_rfl) (Opens.int Try.underlying39) (OpensF.cons 3 rfl rfl (by kernel_rfl) (Opens.int Try.underlying3) (OpensF.cons 3 rfl rfl (by kernel_rfl) (Opens.int Try.underlying3) (OpensF.one 4 rfl rfl (by kernel_rfl) (Opens.bool Try.underlying4)))))))).imp (fun x h => h)
def ok53 (x : S53) : Prop := (Lit.int .i64 x.f0).wf = true ∧ (Lit.int .u64 x.f1).wf = true ∧ (Lit.int .i64 x.f2).wf = true ∧ (Lit.int .u64 x.f3).wf = true ∧ ok41 x.f4 ∧ (x.f5.length ≤ 9223372036854775807 ∧ x.f5.length * 1 ≤ 140737488351232 ∧ ∀ z ∈ x.f5, (Lit.int .u8 z).wf = true)
theorem opens53 : Opens Try.prog 53 k53 ok53 := (Opens.struct (f := fun x : S53 => (x.f0, x.f1, x.f2, x.f3, x.f4, x.f5)) (fun p => ⟨p.1, p.2.1, p.2.2.1, p.2.2.2.1, p.2.2.2.2.1, p.2.2.2.2.2⟩) (fun _ => rfl) Try.underlying53 (by kernel_rfl) (OpensF.cons 3 rfl rfl (by kernel_rfl) (Opens.int Try.underlying3) (OpensF.cons 39 rfl rfl (by kernel_rfl) (Opens.int Try.underlying39) (OpensF.cons 3 rfl rfl (by kernel_rfl) (Opens.int Try.underlying3) (OpensF.cons 39 rfl rfl (by kernel_rfl) (Opens.int Try.underlying39) (OpensF.cons 41 rfl rfl (by kernel_rfl) opens41 (OpensF.one 51 rfl rfl (by kernel_rfl) (Opens.slice 1 Try.underlying51 (by kernel_rfl) (by kernel_rfl) (Opens.int Try.underlying5))))))))).imp (fun x h => h)
end Go.Proofs.Ytkppgepljjgjhaa.P

namespace Go.Proofs.Ytkppgepljjgjhaa.P
open Go.RowKit Go.Proofs.YtkppgepljjgjhaaW.PrintWords Go.Proofs.YtkppgepljjgjhaaW.PrintLast Go.Proofs.YtkppgepljjgjhaaW.PrintMore Go.Proofs.YtkppgepljjgjhaaW.Open
set_option linter.unusedVariables false
set_option linter.unusedSimpArgs false
def curtilagelaw03_TagmemStored.Pure : Prop := ∀ (y0 : Int) (y1 : List (S53)) (y2 : Int) (y3 : Int) (y4 : S41), (Lit.int .i64 y0).wf = true → (y1.length ≤ 9223372036854775807 ∧ y1.length * 104 ≤ 140737488351232 ∧ ∀ x ∈ y1, ok53 x) → (Lit.int .u64 y2).wf = true → (Lit.int .u64 y3).wf = true → ok41 y4 → (∀ x ∈ y1, OpOk2 x) ∧ (0 ≤ y2 ∧ y2 ≤ 18446744073709551615) ∧ (0 ≤ y3 ∧ y3 ≤ 18446744073709551615) ∧ ∀ M, madeP y0 y1 = some M → capR y4 = true → StoredHyp M y2 y3 y4
end Go.Proofs.Ytkppgepljjgjhaa.P

namespace Go.Proofs.Ytkppgepljjgjhaa.P
open Go.RowKit Go.Proofs.YtkppgepljjgjhaaW.PrintWords Go.Proofs.YtkppgepljjgjhaaW.PrintLast Go.Proofs.YtkppgepljjgjhaaW.PrintMore
set_option linter.unusedVariables false
set_option linter.unusedSimpArgs false
/-- Some bytes of a number stand at a; its granule has no tag. -/
structure StAt (m m' : Mm) (a : Int) (l : List Int) : Prop where
  wf : m'.Wf
  has : ∀ x, m'.has x = m.has x
  budget : m'.budget = m.budget
  nos : m'.pages.map Pg.no = m.pages.map Pg.no
  byte : ∀ x, m'.byte x = if a ≤ x ∧ x < a + l.length then l.getD (x - a).toNat 0 else m.byte x
  tag : ∀ x, m'.tag x = if x / 32 = a / 32 then false else m.tag x
theorem fit {a n : Int} (hn : n = 1 ∨ n = 2 ∨ n = 4 ∨ n = 8) (ha : a % n = 0) : (a % 256).toNat + n.toNat ≤ 256 ∧ a % 32 + n ≤ 32 := by
  rcases hn with rfl | rfl | rfl | rfl <;> omega
theorem size_of {n : Int} (hn : n = 1 ∨ n = 2 ∨ n = 4 ∨ n = 8) : size_ok n := by unfold size_ok; exact hn
theorem leb_part (u : Int) {n : Int} (hn : n = 1 ∨ n = 2 ∨ n = 4 ∨ n = 8) : ((leb u).take n.toNat).length = n.toNat := by rw [List.length_take, leb_len]; omega
theorem store_at {m : Mm} (h : m.Wf) {a n u : Int} (hn : n = 1 ∨ n = 2 ∨ n = 4 ∨ n = 8) (ha : a % n = 0) (hh : m.has a = true) (u0 : 0 ≤ u) (u1 : u ≤ 18446744073709551615) :
    ∃ m', tagmem_Mem_Store.f 20 m a n u = some (m', 0) ∧ StAt m m' a ((leb u).take n.toNat) := by
  unfold Mm.has at hh
  cases hp : m.page (a / 256) with
  | none => rw [hp] at hh; cases hh
  | some p =>
    obtain ⟨hm, hno⟩ := page_mem hp
    have hok := h.ok p hm
    obtain ⟨f1, f2⟩ := fit hn ha
    have hl := leb_part u hn
    obtain ⟨l, hlq⟩ : ∃ l, l = (leb u).take n.toNat := ⟨_, rfl⟩
    rw [← hlq] at hl ⊢
    have hn8 : 0 < l.length := by rw [hl]; omega
    obtain ⟨i, hi⟩ : ∃ i, i = (a % 256).toNat := ⟨_, rfl⟩
    have hi3 : (a % 256) = (i : Int) := by omega
    refine ⟨m.put (p.store (a % 256) l), ?_, ?_⟩
    · unfold tagmem_Mem_Store.f
      rw [if_pos (size_of hn), if_pos ha, hp]
      simp only
      rw [little_is u u0 u1 n hn, Option.bind_some, ← hlq, if_pos ⟨hn8, by omega⟩]
    · have qn : (p.store (a % 256) l).no = a / 256 := hno
      refine ⟨store_wf h hp (by omega) (fun b hb => leb_range u b (List.mem_of_mem_take (hlq ▸ hb))), fun x => ?_, rfl, ?_, fun x => ?_, fun x => ?_⟩
      · unfold Mm.has
        rw [pagePut]
        split <;> simp
      · unfold Mm.put
        rw [List.map_map]
        exact List.map_congr_left fun r _ => put_no _ r
      · unfold Mm.byte
        rw [pagePut, qn]
        by_cases c : x / 256 = a / 256
        · rw [if_pos c, c, hp]
          simp only [Option.map_some]
          show (splice p.bs (a % 256).toNat l).getD _ 0 = _
          rw [List.getD_eq_getElem?_getD, List.getD_eq_getElem?_getD, List.getD_eq_getElem?_getD, splice_get (by rw [hok.b]; omega)]
          by_cases e : a ≤ x ∧ x < a + l.length
          · rw [if_pos (by omega), if_pos e, show (x % 256).toNat - (a % 256).toNat = (x - a).toNat by omega]
          · rw [if_neg (by omega), if_neg e]
        · rw [if_neg c, if_neg (by omega)]
      · unfold Mm.tag
        rw [pagePut, qn]
        by_cases c : x / 256 = a / 256
        · rw [if_pos c, c, hp]
          simp only [Option.map_some]
          show (p.ts.set (a % 256 / 32).toNat false).getD _ false = _
          rw [List.getD_eq_getElem?_getD, List.getD_eq_getElem?_getD, List.getElem?_set]
          by_cases e : x / 32 = a / 32
          · rw [if_pos (by omega), if_pos (by rw [hok.t]; omega), if_pos e]; rfl
          · rw [if_neg (by omega), if_neg e]
        · rw [if_neg c, if_neg (by omega)]
theorem load_at {m : Mm} (h : m.Wf) {a n : Int} (hn : n = 1 ∨ n = 2 ∨ n = 4 ∨ n = 8) (ha : a % n = 0) (hh : m.has a = true) : tagmem_Mem_Load.f 20 m a n = some (leval (m.bytes a n.toNat), 0) := by
  unfold Mm.has at hh
  unfold tagmem_Mem_Load.f
  rw [if_pos (size_of hn), if_pos ha]
  cases hp : m.page (a / 256) with
  | none => rw [hp] at hh; cases hh
  | some p =>
    simp only
    obtain ⟨f1, f2⟩ := fit hn ha
    have hb := h.byt p (page_mem hp).1
    rw [of_val (p.sub (a % 256) n) (by unfold Pg.sub; rw [List.length_take]; omega) (fun b hb2 => hb b (List.mem_of_mem_drop (List.mem_of_mem_take hb2))), Option.bind_some]
    unfold Pg.sub
    rw [page_bytes h hp n.toNat f1]
theorem storeCap_err {m : Mm} {a : Int} (ha : a % 32 = 0) (hh : ¬ m.has a = true) (c0 c1 c2 c3 c4 : Int) (t : Bool) : tagmem_Mem_StoreCap.f 20 m a c0 c1 c2 c3 c4 t = some (m, 30) := by
  unfold Mm.has at hh
  unfold tagmem_Mem_StoreCap.f
  rw [if_pos ha]
  cases hp : m.page (a / 256) with
  | none => rfl
  | some p => rw [hp] at hh; exact absurd rfl hh
theorem StAt.bytes {m m' : Mm} {a : Int} {l : List Int} (h : StAt m m' a l) : m'.bytes a l.length = l := by
  apply List.ext_getElem?
  intro j
  by_cases hj : j < l.length
  · rw [bytes_get _ _ hj, h.byte, if_pos (by omega), show (a + (j : Int) - a).toNat = j by omega, List.getD_eq_getElem?_getD, List.getElem?_eq_getElem (by omega)]
    rfl
  · rw [List.getElem?_eq_none (by rw [bytes_len]; omega), List.getElem?_eq_none (by omega)]
theorem bytes_one (m : Mm) (a : Int) : m.bytes a 1 = [m.byte a] := by rw [bytes_is]; simp
theorem has_same (m : Mm) {a b : Int} (h : a / 256 = b / 256) : m.has a = m.has b := by unfold Mm.has; rw [h]
end Go.Proofs.Ytkppgepljjgjhaa.P

namespace Go.Proofs.Ytkppgepljjgjhaa.Pure
open Go.RowKit Go.Proofs.Ytkppgepljjgjhaa.P Go.Proofs.YtkppgepljjgjhaaW.PrintWords Go.Proofs.YtkppgepljjgjhaaW.PrintLast
theorem u64_range {n : Int} (h : (Lit.int .u64 n).wf = true) : 0 ≤ n ∧ n ≤ 18446744073709551615 := by
  have := (Lit.wf_int_iff .u64 n).1 h
  simpa [IntKind.min, IntKind.max, IntKind.signed, IntKind.bits] using this
theorem u8_range {n : Int} (h : (Lit.int .u8 n).wf = true) : 0 ≤ n ∧ n < 256 := by
  have := (Lit.wf_int_iff .u8 n).1 h
  simp [IntKind.min, IntKind.max, IntKind.signed, IntKind.bits] at this
  omega
theorem op_ok {x : S53} (h : ok53 x) : OpOk2 x := by
  obtain ⟨h0, h1, h2, h3, ⟨c0, c1, c2, c3, c4, -⟩, -, -, h5⟩ := h
  exact ⟨⟨u64_range h1, u64_range h3, u64_range c0, u64_range c1, u64_range c2⟩, fun b hb => u8_range (h5 b hb)⟩
theorem capR_range {z : S41} (h : capR z = true) : (0 ≤ z.f3 ∧ z.f3 ≤ 255) ∧ (-1 ≤ z.f4 ∧ z.f4 ≤ 63) := by
  unfold capR at h
  simp only [Bool.and_eq_true, decide_eq_true_eq] at h
  exact ⟨⟨h.1.1.1, h.1.1.2⟩, ⟨h.1.2, h.2⟩⟩
theorem stored_ok {M : Mm} (h : M.Wf) {at_ u : Int} (a0 : 0 ≤ at_) (u0 : 0 ≤ u) (u1 : u ≤ 18446744073709551615) {z : S41} (hz : capR z = true) (h0 : 0 ≤ z.f0 ∧ z.f0 ≤ 18446744073709551615) (h1 : 0 ≤ z.f1 ∧ z.f1 ≤ 18446744073709551615) (h2 : 0 ≤ z.f2 ∧ z.f2 ≤ 18446744073709551615) : StoredHyp M at_ u z := by
  unfold StoredHyp
  obtain ⟨s, hs⟩ : ∃ s, s = at_ - at_ % 32 := ⟨_, rfl⟩
  obtain ⟨q, hq⟩ : ∃ q, q = s + 8 * (at_ % 4) := ⟨_, rfl⟩
  rw [← hs, ← hq]
  have s32 : s % 32 = 0 := by omega
  have q8 : q % 8 = 0 := by omega
  have qs : q / 32 = s / 32 := by omega
  have qp : q / 256 = s / 256 := by omega
  obtain ⟨r3, r4⟩ := capR_range hz
  by_cases hh : M.has s = true
  · refine .inr ?_
    obtain ⟨M1, e1, C1⟩ := storeCap_at h s32 hh z.f0 z.f1 z.f2 z.f3 z.f4 z.f5
    have hh1 : M1.has s = true := by rw [C1.has]; exact hh
    have hq1 : M1.has q = true := by rw [has_same M1 qp]; exact hh1
    have e2 : tagmem_Mem_LoadCap.f 20 M1 s = some (z.f0, z.f1, z.f2, z.f3, z.f4, z.f5, 0) := by
      rw [loadCap_at C1.wf s32 hh1, C1.bytes (capL_len _ _ _ _ _), C1.tag, if_pos rfl, capOf_capL h0 h1 h2 r3 r4]
    obtain ⟨M2, e3, C2⟩ := store_at C1.wf (n := 8) (by omega) q8 hq1 u0 u1
    have hq2 : M2.has q = true := by rw [C2.has]; exact hq1
    have hs2 : M2.has s = true := by rw [C2.has]; exact hh1
    have l8 : (leb u).take (8 : Int).toNat = leb u := rfl
    rw [l8] at C2
    have e4 : tagmem_Mem_Load.f 20 M2 q 8 = some (u, 0) := by
      have hb := C2.bytes
      rw [leb_len] at hb
      rw [load_at C2.wf (by omega) q8 hq2, show (8 : Int).toNat = 8 from rfl, hb, leval_leb u0 u1]
    have e5 : tagmem_Mem_Load.f 20 M2 q 1 = some (u % 256, 0) := by
      have hb : M2.byte q = u % 256 := by
        rw [C2.byte, if_pos (by rw [leb_len]; omega), show (q - q).toNat = 0 by omega]
        rfl
      rw [load_at C2.wf (by omega) (by omega) hq2, show (1 : Int).toNat = 1 from rfl, bytes_one, hb]
      simp only [leval, Int.mul_zero, Int.add_zero]
    obtain ⟨v0, v1, v2, v3, v4, e6⟩ : ∃ v0 v1 v2 v3 v4, tagmem_Mem_LoadCap.f 20 M2 s = some (v0, v1, v2, v3, v4, false, 0) := by
      rw [loadCap_at C2.wf s32 hs2, C2.tag, if_pos qs.symm]
      exact ⟨_, _, _, _, _, rfl⟩
    exact ⟨M1, M2, v0, v1, v2, v3, v4, e1, e2, e3, e4, e5, e6⟩
  · exact .inl ⟨M, storeCap_err s32 hh _ _ _ _ _ _⟩
theorem TagmemStored : curtilagelaw03_TagmemStored.Pure := by
  intro y0 y1 y2 y3 y4 h0 h1 h2 h3 h4
  have hx : ∀ x ∈ y1, OpOk2 x := fun x hx => op_ok (h1.2.2 x hx)
  obtain ⟨c0, c1, c2, c3, c4, -⟩ := h4
  exact ⟨hx, u64_range h2, u64_range h3, fun M hM hz => stored_ok (madeP_ok hM hx).wf (u64_range h2).1 (u64_range h3).1 (u64_range h3).2 hz (u64_range c0) (u64_range c1) (u64_range c2)⟩
end Go.Proofs.Ytkppgepljjgjhaa.Pure
