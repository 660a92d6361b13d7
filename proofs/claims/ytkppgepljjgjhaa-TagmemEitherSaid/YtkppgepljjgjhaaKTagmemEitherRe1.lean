/- Texts of one proof, one behind the other. No condition. -/
import Derived.Test.YtkppgepljjgjhaaKTagmemEitherRc4
namespace Go.Proofs.Ytkppgepljjgjhaa.P
open Go.RowKit Go.Proofs.YtkppgepljjgjhaaW.PrintWords Go.Proofs.YtkppgepljjgjhaaW.PrintLast Go.Proofs.YtkppgepljjgjhaaW.PrintMore
set_option linter.unusedVariables false
set_option linter.unusedSimpArgs false

/-- A box of the walk's own, apart from the memory. -/
def BKeep (w : World) (gm : Nat) (L : List Lp) (b : Nat) (cs : Array Value) : Prop := w.heap[b]? = some (.cells cs 41 (0, 0)) ∧ b ≠ gm ∧ ¬ inL L b
section
variable {B : Nat} {w W : World} {g gm : Nat} {L L' : List Lp} {c : Nat} {m : Mm} {b : Nat} {cs : Array Value}
theorem BKeep.below (h : BKeep w gm L b cs) (hb : Below w.heap.size w W) : BKeep W gm L b cs := ⟨blk_below h.1 hb, h.2⟩
theorem BKeep.step (h : BKeep w gm L b cs) (hL : ∀ k, inL L' k → inL L k ∨ w.heap.size ≤ k) (hu : Upd w W (fun k => k = gm ∨ inL L k)) : BKeep W gm L' b cs := by
  have hlt := blk_lt h.1
  refine ⟨(hu.block b hlt (fun e => by rcases e with e | e; exact h.2.1 e; exact h.2.2 e)).trans h.1, h.2.1, fun e => ?_⟩
  rcases hL b e with e | e
  · exact h.2.2 e
  · omega
theorem BKeep.old {cs : Array Value} {w0 : World} (S : Sol w0.heap.size w g gm L c m) (h : w0.heap[b]? = some (.cells cs 41 (0, 0))) (hb : Below w0.heap.size w0 w) : BKeep w gm L b cs := by
  have hlt := blk_lt h
  exact ⟨blk_below h hb, by have := S.b1.2; omega, fun e => by have := S.b3 _ e; omega⟩
end
theorem solo {w0 w : World} {g gm : Nat} {L : List Lp} {cl : Nat} {M : Mm} (hM : MemL w g gm L cl M) (h1 : w0.heap.size ≤ g) (h2 : w0.heap.size ≤ gm) (h3 : ∀ k, inL L k → w0.heap.size ≤ k) : Sol w0.heap.size w g gm L cl M := ⟨hM, ⟨h1, h2⟩, h3⟩
end Go.Proofs.Ytkppgepljjgjhaa.P

namespace Go.Proofs.Ytkppgepljjgjhaa.P
open Go.RowKit Go.Proofs.YtkppgepljjgjhaaW.PrintWords Go.Proofs.YtkppgepljjgjhaaW.PrintLast Go.Proofs.YtkppgepljjgjhaaW.PrintMore
set_option linter.unusedVariables false
set_option linter.unusedSimpArgs false

theorem sBytes {B : Nat} {w : World} {g gm : Nat} {L : List Lp} {c : Nat} {m : Mm} (S : Sol B w g gm L c m) (a n : Int) (h0 : 0 ≤ a) (h1 : a ≤ 18446744073709551615) : Calls Try.prog 23 #[.pointer (some ⟨g, 0, none⟩), .int .u64 a, .int .i64 n] w fun e w' => ∃ v : Value, e = .returned v ∧ Kd.R (Kd.int .u8) 5 w' w.heap.size (fun _ => True) v (tagmem_Mem_Bytes.f m a n) ∧ Below w.heap.size w w' := Bytes_calls S.M a n h0 h1
end Go.Proofs.Ytkppgepljjgjhaa.P

namespace Go.Proofs.Ytkppgepljjgjhaa.P
open Go.RowKit Go.Proofs.YtkppgepljjgjhaaW.PrintWords Go.Proofs.YtkppgepljjgjhaaW.PrintLast Go.Proofs.YtkppgepljjgjhaaW.PrintMore
set_option linter.unusedVariables false
set_option linter.unusedSimpArgs false
/-- Some bytes of a number stand at a; its granule has no tag. -/
structure StAt (m m' : Mm) (a : Int) (l : List Int) : Prop where
  wf : m'.Wf
  has : ∀ x, m'.has x = m.has x
  budget : m'.budget = m.budget
  nos : m'.pages.map Pg.no = m.pages.map Pg.no
  byte : ∀ x, m'.byte x = if a ≤ x ∧ x < a + l.length then l.getD (x - a).toNat 0 else m.byte x
  tag : ∀ x, m'.tag x = if x / 32 = a / 32 then false else m.tag x
theorem fit {a n : Int} (hn : n = 1 ∨ n = 2 ∨ n = 4 ∨ n = 8) (ha : a % n = 0) : (a % 256).toNat + n.toNat ≤ 256 ∧ a % 32 + n ≤ 32 := by
  rcases hn with rfl | rfl | rfl | rfl <;> omega
theorem size_of {n : Int} (hn : n = 1 ∨ n = 2 ∨ n = 4 ∨ n = 8) : size_ok n := by unfold size_ok; exact hn
theorem leb_part (u : Int) {n : Int} (hn : n = 1 ∨ n = 2 ∨ n = 4 ∨ n = 8) : ((leb u).take n.toNat).length = n.toNat := by rw [List.length_take, leb_len]; omega
theorem store_at {m : Mm} (h : m.Wf) {a n u : Int} (hn : n = 1 ∨ n = 2 ∨ n = 4 ∨ n = 8) (ha : a % n = 0) (hh : m.has a = true) (u0 : 0 ≤ u) (u1 : u ≤ 18446744073709551615) :
    ∃ m', tagmem_Mem_Store.f 20 m a n u = some (m', 0) ∧ StAt m m' a ((leb u).take n.toNat) := by
  unfold Mm.has at hh
  cases hp : m.page (a / 256) with
  | none => rw [hp] at hh; cases hh
  | some p =>
    obtain ⟨hm, hno⟩ := page_mem hp
    have hok := h.ok p hm
    obtain ⟨f1, f2⟩ := fit hn ha
    have hl := leb_part u hn
    obtain ⟨l, hlq⟩ : ∃ l, l = (leb u).take n.toNat := ⟨_, rfl⟩
    rw [← hlq] at hl ⊢
    have hn8 : 0 < l.length := by rw [hl]; omega
    obtain ⟨i, hi⟩ : ∃ i, i = (a % 256).toNat := ⟨_, rfl⟩
    have hi3 : (a % 256) = (i : Int) := by omega
    refine ⟨m.put (p.store (a % 256) l), ?_, ?_⟩
    · unfold tagmem_Mem_Store.f
      rw [if_pos (size_of hn), if_pos ha, hp]
      simp only
      rw [little_is u u0 u1 n hn, Option.bind_some, ← hlq, if_pos ⟨hn8, by omega⟩]
    · have qn : (p.store (a % 256) l).no = a / 256 := hno
      refine ⟨store_wf h hp (by omega) (fun b hb => leb_range u b (List.mem_of_mem_take (hlq ▸ hb))), fun x => ?_, rfl, ?_, fun x => ?_, fun x => ?_⟩
      · unfold Mm.has
        rw [pagePut]
        split <;> simp
      · unfold Mm.put
        rw [List.map_map]
        exact List.map_congr_left fun r _ => put_no _ r
      · unfold Mm.byte
        rw [pagePut, qn]
        by_cases c : x / 256 = a / 256
        · rw [if_pos c, c, hp]
          simp only [Option.map_some]
          show (splice p.bs (a % 256).toNat l).getD _ 0 = _
          rw [List.getD_eq_getElem?_getD, List.getD_eq_getElem?_getD, List.getD_eq_getElem?_getD, splice_get (by rw [hok.b]; omega)]
          by_cases e : a ≤ x ∧ x < a + l.length
          · rw [if_pos (by omega), if_pos e, show (x % 256).toNat - (a % 256).toNat = (x - a).toNat by omega]
          · rw [if_neg (by omega), if_neg e]
        · rw [if_neg c, if_neg (by omega)]
      · unfold Mm.tag
        rw [pagePut, qn]
        by_cases c : x / 256 = a / 256
        · rw [if_pos c, c, hp]
          simp only [Option.map_some]
          show (p.ts.set (a % 256 / 32).toNat false).getD _ false = _
          rw [List.getD_eq_getElem?_getD, List.getD_eq_getElem?_getD, List.getElem?_set]
          by_cases e : x / 32 = a / 32
          · rw [if_pos (by omega), if_pos (by rw [hok.t]; omega), if_pos e]; rfl
          · rw [if_neg (by omega), if_neg e]
        · rw [if_neg c, if_neg (by omega)]
theorem StAt.bytes {m m' : Mm} {a : Int} {l : List Int} (h : StAt m m' a l) : m'.bytes a l.length = l := by
  apply List.ext_getElem?
  intro j
  by_cases hj : j < l.length
  · rw [bytes_get _ _ hj, h.byte, if_pos (by omega), show (a + (j : Int) - a).toNat = j by omega, List.getD_eq_getElem?_getD, List.getElem?_eq_getElem (by omega)]
    rfl
  · rw [List.getElem?_eq_none (by rw [bytes_len]; omega), List.getElem?_eq_none (by omega)]
end Go.Proofs.Ytkppgepljjgjhaa.P

namespace Go.Proofs.Ytkppgepljjgjhaa.P
open Go.RowKit Go.Proofs.YtkppgepljjgjhaaW.PrintWords Go.Proofs.YtkppgepljjgjhaaW.PrintLast Go.Proofs.YtkppgepljjgjhaaW.PrintMore
set_option linter.unusedVariables false
set_option linter.unusedSimpArgs false
theorem flatMap_len (l : List Int) (f : Int → List Int) (hf : ∀ x, (f x).length ≤ 8) : (l.flatMap f).length ≤ 8 * l.length := by
  induction l with
  | nil => simp
  | cons x l ih =>
    rw [List.flatMap_cons, List.length_append, List.length_cons]
    have := hf x
    omega
theorem marksOf_len (m : Mm) (n : Int) : (m.marksOf n).length ≤ 8 := by
  unfold Mm.marksOf
  split
  · unfold Pg.marks
    exact Nat.le_trans (List.length_filterMap_le _ _) (by rw [List.length_range]; exact Nat.le_refl _)
  · simp
theorem tags_len {m : Mm} (h : MOk m) : (tagmem_Mem_Tags.f m).length ≤ 2048 := by
  have h1 := flatMap_len (tagmem_Mem_Pages.f m) m.marksOf (marksOf_len m)
  have h2 : (tagmem_Mem_Pages.f m).length = m.pages.length := by
    unfold tagmem_Mem_Pages.f sortI
    rw [List.length_mergeSort, List.length_map]
  have h3 := h.len
  have h4 := h.b
  unfold tagmem_Mem_Tags.f
  omega
end Go.Proofs.Ytkppgepljjgjhaa.P
