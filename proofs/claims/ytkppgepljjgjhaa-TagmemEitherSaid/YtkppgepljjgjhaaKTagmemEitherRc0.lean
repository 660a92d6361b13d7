/- Texts of one proof, one behind the other. No condition. -/
import Derived.Test.YtkppgepljjgjhaaKTagmemEitherMe0
import Derived.Test.YtkppgepljjgjhaaKTagmemEitherMc7
import Derived.Test.YtkppgepljjgjhaaKTagmemEitherRb4
namespace Go.Proofs.Ytkppgepljjgjhaa.P
set_option linter.unusedVariables false
set_option linter.unusedSimpArgs false
theorem pageAdd (m : Mm) (n q : Int) : (m.add n).page q = match m.page q with | some p => some p | none => if q = n then some (Pg.zero n) else none := by
  unfold Mm.page Mm.add
  rw [List.find?_append]
  cases m.pages.find? (fun p => q == p.no) with
  | some p => rfl
  | none =>
    simp only [Option.none_or, List.find?_cons, List.find?_nil]
    by_cases c : q = n
    · rw [if_pos c, show (q == (Pg.zero n).no) = true from beq_iff_eq.2 c]
    · rw [if_neg c, show (q == (Pg.zero n).no) = false from beq_eq_false_iff_ne.2 c]
theorem Mm.Wf.add {m : Mm} (h : m.Wf) {n : Int} (hn : m.page n = none) (h0 : 0 ≤ n ∧ n < 65536) : (m.add n).Wf := by
  have hk : n ∉ m.pages.map Pg.no := fun hc => by
    obtain ⟨p, hp, e⟩ := List.mem_map.1 hc
    unfold Mm.page at hn
    have := List.find?_eq_none.1 hn p hp
    rw [e] at this
    simp at this
  have hm : ∀ p ∈ (m.add n).pages, p ∈ m.pages ∨ p = Pg.zero n := fun p hp => by
    rcases List.mem_append.1 hp with hp | hp
    · exact .inl hp
    · exact .inr (List.mem_singleton.1 hp)
  refine ⟨?_, fun p hp => ?_, fun p hp => ?_, fun p hp => ?_⟩
  · show ((m.pages ++ [Pg.zero n]).map Pg.no).Nodup
    rw [List.map_append, List.map_singleton, List.nodup_append]
    exact ⟨h.keys, by simp, fun a ha b hb => by simp only [List.mem_singleton] at hb; subst hb; exact fun e => hk (by rw [← e]; exact ha)⟩
  · rcases hm p hp with hp | rfl
    · exact h.ok p hp
    · exact Pg.zero_ok n
  · rcases hm p hp with hp | rfl
    · exact h.byt p hp
    · intro b hb
      have := List.eq_of_mem_replicate hb
      omega
  · rcases hm p hp with hp | rfl
    · exact h.no p hp
    · exact h0
/-- Pages that were not mapped are mapped: what is there then. -/
theorem pagesAdds {m : Mm} (h : m.Wf) {p : Int} (h0 : 0 ≤ p) : ∀ j : Nat, p + j ≤ 65536 → (∀ i : Nat, i < j → m.page (p + i) = none) → (m.adds p j).Wf ∧ ∀ q, (m.adds p j).page q = if p ≤ q ∧ q < p + j then some (Pg.zero q) else m.page q
  | 0, _, _ => ⟨h, fun q => by rw [if_neg (by omega)]; rfl⟩
  | j + 1, h1, hn => by
    obtain ⟨I1, I2⟩ := pagesAdds h h0 j (by omega) (fun i hi => hn i (by omega))
    have hz : (m.adds p j).page (p + (j : Int)) = none := by rw [I2, if_neg (by omega)]; exact hn j (by omega)
    refine ⟨I1.add hz ⟨by omega, by omega⟩, fun q => ?_⟩
    show ((m.adds p j).add (p + (j : Int))).page q = _
    rw [pageAdd, I2]
    by_cases c : p ≤ q ∧ q < p + j
    · rw [if_pos c]; rw [if_pos (show p ≤ q ∧ q < p + ((j + 1 : Nat) : Int) by omega)]
    · rw [if_neg c]
      by_cases c2 : q = p + (j : Int)
      · rw [if_pos (show p ≤ q ∧ q < p + ((j + 1 : Nat) : Int) by omega), c2, hn j (by omega)]
        simp
      · rw [if_neg (show ¬ (p ≤ q ∧ q < p + ((j + 1 : Nat) : Int)) by omega)]
        cases m.page q with
        | some r => rfl
        | none => simp [c2]
end Go.Proofs.Ytkppgepljjgjhaa.P

namespace Go.Proofs.Ytkppgepljjgjhaa.P
open Go.RowKit Go.Proofs.YtkppgepljjgjhaaW.PrintWords Go.Proofs.YtkppgepljjgjhaaW.PrintLast Go.Proofs.YtkppgepljjgjhaaW.PrintMore
set_option linter.unusedVariables false
set_option linter.unusedSimpArgs false
/-- What the document's memory keeps to behind j steps. -/
structure Rm.InvN (j : Nat) (r : Rm) : Prop where
  ml : (r.mapped.length : Int) ≤ r.budget
  b : r.budget ≤ 256
  cl : r.cells.length ≤ 1000 * j
  kl : r.marks.length ≤ j
  cb : ∀ c ∈ r.cells, (0 ≤ c.f0 ∧ c.f0 ≤ 18446744073709551615) ∧ 0 ≤ c.f1 ∧ c.f1 < 256
  kb : ∀ x ∈ r.marks, 0 ≤ x ∧ x ≤ 18446744073709551615
theorem by_of {r : Rm} (h : ∀ c ∈ r.cells, 0 ≤ c.f1 ∧ c.f1 < 256) : r.By := by
  intro x
  unfold Rm.byte
  cases hf : r.cells.find? (fun c => decide (c.f0 = x)) with
  | none => exact ⟨Int.le_refl 0, by decide⟩
  | some c => exact h c (List.mem_of_find?_eq_some hf)
theorem Rm.InvN.inv {j : Nat} {r : Rm} (h : r.InvN j) (hj : j ≤ 100) : r.Inv :=
  ⟨by have := h.ml; have := h.b; omega, by have := h.cl; omega, by have := h.kl; omega, by_of (fun c hc => (h.cb c hc).2), ⟨fun c hc => (h.cb c hc).1, h.kb⟩, h.b⟩
theorem set_cells_mem {r : Rm} {a b : Int} {c : S89} (h : c ∈ (r.set a b).cells) : c ∈ r.cells ∨ c = ⟨a, b⟩ := by
  have h2 : c ∈ r.setCells a b := h
  unfold Rm.setCells at h2
  rcases List.mem_append.1 h2 with h3 | h3
  · exact .inl (List.mem_filter.1 h3).1
  · split at h3
    · cases h3
    · exact .inr (List.mem_singleton.1 h3)
theorem sets_cells_mem : ∀ (l : List Int) {r : Rm} {a : Int} {c : S89}, c ∈ (r.sets a l).cells → c ∈ r.cells ∨ ∃ i : Nat, ∃ h : i < l.length, c = ⟨a + i, l[i]⟩
  | [], r, a, c, h => .inl h
  | b :: l, r, a, c, h => by
    rcases sets_cells_mem l h with h | ⟨i, hi, e⟩
    · rcases set_cells_mem h with h | e
      · exact .inl h
      · exact .inr ⟨0, by simp, by simpa using e⟩
    · refine .inr ⟨i + 1, by simpa using hi, ?_⟩
      rw [e, List.getElem_cons_succ]
      congr 1
      rw [Int.natCast_add]
      show a + 1 + (i : Int) = a + ((i : Int) + 1)
      omega
theorem sets_marks_mem : ∀ (l : List Int) {r : Rm} {a x : Int}, x ∈ (r.sets a l).marks → x ∈ r.marks
  | [], r, a, x, h => h
  | b :: l, r, a, x, h => (List.mem_filter.1 (sets_marks_mem l h)).1
/-- Bytes laid in range. -/
theorem InvN_sets {j : Nat} {r : Rm} (h : r.InvN j) {a : Int} {l : List Int} (h0 : 0 ≤ a) (h1 : a + l.length ≤ 18446744073709551616) (hb : ∀ b ∈ l, 0 ≤ b ∧ b < 256) (hl : l.length ≤ 600) : (r.sets a l).InvN (j + 1) := by
  obtain ⟨s1, s2, s3, s4⟩ := sets_size l r a
  refine ⟨by rw [s1, s4]; exact h.ml, by rw [s4]; exact h.b, by have := h.cl; omega, by have := h.kl; omega, fun c hc => ?_, fun x hx => h.kb x (sets_marks_mem l hx)⟩
  rcases sets_cells_mem l hc with hc | ⟨i, hi, rfl⟩
  · exact h.cb c hc
  · exact ⟨⟨by show 0 ≤ a + (i : Int); omega, by show a + (i : Int) ≤ _; omega⟩, hb _ (List.getElem_mem hi)⟩
theorem Rm.InvN.more {j : Nat} {r : Rm} (h : r.InvN j) : r.InvN (j + 1) := ⟨h.ml, h.b, by have := h.cl; omega, by have := h.kl; omega, h.cb, h.kb⟩
theorem InvN_map {j : Nat} {r : Rm} (h : r.InvN j) (p n : Int) : (r.map p n).1.InvN (j + 1) := by
  unfold Rm.map
  split
  · exact h.more
  · rename_i c1
    split
    · exact h.more
    · split
      · exact h.more
      · rename_i c3
        obtain ⟨s1, s2, s3, s4⟩ := putPages_size r p n.toNat
        unfold someB at c1
        simp only [decide_eq_false_iff_not, Decidable.not_not] at c1
        refine ⟨?_, by show (r.putPages p n.toNat).budget ≤ _; rw [s4]; exact h.b, by show (r.putPages p n.toNat).cells.length ≤ _; rw [s2]; have := h.cl; omega, by show (r.putPages p n.toNat).marks.length ≤ _; rw [s3]; have := h.kl; omega, ?_, ?_⟩
        · show ((r.putPages p n.toNat).mapped.length : Int) ≤ (r.putPages p n.toNat).budget
          rw [s1, s4]
          omega
        · show ∀ c ∈ (r.putPages p n.toNat).cells, _
          rw [s2]; exact h.cb
        · show ∀ c ∈ (r.putPages p n.toNat).marks, _
          rw [s3]; exact h.kb
theorem InvN_delPages {j : Nat} {r : Rm} (h : r.InvN j) (p : Int) : ∀ n, (r.delPages p n).InvN j
  | 0 => h
  | n + 1 => by
    have ih := InvN_delPages h p n
    refine ⟨?_, ih.b, Nat.le_trans (List.length_filter_le _ _) ih.cl, Nat.le_trans (List.length_filter_le _ _) ih.kl, fun c hc => ih.cb c (List.mem_filter.1 hc).1, fun x hx => ih.kb x (List.mem_filter.1 hx).1⟩
    have h1 := ih.ml
    have h2 : ((r.delPages p n).delPage (p + n)).mapped.length ≤ (r.delPages p n).mapped.length := List.length_filter_le _ _
    show (((r.delPages p n).delPage (p + n)).mapped.length : Int) ≤ (r.delPages p n).budget
    omega
theorem InvN_unmap {j : Nat} {r : Rm} (h : r.InvN j) (p n : Int) : (r.unmap p n).1.InvN (j + 1) := by
  unfold Rm.unmap
  split
  · exact h.more
  · split
    · exact h.more
    · exact (InvN_delPages h p _).more
theorem InvN_store {j : Nat} {r : Rm} (h : r.InvN j) {a n u : Int} (h0 : 0 ≤ a) (h1 : a ≤ 18446744073709551615) : (r.store a n u).1.InvN (j + 1) := by
  unfold Rm.store
  split
  · rename_i hz
    obtain ⟨hn, ha, -⟩ := bad_zero hz
    have hl : ((leb u).take n.toNat).length = n.toNat := by rw [List.length_take, leb_len]; omega
    exact InvN_sets h h0 (by rw [hl]; rcases hn with rfl | rfl | rfl | rfl <;> omega) (fun b hb => leb_range u b (List.mem_of_mem_take hb)) (by omega)
  · exact h.more
theorem InvN_put {j : Nat} {r : Rm} (h : r.InvN j) {a : Int} {l : List Int} (h0 : 0 ≤ a) (hb : ∀ b ∈ l, 0 ≤ b ∧ b < 256) (hl : l.length ≤ 600) : (r.putB a l).1.InvN (j + 1) := by
  unfold Rm.putB
  split
  · rename_i hz
    unfold Rm.all at hz
    rw [Bool.and_eq_true, decide_eq_true_eq] at hz
    exact InvN_sets h h0 hz.1 hb hl
  · exact h.more
theorem putF_mem {n x : Int} : ∀ {l : List Int}, x ∈ putF n l → x = n ∨ x ∈ l
  | [], h => .inl (List.mem_singleton.1 h)
  | y :: l, h => by
    unfold putF at h
    split at h
    · rcases List.mem_cons.1 h with h | h
      · exact .inl h
      · exact .inr h
    · rcases List.mem_cons.1 h with h | h
      · exact .inr (h ▸ List.mem_cons_self)
      · rcases putF_mem h with h | h
        · exact .inl h
        · exact .inr (List.mem_cons_of_mem _ h)
theorem sets_app : ∀ (a b : List Int) (r : Rm) (x : Int), r.sets x (a ++ b) = (r.sets x a).sets (x + a.length) b
  | [], b, r, x => by simp [Rm.sets]
  | y :: a, b, r, x => by
    rw [List.cons_append, Rm.sets, sets_app a b, Rm.sets, List.length_cons]
    congr 1
    omega
theorem storeCap_sets (r : Rm) (a c0 c1 c2 c3 c4 : Int) : (((r.sets a (leb c0)).sets (a + 8) (leb c1)).sets (a + 16) (leb c2)).sets (a + 24) [c3 % 256, c4 % 256, 0, 0, 0, 0, 0, 0] = r.sets a (capL c0 c1 c2 c3 c4) := by
  unfold capL
  rw [sets_app, sets_app, sets_app]
  rfl
theorem capL_range (c0 c1 c2 c3 c4 : Int) : ∀ b ∈ capL c0 c1 c2 c3 c4, 0 ≤ b ∧ b < 256 := by
  intro b hb
  unfold capL at hb
  rcases List.mem_append.1 hb with hb | hb
  · rcases List.mem_append.1 hb with hb | hb
    · rcases List.mem_append.1 hb with hb | hb
      · exact leb_range _ b hb
      · exact leb_range _ b hb
    · exact leb_range _ b hb
  · simp only [List.mem_cons, List.not_mem_nil, or_false] at hb
    rcases hb with rfl | rfl | rfl | rfl | rfl | rfl | rfl | rfl <;> omega
theorem InvN_storeCap {j : Nat} {r : Rm} (h : r.InvN j) {a : Int} (c0 c1 c2 c3 c4 : Int) (c5 : Bool) (h0 : 0 ≤ a) (h1 : a ≤ 18446744073709551615) : (r.storeCap a c0 c1 c2 c3 c4 c5).1.InvN (j + 1) := by
  unfold Rm.storeCap
  split
  · rename_i hz
    have ha : a % 32 = 0 := by
      unfold Rm.spot at hz
      by_cases c : a % 32 ≠ 0
      · rw [if_pos c] at hz; cases hz
      · omega
    rw [storeCap_sets]
    have hs := InvN_sets h (l := capL c0 c1 c2 c3 c4) h0 (by rw [capL_len]; omega) (capL_range _ _ _ _ _) (by rw [capL_len]; omega)
    have hk := (sets_size (capL c0 c1 c2 c3 c4) r a).2.2.1
    generalize r.sets a (capL c0 c1 c2 c3 c4) = q at hs hk
    have hkl := h.kl
    cases c5 with
    | false => exact hs
    | true =>
      show Rm.InvN (j + 1) { q with marks := putF a q.marks }
      refine ⟨hs.ml, hs.b, hs.cl, ?_, hs.cb, fun x hx => ?_⟩
      · show (putF a q.marks).length ≤ _
        rw [putF_length]
        omega
      · rcases putF_mem (show x ∈ putF a q.marks from hx) with rfl | hx
        · exact ⟨h0, h1⟩
        · exact hs.kb x hx
  · exact h.more
end Go.Proofs.Ytkppgepljjgjhaa.P
