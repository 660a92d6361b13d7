/- What a play keeps the program's memory to, in plain words. No condition. -/
import Derived.Test.YtkppgepljjgjhaaKTagmemEitherRc0
namespace Go.Proofs.Ytkppgepljjgjhaa.P
open Go.RowKit Go.Proofs.YtkppgepljjgjhaaW.PrintWords Go.Proofs.YtkppgepljjgjhaaW.PrintLast Go.Proofs.YtkppgepljjgjhaaW.PrintMore
set_option linter.unusedVariables false
set_option linter.unusedSimpArgs false
structure MOk (m : Mm) : Prop where
  wf : m.Wf
  len : (m.pages.length : Int) ≤ m.budget
  b : m.budget ≤ 256
theorem adds_len (m : Mm) (p : Int) : ∀ j, (m.adds p j).pages.length = m.pages.length + j ∧ (m.adds p j).budget = m.budget
  | 0 => ⟨rfl, rfl⟩
  | j + 1 => by
    obtain ⟨h1, h2⟩ := adds_len m p j
    refine ⟨?_, h2⟩
    show ((m.adds p j).pages ++ [Pg.zero (p + j)]).length = _
    rw [List.length_append, h1]
    rfl
theorem del_wf {m : Mm} (h : m.Wf) (n : Int) : (m.del n).Wf ∧ (m.del n).pages.length ≤ m.pages.length ∧ (m.del n).budget = m.budget := by
  have hs : ((m.del n).pages).Sublist m.pages := List.eraseIdx_sublist _ _
  exact ⟨⟨h.keys.sublist (hs.map Pg.no), fun p hp => h.ok p (hs.subset hp), fun p hp => h.byt p (hs.subset hp), fun p hp => h.no p (hs.subset hp)⟩, hs.length_le, rfl⟩
theorem dels_wf {m : Mm} (h : m.Wf) (p : Int) : ∀ j, (m.dels p j).Wf ∧ (m.dels p j).pages.length ≤ m.pages.length ∧ (m.dels p j).budget = m.budget
  | 0 => ⟨h, Nat.le_refl _, rfl⟩
  | j + 1 => by
    obtain ⟨h1, h2, h3⟩ := dels_wf h p j
    obtain ⟨g1, g2, g3⟩ := del_wf h1 (p + j)
    exact ⟨g1, Nat.le_trans g2 h2, g3.trans h3⟩
theorem put_len (m : Mm) (p : Pg) : (m.put p).pages.length = m.pages.length ∧ (m.put p).budget = m.budget := ⟨by unfold Mm.put; exact List.length_map .., rfl⟩
theorem poke_len (m : Mm) (a b : Int) : (m.poke a b).pages.length = m.pages.length ∧ (m.poke a b).budget = m.budget := by
  unfold Mm.poke
  split
  · exact put_len _ _
  · exact ⟨rfl, rfl⟩
theorem pokes_len : ∀ (l : List Int) (m : Mm) (a : Int), (m.pokes a l).pages.length = m.pages.length ∧ (m.pokes a l).budget = m.budget
  | [], m, a => ⟨rfl, rfl⟩
  | b :: l, m, a => by
    rw [Mm.pokes]
    obtain ⟨h1, h2⟩ := pokes_len l (m.poke a b) (a + 1)
    obtain ⟨g1, g2⟩ := poke_len m a b
    exact ⟨h1.trans g1, h2.trans g2⟩
theorem MOk_map {m : Mm} (h : MOk m) {p n : Int} (h0 : 0 ≤ p) : MOk (tagmem_Mem_Map.f m p n).1 := by
  unfold tagmem_Mem_Map.f
  split
  · exact h
  · rename_i c1
    split
    · exact h
    · rename_i c2
      split
      · exact h
      · rename_i c3
        unfold someB at c1
        simp only [decide_eq_false_iff_not, Decidable.not_not] at c1
        obtain ⟨s1, s2⟩ := adds_len m p n.toNat
        have hl := h.len
        have hb := h.b
        have hw : wrap64 ((m.pages.length : Int) + n) = (m.pages.length : Int) + n := i64w (by omega) (by omega)
        rw [hw] at c3
        have hn : ∀ i : Nat, i < n.toNat → m.page (p + i) = none := fun i hi => by
          rw [Bool.not_eq_false] at c2
          have := List.all_eq_true.1 c2 i (List.mem_range.2 hi)
          cases hp : m.page (p + i) with
          | none => rfl
          | some q => rw [hp] at this; cases this
        refine ⟨(pagesAdds h.wf h0 n.toNat (by omega) hn).1, ?_, ?_⟩
        · show ((m.adds p n.toNat).pages.length : Int) ≤ (m.adds p n.toNat).budget
          rw [s1, s2]
          omega
        · show (m.adds p n.toNat).budget ≤ 256
          rw [s2]; exact hb
theorem MOk_unmap {m : Mm} (h : MOk m) {p n : Int} : MOk (tagmem_Mem_Unmap.f m p n).1 := by
  unfold tagmem_Mem_Unmap.f
  split
  · exact h
  · split
    · exact h
    · obtain ⟨g1, g2, g3⟩ := dels_wf h.wf p n.toNat
      have hl := h.len
      refine ⟨g1, ?_, ?_⟩
      · show ((m.dels p n.toNat).pages.length : Int) ≤ (m.dels p n.toNat).budget
        rw [g3]; omega
      · show (m.dels p n.toNat).budget ≤ 256
        rw [g3]; exact h.b
theorem store_wf {m : Mm} (h : m.Wf) {a : Int} {p : Pg} (hp : m.page (a / 256) = some p) {l : List Int} (hl : (a % 256).toNat + l.length ≤ 256) (hb : ∀ b ∈ l, 0 ≤ b ∧ b < 256) : (m.put (p.store (a % 256) l)).Wf := by
  obtain ⟨hm, hn⟩ := page_mem hp
  have hok := h.ok p hm
  have hno := h.no p hm
  refine h.put (p := p.store (a % 256) l) ⟨?_, ?_⟩ (fun b hb2 => splice_mem (h.byt p hm) hb b hb2) hno
  · show (splice p.bs _ l).length = 256
    rw [splice_len (by rw [hok.b]; exact hl), hok.b]
  · show (p.ts.set _ false).length = 8
    rw [List.length_set, hok.t]
theorem MOk_store {m : Mm} (h : MOk m) {a n u : Int} (u0 : 0 ≤ u) (u1 : u ≤ 18446744073709551615) : MOk ((tagmem_Mem_Store.f 20 m a n u).getD (m, 0)).1 := by
  unfold tagmem_Mem_Store.f
  by_cases c1 : size_ok n
  · rw [if_pos c1]
    by_cases c2 : a % n = 0
    · rw [if_pos c2]
      cases hp : m.page (a / 256) with
      | none => exact h
      | some p =>
        have hn := sizes c1
        simp only
        rw [little_is u u0 u1 n hn, Option.bind_some]
        have hl : ((leb u).take n.toNat).length = n.toNat := by rw [List.length_take, leb_len]; omega
        have hfit : 0 < ((leb u).take n.toNat).length ∧ (a % 256).toNat + ((leb u).take n.toNat).length ≤ 256 := by
          rw [hl]; rcases hn with rfl | rfl | rfl | rfl <;> omega
        rw [if_pos hfit]
        obtain ⟨s1, s2⟩ := put_len m (p.store (a % 256) ((leb u).take n.toNat))
        refine ⟨store_wf h.wf hp hfit.2 (fun b hb => leb_range u b (List.mem_of_mem_take hb)), ?_, ?_⟩
        · show ((m.put (p.store (a % 256) ((leb u).take n.toNat))).pages.length : Int) ≤ (m.put (p.store (a % 256) ((leb u).take n.toNat))).budget
          rw [s1, s2]; exact h.len
        · exact h.b
    · rw [if_neg c2]; exact h
  · rw [if_neg c1]; exact h
theorem MOk_storeCap {m : Mm} (h : MOk m) (a c0 c1 c2 c3 c4 : Int) (c5 : Bool) : MOk ((tagmem_Mem_StoreCap.f 20 m a c0 c1 c2 c3 c4 c5).getD (m, 0)).1 := by
  by_cases c : a % 32 = 0
  · by_cases hh : m.has a = true
    · obtain ⟨m', e, C⟩ := storeCap_at h.wf c hh c0 c1 c2 c3 c4 c5
      rw [e]
      refine ⟨C.wf, ?_, by show m'.budget ≤ 256; rw [C.budget]; exact h.b⟩
      show (m'.pages.length : Int) ≤ m'.budget
      rw [C.budget, ← List.length_map (f := Pg.no), C.nos, List.length_map]
      exact h.len
    · unfold tagmem_Mem_StoreCap.f
      rw [if_pos c]
      unfold Mm.has at hh
      cases hp : m.page (a / 256) with
      | none => exact h
      | some p => rw [hp] at hh; exact absurd rfl hh
  · unfold tagmem_Mem_StoreCap.f
    rw [if_neg c]
    exact h
theorem MOk_put {m : Mm} (h : MOk m) {a : Int} {l : List Int} (hb : ∀ b ∈ l, 0 ≤ b ∧ b < 256) : MOk (tagmem_Mem_Put.f m a l).1 := by
  unfold tagmem_Mem_Put.f
  split
  · obtain ⟨s1, s2⟩ := pokes_len l m a
    refine ⟨h.wf.pokes l a hb, ?_, ?_⟩
    · show ((m.pokes a l).pages.length : Int) ≤ (m.pokes a l).budget
      rw [s1, s2]; exact h.len
    · show (m.pokes a l).budget ≤ 256
      rw [s2]; exact h.b
  · exact h
/-- What is known of an op: its numbers, its bytes. -/
structure OpOk2 (x : S53) : Prop where
  o : OpOk x
  by_ : ∀ b ∈ x.f5, 0 ≤ b ∧ b < 256
theorem oneP_keeps {m : Mm} {r : Rm} {j : Nat} (h : MOk m) (hr : r.InvN j) {x : S53} (hx : OpOk2 x) : MOk (oneP m r x).2.1 ∧ (oneP m r x).2.2.InvN (j + 1) := by
  obtain ⟨a0, a1⟩ := hx.o.a0
  obtain ⟨u0, u1⟩ := hx.o.u0
  unfold oneP
  by_cases k1 : x.f0 = 1
  · rw [if_pos k1]; exact ⟨MOk_map h a0, InvN_map hr _ _⟩
  rw [if_neg k1]
  by_cases k2 : x.f0 = 2
  · rw [if_pos k2]; exact ⟨MOk_unmap h, InvN_unmap hr _ _⟩
  rw [if_neg k2]
  by_cases k3 : x.f0 = 3
  · rw [if_pos k3]; exact ⟨MOk_store h u0 u1, InvN_store hr a0 a1⟩
  rw [if_neg k3]
  by_cases k4 : x.f0 = 4
  · rw [if_pos k4]
    split
    · exact ⟨MOk_storeCap h _ _ _ _ _ _ _, InvN_storeCap hr _ _ _ _ _ _ a0 a1⟩
    · exact ⟨h, hr.more⟩
  rw [if_neg k4]
  by_cases k5 : x.f0 = 5
  · rw [if_pos k5]
    split
    · exact ⟨h, hr.more⟩
    · exact ⟨MOk_put h hx.by_, InvN_put hr a0 hx.by_ (by omega)⟩
  rw [if_neg k5]
  by_cases k6 : x.f0 = 6
  · rw [if_pos k6]; exact ⟨h, hr.more⟩
  rw [if_neg k6]
  by_cases k7 : x.f0 = 7
  · rw [if_pos k7]; exact ⟨h, hr.more⟩
  rw [if_neg k7]
  by_cases k8 : x.f0 = 8
  · rw [if_pos k8]
    split
    · exact ⟨h, hr.more⟩
    · exact ⟨h, hr.more⟩
  rw [if_neg k8]
  exact ⟨h, hr.more⟩
/-- A play in plain words. -/
def playP : Mm → Rm → List S53 → Bool × Mm × Rm
  | m, r, [] => (true, m, r)
  | m, r, x :: l => if (oneP m r x).1 = true then playP (oneP m r x).2.1 (oneP m r x).2.2 l else (false, (oneP m r x).2.1, (oneP m r x).2.2)
theorem playP_keeps : ∀ (l : List S53) {m : Mm} {r : Rm} {j : Nat}, MOk m → r.InvN j → (∀ x ∈ l, OpOk2 x) → MOk (playP m r l).2.1
  | [], m, r, j, h, hr, hx => h
  | x :: l, m, r, j, h, hr, hx => by
    obtain ⟨h1, h2⟩ := oneP_keeps h hr (hx x List.mem_cons_self)
    unfold playP
    split
    · exact playP_keeps l h1 h2 (fun y hy => hx y (List.mem_cons_of_mem _ hy))
    · exact h1
/-- The memory that made gives. -/
def madeP (b : Int) (l : List S53) : Option Mm := if b < 0 ∨ b > 256 ∨ 60 < l.length then none else if (playP ⟨b, []⟩ ⟨[], [], [], b⟩ l).1 = true then some (playP ⟨b, []⟩ ⟨[], [], [], b⟩ l).2.1 else none
theorem madeP_ok {b : Int} {l : List S53} {M : Mm} (h : madeP b l = some M) (hx : ∀ x ∈ l, OpOk2 x) : MOk M := by
  unfold madeP at h
  split at h
  · cases h
  · rename_i c
    split at h
    · cases h
      exact playP_keeps l (j := 0) ⟨Mm.Wf.new b, by show ((0 : Nat) : Int) ≤ b; omega, by show b ≤ 256; omega⟩ ⟨by show ((0 : Nat) : Int) ≤ b; omega, by show b ≤ 256; omega, Nat.le_refl _, Nat.le_refl _, fun c hc => by (cases hc), fun x hx => by (cases hx)⟩ hx
    · cases h
end Go.Proofs.Ytkppgepljjgjhaa.P
