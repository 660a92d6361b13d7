/- Texts of one proof, one behind the other. No condition. -/
import Derived.Test.YtkppgepljjgjhaaKTagmemEitherPx0
import Derived.Test.YtkppgepljjgjhaaKTagmemEitherRb0
import Derived.Test.YtkppgepljjgjhaaKTagmemEitherMd1
namespace Go.Proofs.Ytkppgepljjgjhaa.P
open Go.RowKit Go.Proofs.YtkppgepljjgjhaaW.PrintWords Go.Proofs.YtkppgepljjgjhaaW.PrintLast Go.Proofs.YtkppgepljjgjhaaW.PrintMore
set_option linter.unusedVariables false
set_option linter.unusedSimpArgs false
-- the values' own types
structure S41 where
  f0 : Int
  f1 : Int
  f2 : Int
  f3 : Int
  f4 : Int
  f5 : Bool
def z41 : S41 := ⟨(0 : Int), (0 : Int), (0 : Int), (0 : Int), (0 : Int), false⟩
def k41 : Kd S41 := Kd.iso (Kd.pair (Kd.int .u64) (Kd.pair (Kd.int .u64) (Kd.pair (Kd.int .u64) (Kd.pair (Kd.int .i64) (Kd.pair (Kd.int .i64) Kd.bool))))) (fun x : S41 => (x.f0, x.f1, x.f2, x.f3, x.f4, x.f5))
theorem k41_open {w : World} {x : S41} {cs : List Value} (h : k41.K w x cs) : cs = [.int .u64 x.f0, .int .u64 x.f1, .int .u64 x.f2, .int .i64 x.f3, .int .i64 x.f4, .bool x.f5] := by
  obtain ⟨_, _, rfl, rfl, ⟨_, _, rfl, rfl, ⟨_, _, rfl, rfl, ⟨_, _, rfl, rfl, ⟨_, _, rfl, rfl, rfl⟩⟩⟩⟩⟩ := h
  exact rfl
structure S53 where
  f0 : Int
  f1 : Int
  f2 : Int
  f3 : Int
  f4 : S41
  f5 : (List Int)
def z53 : S53 := ⟨(0 : Int), (0 : Int), (0 : Int), (0 : Int), z41, ([] : List Int)⟩
def k53 : Kd S53 := Kd.iso (Kd.pair (Kd.int .i64) (Kd.pair (Kd.int .u64) (Kd.pair (Kd.int .i64) (Kd.pair (Kd.int .u64) (Kd.pair k41 (Kd.slice 5 (Kd.int .u8))))))) (fun x : S53 => (x.f0, x.f1, x.f2, x.f3, x.f4, x.f5))
theorem k53_open {w : World} {x : S53} {cs : List Value} (h : k53.K w x cs) : ∃ A10 c10, cs = [.int .i64 x.f0, .int .u64 x.f1, .int .i64 x.f2, .int .u64 x.f3, .int .u64 x.f4.f0, .int .u64 x.f4.f1, .int .u64 x.f4.f2, .int .i64 x.f4.f3, .int .i64 x.f4.f4, .bool x.f4.f5, .slice A10 x.f5.length c10] ∧ x.f5.length ≤ c10 ∧ (Kd.int .u8).C w A10 x.f5.length x.f5 := by
  obtain ⟨_, _, rfl, rfl, ⟨_, _, rfl, rfl, ⟨_, _, rfl, rfl, ⟨_, _, rfl, rfl, ⟨_, _, rfl, s4, ⟨A10, c10, rfl, l10, g10⟩⟩⟩⟩⟩⟩ := h
  obtain rfl := k41_open s4
  exact ⟨A10, c10, rfl, l10, g10⟩
def rd_T53 (xs : List S53) (i : Int) : S53 := xs.getD i.toNat z53
theorem at_T53 {w : World} {A : Option Addr} {n : Nat} {xs : List S53} (h : Kd.C k53 w A n xs) (i : Int) (h0 : 0 ≤ i) (h1 : i < n) : ∃ ad A10 c10, A = some ad ∧ w.cell? (ad.add (i.toNat * 11)) = some (.int .i64 (rd_T53 xs i).f0) ∧ w.cell? ⟨(ad.add (i.toNat * 11)).block, (ad.add (i.toNat * 11)).off + 1, none⟩ = some (.int .u64 (rd_T53 xs i).f1) ∧ w.cell? ⟨(ad.add (i.toNat * 11)).block, (ad.add (i.toNat * 11)).off + 2, none⟩ = some (.int .i64 (rd_T53 xs i).f2) ∧ w.cell? ⟨(ad.add (i.toNat * 11)).block, (ad.add (i.toNat * 11)).off + 3, none⟩ = some (.int .u64 (rd_T53 xs i).f3) ∧ w.cell? ⟨(ad.add (i.toNat * 11)).block, (ad.add (i.toNat * 11)).off + 4, none⟩ = some (.int .u64 (rd_T53 xs i).f4.f0) ∧ w.cell? ⟨(ad.add (i.toNat * 11)).block, (ad.add (i.toNat * 11)).off + 5, none⟩ = some (.int .u64 (rd_T53 xs i).f4.f1) ∧ w.cell? ⟨(ad.add (i.toNat * 11)).block, (ad.add (i.toNat * 11)).off + 6, none⟩ = some (.int .u64 (rd_T53 xs i).f4.f2) ∧ w.cell? ⟨(ad.add (i.toNat * 11)).block, (ad.add (i.toNat * 11)).off + 7, none⟩ = some (.int .i64 (rd_T53 xs i).f4.f3) ∧ w.cell? ⟨(ad.add (i.toNat * 11)).block, (ad.add (i.toNat * 11)).off + 8, none⟩ = some (.int .i64 (rd_T53 xs i).f4.f4) ∧ w.cell? ⟨(ad.add (i.toNat * 11)).block, (ad.add (i.toNat * 11)).off + 9, none⟩ = some (.bool (rd_T53 xs i).f4.f5) ∧ w.cell? ⟨(ad.add (i.toNat * 11)).block, (ad.add (i.toNat * 11)).off + 10, none⟩ = some (.slice A10 (rd_T53 xs i).f5.length c10) ∧ (rd_T53 xs i).f5.length ≤ c10 ∧ (Kd.int .u8).C w A10 (rd_T53 xs i).f5.length (rd_T53 xs i).f5 := by
  obtain ⟨ad, c, e, _, hK, hc0⟩ := Kd.C_get h z53 i h0 h1
  have hc : ∀ j u, c[j]? = some u → w.cell? (ad.add (i.toNat * 11 + j)) = some u := hc0
  obtain ⟨A10, c10, rfl, l10, g10⟩ := k53_open hK
  exact ⟨ad, A10, c10, e, hc 0 _ rfl, by rw [← add_field _ _ 1 (by omega)]; exact hc 1 _ rfl, by rw [← add_field _ _ 2 (by omega)]; exact hc 2 _ rfl, by rw [← add_field _ _ 3 (by omega)]; exact hc 3 _ rfl, by rw [← add_field _ _ 4 (by omega)]; exact hc 4 _ rfl, by rw [← add_field _ _ 5 (by omega)]; exact hc 5 _ rfl, by rw [← add_field _ _ 6 (by omega)]; exact hc 6 _ rfl, by rw [← add_field _ _ 7 (by omega)]; exact hc 7 _ rfl, by rw [← add_field _ _ 8 (by omega)]; exact hc 8 _ rfl, by rw [← add_field _ _ 9 (by omega)]; exact hc 9 _ rfl, by rw [← add_field _ _ 10 (by omega)]; exact hc 10 _ rfl, l10, g10⟩

end Go.Proofs.Ytkppgepljjgjhaa.P

namespace Go.Proofs.Ytkppgepljjgjhaa.P
open Go.RowKit Go.Proofs.YtkppgepljjgjhaaW.PrintWords Go.Proofs.YtkppgepljjgjhaaW.PrintLast Go.Proofs.YtkppgepljjgjhaaW.PrintMore
set_option linter.unusedVariables false
set_option linter.unusedSimpArgs false
theorem MemL.lt_g {w : World} {g gm : Nat} {L : List Lp} {c : Nat} {m : Mm} (h : MemL w g gm L c m) : g < w.heap.size ∧ gm < w.heap.size ∧ ∀ x ∈ L, x.blk < w.heap.size :=
  ⟨blk_lt h.hd, blk_lt h.mp, fun x hx => blk_lt (h.blk x hx)⟩
/-- The program's memory and the document's, in one world, apart from each other and from all below B. -/
structure Two (B : Nat) (w : World) (g gm : Nat) (L : List Lp) (c : Nat) (m : Mm) (gr : Nat) (K : Nat → Prop) (r : Rm) : Prop where
  M : MemL w g gm L c m
  R : RefL w gr K r
  d1 : ∀ k, K k → k ≠ g ∧ k ≠ gm ∧ ¬ inL L k
  d2 : gr ≠ g ∧ gr ≠ gm ∧ ¬ inL L gr
  b1 : B ≤ g ∧ B ≤ gm ∧ B ≤ gr
  b2 : ∀ k, K k → B ≤ k
  b3 : ∀ k, inL L k → B ≤ k
section
variable {B : Nat} {w W w0 : World} {g gm : Nat} {L L' : List Lp} {c c' : Nat} {m m' : Mm} {gr : Nat} {K K' : Nat → Prop} {r r' : Rm}
theorem inL_lt (h : MemL w g gm L c m) {k : Nat} (hk : inL L k) : k < w.heap.size := by
  obtain ⟨x, hx, rfl⟩ := List.mem_map.1 hk
  exact h.lt_g.2.2 x hx
theorem Two.below (h : Two B w g gm L c m gr K r) (hb : Below w.heap.size w W) : Two B W g gm L c m gr K r := ⟨h.M.below hb, h.R.below hb, h.d1, h.d2, h.b1, h.b2, h.b3⟩
/-- Behind a step of the program's memory. -/
theorem Two.mem (h : Two B w g gm L c m gr K r) (hM : MemL W g gm L' c' m') (hL : ∀ k, inL L' k → inL L k ∨ w.heap.size ≤ k) {S : Nat → Prop} (hu : Upd w W S) (hS : ∀ k, S k → k = gm ∨ inL L k) (hw : Below B w0 w) (hB : B ≤ w.heap.size) : Two B W g gm L' c' m' gr K r ∧ Below B w0 W := by
  have hgr : ¬ S gr := fun e => by
    rcases hS gr e with e | e
    · exact h.d2.2.1 e
    · exact h.d2.2.2 e
  have hK : ∀ k, K k → ¬ S k := fun k hk e => by
    rcases hS k e with e | e
    · exact (h.d1 k hk).2.1 e
    · exact (h.d1 k hk).2.2 e
  refine ⟨⟨hM, h.R.upd hu hgr hK, fun k hk => ⟨(h.d1 k hk).1, (h.d1 k hk).2.1, fun e => ?_⟩, ⟨h.d2.1, h.d2.2.1, fun e => ?_⟩, h.b1, h.b2, fun k hk => ?_⟩, hu.below hw hB (fun k hk => ?_)⟩
  · rcases hL k e with e | e
    · exact (h.d1 k hk).2.2 e
    · have := h.R.lt k hk; omega
  · rcases hL gr e with e | e
    · exact h.d2.2.2 e
    · have := h.R.glt; omega
  · rcases hL k hk with e | e
    · exact h.b3 k e
    · omega
  · rcases hS k hk with rfl | e
    · exact h.b1.2.1
    · exact h.b3 k e
/-- Behind a step of the document's memory. -/
theorem Two.ref (h : Two B w g gm L c m gr K r) (hR : RefL W gr K' r') (hK : ∀ k, K' k → K k ∨ w.heap.size ≤ k) (hu : Upd w W (· = gr)) (hw : Below B w0 w) (hB : B ≤ w.heap.size) : Two B W g gm L c m gr K' r' ∧ Below B w0 W := by
  have hlt := h.M.lt_g
  refine ⟨⟨h.M.step (hu.block g hlt.1 (fun e => h.d2.1 e.symm)) (hu.block gm hlt.2.1 (fun e => h.d2.2.1 e.symm)) (fun x hx => hu.block x.blk (hlt.2.2 x hx) (fun e => h.d2.2.2 (e ▸ List.mem_map_of_mem (f := Lp.blk) hx))), hR, fun k hk => ?_, h.d2, h.b1, fun k hk => ?_, h.b3⟩, hu.below hw hB (fun k hk => by rw [hk]; exact h.b1.2.2)⟩
  · rcases hK k hk with e | e
    · exact h.d1 k e
    · refine ⟨by have := hlt.1; omega, by have := hlt.2.1; omega, fun e2 => ?_⟩
      have := inL_lt h.M e2
      omega
  · rcases hK k hk with e | e
    · exact h.b2 k e
    · omega
theorem inL_map (hL : L'.map Lp.blk = L.map Lp.blk) : ∀ k, inL L' k → inL L k ∨ w.heap.size ≤ k := fun k hk => .inl (by unfold inL at hk ⊢; rw [← hL]; exact hk)
end
/-- May a capability be one? -/
def capR (x : S41) : Bool := decide (0 ≤ x.f3) && decide (x.f3 ≤ 255) && decide (-1 ≤ x.f4) && decide (x.f4 ≤ 63)
theorem capR_is (x : S41) : curtilageref02_Right.f x.f0 x.f1 x.f2 x.f3 x.f4 x.f5 = some (capR x) := by
  unfold curtilageref02_Right.f capR
  by_cases c1 : x.f3 ≥ 0
  · rw [if_pos c1]
    by_cases c2 : x.f3 ≤ 255
    · rw [if_pos c2]
      by_cases c3 : x.f4 ≥ -1
      · rw [if_pos c3]; simp [c1, c2, c3]
      · rw [if_neg c3]; simp [c1, c2]; intro h; omega
    · rw [if_neg c2]; simp [c1, c2]
  · rw [if_neg c1]; simp; intro h; omega
/-- One step of a play: what it answers, and both memories behind it. -/
def oneP (m : Mm) (r : Rm) (x : S53) : Bool × Mm × Rm :=
  if x.f0 = 1 then ((tagmem_Mem_Map.f m x.f1 x.f2).2 == (r.map x.f1 x.f2).2, (tagmem_Mem_Map.f m x.f1 x.f2).1, (r.map x.f1 x.f2).1)
  else if x.f0 = 2 then ((tagmem_Mem_Unmap.f m x.f1 x.f2).2 == (r.unmap x.f1 x.f2).2, (tagmem_Mem_Unmap.f m x.f1 x.f2).1, (r.unmap x.f1 x.f2).1)
  else if x.f0 = 3 then (((tagmem_Mem_Store.f 20 m x.f1 x.f2 x.f3).getD (m, 0)).2 == (r.store x.f1 x.f2 x.f3).2, ((tagmem_Mem_Store.f 20 m x.f1 x.f2 x.f3).getD (m, 0)).1, (r.store x.f1 x.f2 x.f3).1)
  else if x.f0 = 4 then (if capR x.f4 = true then (((tagmem_Mem_StoreCap.f 20 m x.f1 x.f4.f0 x.f4.f1 x.f4.f2 x.f4.f3 x.f4.f4 x.f4.f5).getD (m, 0)).2 == (r.storeCap x.f1 x.f4.f0 x.f4.f1 x.f4.f2 x.f4.f3 x.f4.f4 x.f4.f5).2, ((tagmem_Mem_StoreCap.f 20 m x.f1 x.f4.f0 x.f4.f1 x.f4.f2 x.f4.f3 x.f4.f4 x.f4.f5).getD (m, 0)).1, (r.storeCap x.f1 x.f4.f0 x.f4.f1 x.f4.f2 x.f4.f3 x.f4.f4 x.f4.f5).1) else (true, m, r))
  else if x.f0 = 5 then (if 600 < x.f5.length then (true, m, r) else ((tagmem_Mem_Put.f m x.f1 x.f5).2 == (r.putB x.f1 x.f5).2, (tagmem_Mem_Put.f m x.f1 x.f5).1, (r.putB x.f1 x.f5).1))
  else if x.f0 = 6 then ((((tagmem_Mem_Load.f 20 m x.f1 x.f2).getD (0, 0)).1 == (r.load x.f1 x.f2).1) && (((tagmem_Mem_Load.f 20 m x.f1 x.f2).getD (0, 0)).2 == (r.load x.f1 x.f2).2), m, r)
  else if x.f0 = 7 then (decide ((tagmem_Mem_LoadCap.f 20 m x.f1).getD (0, 0, 0, 0, 0, false, 0) = r.loadCap x.f1), m, r)
  else if x.f0 = 8 then (if 600 < x.f2 then (true, m, r) else (decide (tagmem_Mem_Bytes.f m x.f1 x.f2 = r.bytesB x.f1 x.f2), m, r))
  else (true, m, r)
end Go.Proofs.Ytkppgepljjgjhaa.P

namespace Go.Proofs.Ytkppgepljjgjhaa.P
open Go.RowKit Go.Proofs.YtkppgepljjgjhaaW.PrintWords Go.Proofs.YtkppgepljjgjhaaW.PrintLast Go.Proofs.YtkppgepljjgjhaaW.PrintMore
set_option linter.unusedVariables false
set_option linter.unusedSimpArgs false
theorem sizes {n : Int} (h : size_ok n) : n = 1 ∨ n = 2 ∨ n = 4 ∨ n = 8 := by
  unfold size_ok at h
  simpa [or_assoc] using h
theorem store_tot (m : Mm) (a n u : Int) (u0 : 0 ≤ u) (u1 : u ≤ 18446744073709551615) : ∃ q, tagmem_Mem_Store.f 20 m a n u = some q := by
  unfold tagmem_Mem_Store.f
  by_cases c1 : size_ok n
  · rw [if_pos c1]
    by_cases c2 : a % n = 0
    · rw [if_pos c2]
      cases m.page (a / 256) with
      | none => exact ⟨_, rfl⟩
      | some p =>
        have hn := sizes c1
        simp only
        rw [little_is u u0 u1 n hn, Option.bind_some]
        have hl : ((leb u).take n.toNat).length = n.toNat := by rw [List.length_take, leb_len]; omega
        rw [hl, if_pos (by rcases hn with rfl | rfl | rfl | rfl <;> omega)]
        exact ⟨_, rfl⟩
    · rw [if_neg c2]; exact ⟨_, rfl⟩
  · rw [if_neg c1]; exact ⟨_, rfl⟩
theorem storeCap_tot (m : Mm) (a c0 c1 c2 c3 c4 : Int) (c5 : Bool) : ∃ q, tagmem_Mem_StoreCap.f 20 m a c0 c1 c2 c3 c4 c5 = some q := by
  unfold tagmem_Mem_StoreCap.f
  by_cases c : a % 32 = 0
  · rw [if_pos c]
    cases m.page (a / 256) with
    | none => exact ⟨_, rfl⟩
    | some p =>
      simp only
      rw [little_eight, little_eight, little_eight, Option.bind_some, Option.bind_some, Option.bind_some, if_pos ⟨rfl, rfl, rfl⟩]
      exact ⟨_, rfl⟩
  · rw [if_neg c]; exact ⟨_, rfl⟩
theorem load_tot {m : Mm} (h : m.Wf) (a n : Int) : ∃ q, tagmem_Mem_Load.f 20 m a n = some q := by
  unfold tagmem_Mem_Load.f
  by_cases c1 : size_ok n
  · rw [if_pos c1]
    by_cases c2 : a % n = 0
    · rw [if_pos c2]
      cases hp : m.page (a / 256) with
      | none => exact ⟨_, rfl⟩
      | some p =>
        have hn := sizes c1
        simp only
        have hb := h.byt p (page_mem hp).1
        rw [of_val (p.sub (a % 256) n) (by unfold Pg.sub; rw [List.length_take]; omega) (fun b hb2 => hb b (List.mem_of_mem_drop (List.mem_of_mem_take hb2)))]
        exact ⟨_, rfl⟩
    · rw [if_neg c2]; exact ⟨_, rfl⟩
  · rw [if_neg c1]; exact ⟨_, rfl⟩
theorem loadCap_tot {m : Mm} (h : m.Wf) (a : Int) : ∃ q, tagmem_Mem_LoadCap.f 20 m a = some q := by
  by_cases c : a % 32 = 0
  · by_cases hh : m.has a = true
    · exact ⟨_, loadCap_at h c hh⟩
    · unfold tagmem_Mem_LoadCap.f
      rw [if_pos c]
      unfold Mm.has at hh
      cases hp : m.page (a / 256) with
      | none => exact ⟨_, rfl⟩
      | some p => rw [hp] at hh; exact absurd rfl hh
  · unfold tagmem_Mem_LoadCap.f
    rw [if_neg c]
    exact ⟨_, rfl⟩
end Go.Proofs.Ytkppgepljjgjhaa.P
