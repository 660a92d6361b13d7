/- A memory with tags in a world: its block, its map's block, a block for each page; what is read of it, and written. No condition. -/
import Derived.Test.YtkppgepljjgjhaaKTagmemEitherWWords
import Derived.Test.YtkppgepljjgjhaaKTagmemEitherWKept
import Derived.ChangeMaps5
import Derived.Maps.RangeRun
import Derived.Laws.CopyRow
import Derived.Laws.Tables
namespace Go.Proofs.Ytkppgepljjgjhaa.P
open Go.RowKit Go.Proofs.YtkppgepljjgjhaaW.PrintWords Go.Proofs.YtkppgepljjgjhaaW.PrintLast
open Go.ChangeMaps (setBlock)
set_option linter.unusedVariables false
set_option linter.unusedSimpArgs false
set_option linter.unusedSectionVars false
/-- A page: its number, its bytes, its tags. -/
structure Pg where
  no : Int
  bs : List Int
  ts : List Bool
/-- A memory: its budget, its pages. -/
structure Mm where
  budget : Int
  pages : List Pg
def Pg.cells (p : Pg) : Array Value := (p.bs.map (Value.int .u8) ++ p.ts.map Value.bool).toArray
structure Pg.Ok (p : Pg) : Prop where
  b : p.bs.length = 256
  t : p.ts.length = 8
/-- A page, its block, when it was laid into the map. -/
structure Lp where
  pg : Pg
  blk : Nat
  born : Nat
def Lp.ent (x : Lp) : MapEntry := { key := .int .u64 x.pg.no, val := .pointer (some ⟨x.blk, 0, none⟩), born := x.born }
structure MemL (w : World) (g gm : Nat) (L : List Lp) (clock : Nat) (m : Mm) : Prop where
  hd : w.heap[g]? = some (.cells #[.map (some gm), .int .i64 m.budget] 66 (0, 0))
  mp : w.heap[gm]? = some (.map (L.map Lp.ent).toArray clock)
  pgs : m.pages = L.map Lp.pg
  blk : ∀ x ∈ L, w.heap[x.blk]? = some (.cells x.pg.cells 72 (0, 0))
  ok : ∀ x ∈ L, x.pg.Ok
  nd : (L.map Lp.blk).Nodup
  keys : (L.map fun x => x.pg.no).Nodup
  born : (L.map Lp.born).Nodup
  old : ∀ x ∈ L, x.born < clock
def MemAt (w : World) (base : Nat) (ok : Nat → Prop) (v : Value) (m : Mm) : Prop :=
  ∃ g gm L clock, v = .pointer (some ⟨g, 0, none⟩) ∧ MemL w g gm L clock m ∧ (base ≤ g ∧ ok g) ∧ (base ≤ gm ∧ ok gm) ∧ ∀ x ∈ L, base ≤ x.blk ∧ ok x.blk
variable {w W : World} {g gm : Nat} {L : List Lp} {clock base : Nat} {m : Mm} {ok ok' : Nat → Prop} {v : Value}
theorem MemL.step (h : MemL w g gm L clock m) (h1 : W.heap[g]? = w.heap[g]?) (h2 : W.heap[gm]? = w.heap[gm]?) (h3 : ∀ x ∈ L, W.heap[x.blk]? = w.heap[x.blk]?) : MemL W g gm L clock m :=
  ⟨h1.trans h.hd, h2.trans h.mp, h.pgs, fun x hx => (h3 x hx).trans (h.blk x hx), h.ok, h.nd, h.keys, h.born, h.old⟩
theorem MemAt.step (h : MemAt w base ok v m) (hk : ∀ k, ok k → k < w.heap.size → W.heap[k]? = w.heap[k]?) : MemAt W base ok v m := by
  obtain ⟨g, gm, L, clock, e, hm, h1, h2, h3⟩ := h
  exact ⟨g, gm, L, clock, e, hm.step (hk _ h1.2 (blk_lt hm.hd)) (hk _ h2.2 (blk_lt hm.mp)) (fun x hx => hk _ (h3 x hx).2 (blk_lt (hm.blk x hx))), h1, h2, h3⟩
theorem MemAt.below (h : MemAt w base ok v m) (hb : Below w.heap.size w W) : MemAt W base ok v m := h.step fun k _ hk => hb.block k hk
theorem MemAt.drew (h : MemAt w base ok v m) : MemAt w.drew base ok v m := h.step fun _ _ _ => rfl
theorem MemAt.kept {S : Nat → Prop} (h : MemAt w base ok v m) (hk : Kept w W S) (hne : ∀ k, ok k → ¬ S k) : MemAt W base ok v m := h.step fun k ho hl => hk.2 k hl (hne k ho)
theorem MemAt.mono (h : MemAt w base ok v m) (hk : ∀ k, ok k → ok' k) : MemAt w base ok' v m := by
  obtain ⟨g, gm, L, clock, e, hm, h1, h2, h3⟩ := h
  exact ⟨g, gm, L, clock, e, hm, ⟨h1.1, hk _ h1.2⟩, ⟨h2.1, hk _ h2.2⟩, fun x hx => ⟨(h3 x hx).1, hk _ (h3 x hx).2⟩⟩
def lookL (n : Int) (L : List Lp) : Option Lp := L.find? fun x => n == x.pg.no
theorem findNow_ent (n : Int) : ∀ (L : List Lp) (i : Nat), Instr.findNow (.int .u64) (.int .u64 n) (L.map Lp.ent) i = some ((L.findIdx? fun x => n == x.pg.no).bind fun j => (L[j]?).map fun x => (i + j, x.ent.val))
  | [], i => rfl
  | x :: r, i => by
    have ih := findNow_ent n r (i + 1)
    simp only [List.map_cons, Instr.findNow, Instr.sameNow, Lp.ent, if_true, List.findIdx?_cons]
    by_cases c : n == x.pg.no
    · simp [c]
    · simp only [Bool.not_eq_true] at c
      simp only [c, Bool.false_eq_true, if_false]
      simp only [Lp.ent] at ih
      rw [ih]
      cases List.findIdx? (fun x => n == x.pg.no) r with
      | none => rfl
      | some j => simp [Nat.add_assoc, Nat.add_comm 1 j]
theorem find_idx (n : Int) (L : List Lp) : ((L.findIdx? fun x => n == x.pg.no).bind fun j => L[j]?) = lookL n L := by
  unfold lookL
  induction L with
  | nil => rfl
  | cons x r ih =>
    simp only [List.findIdx?_cons, List.find?_cons]
    cases c : (n == x.pg.no) with
    | true => simp
    | false =>
      simp only [Bool.false_eq_true, if_false]
      rw [← ih]
      cases List.findIdx? (fun x => n == x.pg.no) r <;> simp
section
variable {P : Program} {tm tk te : TypeId} (hm : P.underlying tm = some (.map tk te)) (hk : P.underlying tk = some (.int .u64)) (hz : ∀ w, (zeroValue te).run P w = .ok (.pointer none) w)
include hm hk
theorem run_findKey (n : Int) (L : List Lp) (w : World) : (Instr.findKey tk (.int .u64 n) (L.map Lp.ent)).run P w = .ok ((L.findIdx? fun x => n == x.pg.no).bind fun j => (L[j]?).map fun x => (j, x.ent.val)) w := by
  unfold Instr.findKey
  simp only [Sem.run_bind, run_underlying hk, Result.andThen_ok, findNow_ent, Nat.zero_add]
  rfl
theorem run_checkKey (b : Bool) (n : Int) (w : World) : (Instr.checkKey b 10000 tk (.int .u64 n)).run P w = .ok () w := by
  unfold Instr.checkKey
  simp only [Sem.run_bind, run_underlying hk, Result.andThen_ok]
  rfl
def ptrOf : Option Lp → Value
  | some x => .pointer (some ⟨x.blk, 0, none⟩)
  | none => .pointer none
include hz
theorem run_look (hb : w.heap[gm]? = some (.map (L.map Lp.ent).toArray clock)) (n : Int) : (Instr.lookup tm (.map (some gm)) (.int .u64 n) false).run P w = .ok (ptrOf (lookL n L)) w := by
  unfold Instr.lookup
  rw [← find_idx]
  simp only [Sem.run_bind, run_underlying hm, Result.andThen_ok, getObj, Sem.run, hb, pure_bind, run_checkKey hm hk, run_findKey hm hk]
  cases hf : List.findIdx? (fun x => n == x.pg.no) L with
  | none => simp [hf, Sem.run_bind, hz, Result.andThen, ptrOf]
  | some j =>
    cases hj : L[j]? with
    | none =>
      have := (List.findIdx?_eq_some_iff_getElem.1 hf).1
      rw [List.getElem?_eq_getElem this] at hj; cases hj
    | some x => simp [hf, hj, ptrOf, Lp.ent]
theorem run_look_ok (hb : w.heap[gm]? = some (.map (L.map Lp.ent).toArray clock)) (n : Int) : (Instr.lookup tm (.map (some gm)) (.int .u64 n) true).run P w = .ok (.tuple #[ptrOf (lookL n L), .bool (lookL n L).isSome]) w := by
  unfold Instr.lookup
  rw [← find_idx]
  simp only [Sem.run_bind, run_underlying hm, Result.andThen_ok, getObj, Sem.run, hb, pure_bind, run_checkKey hm hk, run_findKey hm hk]
  cases hf : List.findIdx? (fun x => n == x.pg.no) L with
  | none => simp [hf, Sem.run_bind, hz, Result.andThen, ptrOf]
  | some j =>
    cases hj : L[j]? with
    | none =>
      have := (List.findIdx?_eq_some_iff_getElem.1 hf).1
      rw [List.getElem?_eq_getElem this] at hj; cases hj
    | some x => simp [hf, hj, ptrOf, Lp.ent]
omit hz
theorem find_none {n : Int} {L : List Lp} (h : lookL n L = none) : (L.findIdx? fun x => n == x.pg.no) = none := by
  rw [List.findIdx?_eq_none_iff]
  intro x hx
  have := List.find?_eq_none.1 h x hx
  simpa using this
theorem run_add (hb : w.heap[gm]? = some (.map (L.map Lp.ent).toArray clock)) {n : Int} {u : Value} (hn : lookL n L = none) : (Instr.mapUpdate tm (.map (some gm)) (.int .u64 n) u).run P w = .ok () (setBlock w gm (.map ((L.map Lp.ent).toArray.push { key := .int .u64 n, val := u, born := clock }) (clock + 1))) := by
  unfold Instr.mapUpdate
  simp only [Sem.run_bind, run_underlying hm, Result.andThen_ok, getObj, Sem.run, hb, pure_bind, run_checkKey hm hk, run_findKey hm hk, find_none hm hk hn, Option.bind_none]
  simp [setObj, Sem.run, hb, setBlock]
theorem run_del (hb : w.heap[gm]? = some (.map (L.map Lp.ent).toArray clock)) {n : Int} {j : Nat} (hn : (L.findIdx? fun x => n == x.pg.no) = some j) (ty : TypeId) : (Builtin.delete_ #[tm, tk] ty #[.map (some gm), .int .u64 n]).run P w = .ok (.tuple #[]) (setBlock w gm (.map ((L.map Lp.ent).toArray.eraseIdxIfInBounds j) clock)) := by
  have hj := (List.findIdx?_eq_some_iff_getElem.1 hn).1
  unfold Builtin.delete_
  simp only [Sem.run_bind, run_underlying hm, Result.andThen_ok, getObj, Sem.run, hb, pure_bind, run_checkKey hm hk, run_findKey hm hk, hn]
  simp [setObj, Sem.run, hb, setBlock, List.getElem?_eq_getElem hj, Sem.run_bind, Result.andThen, run_underlying hm, run_checkKey hm hk, run_findKey hm hk, hn, getObj]
theorem run_lenm (hb : w.heap[gm]? = some (.map (L.map Lp.ent).toArray clock)) (ty : TypeId) : (Builtin.len_ #[tm] ty #[.map (some gm)]).run P w = .ok (.int .i64 L.length) w := by
  unfold Builtin.len_
  simp [Builtin.lenOf, Sem.run_bind, run_underlying hm, Result.andThen, getObj, Sem.run, hb, goInt]
end
/-- The page of a number. -/
def Mm.page (m : Mm) (n : Int) : Option Pg := m.pages.find? fun p => n == p.no
/-- With a page in the place of that of its number. -/
def Mm.put (m : Mm) (p : Pg) : Mm := { m with pages := m.pages.map fun q => if q.no = p.no then p else q }
def Pg.zero (n : Int) : Pg := ⟨n, List.replicate 256 0, List.replicate 8 false⟩
def Mm.add (m : Mm) (n : Int) : Mm := { m with pages := m.pages ++ [Pg.zero n] }
def Mm.del (m : Mm) (n : Int) : Mm := { m with pages := m.pages.eraseIdx (m.pages.findIdx fun p => n == p.no) }
theorem Pg.zero_ok (n : Int) : (Pg.zero n).Ok := ⟨List.length_replicate, List.length_replicate⟩
theorem MemL.page (h : MemL w g gm L clock m) (n : Int) : m.page n = (lookL n L).map Lp.pg := by
  unfold Mm.page lookL
  rw [h.pgs, List.find?_map]
  rfl
theorem lookL_mem {n : Int} {x : Lp} (h : lookL n L = some x) : x ∈ L ∧ x.pg.no = n := by
  have := List.find?_some h
  exact ⟨List.mem_of_find?_eq_some h, (beq_iff_eq.1 this).symm⟩
theorem nodup_inj {α β : Type} {f : α → β} {l : List α} (h : (l.map f).Nodup) {x y : α} (hx : x ∈ l) (hy : y ∈ l) (e : f x = f y) : x = y := by
  induction l with
  | nil => cases hx
  | cons z r ih =>
    simp only [List.map_cons, List.nodup_cons, List.mem_map, not_exists, not_and] at h
    rcases List.mem_cons.1 hx with hx | hx <;> rcases List.mem_cons.1 hy with hy | hy
    · rw [hx, hy]
    · rw [hx] at e; exact absurd e.symm (h.1 y hy)
    · rw [hy] at e; exact absurd e (h.1 x hx)
    · exact ih h.2 hx hy
theorem map_erase {α β : Type} (f : α → β) : ∀ (l : List α) (j : Nat), (l.map f).eraseIdx j = (l.eraseIdx j).map f
  | [], _ => rfl
  | _ :: _, 0 => rfl
  | x :: r, j + 1 => by simp [map_erase f r j]
/-- A page is written. -/
theorem MemL.write (h : MemL w g gm L clock m) {x : Lp} (hx : x ∈ L) {p : Pg} (hno : p.no = x.pg.no) (hok : p.Ok) (hW : W.heap[x.blk]? = some (.cells p.cells 72 (0, 0))) (ho : ∀ k, k < w.heap.size → k ≠ x.blk → W.heap[k]? = w.heap[k]?) :
    MemL W g gm (L.map fun y => if y.pg.no = p.no then { y with pg := p } else y) clock (m.put p) := by
  have hg : g ≠ x.blk := blk_ne h.hd (h.blk x hx) (by decide)
  have hgm : gm ≠ x.blk := fun e => by have h1 := h.mp; rw [e, h.blk x hx] at h1; cases h1
  have hsame : ∀ y ∈ L, y.pg.no = p.no → y = x := fun y hy e => nodup_inj h.keys hy hx (e.trans hno)
  have e1 : (L.map fun y => if y.pg.no = p.no then { y with pg := p } else y).map Lp.ent = L.map Lp.ent := by
    rw [List.map_map]
    refine List.map_congr_left fun y hy => ?_
    simp only [Function.comp]
    split
    · rename_i c; simp [Lp.ent, c]
    · rfl
  have e2 : ∀ (f : Lp → Nat), (∀ y q, f { y with pg := q } = f y) → (L.map fun y => if y.pg.no = p.no then { y with pg := p } else y).map f = L.map f := fun f hf => by
    rw [List.map_map]
    refine List.map_congr_left fun y hy => ?_
    simp only [Function.comp]
    split
    · exact hf _ _
    · rfl
  refine ⟨(ho g (blk_lt h.hd) hg).trans h.hd, ?_, ?_, ?_, ?_, ?_, ?_, ?_, ?_⟩
  · rw [e1]; exact (ho gm (blk_lt h.mp) hgm).trans h.mp
  · simp only [Mm.put, h.pgs, List.map_map]
    refine List.map_congr_left fun y hy => ?_
    simp only [Function.comp]
    split <;> rfl
  · intro y hy
    obtain ⟨z, hz, rfl⟩ := List.mem_map.1 hy
    split
    · rename_i c
      have := hsame z hz c
      subst this
      exact hW
    · rename_i c
      have : z.blk ≠ x.blk := fun e => c (by rw [nodup_inj h.nd hz hx e]; exact hno.symm)
      exact (ho _ (blk_lt (h.blk z hz)) this).trans (h.blk z hz)
  · intro y hy
    obtain ⟨z, hz, rfl⟩ := List.mem_map.1 hy
    split
    · exact hok
    · exact h.ok z hz
  · rw [e2 Lp.blk (fun _ _ => rfl)]; exact h.nd
  · have : (L.map fun y => if y.pg.no = p.no then { y with pg := p } else y).map (fun x => x.pg.no) = L.map fun x => x.pg.no := by
      rw [List.map_map]
      refine List.map_congr_left fun y hy => ?_
      simp only [Function.comp]
      split
      · rename_i c; exact c.symm
      · rfl
    rw [this]; exact h.keys
  · rw [e2 Lp.born (fun _ _ => rfl)]; exact h.born
  · intro y hy
    obtain ⟨z, hz, rfl⟩ := List.mem_map.1 hy
    split <;> exact h.old z hz
/-- A page is laid into the map: its block stands already. -/
theorem MemL.add (h : MemL w g gm L clock m) {n : Int} {b : Nat} (hn : lookL n L = none) (hb : w.heap[b]? = some (.cells (Pg.zero n).cells 72 (0, 0))) (hnew : ∀ x ∈ L, x.blk ≠ b) :
    MemL (setBlock w gm (.map ((L.map Lp.ent).toArray.push { key := .int .u64 n, val := .pointer (some ⟨b, 0, none⟩), born := clock }) (clock + 1))) g gm (L ++ [⟨Pg.zero n, b, clock⟩]) (clock + 1) (m.add n) := by
  have hg : g ≠ gm := fun e => by have h1 := h.mp; rw [← e, h.hd] at h1; cases h1
  have hb2 : b ≠ gm := fun e => by have h1 := h.mp; rw [← e, hb] at h1; cases h1
  have hx : ∀ x ∈ L, x.blk ≠ gm := fun x hx e => by have h1 := h.mp; rw [← e, h.blk x hx] at h1; cases h1
  refine ⟨(ChangeMaps.heap_setBlock_other h.mp _ hg).trans h.hd, ?_, ?_, ?_, ?_, ?_, ?_, ?_, ?_⟩
  · rw [ChangeMaps.heap_setBlock_same h.mp]; simp only [List.map_append, List.map_cons, List.map_nil, List.push_toArray]; rfl
  · simp [Mm.add, h.pgs]
  · intro x hx'
    rcases List.mem_append.1 hx' with hx' | hx'
    · exact (ChangeMaps.heap_setBlock_other h.mp _ (hx x hx')).trans (h.blk x hx')
    · simp only [List.mem_singleton] at hx'; subst hx'
      exact (ChangeMaps.heap_setBlock_other h.mp _ hb2).trans hb
  · intro x hx'
    rcases List.mem_append.1 hx' with hx' | hx'
    · exact h.ok x hx'
    · simp only [List.mem_singleton] at hx'; subst hx'; exact Pg.zero_ok n
  · simp only [List.map_append, List.map_cons, List.map_nil]
    rw [List.nodup_append]
    refine ⟨h.nd, by simp, ?_⟩
    intro a ha c hc
    simp only [List.mem_singleton] at hc
    obtain ⟨y, hy, rfl⟩ := List.mem_map.1 ha
    subst hc; exact hnew y hy
  · simp only [List.map_append, List.map_cons, List.map_nil]
    rw [List.nodup_append]
    refine ⟨h.keys, by simp, ?_⟩
    intro a ha c hc
    simp only [List.mem_singleton] at hc
    obtain ⟨y, hy, rfl⟩ := List.mem_map.1 ha
    subst hc
    have := List.find?_eq_none.1 hn y hy
    exact fun e => this (beq_iff_eq.2 e.symm)
  · simp only [List.map_append, List.map_cons, List.map_nil]
    rw [List.nodup_append]
    refine ⟨h.born, by simp, ?_⟩
    intro a ha c hc
    simp only [List.mem_singleton] at hc
    obtain ⟨y, hy, rfl⟩ := List.mem_map.1 ha
    have := h.old y hy
    omega
  · intro x hx'
    rcases List.mem_append.1 hx' with hx' | hx'
    · have := h.old x hx'; omega
    · simp only [List.mem_singleton] at hx'; subst hx'; simp
/-- A page is struck out of the map. -/
theorem MemL.del (h : MemL w g gm L clock m) {n : Int} {j : Nat} (hj : (L.findIdx? fun x => n == x.pg.no) = some j) :
    MemL (setBlock w gm (.map ((L.map Lp.ent).toArray.eraseIdxIfInBounds j) clock)) g gm (L.eraseIdx j) clock (m.del n) := by
  have hlt := (List.findIdx?_eq_some_iff_getElem.1 hj).1
  have hg : g ≠ gm := fun e => by have h1 := h.mp; rw [← e, h.hd] at h1; cases h1
  have hx : ∀ x ∈ L, x.blk ≠ gm := fun x hx e => by have h1 := h.mp; rw [← e, h.blk x hx] at h1; cases h1
  have hsub : ∀ {α : Type} (f : Lp → α), (L.map f).Nodup → ((L.eraseIdx j).map f).Nodup := fun f hf => hf.sublist ((List.eraseIdx_sublist L j).map f)
  have hmem : ∀ x ∈ L.eraseIdx j, x ∈ L := fun x hx => (List.eraseIdx_sublist L j).subset hx
  refine ⟨(ChangeMaps.heap_setBlock_other h.mp _ hg).trans h.hd, ?_, ?_, ?_, ?_, ?_, ?_, ?_, ?_⟩
  · rw [ChangeMaps.heap_setBlock_same h.mp]
    have : (L.map Lp.ent).toArray.eraseIdxIfInBounds j = ((L.eraseIdx j).map Lp.ent).toArray := by
      rw [Array.eraseIdxIfInBounds, dif_pos (by simpa using hlt)]
      simp [map_erase]
    rw [this]
  · have hi : m.pages.findIdx (fun p => n == p.no) = j := by
      rw [h.pgs, List.findIdx_map]
      obtain ⟨_, h1, h2⟩ := List.findIdx?_eq_some_iff_getElem.1 hj
      rw [List.findIdx_eq hlt]
      exact ⟨h1, fun i hi => by simpa using h2 i hi⟩
    simp only [Mm.del, hi]
    rw [h.pgs, map_erase]
  · intro x hx'
    exact (ChangeMaps.heap_setBlock_other h.mp _ (hx x (hmem x hx'))).trans (h.blk x (hmem x hx'))
  · exact fun x hx' => h.ok x (hmem x hx')
  · exact hsub _ h.nd
  · exact hsub _ h.keys
  · exact hsub _ h.born
  · exact fun x hx' => h.old x (hmem x hx')
theorem MemL.new (h1 : w.heap[gm]? = some (.map #[] clock)) {b : Int} (h2 : w.heap[g]? = some (.cells #[.map (some gm), .int .i64 b] 66 (0, 0))) : MemL w g gm [] clock ⟨b, []⟩ :=
  ⟨h2, by simpa using h1, rfl, by simp, by simp, by simp, by simp, by simp, by simp⟩
structure Upd (w W : World) (S : Nat → Prop) : Prop where
  os : W.os = w.os
  tape : W.tape = w.tape
  output : W.output = w.output
  size : w.heap.size ≤ W.heap.size
  block : ∀ k, k < w.heap.size → ¬ S k → W.heap[k]? = w.heap[k]?
section
variable {S : Nat → Prop} {w0 W2 : World}
theorem Upd.refl (w : World) (S : Nat → Prop) : Upd w w S := ⟨rfl, rfl, rfl, Nat.le_refl _, fun _ _ _ => rfl⟩
theorem Upd.then_ {S2 : Nat → Prop} (h : Upd w W S) (k : Upd W W2 S2) (hs : ∀ k, S2 k → S k ∨ w.heap.size ≤ k) : Upd w W2 S :=
  ⟨k.os.trans h.os, k.tape.trans h.tape, k.output.trans h.output, Nat.le_trans h.size k.size, fun i hi hn => (k.block i (Nat.lt_of_lt_of_le hi h.size) (fun hk => (hs i hk).elim hn (by omega))).trans (h.block i hi hn)⟩
theorem Upd.of_below (h : Below w.heap.size w W) (S : Nat → Prop) : Upd w W S := ⟨h.os, h.tape, h.output, h.size, fun k hk _ => h.block k hk⟩
theorem Upd.below (h : Upd w W S) {B : Nat} (hB : Below B w0 w) (hle : B ≤ w.heap.size) (hs : ∀ k, S k → B ≤ k) : Below B w0 W :=
  ⟨h.os.trans hB.os, h.tape.trans hB.tape, h.output.trans hB.output, Nat.le_trans hB.size h.size, fun k hk => (h.block k (Nat.lt_of_lt_of_le hk hle) (fun hk2 => by have := hs k hk2; omega)).trans (hB.block k hk)⟩
theorem Upd.kept (h : Upd w W S) : Kept w W S := ⟨h.size, h.block⟩
theorem Upd.mono {S' : Nat → Prop} (h : Upd w W S) (hs : ∀ k, S k → S' k) : Upd w W S' := ⟨h.os, h.tape, h.output, h.size, fun k hk hn => h.block k hk (fun hk2 => hn (hs k hk2))⟩
theorem Upd.setCell (w : World) {p : Addr} (hp : S p.block) (u : Value) : Upd w (w.setCell p u) S := by
  have h := (Below.refl 0 w).setCell (p := p) (Nat.zero_le _) u
  exact ⟨h.os, h.tape, h.output, h.size, fun k hk hn => Below.heap_setCell w p u k (fun e => hn (e ▸ hp))⟩
theorem Upd.drew (w : World) : Upd w w.drew S := ⟨rfl, rfl, rfl, Nat.le_refl _, fun _ _ _ => rfl⟩
theorem Upd.alloc (w : World) (o : Obj) : Upd w (w.alloc o) S := Upd.of_below (below_alloc (Below.refl _ _) o) S
theorem Upd.setBlock {b : Nat} {es : Array MapEntry} {c : Nat} (hb : w.heap[b]? = some (.map es c)) (hs : S b) (o : Obj) : Upd w (setBlock w b o) S :=
  ⟨rfl, rfl, rfl, by simp [ChangeMaps.setBlock], fun k _ hn => ChangeMaps.heap_setBlock_other hb _ (fun e => hn (e ▸ hs))⟩
end
theorem cells_byte {p : Pg} (hp : p.Ok) {i : Nat} (hi : i < 256) (b : Int) : p.cells.setIfInBounds i (.int .u8 b) = ({ p with bs := p.bs.set i b } : Pg).cells := by
  have hb := hp.b
  unfold Pg.cells
  rw [List.setIfInBounds_toArray, List.set_append_left _ _ (by simp [hb, hi]), List.map_set]
theorem cells_tag {p : Pg} (hp : p.Ok) {k : Nat} (b : Bool) : p.cells.setIfInBounds (256 + k) (.bool b) = ({ p with ts := p.ts.set k b } : Pg).cells := by
  have hb := hp.b
  unfold Pg.cells
  rw [List.setIfInBounds_toArray, List.set_append_right _ _ (by simp [hb]), List.map_set]
  simp [hb]
theorem cells_at {p : Pg} (hp : p.Ok) {i : Nat} (hi : i < 256) : p.cells[i]? = some (.int .u8 (p.bs.getD i 0)) := by
  have hb := hp.b
  unfold Pg.cells
  rw [List.getElem?_toArray, List.getElem?_append_left (by simp [hb, hi]), List.getElem?_map, List.getElem?_eq_getElem (by omega)]
  simp [List.getD_eq_getElem?_getD, List.getElem?_eq_getElem (show i < p.bs.length by omega)]
theorem cells_tag_at {p : Pg} (hp : p.Ok) {k : Nat} (hk : k < 8) : p.cells[256 + k]? = some (.bool (p.ts.getD k false)) := by
  have hb := hp.b
  have ht := hp.t
  unfold Pg.cells
  rw [List.getElem?_toArray, List.getElem?_append_right (by simp [hb]), List.getElem?_map]
  simp [hb, List.getD_eq_getElem?_getD, List.getElem?_eq_getElem (show k < p.ts.length by omega)]
/-- A byte is written; its granule has no tag. -/
def Pg.poke (p : Pg) (i b : Int) : Pg := { p with bs := p.bs.set i.toNat b, ts := p.ts.set (i / 32).toNat false }
def Mm.poke (m : Mm) (a b : Int) : Mm := match m.page (a / 256) with | some p => m.put (p.poke (a % 256) b) | none => m
def Mm.pokes (m : Mm) (a : Int) : List Int → Mm
  | [] => m
  | b :: r => (m.poke a b).pokes (a + 1) r
theorem pokes_snoc (b : Int) : ∀ (l : List Int) (m : Mm) (a : Int), m.pokes a (l ++ [b]) = (m.pokes a l).poke (a + l.length) b
  | [], m, a => by simp [Mm.pokes]
  | c :: r, m, a => by
    simp only [List.cons_append, Mm.pokes, pokes_snoc b r, List.length_cons]
    congr 1
    simp
    omega
theorem Pg.poke_ok {p : Pg} (hp : p.Ok) (i b : Int) : (p.poke i b).Ok := ⟨by simp [Pg.poke, hp.b], by simp [Pg.poke, hp.t]⟩
theorem poke_cells {p : Pg} (hp : p.Ok) {i : Int} (h0 : 0 ≤ i) (h1 : i < 256) (b : Int) : (p.cells.setIfInBounds i.toNat (.int .u8 b)).setIfInBounds (256 + (i / 32).toNat) (.bool false) = (p.poke i b).cells := by
  rw [cells_byte hp (by omega), cells_tag (p := { p with bs := p.bs.set i.toNat b }) ⟨by simp [hp.b], hp.t⟩]
  rfl
/-- A byte is written: the memory behind it. -/
theorem MemL.poke (h : MemL w g gm L clock m) {a b : Int} (h0 : 0 ≤ a) {x : Lp} (hl : lookL (a / 256) L = some x) :
    ∃ L', MemL ((w.setCell ⟨x.blk, (a % 256).toNat, none⟩ (.int .u8 b)).setCell ⟨x.blk, 256 + (a % 256 / 32).toNat, none⟩ (.bool false)) g gm L' clock (m.poke a b) ∧ L'.map Lp.blk = L.map Lp.blk := by
  obtain ⟨hx, hno⟩ := lookL_mem hl
  have hok := h.ok x hx
  have e : m.poke a b = m.put (x.pg.poke (a % 256) b) := by unfold Mm.poke; rw [h.page, hl]; rfl
  rw [e]
  refine ⟨_, h.write hx (p := x.pg.poke (a % 256) b) rfl (Pg.poke_ok hok _ _) ?_ ?_, ?_⟩
  · rw [← poke_cells hok (by omega) (by omega) b]
    exact blk_set (blk_set (h.blk x hx) _ _) _ _
  · intro k hk hne
    rw [Below.heap_setCell _ _ _ _ hne, Below.heap_setCell _ _ _ _ hne]
  · rw [List.map_map]
    refine List.map_congr_left fun y hy => ?_
    simp only [Function.comp]
    split <;> rfl
end Go.Proofs.Ytkppgepljjgjhaa.P
