/- pdqsortOrdered, slices.Sort at uint64. No condition. -/
import Derived.Test.YtkppgepljjgjhaaKTagmemEitherSa2
import Derived.Test.YtkppgepljjgjhaaKTagmemEitherSa4
import Derived.Test.YtkppgepljjgjhaaKTagmemEitherSa5
import Derived.Test.YtkppgepljjgjhaaKTagmemEitherSa7
import Derived.Test.YtkppgepljjgjhaaKTagmemEitherSa9
import Derived.Sort.AssemblyPlain
namespace Go.Proofs.Ytkppgepljjgjhaa.P
open Go.RowKit Go.Proofs.YtkppgepljjgjhaaW.PrintWords Go.Proofs.YtkppgepljjgjhaaW.PrintLast
open Go.Sort (ltInt swp PermIn SortedIn swo_ltInt)
set_option linter.unusedVariables false
set_option linter.unusedSimpArgs false
variable {w : World} {blk off : Nat} {pre post : List Value} {ty : TypeId}
/-- A row on its way: another order of what it was, between two places. -/
structure PQ (w W : World) (blk : Nat) (pre post : List Value) (ty : TypeId) (n x y : Nat) (dk dc : Array Int) : Prop where
  sr : SR w W blk pre post ty dc
  sz : dc.size = n
  pm : PermIn x y dk dc
  bl : Go.Sort.Below ltInt x y dc
section
variable {W : World} {n cap x y : Nat} {dk dc : Array Int}
theorem PQ.next {W2 : World} {d2 : Array Int} (h : PQ w W blk pre post ty n x y dk dc) (hy : y ≤ n) (hs : SR w W2 blk pre post ty d2) (hp : PermIn x y dc d2) : PQ w W2 blk pre post ty n x y dk d2 :=
  ⟨hs, by rw [hp.1, h.sz], Go.Sort.permIn_trans _ _ _ x y h.pm hp, h.bl.perm (by rw [h.sz]; exact hy) hp⟩
theorem pq_break (ho : pre.length = off) (hblk : blk < w.heap.size) (hn : n < 32768) (hxy : x + 8 ≤ y) (hy : y ≤ n) (W : World) (dc : Array Int) (h : PQ w W blk pre post ty n x y dk dc) :
    Calls Try.prog 62 #[.slice (some ⟨blk, off, none⟩) n cap, .int .i64 x, .int .i64 y] W fun e W' => e = .returned (.tuple #[]) ∧ ∃ d', PQ w W' blk pre post ty n x y dk d' := by
  have q := break_calls h.sr ho hblk cap x y hxy (by rw [h.sz]; exact hy) (by rw [h.sz]; exact hn)
  rw [h.sz] at q
  exact q.mono fun e W' ⟨he, d', hs, hp⟩ => ⟨he, d', h.next hy hs hp⟩
theorem pq_pivot (ho : pre.length = off) (hblk : blk < w.heap.size) (hn : n < 32768) (hxy : x + 8 ≤ y) (hy : y ≤ n) (W : World) (dc : Array Int) (h : PQ w W blk pre post ty n x y dk dc) :
    Calls Try.prog 63 #[.slice (some ⟨blk, off, none⟩) n cap, .int .i64 x, .int .i64 y] W fun e W' => ∃ (p : Nat) (k : Int), e = .returned (.tuple #[.int .i64 p, .int .i64 k]) ∧ (x ≤ p ∧ p < y) ∧ PQ w W' blk pre post ty n x y dk dc :=
  (pivot_calls h.sr ho hblk n cap x y h.sz hxy (by rw [h.sz]; exact hy) (by rw [h.sz]; omega)).mono fun e W' ⟨p, k, he, hp, hs⟩ => ⟨p, k, he, hp, hs, h.sz, h.pm, h.bl⟩
theorem pq_reverse (ho : pre.length = off) (hn : n < 32768) (hxy : x < y) (hy : y ≤ n) (W : World) (dc : Array Int) (h : PQ w W blk pre post ty n x y dk dc) :
    Calls Try.prog 64 #[.slice (some ⟨blk, off, none⟩) n cap, .int .i64 x, .int .i64 y] W fun e W' => e = .returned (.tuple #[]) ∧ ∃ d', PQ w W' blk pre post ty n x y dk d' := by
  have q := reverse_calls h.sr ho cap x y hxy (by rw [h.sz]; exact hy) (by rw [h.sz]; omega)
  rw [h.sz] at q
  exact q.mono fun e W' ⟨he, hs⟩ => ⟨he, _, h.next hy hs (Go.Sort.reverseRange_holds dc x y (by omega) (by rw [h.sz]; exact hy))⟩
theorem pq_partial (ho : pre.length = off) (hn : n < 32768) (hxy : x < y) (hy : y ≤ n) (W : World) (dc : Array Int) (h : PQ w W blk pre post ty n x y dk dc) :
    Calls Try.prog 65 #[.slice (some ⟨blk, off, none⟩) n cap, .int .i64 x, .int .i64 y] W fun e W' => ∃ (t : Bool) (d' : Array Int), e = .returned (.bool t) ∧ PQ w W' blk pre post ty n x y dk d' ∧ (t = true → SortedIn ltInt x y d') := by
  have q := partial_calls h.sr ho cap x y hxy (by rw [h.sz]; exact hy) (by rw [h.sz]; omega)
  rw [h.sz] at q
  have P := Go.Sort.partialInsertionSort_holds swo_ltInt dc x y hxy (by rw [h.sz]; exact hy) h.bl
  exact q.mono fun e W' ⟨he, hs⟩ => ⟨_, _, he, h.next hy hs P.1, P.2⟩
theorem pq_insertion (ho : pre.length = off) (hn : n < 32768) (hxy : x ≤ y) (hy : y ≤ n) (W : World) (dc : Array Int) (h : PQ w W blk pre post ty n x y dk dc) :
    Calls Try.prog 60 #[.slice (some ⟨blk, off, none⟩) n cap, .int .i64 x, .int .i64 y] W fun e W' => e = .returned (.tuple #[]) ∧ ∃ d', PQ w W' blk pre post ty n x y dk d' ∧ SortedIn ltInt x y d' := by
  have q := insertion_calls h.sr ho cap x y hxy (by rw [h.sz]; exact hy) (by rw [h.sz]; omega)
  rw [h.sz] at q
  have P := Go.Sort.insertionSort_holds swo_ltInt dc x y hxy (by rw [h.sz]; exact hy)
  exact q.mono fun e W' ⟨he, hs⟩ => ⟨he, _, h.next hy hs P.1, P.2⟩
theorem pq_heap (ho : pre.length = off) (hn : n < 32768) (hxy : x < y) (hy : y ≤ n) (W : World) (dc : Array Int) (h : PQ w W blk pre post ty n x y dk dc) :
    Calls Try.prog 61 #[.slice (some ⟨blk, off, none⟩) n cap, .int .i64 x, .int .i64 y] W fun e W' => e = .returned (.tuple #[]) ∧ ∃ d', PQ w W' blk pre post ty n x y dk d' ∧ SortedIn ltInt x y d' := by
  have q := heap_calls h.sr ho cap x y hxy (by rw [h.sz]; exact hy) (by rw [h.sz]; omega)
  rw [h.sz] at q
  have P := Go.Sort.heapSort_holds swo_ltInt dc x y (by omega) (by rw [h.sz]; exact hy)
  exact q.mono fun e W' ⟨he, hs⟩ => ⟨he, _, h.next hy hs P.1, P.2⟩
/-- What is left to be sorted, and that it is enough. -/
structure PL (w W : World) (blk : Nat) (pre post : List Value) (ty : TypeId) (n x y : Nat) (F : Array Int → Prop) (dc : Array Int) : Prop where
  sr : SR w W blk pre post ty dc
  sz : dc.size = n
  bl : Go.Sort.Below ltInt x y dc
  fin : ∀ R, PermIn x y dc R → SortedIn ltInt x y R → F R
theorem pq_equal (ho : pre.length = off) (hn : n < 32768) (hx : 0 < x) (p : Nat) (hp : x ≤ p ∧ p < y) (hy : y ≤ n) (F : Array Int → Prop) (hF : ∀ R, PermIn x y dk R → SortedIn ltInt x y R → F R) (W : World) (dc : Array Int) (h : PQ w W blk pre post ty n x y dk dc) (hl : ltInt dc[x - 1]! dc[p]! = false) :
    Calls Try.prog 67 #[.slice (some ⟨blk, off, none⟩) n cap, .int .i64 x, .int .i64 y, .int .i64 p] W fun e W' => ∃ (m : Nat) (d' : Array Int), e = .returned (.int .i64 m) ∧ (x < m ∧ m ≤ y) ∧ PL w W' blk pre post ty n m y F d' := by
  have q := partitionEqual_calls h.sr ho cap x y p hp.1 hp.2 (by rw [h.sz]; exact hy) (by rw [h.sz]; omega)
  rw [h.sz] at q
  obtain ⟨h1, h2, h3, h4, h5⟩ := Go.Sort.round_eq (mid := (Go.Sort.partitionEqual ltInt dc x y p).1) (d4 := (Go.Sort.partitionEqual ltInt dc x y p).2) swo_ltInt (Go.Sort.partitionEqual_holds ltInt) hx hp.1 hp.2 (by rw [h.sz]; exact hy) h.bl hl rfl
  exact q.mono fun e W' ⟨he, hs⟩ => ⟨_, _, he, ⟨h1, h2⟩, hs, by rw [h3, h.sz], h4, fun R a b => (fun z => hF R (Go.Sort.permIn_trans _ _ _ x y h.pm z.1) z.2) (h5 R a b)⟩
theorem pq_part (ho : pre.length = off) (hn : n < 32768) (p : Nat) (hp : x ≤ p ∧ p < y) (hy : y ≤ n) (F : Array Int → Prop) (hF : ∀ R, PermIn x y dk R → SortedIn ltInt x y R → F R) (W : World) (dc : Array Int) (h : PQ w W blk pre post ty n x y dk dc) :
    Calls Try.prog 68 #[.slice (some ⟨blk, off, none⟩) n cap, .int .i64 x, .int .i64 y, .int .i64 p] W fun e W' => ∃ (m : Nat) (t : Bool) (d' : Array Int), e = .returned (.tuple #[.int .i64 m, .bool t]) ∧ (x ≤ m ∧ m < y) ∧
      PL w W' blk pre post ty n x m (fun L => Go.Sort.Below ltInt (m + 1) y L ∧ ∀ R, PermIn (m + 1) y L R → SortedIn ltInt (m + 1) y R → F R) d' ∧ PL w W' blk pre post ty n (m + 1) y (fun L => Go.Sort.Below ltInt x m L ∧ ∀ R, PermIn x m L R → SortedIn ltInt x m R → F R) d' := by
  have q := partition_calls h.sr ho cap x y p hp.1 hp.2 (by rw [h.sz]; exact hy) (by rw [h.sz]; omega)
  rw [h.sz] at q
  obtain ⟨h1, h2, h3, h4, h5, h6, h7⟩ := Go.Sort.round_part (mid := (Go.Sort.partition ltInt dc x y p).1) (ap := (Go.Sort.partition ltInt dc x y p).2.1) (d4 := (Go.Sort.partition ltInt dc x y p).2.2) swo_ltInt (Go.Sort.partition_holds ltInt) hp.1 hp.2 (by rw [h.sz]; exact hy) h.bl rfl
  have G : ∀ R, PermIn x y dc R ∧ SortedIn ltInt x y R → F R := fun R z => hF R (Go.Sort.permIn_trans _ _ _ x y h.pm z.1) z.2
  exact q.mono fun e W' ⟨he, hs⟩ => ⟨_, _, _, he, ⟨h1, h2⟩, ⟨hs, by rw [h3, h.sz], h4, fun L a b => ⟨(h6 L a b).1, fun R c d => G R ((h6 L a b).2 R c d)⟩⟩, ⟨hs, by rw [h3, h.sz], h5, fun L a b => ⟨(h7 L a b).1, fun R c d => G R ((h7 L a b).2 R c d)⟩⟩⟩
end
end Go.Proofs.Ytkppgepljjgjhaa.P
