/- The document's memory in plain words, and what has, put and take give. No condition. -/
import Derived.Test.YtkppgepljjgjhaaKTagmemEitherMc9
import Derived.Test.YtkppgepljjgjhaaKTagmemEitherPx9
import Derived.Test.YtkppgepljjgjhaaKTagmemEitherWShare
namespace Go.Proofs.Ytkppgepljjgjhaa.P
open Go.RowKit Go.Proofs.YtkppgepljjgjhaaW.PrintWords Go.Proofs.YtkppgepljjgjhaaW.PrintLast Go.Proofs.YtkppgepljjgjhaaW.PrintMore
set_option linter.unusedVariables false
set_option linter.unusedSimpArgs false
theorem rd_drop {l : List Int} {i : Nat} (h : i < l.length) : l.drop i = rd l (i : Int) :: l.drop (i + 1) := by
  rw [List.drop_eq_getElem_cons h]
  simp [rd, List.getD_eq_getElem?_getD, List.getElem?_eq_getElem h]
theorem next64 {i n : Nat} (h : i < n) (hn : n ≤ 4611686018427387904) : wrap64 ((i : Int) + 1) = ((i + 1 : Nat) : Int) := by unfold wrap64; omega
theorem has_l (n : Int) (l : List Int) (hl : l.length ≤ 4611686018427387904) : ∀ d i : Nat, d + i = l.length → ∃ k, curtilageref03_has.l0 k l n (i : Int) = some ((l.drop i).contains n)
  | 0, i, hi => ⟨1, by unfold curtilageref03_has.l0; rw [if_neg (by omega), List.drop_eq_nil_of_le (by omega)]; rfl⟩
  | d + 1, i, hi => by
    obtain ⟨k, hk⟩ := has_l n l hl d (i + 1) (by omega)
    refine ⟨k + 1, ?_⟩
    unfold curtilageref03_has.l0
    rw [if_pos (by omega), if_pos (by omega), rd_drop (show i < l.length by omega), List.contains_cons]
    by_cases c : rd l (i : Int) = n
    · rw [if_pos c, c]; simp
    · rw [if_neg c, next64 (show i < l.length by omega) hl, hk]
      have : (n == rd l (i : Int)) = false := by simpa using fun e => c e.symm
      rw [this, Bool.false_or]
theorem has_is (n : Int) (l : List Int) (hl : l.length ≤ 4611686018427387904) : ∃ k, curtilageref03_has.f k l n = some (l.contains n) := by
  obtain ⟨k, hk⟩ := has_l n l hl l.length 0 rfl
  exact ⟨k, by unfold curtilageref03_has.f; simpa using hk⟩
/-- A number put among others, rising. -/
def putF (n : Int) : List Int → List Int
  | [] => [n]
  | x :: r => if n < x then n :: x :: r else x :: putF n r
theorem putF_length (n : Int) : ∀ l, (putF n l).length = l.length + 1
  | [] => rfl
  | x :: r => by
    unfold putF
    split
    · rfl
    · simp [putF_length n r]
theorem put_l (n : Int) (l : List Int) (hl : l.length ≤ 1000000000) : ∀ (d i : Nat) (o : List Int) (b : Bool), d + i = l.length → o.length + d ≤ 4000000000 + b.toNat → ∃ k, curtilageref03_put.l0 k l n o b (i : Int) = some (if b = true then o ++ l.drop i else o ++ putF n (l.drop i))
  | 0, i, o, b, hi, ho => ⟨1, by
    unfold curtilageref03_put.l0
    rw [if_neg (by omega), List.drop_eq_nil_of_le (by omega)]
    cases b with
    | true => simp
    | false => simp only [Bool.toNat_false] at ho; rw [if_neg (by simp), if_pos (by omega), if_neg (by simp)]; rfl⟩
  | d + 1, i, o, b, hi, ho => by
    have W := next64 (show i < l.length by omega) (by omega)
    rw [rd_drop (show i < l.length by omega)]
    cases b with
    | true =>
      simp only [Bool.toNat_true] at ho
      obtain ⟨k, hk⟩ := put_l n l hl d (i + 1) (o ++ [rd l (i : Int)]) true (by omega) (by rw [List.length_append, List.length_singleton, Bool.toNat_true]; omega)
      refine ⟨k + 1, ?_⟩
      unfold curtilageref03_put.l0
      rw [if_pos (by omega), if_pos rfl, if_pos (by omega), if_pos (by omega), W, hk]
      simp
    | false =>
      simp only [Bool.toNat_false] at ho
      by_cases c : rd l (i : Int) > n
      · obtain ⟨k, hk⟩ := put_l n l hl d (i + 1) (o ++ [n] ++ [rd l (i : Int)]) true (by omega) (by simp; omega)
        refine ⟨k + 1, ?_⟩
        have e2 : (o ++ [n]).length < 17592186044416 := by rw [List.length_append, List.length_singleton]; omega
        unfold curtilageref03_put.l0
        rw [if_pos (by omega), if_neg (by simp), if_pos (by omega), if_pos c, if_pos (by omega), Option.bind_some, if_pos e2, W, hk]
        unfold putF
        rw [if_pos rfl, if_neg (by simp), if_pos (show n < rd l (i : Int) from c)]
        simp
      · obtain ⟨k, hk⟩ := put_l n l hl d (i + 1) (o ++ [rd l (i : Int)]) false (by omega) (by simp; omega)
        refine ⟨k + 1, ?_⟩
        unfold curtilageref03_put.l0
        rw [if_pos (by omega), if_neg (by simp), if_pos (by omega), if_neg c, if_pos (by omega), W, hk]
        rw [if_neg (by simp), if_neg (by simp)]
        conv => rhs; rw [putF]
        rw [if_neg (show ¬ n < rd l (i : Int) from c)]
        simp
theorem put_is (n : Int) (l : List Int) (hl : l.length ≤ 1000000000) : ∃ k, curtilageref03_put.f k l n = some (putF n l) := by
  obtain ⟨k, hk⟩ := put_l n l hl l.length 0 [] false rfl (by simp; omega)
  exact ⟨k, by unfold curtilageref03_put.f; simpa using hk⟩
theorem take_l (n : Int) (l : List Int) (hl : l.length ≤ 1000000000) : ∀ (d i : Nat) (o : List Int), d + i = l.length → o.length + d ≤ 4000000000 → ∃ k, curtilageref03_take.l0 k l n o (i : Int) = some (o ++ (l.drop i).filter (fun x => decide (x ≠ n)))
  | 0, i, o, hi, ho => ⟨1, by unfold curtilageref03_take.l0; rw [if_neg (by omega), List.drop_eq_nil_of_le (by omega)]; simp⟩
  | d + 1, i, o, hi, ho => by
    have W := next64 (show i < l.length by omega) (by omega)
    rw [rd_drop (show i < l.length by omega)]
    by_cases c : rd l (i : Int) = n
    · obtain ⟨k, hk⟩ := take_l n l hl d (i + 1) o (by omega) (by omega)
      refine ⟨k + 1, ?_⟩
      unfold curtilageref03_take.l0
      rw [if_pos (by omega), if_pos (by omega), if_pos c, W, hk, List.filter_cons_of_neg (by simpa using c)]
    · obtain ⟨k, hk⟩ := take_l n l hl d (i + 1) (o ++ [rd l (i : Int)]) (by omega) (by simp; omega)
      refine ⟨k + 1, ?_⟩
      unfold curtilageref03_take.l0
      rw [if_pos (by omega), if_pos (by omega), if_neg c, if_pos (by omega), W, hk, List.filter_cons_of_pos (by simpa using c)]
      simp
theorem take_is (n : Int) (l : List Int) (hl : l.length ≤ 1000000000) : ∃ k, curtilageref03_take.f k l n = some (l.filter (fun x => decide (x ≠ n))) := by
  obtain ⟨k, hk⟩ := take_l n l hl l.length 0 [] rfl (by simp; omega)
  exact ⟨k, by unfold curtilageref03_take.f; simpa using hk⟩
/-- The document's memory: pages, bytes that are not 0, marks, budget. -/
structure Rm where
  mapped : List Int
  cells : List S89
  marks : List Int
  budget : Int
def RefCs (A0 : Option Addr) (n0 c0 : Nat) (A1 : Option Addr) (n1 c1 : Nat) (A2 : Option Addr) (n2 c2 : Nat) (b : Int) : Array Value := #[.slice A0 n0 c0, .slice A1 n1 c1, .slice A2 n2 c2, .int .i64 b]
/-- The document's memory lies at block g of w; its rows lie in K. -/
structure RefL (w : World) (g : Nat) (K : Nat → Prop) (r : Rm) : Prop where
  hd : ∃ A0 c0 A1 c1 A2 c2, w.heap[g]? = some (.cells (RefCs A0 r.mapped.length c0 A1 r.cells.length c1 A2 r.marks.length c2 r.budget) 37 (0, 0)) ∧ r.mapped.length ≤ c0 ∧ r.cells.length ≤ c1 ∧ r.marks.length ≤ c2 ∧ Kd.F (Kd.int .u64) w K A0 r.mapped.length r.mapped ∧ Kd.F k89 w K A1 r.cells.length r.cells ∧ Kd.F (Kd.int .u64) w K A2 r.marks.length r.marks
  ne : ∀ k, K k → k ≠ g
  lt : ∀ k, K k → k < w.heap.size
theorem RefL.step {w W : World} {g : Nat} {K : Nat → Prop} {r : Rm} (h : RefL w g K r) (hs : w.heap.size ≤ W.heap.size) (hg : W.heap[g]? = w.heap[g]?) (hK : ∀ k, K k → W.heap[k]? = w.heap[k]?) : RefL W g K r := by
  obtain ⟨⟨A0, c0, A1, c1, A2, c2, hb, l0, l1, l2, f0, f1, f2⟩, ne, lt⟩ := h
  exact ⟨⟨A0, c0, A1, c1, A2, c2, hg.trans hb, l0, l1, l2, Kd.F_step f0 (fun k hk _ => hK k hk), Kd.F_step f1 (fun k hk _ => hK k hk), Kd.F_step f2 (fun k hk _ => hK k hk)⟩, ne, fun k hk => Nat.lt_of_lt_of_le (lt k hk) hs⟩
theorem RefL.glt {w : World} {g : Nat} {K : Nat → Prop} {r : Rm} (h : RefL w g K r) : g < w.heap.size := by
  obtain ⟨⟨A0, c0, A1, c1, A2, c2, hb, _⟩, _, _⟩ := h
  exact blk_lt hb
theorem RefL.upd {w W : World} {g : Nat} {K : Nat → Prop} {r : Rm} (h : RefL w g K r) {S : Nat → Prop} (hu : Upd w W S) (hg : ¬ S g) (hK : ∀ k, K k → ¬ S k) : RefL W g K r :=
  h.step hu.size (hu.block g h.glt hg) (fun k hk => hu.block k (h.lt k hk) (hK k hk))
theorem RefL.below {w W : World} {g : Nat} {K : Nat → Prop} {r : Rm} (h : RefL w g K r) (hb : Below w.heap.size w W) : RefL W g K r :=
  h.step hb.size (hb.block g h.glt) (fun k hk => hb.block k (h.lt k hk))
/-- A new row of the call's own, to be laid into the state. -/
theorem R_own_F {α : Type} {d : Kd α} {e : Nat} {w : World} {base : Nat} {ok : Nat → Prop} {v : Value} {xs : List α} (h : d.R e w base ok v xs) : ∃ A c, v = .slice A xs.length c ∧ xs.length ≤ c ∧ Kd.F d w (fun k => base ≤ k ∧ k < w.heap.size) A xs.length xs := by
  obtain ⟨A, c, rfl, hl, _⟩ := Kd.R_reads h
  exact ⟨A, c, rfl, hl, Kd.F_mono (Kd.R_F (Kd.R_bound h)) (fun k hk => ⟨hk.2.1, hk.2.2.1⟩)⟩
section
variable {w : World} {g : Nat} {K K0 : Nat → Prop} {r : Rm} {A : Option Addr} {c : Nat}
theorem RefL.set0 (h : RefL w g K r) {l : List Int} (hl : l.length ≤ c) (hf : Kd.F (Kd.int .u64) w K0 A l.length l) (h0 : ∀ k, K0 k → k ≠ g ∧ k < w.heap.size) : RefL (w.setCell ⟨g, 0, none⟩ (.slice A l.length c)) g (fun k => K k ∨ K0 k) { r with mapped := l } := by
  obtain ⟨⟨A0, c0, A1, c1, A2, c2, hb, l0, l1, l2, f0, f1, f2⟩, ne, lt⟩ := h
  refine ⟨⟨A, c, A1, c1, A2, c2, blk_set hb 0 (.slice A l.length c), hl, l1, l2, Kd.F_mono (Kd.F_far hf (fun k hk => (h0 k hk).1) _) (fun k hk => .inr hk), Kd.F_mono (Kd.F_far f1 ne _) (fun k hk => .inl hk), Kd.F_mono (Kd.F_far f2 ne _) (fun k hk => .inl hk)⟩, ?_, ?_⟩
  · rintro k (hk | hk)
    · exact ne k hk
    · exact (h0 k hk).1
  · rintro k (hk | hk)
    · rw [World.size_setCell]; exact lt k hk
    · rw [World.size_setCell]; exact (h0 k hk).2
theorem RefL.set1 (h : RefL w g K r) {l : List S89} (hl : l.length ≤ c) (hf : Kd.F k89 w K0 A l.length l) (h0 : ∀ k, K0 k → k ≠ g ∧ k < w.heap.size) : RefL (w.setCell ⟨g, 1, none⟩ (.slice A l.length c)) g (fun k => K k ∨ K0 k) { r with cells := l } := by
  obtain ⟨⟨A0, c0, A1, c1, A2, c2, hb, l0, l1, l2, f0, f1, f2⟩, ne, lt⟩ := h
  refine ⟨⟨A0, c0, A, c, A2, c2, blk_set hb 1 (.slice A l.length c), l0, hl, l2, Kd.F_mono (Kd.F_far f0 ne _) (fun k hk => .inl hk), Kd.F_mono (Kd.F_far hf (fun k hk => (h0 k hk).1) _) (fun k hk => .inr hk), Kd.F_mono (Kd.F_far f2 ne _) (fun k hk => .inl hk)⟩, ?_, ?_⟩
  · rintro k (hk | hk)
    · exact ne k hk
    · exact (h0 k hk).1
  · rintro k (hk | hk)
    · rw [World.size_setCell]; exact lt k hk
    · rw [World.size_setCell]; exact (h0 k hk).2
theorem RefL.set2 (h : RefL w g K r) {l : List Int} (hl : l.length ≤ c) (hf : Kd.F (Kd.int .u64) w K0 A l.length l) (h0 : ∀ k, K0 k → k ≠ g ∧ k < w.heap.size) : RefL (w.setCell ⟨g, 2, none⟩ (.slice A l.length c)) g (fun k => K k ∨ K0 k) { r with marks := l } := by
  obtain ⟨⟨A0, c0, A1, c1, A2, c2, hb, l0, l1, l2, f0, f1, f2⟩, ne, lt⟩ := h
  refine ⟨⟨A0, c0, A1, c1, A, c, blk_set hb 2 (.slice A l.length c), l0, l1, hl, Kd.F_mono (Kd.F_far f0 ne _) (fun k hk => .inl hk), Kd.F_mono (Kd.F_far f1 ne _) (fun k hk => .inl hk), Kd.F_mono (Kd.F_far hf (fun k hk => (h0 k hk).1) _) (fun k hk => .inr hk)⟩, ?_, ?_⟩
  · rintro k (hk | hk)
    · exact ne k hk
    · exact (h0 k hk).1
  · rintro k (hk | hk)
    · rw [World.size_setCell]; exact lt k hk
    · rw [World.size_setCell]; exact (h0 k hk).2
/-- The state's cells, told apart. -/
theorem RefL.cells_ (h : RefL w g K r) : ∃ A0 c0 A1 c1 A2 c2, (w.cell? ⟨g, 0, none⟩ = some (.slice A0 r.mapped.length c0) ∧ w.cell? ⟨g, 1, none⟩ = some (.slice A1 r.cells.length c1) ∧ w.cell? ⟨g, 2, none⟩ = some (.slice A2 r.marks.length c2) ∧ w.cell? ⟨g, 3, none⟩ = some (.int .i64 r.budget)) ∧ (w.frozen? ⟨g, 0, none⟩ = false ∧ w.frozen? ⟨g, 1, none⟩ = false ∧ w.frozen? ⟨g, 2, none⟩ = false) ∧ (r.mapped.length ≤ c0 ∧ r.cells.length ≤ c1 ∧ r.marks.length ≤ c2) ∧ (Kd.C (Kd.int .u64) w A0 r.mapped.length r.mapped ∧ Kd.C k89 w A1 r.cells.length r.cells ∧ Kd.C (Kd.int .u64) w A2 r.marks.length r.marks) := by
  obtain ⟨⟨A0, c0, A1, c1, A2, c2, hb, l0, l1, l2, f0, f1, f2⟩, ne, lt⟩ := h
  exact ⟨A0, c0, A1, c1, A2, c2, ⟨(blk_cell hb 0).trans rfl, (blk_cell hb 1).trans rfl, (blk_cell hb 2).trans rfl, (blk_cell hb 3).trans rfl⟩, ⟨blk_frozen hb 0, blk_frozen hb 1, blk_frozen hb 2⟩, ⟨l0, l1, l2⟩, ⟨Kd.F_now f0, Kd.F_now f1, Kd.F_now f2⟩⟩
end
end Go.Proofs.Ytkppgepljjgjhaa.P
