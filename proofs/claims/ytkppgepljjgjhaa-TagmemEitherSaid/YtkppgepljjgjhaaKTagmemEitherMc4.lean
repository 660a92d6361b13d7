/- Texts of one proof, one behind the other. No condition. -/
import Derived.Test.YtkppgepljjgjhaaKTagmemEitherMc1
import Derived.Test.YtkppgepljjgjhaaKTagmemEitherPx8
import Derived.LoopTactic
namespace Go.Proofs.Ytkppgepljjgjhaa.P
open Go.RowKit Go.Proofs.YtkppgepljjgjhaaW.PrintWords Go.Proofs.YtkppgepljjgjhaaW.PrintLast
set_option linter.unusedVariables false
set_option linter.unusedSimpArgs false
theorem add_off (g o j : Nat) : (⟨g, o, none⟩ : Addr).add j = ⟨g, o + j, none⟩ := by unfold Addr.add; split <;> simp_all
/-- A page's bytes are a row. -/
theorem MemL.row {w : World} {g gm : Nat} {L : List Lp} {clock : Nat} {m : Mm} (h : MemL w g gm L clock m) {x : Lp} (hx : x ∈ L) {o n : Nat} (hn : o + n ≤ 256) : Kd.C (Kd.int .u8) w (some ⟨x.blk, o, none⟩) n ((x.pg.bs.drop o).take n) := by
  have hlen := (h.ok x hx).b
  have hl : ((x.pg.bs.drop o).take n).length = n := by simp; omega
  refine ⟨hl, by omega, fun hpos => ⟨_, rfl, fun j p hj => ⟨[.int .u8 p], rfl, rfl, fun i u hu => ?_⟩⟩⟩
  obtain rfl : i = 0 := by cases i with | zero => rfl | succ i => simp at hu
  simp only [List.getElem?_cons_zero, Option.some.injEq] at hu
  subst hu
  rw [show j * (Kd.int .u8).sz + 0 = j from by show j * 1 + 0 = j; omega, add_off, blk_cell (h.blk x hx)]
  have hj' : x.pg.bs[o + j]? = some p := by
    rw [List.getElem?_take] at hj
    split at hj
    · rwa [List.getElem?_drop] at hj
    · cases hj
  have : o + j < x.pg.bs.length := (List.getElem?_eq_some_iff.1 hj').1
  unfold Pg.cells
  rw [List.getElem?_toArray, List.getElem?_append_left (by simpa using this), List.getElem?_map, hj']
  rfl
theorem run_slicePg (b : Nat) {lo hi : Int} (h0 : 0 ≤ lo) (h1 : lo ≤ hi) (h2 : hi ≤ 256) (h3 : lo < 256) (w : World) :
    (Instr.sliceAt 69 (.pointer (some ⟨b, 0, none⟩)) (some (.int .i64 lo)) (some (.int .i64 hi)) none).run Try.prog w = .ok (.slice (some ⟨b, lo.toNat, none⟩) (hi.toNat - lo.toNat) (256 - lo.toNat)) w := by
  have e : Try.prog.arrayLen 69 = 256 := by kernel_rfl
  have es : ∀ w, (sizeOf (Try.prog.elem 69)).run Try.prog w = .ok 1 w := fun w => by kernel_rfl
  rw [run_sliceAt_array_lh w 69 ⟨b, 0, none⟩ (by kernel_rfl) .i64 .i64 lo hi h0 h1 (by rw [e]; exact h2), es]
  simp only [Result.andThen, slicedAt, e]
  rw [if_neg (by omega), add_off, Nat.mul_one, Nat.zero_add]
/-- The bytes from a place on. -/
def Pg.sub (p : Pg) (a n : Int) : List Int := (p.bs.drop a.toNat).take n.toNat
def tagmem_Mem_Load.f (k : Nat) (m : Mm) (a n : Int) : Option (Int × Int) := if size_ok n then (if a % n = 0 then (match m.page (a / 256) with | some p => (word_Of.f k (p.sub (a % 256) n)).bind fun r => some (r, 0) | none => some (0, 30)) else some (0, 31)) else some (0, 1)
theorem numV_some {a n : Int} {x : Lp} (hn : size_ok n) (c : a % n = 0) : numV a n (some x) = .tuple #[.pointer (some ⟨x.blk, 0, none⟩), .int .i64 (a % 256), .int .i64 0] := by unfold numV; rw [if_pos hn, if_pos c]
theorem numV_none {a n : Int} (hn : size_ok n) (c : a % n = 0) : numV a n none = .tuple #[.pointer none, .int .i64 0, .int .i64 30] := by unfold numV; rw [if_pos hn, if_pos c]
theorem numV_align {a n : Int} {o : Option Lp} (hn : size_ok n) (c : ¬ a % n = 0) : numV a n o = .tuple #[.pointer none, .int .i64 0, .int .i64 31] := by unfold numV; rw [if_pos hn, if_neg c]
theorem numV_size {a n : Int} {o : Option Lp} (hn : ¬ size_ok n) : numV a n o = .tuple #[.pointer none, .int .i64 0, .int .i64 1] := by unfold numV; rw [if_neg hn]
theorem pair_eq {a b : Int} {r1 r2 : Int} (h : some (a, b) = some (r1, r2)) : a = r1 ∧ b = r2 := by cases h; exact ⟨rfl, rfl⟩
set_option maxHeartbeats 4000000 in
set_option maxRecDepth 100000 in
theorem tagmem_Mem_Load.calls (k : Nat) {w : World} {g gm : Nat} {L : List Lp} {clock : Nat} {m : Mm} (h : MemL w g gm L clock m) (a n : Int) (h0 : 0 ≤ a) (h1 : a ≤ 18446744073709551615) (r e : Int) (hf : tagmem_Mem_Load.f k m a n = some (r, e)) :
    Calls Try.prog 22 #[.pointer (some ⟨g, 0, none⟩), .int .u64 a, .int .i64 n] w fun e' w' => e' = .returned (.tuple #[.int .u64 r, .int .i64 e]) ∧ Below w.heap.size w w' := by
  have A := Aside0.mk (number.calls h a n h0 h1)
  unfold tagmem_Mem_Load.f at hf
  rw [h.page] at hf
  by_cases hn : size_ok n
  · rw [if_pos hn] at hf
    by_cases c : a % n = 0
    · rw [if_pos c] at hf
      cases hl : lookL (a / 256) L with
      | none =>
        rw [hl] at hf A
        rw [numV_none hn c] at A
        obtain ⟨rfl, rfl⟩ := pair_eq hf
        clear hf
        go_enter Try.func22, Try.ntmps22
        go_wp2_with (first | (go_at_call 34; refine A.out.mono ?_; rintro e w' ⟨rfl, rfl⟩) | fail)
        go_ret2
        exact ⟨rfl, Below.refl _ _⟩
      | some x =>
        rw [hl] at hf A
        rw [numV_some hn c] at A
        obtain ⟨r', hf1, e0⟩ := Option.bind_eq_some_iff.1 hf
        obtain ⟨rfl, rfl⟩ := pair_eq e0
        clear e0
        have hx := (lookL_mem hl).1
        have hle : a % 256 + n ≤ 256 := by rcases hn with rfl | rfl | rfl | rfl <;> omega
        have hn0 : 0 < n := by rcases hn with rfl | rfl | rfl | rfl <;> omega
        have ha0 : 0 ≤ a % 256 := by omega
        have C := Aside0.mk (h.row hx (o := (a % 256).toNat) (n := n.toNat) (by omega))
        have hs := run_slicePg x.blk ha0 (show a % 256 ≤ a % 256 + n by omega) hle (by omega)
        rw [show (a % 256 + n).toNat - (a % 256).toNat = n.toNat by omega] at hs
        have HF := Aside0.mk hf1
        clear hf hf1
        have hlen : (x.pg.sub (a % 256) n).length = n.toNat := C.out.1
        have B := word_Of.calls k (some ⟨x.blk, (a % 256).toNat, none⟩) (256 - (a % 256).toNat) (x.pg.sub (a % 256) n) r' w (by rw [hlen]; exact C.out) (by rw [hlen]; omega) HF.out
        rw [hlen] at B
        have B' := Aside0.mk B
        clear B
        go_enter Try.func22, Try.ntmps22
        go_wp2_with (first | (go_at_call 34; refine A.out.mono ?_; rintro e w' ⟨rfl, rfl⟩) | (go_at_call 33; refine B'.out.mono ?_; rintro e w2 ⟨rfl, hb⟩) | fail)
        go_ret2
        exact ⟨rfl, hb⟩
    · rw [if_neg c] at hf
      rw [numV_align hn c] at A
      obtain ⟨rfl, rfl⟩ := pair_eq hf
      clear hf
      go_enter Try.func22, Try.ntmps22
      go_wp2_with (first | (go_at_call 34; refine A.out.mono ?_; rintro e w' ⟨rfl, rfl⟩) | fail)
      go_ret2
      exact ⟨rfl, Below.refl _ _⟩
  · rw [if_neg hn] at hf
    rw [numV_size hn] at A
    obtain ⟨rfl, rfl⟩ := pair_eq hf
    clear hf
    go_enter Try.func22, Try.ntmps22
    go_wp2_with (first | (go_at_call 34; refine A.out.mono ?_; rintro e w' ⟨rfl, rfl⟩) | fail)
    go_ret2
    exact ⟨rfl, Below.refl _ _⟩
end Go.Proofs.Ytkppgepljjgjhaa.P

namespace Go.Proofs.Ytkppgepljjgjhaa.P
open Go.RowKit Go.Proofs.YtkppgepljjgjhaaW.PrintWords Go.Proofs.YtkppgepljjgjhaaW.PrintLast
set_option linter.unusedVariables false
set_option linter.unusedSimpArgs false
/-- Are these bytes mapped? -/
def mapd (m : Mm) (a n : Int) : Bool := decide (a + n < 18446744073709551616) && (List.range n.toNat).all fun i => (m.page ((a + i) / 256)).isSome
theorem mapd_no {m : Mm} {a n : Int} {j : Nat} (hj : j < n.toNat) (h : m.page ((a + j) / 256) = none) : mapd m a n = false := by
  unfold mapd
  rw [Bool.and_eq_false_iff]
  right
  rw [List.all_eq_false]
  exact ⟨j, by simpa using hj, by rw [h]; simp⟩
theorem mapd_yes {m : Mm} {a n : Int} (hc : a + n < 18446744073709551616) (h : ∀ j, j < n.toNat → (m.page ((a + (j : Int)) / 256)).isSome = true) : mapd m a n = true := by
  unfold mapd
  rw [Bool.and_eq_true, decide_eq_true hc, List.all_eq_true]
  exact ⟨rfl, fun j hj => h j (by simpa using hj)⟩
theorem ret_b {a b : Bool} (h : a = b) : Ending.returned (.bool a) = .returned (.bool b) := by rw [h]
set_option maxHeartbeats 4000000 in
set_option maxRecDepth 100000 in
theorem mapped.calls {w : World} {g gm : Nat} {L : List Lp} {clock : Nat} {m : Mm} (h : MemL w g gm L clock m) (a n : Int) (h0 : 0 ≤ a) (h1 : a ≤ 18446744073709551615) (n0 : 0 ≤ n) (n1 : n ≤ 9223372036854775807) :
    Calls Try.prog 35 #[.pointer (some ⟨g, 0, none⟩), .int .u64 a, .int .i64 n] w fun e w' => e = .returned (.bool (mapd m a n)) ∧ w' = w := by
  have wn : IntKind.u64.wrap n = n := by rw [IntKind.wrap_u64]; omega
  by_cases c : a + n < 18446744073709551616
  · have c1 : IntKind.u64.wrap (a + n) = a + n := by rw [IntKind.wrap_u64]; omega
    have c2 : decide (a + n < a) = false := decide_eq_false (by omega)
    go_enter Try.func35, Try.ntmps35
    go_wp2
    go_loopw [7] (fun v7 wr => ∃ (j : Nat), v7 = .int .u64 j ∧ j ≤ n.toNat ∧ Aside0 (∀ i, i < j → (m.page ((a + (i : Int)) / 256)).isSome = true) ∧ wr = w) (fun v7 _ => n.toNat - (intOf v7).toNat)
    case atStart => exact ⟨0, rfl, by omega, ⟨fun i hi => by omega⟩, rfl⟩
    case round =>
      obtain ⟨j, rfl, hj, HF, rfl⟩ := hrel
      by_cases hlt : j < n.toNat
      · have c3 : decide ((j : Int) < n) = true := decide_eq_true (by omega)
        have c4 : IntKind.u64.wrap (a + j) = a + j := by rw [IntKind.wrap_u64]; omega
        have c5 : IntKind.u64.wrap ((j : Int) + 1) = ((j + 1 : Nat) : Int) := by rw [IntKind.wrap_u64]; omega
        have ha0 : 0 ≤ a + (j : Int) := by omega
        have ha1 : a + (j : Int) ≤ 18446744073709551615 := by omega
        cases hl : lookL ((a + (j : Int)) / 256) L with
        | none =>
          have A := Aside0.mk (place_none h ha0 ha1 hl)
          have E := Aside0.mk (mapd_no hlt (by rw [h.page, hl]; rfl))
          go_wp2_with (first | (go_at_call 36; refine A.out.mono ?_; rintro e w' ⟨rfl, rfl⟩) | fail)
          go_ret
          exact ⟨ret_b E.out.symm, rfl⟩
        | some x =>
          have A := Aside0.mk (place_some h ha0 ha1 hl)
          have E := Aside0.mk (show ∀ i, i < j + 1 → (m.page ((a + (i : Int)) / 256)).isSome = true from fun i hi => by
            by_cases e : i = j
            · rw [e, h.page, hl]; rfl
            · exact HF.out i (by omega))
          clear HF
          go_wp2_with (first | (go_at_call 36; refine A.out.mono ?_; rintro e w' ⟨rfl, rfl⟩) | fail)
          exact ⟨⟨j + 1, by simp, by omega, E, trivial⟩, by simp [intOf]; omega⟩
      · have c3 : decide ((j : Int) < n) = false := decide_eq_false (by omega)
        have E := Aside0.mk (mapd_yes c (fun i hi => HF.out i (by omega)))
        go_wp2
        go_ret
        exact ⟨ret_b E.out.symm, rfl⟩
  · have E : mapd m a n = false := by unfold mapd; rw [decide_eq_false c]; rfl
    rw [E]
    have c1 : IntKind.u64.wrap (a + n) = a + n - 18446744073709551616 := by rw [IntKind.wrap_u64]; omega
    have c2 : decide (a + n - 18446744073709551616 < a) = true := decide_eq_true (by omega)
    go_enter Try.func35, Try.ntmps35
    go_wp2
    go_ret
    exact ⟨rfl, rfl⟩
end Go.Proofs.Ytkppgepljjgjhaa.P

namespace Go.Proofs.Ytkppgepljjgjhaa.P
open Go.RowKit Go.Proofs.YtkppgepljjgjhaaW.PrintWords Go.Proofs.YtkppgepljjgjhaaW.PrintLast
set_option linter.unusedVariables false
set_option linter.unusedSimpArgs false
theorem page_put (m : Mm) (p : Pg) (n : Int) : ((m.put p).page n).isSome = (m.page n).isSome := by
  unfold Mm.page Mm.put
  simp only [List.find?_map]
  rw [Option.isSome_map]
  have : ((fun q => n == q.no) ∘ fun q : Pg => if q.no = p.no then p else q) = fun q : Pg => n == q.no := by
    funext q
    simp only [Function.comp]
    split
    · rename_i c; rw [c]
    · rfl
  rw [this]
theorem page_poke (m : Mm) (a b n : Int) : ((m.poke a b).page n).isSome = (m.page n).isSome := by
  unfold Mm.poke
  split
  · exact page_put _ _ _
  · rfl
theorem page_pokes (n : Int) : ∀ (l : List Int) (m : Mm) (a : Int), ((m.pokes a l).page n).isSome = (m.page n).isSome
  | [], m, a => rfl
  | b :: r, m, a => by rw [Mm.pokes, page_pokes n r, page_poke]
def tagmem_Mem_Put.f (m : Mm) (a : Int) (l : List Int) : Mm × Int := if mapd m a l.length then (m.pokes a l, 0) else (m, 30)
/-- One of the pages' blocks. -/
def inL (L : List Lp) (k : Nat) : Prop := k ∈ L.map Lp.blk
theorem take_next {l : List Int} {j : Nat} (h : j < l.length) : l.take (j + 1) = l.take j ++ [rd l (j : Int)] := by
  rw [List.take_add_one, List.getElem?_eq_getElem h]
  simp [rd, List.getD_eq_getElem?_getD, List.getElem?_eq_getElem h]
theorem add_block (a : Addr) (j : Nat) : (a.add j).block = a.block := by unfold Addr.add; split <;> rfl
end Go.Proofs.Ytkppgepljjgjhaa.P
