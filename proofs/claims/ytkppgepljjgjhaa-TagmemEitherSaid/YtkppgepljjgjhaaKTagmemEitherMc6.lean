/- Texts of one proof, one behind the other. No condition. -/
import Derived.Test.YtkppgepljjgjhaaKTagmemEitherMc4
namespace Go.Proofs.Ytkppgepljjgjhaa.P
open Go.RowKit Go.Proofs.YtkppgepljjgjhaaW.PrintWords Go.Proofs.YtkppgepljjgjhaaW.PrintLast
set_option linter.unusedVariables false
set_option linter.unusedSimpArgs false
theorem MemL.below {w W : World} {g gm : Nat} {L : List Lp} {clock : Nat} {m : Mm} (h : MemL w g gm L clock m) (hb : Below w.heap.size w W) : MemL W g gm L clock m :=
  h.step (hb.block _ (blk_lt h.hd)) (hb.block _ (blk_lt h.mp)) (fun x hx => hb.block _ (blk_lt (h.blk x hx)))
def Mm.byte (m : Mm) (a : Int) : Int := match m.page (a / 256) with | some p => p.bs.getD (a % 256).toNat 0 | none => 0
def Mm.bytes (m : Mm) (a : Int) : Nat → List Int
  | 0 => []
  | j + 1 => m.bytes a j ++ [m.byte (a + j)]
theorem bytes_length (m : Mm) (a : Int) : ∀ j, (m.bytes a j).length = j
  | 0 => rfl
  | j + 1 => by simp [Mm.bytes, bytes_length m a j]
def tagmem_Mem_Bytes.f (m : Mm) (a n : Int) : List Int := if n < 1 ∨ n > 65536 ∨ mapd m a n = false then [] else m.bytes a n.toNat
set_option maxHeartbeats 4000000 in
set_option maxRecDepth 100000 in
theorem Bytes_calls {w : World} {g gm : Nat} {L : List Lp} {clock : Nat} {m : Mm} (h : MemL w g gm L clock m) (a n : Int) (h0 : 0 ≤ a) (h1 : a ≤ 18446744073709551615) :
    Calls Try.prog 23 #[.pointer (some ⟨g, 0, none⟩), .int .u64 a, .int .i64 n] w fun e w' => ∃ v0_ : Value, e = .returned v0_ ∧ Kd.R (Kd.int .u8) 5 w' w.heap.size (fun _ => True) v0_ (tagmem_Mem_Bytes.f m a n) ∧ Below w.heap.size w w' := by
  by_cases c1 : n < 1
  · have d1 : decide (n < 1) = true := decide_eq_true c1
    have E : tagmem_Mem_Bytes.f m a n = [] := by unfold tagmem_Mem_Bytes.f; rw [if_pos (.inl c1)]
    rw [E]
    go_enter Try.func23, Try.ntmps23
    go_wp2
    go_ret
    exact ⟨_, rfl, Kd.R_nil _ _ _ _ _, Below.refl _ _⟩
  have d1 : decide (n < 1) = false := decide_eq_false c1
  by_cases c2 : n > 65536
  · have d2 : decide (65536 < n) = true := decide_eq_true c2
    have E : tagmem_Mem_Bytes.f m a n = [] := by unfold tagmem_Mem_Bytes.f; rw [if_pos (.inr (.inl c2))]
    rw [E]
    go_enter Try.func23, Try.ntmps23
    go_wp2
    go_ret
    exact ⟨_, rfl, Kd.R_nil _ _ _ _ _, Below.refl _ _⟩
  have d2 : decide (65536 < n) = false := decide_eq_false c2
  have M := Aside0.mk (mapped.calls h a n h0 h1 (by omega) (by omega))
  cases hm : mapd m a n with
  | false =>
    rw [hm] at M
    have E : tagmem_Mem_Bytes.f m a n = [] := by unfold tagmem_Mem_Bytes.f; rw [if_pos (.inr (.inr hm))]
    rw [E]
    go_enter Try.func23, Try.ntmps23
    go_wp2_with (first | (go_at_call 35; refine M.out.mono ?_; rintro e w' ⟨rfl, rfl⟩) | fail)
    go_ret
    exact ⟨_, rfl, Kd.R_nil _ _ _ _ _, Below.refl _ _⟩
  | true =>
    rw [hm] at M
    have E : tagmem_Mem_Bytes.f m a n = m.bytes a n.toNat := by unfold tagmem_Mem_Bytes.f; rw [if_neg (by simp [hm]; omega)]
    rw [E]
    have hm2 := hm
    unfold mapd at hm2
    rw [Bool.and_eq_true, decide_eq_true_eq, List.all_eq_true] at hm2
    obtain ⟨hc, hall⟩ := hm2
    have hM := Aside0.mk h
    clear E hm
    go_enter Try.func23, Try.ntmps23
    go_wp2_with (first | (go_at_call 35; refine M.out.mono ?_; rintro e w' ⟨rfl, rfl⟩) | fail)
    go_loopw [7, 25] (fun v7 v25 wr => ∃ (j : Nat), v25 = .int .i64 j ∧ j ≤ n.toNat ∧ Aside0 (Kd.R (Kd.int .u8) 5 wr w'.heap.size (fun _ => True) v7 (m.bytes a j)) ∧ Aside0 (Below w'.heap.size w' wr)) (fun _ v25 _ => n.toNat - (intOf v25).toNat)
    case atStart => exact ⟨0, rfl, by omega, ⟨Kd.R_nil _ _ _ _ _⟩, ⟨Below.refl _ _⟩⟩
    case round =>
      obtain ⟨j, rfl, hj, HO, HB⟩ := hrel
      have HM := Aside0.mk (hM.out.below HB.out)
      by_cases hlt : j < n.toNat
      · have c3 : decide ((j : Int) < n) = true := decide_eq_true (by omega)
        have a0 : 0 ≤ a + (j : Int) := by omega
        have a1 : a + (j : Int) ≤ 18446744073709551615 := by omega
        have hsome := hall j (by simpa using hlt)
        rw [HM.out.page] at hsome
        cases hl : lookL ((a + (j : Int)) / 256) L with
        | none => rw [hl] at hsome; simp at hsome
        | some x =>
          have hx := (lookL_mem hl).1
          have hok := HM.out.ok x hx
          have W1 : IntKind.u64.wrap (j : Int) = j := by rw [IntKind.wrap_u64]; omega
          have W2 : IntKind.u64.wrap (a + (j : Int)) = a + j := by rw [IntKind.wrap_u64]; omega
          have W3 : wrap64 ((j : Int) + 1) = ((j + 1 : Nat) : Int) := by unfold wrap64; omega
          have PL := Aside0.mk (place_some HM.out a0 a1 hl)
          have i0 : 0 ≤ (a + (j : Int)) % 256 := by omega
          have i1 : (a + (j : Int)) % 256 < 256 := by omega
          have hb := (blk_cell (HM.out.blk x hx) ((a + (j : Int)) % 256).toNat).trans (cells_at hok (by omega))
          have eb : m.byte (a + (j : Int)) = x.pg.bs.getD ((a + (j : Int)) % 256).toNat 0 := by unfold Mm.byte; rw [h.page, hl]; rfl
          rw [← eb] at hb
          clear eb
          have LM := Aside0.mk (show (m.bytes a j).length < 140737488355328 by rw [bytes_length]; omega)
          go_wp2_with (first | (go_at_call 36; refine PL.out.mono ?_; rintro e w2 ⟨rfl, rfl⟩) | ((with_reducible refine gate_builtin (b := .append) (xs := #[.tmp 37, .tmp 44]) rfl ?_); at_builtin; refine Kd.R_append (Kd.int .u8) (w0 := w') w'.heap.size rfl (.tmp 37) (.tmp 44) 51 5 (.int .u8 0) 1 rfl Try.underlying51 info5 rfl (by decide) (by omega) u7 (m.bytes a j) (m.byte (a + (j : Int))) [.int .u8 (m.byte (a + (j : Int)))] (fun _ => True) (fun _ => False) rfl rfl ?aP (fun _ hk => hk.elim) ?aF ?aO ?aB ?aS ?aL ?_; (case aP => exact rfl); (case aB => exact (by repeat (first | (with_reducible first | exact HB.out | apply below_alloc | apply pw_below_drewN | apply below_drew1) | exact HB.out))); (case aF => exact (fun _ _ => trivial)); (case aO => exact (by (with_reducible repeat (first | apply Kd.R_alloc | apply Kd.R_drewN | apply Kd.R_drew)); exact HO.out)); (case aS => exact (below_size (by repeat (first | (with_reducible first | exact HB.out | apply below_alloc | apply pw_below_drewN | apply below_drew1) | exact HB.out)))); (case aL => have := LM.out; omega); intro v227 w11 ho hb hg hat; have n0_ := Aside0.mk (hb); have n1_ := Aside0.mk (ho); clear HB; clear HO; have HB := n0_; have HO := n1_; clear n0_ n1_; clear ho hb hg hat) | fail)
          exact ⟨⟨j + 1, by simp, by omega, HO, HB⟩, by simp [intOf]; omega⟩
      · obtain rfl : j = n.toNat := by omega
        have c3 : decide (((n.toNat : Nat) : Int) < n) = false := decide_eq_false (by omega)
        go_wp2
        go_ret
        exact ⟨_, rfl, HO.out, HB.out⟩
end Go.Proofs.Ytkppgepljjgjhaa.P

namespace Go.Proofs.Ytkppgepljjgjhaa.P
open Go.RowKit Go.Proofs.YtkppgepljjgjhaaW.PrintWords Go.Proofs.YtkppgepljjgjhaaW.PrintLast
set_option linter.unusedVariables false
set_option linter.unusedSimpArgs false
/-- Are these pages mapped, or is none of them? -/
def alld (m : Mm) (p n : Int) (b : Bool) : Bool := (List.range n.toNat).all fun i => (m.page (p + i)).isSome == b
theorem alld_no {m : Mm} {p n : Int} {b : Bool} {j : Nat} (hj : j < n.toNat) (h : ((m.page (p + j)).isSome == b) = false) : alld m p n b = false := by
  unfold alld
  rw [List.all_eq_false]
  exact ⟨j, by simpa using hj, by rw [h]; simp⟩
theorem alld_yes {m : Mm} {p n : Int} {b : Bool} (h : ∀ j, j < n.toNat → ((m.page (p + (j : Int))).isSome == b) = true) : alld m p n b = true := by
  unfold alld
  rw [List.all_eq_true]
  exact fun j hj => h j (by simpa using hj)
theorem look_ok {w : World} {g gm : Nat} {L : List Lp} {clock : Nat} {m : Mm} (h : MemL w g gm L clock m) (n : Int) : (Instr.lookup 64 (.map (some gm)) (.int .u64 n) true).run Try.prog w = .ok (.tuple #[ptrOf (lookL n L), .bool (m.page n).isSome]) w := by
  rw [h.page, Option.isSome_map]
  exact run_look_ok map_t Try.underlying39 zero_p h.mp n
set_option maxHeartbeats 4000000 in
set_option maxRecDepth 100000 in
theorem all_calls {w : World} {g gm : Nat} {L : List Lp} {clock : Nat} {m : Mm} (h : MemL w g gm L clock m) (p n : Int) (b : Bool) (h0 : 0 ≤ p) (n0 : 0 ≤ n) (h1 : p + n ≤ 65536) :
    Calls Try.prog 38 #[.pointer (some ⟨g, 0, none⟩), .int .u64 p, .int .i64 n, .bool b] w fun e w' => e = .returned (.bool (alld m p n b)) ∧ w' = w := by
  have hc := blk_cell h.hd 0
  have hu := Try.underlying66
  go_enter Try.func38, Try.ntmps38
  go_wp2
  go_loopw [13] (fun v13 wr => ∃ (j : Nat), v13 = .int .i64 j ∧ j ≤ n.toNat ∧ Aside0 (∀ i, i < j → ((m.page (p + (i : Int))).isSome == b) = true) ∧ wr = w) (fun v13 _ => n.toNat - (intOf v13).toNat)
  case atStart => exact ⟨0, rfl, by omega, ⟨fun i hi => by omega⟩, rfl⟩
  case round =>
    obtain ⟨j, rfl, hj, HF, rfl⟩ := hrel
    by_cases hlt : j < n.toNat
    · have c3 : decide ((j : Int) < n) = true := decide_eq_true (by omega)
      have W1 : IntKind.u64.wrap (j : Int) = j := by rw [IntKind.wrap_u64]; omega
      have W2 : IntKind.u64.wrap (p + (j : Int)) = p + j := by rw [IntKind.wrap_u64]; omega
      have W3 : wrap64 ((j : Int) + 1) = ((j + 1 : Nat) : Int) := by unfold wrap64; omega
      have hl := look_ok h (p + (j : Int))
      generalize ptrOf (lookL (p + (j : Int)) L) = pt at hl
      cases hb : ((m.page (p + (j : Int))).isSome == b) with
      | false =>
        have E := Aside0.mk (alld_no hlt hb)
        have hb2 : ((m.page (p + (j : Int))).isSome != b) = true := by simp only [bne, hb, Bool.not_false]
        generalize (m.page (p + (j : Int))).isSome = q at hl hb2
        clear hb
        cases q <;> cases b <;> first | (exact absurd hb2 (by decide)) | (clear hb2; go_wp2; go_ret; exact ⟨ret_b E.out.symm, rfl⟩)
      | true =>
        have E := Aside0.mk (show ∀ i, i < j + 1 → ((m.page (p + (i : Int))).isSome == b) = true from fun i hi => by
          by_cases e : i = j
          · rw [e, hb]
          · exact HF.out i (by omega))
        have hb2 : ((m.page (p + (j : Int))).isSome != b) = false := by simp only [bne, hb, Bool.not_true]
        generalize (m.page (p + (j : Int))).isSome = q at hl hb2
        clear hb HF
        cases q <;> cases b <;> first | (exact absurd hb2 (by decide)) | (clear hb2; go_wp2; exact ⟨⟨j + 1, by simp, by omega, E, trivial⟩, by simp [intOf]; omega⟩)
    · have c3 : decide ((j : Int) < n) = false := decide_eq_false (by omega)
      have E := Aside0.mk (show alld m p n b = true from alld_yes (fun i hi => HF.out i (by omega)))
      go_wp2
      go_ret
      exact ⟨ret_b E.out.symm, rfl⟩
end Go.Proofs.Ytkppgepljjgjhaa.P
