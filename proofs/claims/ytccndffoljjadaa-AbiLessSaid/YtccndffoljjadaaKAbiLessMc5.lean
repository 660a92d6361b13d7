/- Words of the walks: lemmas about memory, cut down to what this proof uses. No condition. -/
import Derived.Test.YtccndffoljjadaaKAbiLessMc4
namespace Go.Proofs.Ytccndffoljjadaa.P
open Go.RowKit Go.Proofs.YtccndffoljjadaaW.PrintWords Go.Proofs.YtccndffoljjadaaW.PrintLast
set_option linter.unusedVariables false
set_option linter.unusedSimpArgs false
theorem MemL.below {w W : World} {g gm : Nat} {L : List Lp} {clock : Nat} {m : Mm} (h : MemL w g gm L clock m) (hb : Below w.heap.size w W) : MemL W g gm L clock m :=
  h.step (hb.block _ (blk_lt h.hd)) (hb.block _ (blk_lt h.mp)) (fun x hx => hb.block _ (blk_lt (h.blk x hx)))
def Mm.byte (m : Mm) (a : Int) : Int := match m.page (a / 256) with | some p => p.bs.getD (a % 256).toNat 0 | none => 0
def Mm.bytes (m : Mm) (a : Int) : Nat → List Int
  | 0 => []
  | j + 1 => m.bytes a j ++ [m.byte (a + j)]
theorem bytes_length (m : Mm) (a : Int) : ∀ j, (m.bytes a j).length = j
  | 0 => rfl
  | j + 1 => by simp [Mm.bytes, bytes_length m a j]
def tagmem_Mem_Bytes.f (m : Mm) (a n : Int) : List Int := if n < 1 ∨ n > 65536 ∨ mapd m a n = false then [] else m.bytes a n.toNat
set_option maxHeartbeats 4000000 in
set_option maxRecDepth 100000 in
theorem Bytes_calls {w : World} {g gm : Nat} {L : List Lp} {clock : Nat} {m : Mm} (h : MemL w g gm L clock m) (a n : Int) (h0 : 0 ≤ a) (h1 : a ≤ 18446744073709551615) :
    Calls Try.prog 25 #[.pointer (some ⟨g, 0, none⟩), .int .u64 a, .int .i64 n] w fun e w' => ∃ v0_ : Value, e = .returned v0_ ∧ Kd.R (Kd.int .u8) 5 w' w.heap.size (fun _ => True) v0_ (tagmem_Mem_Bytes.f m a n) ∧ Below w.heap.size w w' := by
  by_cases c1 : n < 1
  · have d1 : decide (n < 1) = true := decide_eq_true c1
    have E : tagmem_Mem_Bytes.f m a n = [] := by unfold tagmem_Mem_Bytes.f; rw [if_pos (.inl c1)]
    rw [E]
    go_enter Try.func25, Try.ntmps25
    go_wp2
    go_ret
    exact ⟨_, rfl, Kd.R_nil _ _ _ _ _, Below.refl _ _⟩
  have d1 : decide (n < 1) = false := decide_eq_false c1
  by_cases c2 : n > 65536
  · have d2 : decide (65536 < n) = true := decide_eq_true c2
    have E : tagmem_Mem_Bytes.f m a n = [] := by unfold tagmem_Mem_Bytes.f; rw [if_pos (.inr (.inl c2))]
    rw [E]
    go_enter Try.func25, Try.ntmps25
    go_wp2
    go_ret
    exact ⟨_, rfl, Kd.R_nil _ _ _ _ _, Below.refl _ _⟩
  have d2 : decide (65536 < n) = false := decide_eq_false c2
  have M := Aside0.mk (mapped.calls h a n h0 h1 (by omega) (by omega))
  cases hm : mapd m a n with
  | false =>
    rw [hm] at M
    have E : tagmem_Mem_Bytes.f m a n = [] := by unfold tagmem_Mem_Bytes.f; rw [if_pos (.inr (.inr hm))]
    rw [E]
    go_enter Try.func25, Try.ntmps25
    go_wp2_with (first | (go_at_call 47; refine M.out.mono ?_; rintro e w' ⟨rfl, rfl⟩) | fail)
    go_ret
    exact ⟨_, rfl, Kd.R_nil _ _ _ _ _, Below.refl _ _⟩
  | true =>
    rw [hm] at M
    have E : tagmem_Mem_Bytes.f m a n = m.bytes a n.toNat := by unfold tagmem_Mem_Bytes.f; rw [if_neg (by simp [hm]; omega)]
    rw [E]
    have hm2 := hm
    unfold mapd at hm2
    rw [Bool.and_eq_true, decide_eq_true_eq, List.all_eq_true] at hm2
    obtain ⟨hc, hall⟩ := hm2
    have hM := Aside0.mk h
    clear E hm
    go_enter Try.func25, Try.ntmps25
    go_wp2_with (first | (go_at_call 47; refine M.out.mono ?_; rintro e w' ⟨rfl, rfl⟩) | fail)
    go_loopw [7, 25] (fun v7 v25 wr => ∃ (j : Nat), v25 = .int .i64 j ∧ j ≤ n.toNat ∧ Aside0 (Kd.R (Kd.int .u8) 5 wr w'.heap.size (fun _ => True) v7 (m.bytes a j)) ∧ Aside0 (Below w'.heap.size w' wr)) (fun _ v25 _ => n.toNat - (intOf v25).toNat)
    case atStart => exact ⟨0, rfl, by omega, ⟨Kd.R_nil _ _ _ _ _⟩, ⟨Below.refl _ _⟩⟩
    case round =>
      obtain ⟨j, rfl, hj, HO, HB⟩ := hrel
      have HM := Aside0.mk (hM.out.below HB.out)
      by_cases hlt : j < n.toNat
      · have c3 : decide ((j : Int) < n) = true := decide_eq_true (by omega)
        have a0 : 0 ≤ a + (j : Int) := by omega
        have a1 : a + (j : Int) ≤ 18446744073709551615 := by omega
        have hsome := hall j (by simpa using hlt)
        rw [HM.out.page] at hsome
        cases hl : lookL ((a + (j : Int)) / 256) L with
        | none => rw [hl] at hsome; simp at hsome
        | some x =>
          have hx := (lookL_mem hl).1
          have hok := HM.out.ok x hx
          have W1 : IntKind.u64.wrap (j : Int) = j := by rw [IntKind.wrap_u64]; omega
          have W2 : IntKind.u64.wrap (a + (j : Int)) = a + j := by rw [IntKind.wrap_u64]; omega
          have W3 : wrap64 ((j : Int) + 1) = ((j + 1 : Nat) : Int) := by unfold wrap64; omega
          have PL := Aside0.mk (place_some HM.out a0 a1 hl)
          have i0 : 0 ≤ (a + (j : Int)) % 256 := by omega
          have i1 : (a + (j : Int)) % 256 < 256 := by omega
          have hb := (blk_cell (HM.out.blk x hx) ((a + (j : Int)) % 256).toNat).trans (cells_at hok (by omega))
          have eb : m.byte (a + (j : Int)) = x.pg.bs.getD ((a + (j : Int)) % 256).toNat 0 := by unfold Mm.byte; rw [h.page, hl]; rfl
          rw [← eb] at hb
          clear eb
          have LM := Aside0.mk (show (m.bytes a j).length < 140737488355328 by rw [bytes_length]; omega)
          go_wp2_with (first | (go_at_call 48; refine PL.out.mono ?_; rintro e w2 ⟨rfl, rfl⟩) | ((with_reducible refine gate_builtin (b := .append) (xs := #[.tmp 37, .tmp 44]) rfl ?_); at_builtin; refine Kd.R_append (Kd.int .u8) (w0 := w') w'.heap.size rfl (.tmp 37) (.tmp 44) 59 5 (.int .u8 0) 1 rfl Try.underlying59 info5 rfl (by decide) (by omega) u7 (m.bytes a j) (m.byte (a + (j : Int))) [.int .u8 (m.byte (a + (j : Int)))] (fun _ => True) (fun _ => False) rfl rfl ?aP (fun _ hk => hk.elim) ?aF ?aO ?aB ?aS ?aL ?_; (case aP => exact rfl); (case aB => exact (by repeat (first | (with_reducible first | exact HB.out | apply below_alloc | apply pw_below_drewN | apply below_drew1) | exact HB.out))); (case aF => exact (fun _ _ => trivial)); (case aO => exact (by (with_reducible repeat (first | apply Kd.R_alloc | apply Kd.R_drewN | apply Kd.R_drew)); exact HO.out)); (case aS => exact (below_size (by repeat (first | (with_reducible first | exact HB.out | apply below_alloc | apply pw_below_drewN | apply below_drew1) | exact HB.out)))); (case aL => have := LM.out; omega); intro v227 w11 ho hb hg hat; have n0_ := Aside0.mk (hb); have n1_ := Aside0.mk (ho); clear HB; clear HO; have HB := n0_; have HO := n1_; clear n0_ n1_; clear ho hb hg hat) | fail)
          exact ⟨⟨j + 1, by simp, by omega, HO, HB⟩, by simp [intOf]; omega⟩
      · obtain rfl : j = n.toNat := by omega
        have c3 : decide (((n.toNat : Nat) : Int) < n) = false := decide_eq_false (by omega)
        go_wp2
        go_ret
        exact ⟨_, rfl, HO.out, HB.out⟩
end Go.Proofs.Ytccndffoljjadaa.P
