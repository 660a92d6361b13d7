/- Words of the walks: lemmas about memory, cut down to what this proof uses. No condition. -/
import Derived.Test.YtccndffoljjadaaKAbiLessMc5
namespace Go.Proofs.Ytccndffoljjadaa.P
open Go.RowKit Go.Proofs.YtccndffoljjadaaW.PrintWords Go.Proofs.YtccndffoljjadaaW.PrintLast
set_option linter.unusedVariables false
set_option linter.unusedSimpArgs false
/-- Are these pages mapped, or is none of them? -/
def alld (m : Mm) (p n : Int) (b : Bool) : Bool := (List.range n.toNat).all fun i => (m.page (p + i)).isSome == b
theorem alld_no {m : Mm} {p n : Int} {b : Bool} {j : Nat} (hj : j < n.toNat) (h : ((m.page (p + j)).isSome == b) = false) : alld m p n b = false := by
  unfold alld
  rw [List.all_eq_false]
  exact ⟨j, by simpa using hj, by rw [h]; simp⟩
theorem alld_yes {m : Mm} {p n : Int} {b : Bool} (h : ∀ j, j < n.toNat → ((m.page (p + (j : Int))).isSome == b) = true) : alld m p n b = true := by
  unfold alld
  rw [List.all_eq_true]
  exact fun j hj => h j (by simpa using hj)
theorem look_ok {w : World} {g gm : Nat} {L : List Lp} {clock : Nat} {m : Mm} (h : MemL w g gm L clock m) (n : Int) : (Instr.lookup 63 (.map (some gm)) (.int .u64 n) true).run Try.prog w = .ok (.tuple #[ptrOf (lookL n L), .bool (m.page n).isSome]) w := by
  rw [h.page, Option.isSome_map]
  exact run_look_ok map_t Try.underlying22 zero_p h.mp n
set_option maxHeartbeats 4000000 in
set_option maxRecDepth 100000 in
theorem all_calls {w : World} {g gm : Nat} {L : List Lp} {clock : Nat} {m : Mm} (h : MemL w g gm L clock m) (p n : Int) (b : Bool) (h0 : 0 ≤ p) (n0 : 0 ≤ n) (h1 : p + n ≤ 65536) :
    Calls Try.prog 39 #[.pointer (some ⟨g, 0, none⟩), .int .u64 p, .int .i64 n, .bool b] w fun e w' => e = .returned (.bool (alld m p n b)) ∧ w' = w := by
  have hc := blk_cell h.hd 0
  have hu := Try.underlying65
  go_enter Try.func39, Try.ntmps39
  go_wp2
  go_loopw [13] (fun v13 wr => ∃ (j : Nat), v13 = .int .i64 j ∧ j ≤ n.toNat ∧ Aside0 (∀ i, i < j → ((m.page (p + (i : Int))).isSome == b) = true) ∧ wr = w) (fun v13 _ => n.toNat - (intOf v13).toNat)
  case atStart => exact ⟨0, rfl, by omega, ⟨fun i hi => by omega⟩, rfl⟩
  case round =>
    obtain ⟨j, rfl, hj, HF, rfl⟩ := hrel
    by_cases hlt : j < n.toNat
    · have c3 : decide ((j : Int) < n) = true := decide_eq_true (by omega)
      have W1 : IntKind.u64.wrap (j : Int) = j := by rw [IntKind.wrap_u64]; omega
      have W2 : IntKind.u64.wrap (p + (j : Int)) = p + j := by rw [IntKind.wrap_u64]; omega
      have W3 : wrap64 ((j : Int) + 1) = ((j + 1 : Nat) : Int) := by unfold wrap64; omega
      have hl := look_ok h (p + (j : Int))
      generalize ptrOf (lookL (p + (j : Int)) L) = pt at hl
      cases hb : ((m.page (p + (j : Int))).isSome == b) with
      | false =>
        have E := Aside0.mk (alld_no hlt hb)
        have hb2 : ((m.page (p + (j : Int))).isSome != b) = true := by simp only [bne, hb, Bool.not_false]
        generalize (m.page (p + (j : Int))).isSome = q at hl hb2
        clear hb
        cases q <;> cases b <;> first | (exact absurd hb2 (by decide)) | (clear hb2; go_wp2; go_ret; exact ⟨ret_b E.out.symm, rfl⟩)
      | true =>
        have E := Aside0.mk (show ∀ i, i < j + 1 → ((m.page (p + (i : Int))).isSome == b) = true from fun i hi => by
          by_cases e : i = j
          · rw [e, hb]
          · exact HF.out i (by omega))
        have hb2 : ((m.page (p + (j : Int))).isSome != b) = false := by simp only [bne, hb, Bool.not_true]
        generalize (m.page (p + (j : Int))).isSome = q at hl hb2
        clear hb HF
        cases q <;> cases b <;> first | (exact absurd hb2 (by decide)) | (clear hb2; go_wp2; exact ⟨⟨j + 1, by simp, by omega, E, trivial⟩, by simp [intOf]; omega⟩)
    · have c3 : decide ((j : Int) < n) = false := decide_eq_false (by omega)
      have E := Aside0.mk (show alld m p n b = true from alld_yes (fun i hi => HF.out i (by omega)))
      go_wp2
      go_ret
      exact ⟨ret_b E.out.symm, rfl⟩
end Go.Proofs.Ytccndffoljjadaa.P
