/- Texts of one proof, one behind the other. No condition. -/
import Derived.Test.YtkppgepljjgjhaaKTagmemPutRc4
namespace Go.Proofs.Ytkppgepljjgjhaa.P
open Go.RowKit Go.Proofs.YtkppgepljjgjhaaW.PrintWords Go.Proofs.YtkppgepljjgjhaaW.PrintLast Go.Proofs.YtkppgepljjgjhaaW.PrintMore
set_option linter.unusedVariables false
set_option linter.unusedSimpArgs false

/-- A box of the walk's own, apart from the memory. -/
def BKeep (w : World) (gm : Nat) (L : List Lp) (b : Nat) (cs : Array Value) : Prop := w.heap[b]? = some (.cells cs 41 (0, 0)) ∧ b ≠ gm ∧ ¬ inL L b
section
variable {B : Nat} {w W : World} {g gm : Nat} {L L' : List Lp} {c : Nat} {m : Mm} {b : Nat} {cs : Array Value}
theorem BKeep.below (h : BKeep w gm L b cs) (hb : Below w.heap.size w W) : BKeep W gm L b cs := ⟨blk_below h.1 hb, h.2⟩
theorem BKeep.step (h : BKeep w gm L b cs) (hL : ∀ k, inL L' k → inL L k ∨ w.heap.size ≤ k) (hu : Upd w W (fun k => k = gm ∨ inL L k)) : BKeep W gm L' b cs := by
  have hlt := blk_lt h.1
  refine ⟨(hu.block b hlt (fun e => by rcases e with e | e; exact h.2.1 e; exact h.2.2 e)).trans h.1, h.2.1, fun e => ?_⟩
  rcases hL b e with e | e
  · exact h.2.2 e
  · omega
theorem BKeep.old {cs : Array Value} {w0 : World} (S : Sol w0.heap.size w g gm L c m) (h : w0.heap[b]? = some (.cells cs 41 (0, 0))) (hb : Below w0.heap.size w0 w) : BKeep w gm L b cs := by
  have hlt := blk_lt h
  exact ⟨blk_below h hb, by have := S.b1.2; omega, fun e => by have := S.b3 _ e; omega⟩
end
theorem solo {w0 w : World} {g gm : Nat} {L : List Lp} {cl : Nat} {M : Mm} (hM : MemL w g gm L cl M) (h1 : w0.heap.size ≤ g) (h2 : w0.heap.size ≤ gm) (h3 : ∀ k, inL L k → w0.heap.size ≤ k) : Sol w0.heap.size w g gm L cl M := ⟨hM, ⟨h1, h2⟩, h3⟩
end Go.Proofs.Ytkppgepljjgjhaa.P

namespace Go.Proofs.Ytkppgepljjgjhaa.P
open Go.RowKit Go.Proofs.YtkppgepljjgjhaaW.PrintWords Go.Proofs.YtkppgepljjgjhaaW.PrintLast Go.Proofs.YtkppgepljjgjhaaW.PrintMore
set_option linter.unusedVariables false
set_option linter.unusedSimpArgs false

/-- What the law asks of a memory, in plain words. -/
def PutHyp (M : Mm) (at_ : Int) (l : List Int) : Prop :=
  (tagmem_Mem_Put.f M at_ l = (M, 30) ∧ tagmem_Mem_Bytes.f M at_ l.length = []) ∨
  (∃ M1, tagmem_Mem_Put.f M at_ l = (M1, 0) ∧ MOk M1 ∧ at_ + l.length ≤ 18446744073709551615 ∧ tagmem_Mem_Bytes.f M1 at_ l.length = l ∧ (tagmem_Mem_Tags.f M1).length ≤ 1000000 ∧ ∀ x ∈ tagmem_Mem_Tags.f M1, (0 ≤ x ∧ x ≤ 16777216) ∧ ¬ (x < at_ + l.length ∧ at_ < x + 32))
theorem sBytes {B : Nat} {w : World} {g gm : Nat} {L : List Lp} {c : Nat} {m : Mm} (S : Sol B w g gm L c m) (a n : Int) (h0 : 0 ≤ a) (h1 : a ≤ 18446744073709551615) : Calls Try.prog 23 #[.pointer (some ⟨g, 0, none⟩), .int .u64 a, .int .i64 n] w fun e w' => ∃ v : Value, e = .returned v ∧ Kd.R (Kd.int .u8) 5 w' w.heap.size (fun _ => True) v (tagmem_Mem_Bytes.f m a n) ∧ Below w.heap.size w w' := Bytes_calls S.M a n h0 h1
set_option maxHeartbeats 16000000 in
set_option maxRecDepth 100000 in
theorem curtilagelaw03_TagmemPut.calls (y0 : Int) (A1 : Option Addr) (c1 : Nat) (y1 : List S53) (at_ : Int) (A3 : Option Addr) (c3 : Nat) (l : List Int) (w : World) (hr1 : Kd.C k53 w A1 y1.length y1) (hr3 : Kd.C (Kd.int .u8) w A3 l.length l) (hc3 : l.length ≤ c3) (hx : ∀ x ∈ y1, OpOk2 x) (a0 : 0 ≤ at_) (a1 : at_ ≤ 18446744073709551615) (hf : ∀ M, madeP y0 y1 = some M → 0 < l.length → l.length ≤ 600 → PutHyp M at_ l) :
    Calls Try.prog 8 #[.int .i64 y0, .slice A1 y1.length c1, .int .u64 at_, .slice A3 l.length c3] w fun e w' => e = .returned (.bool true) ∧ Below w.heap.size w w' := by
  have AW := Aside0.mk awake.calls
  have MD := Aside0.mk (fun W (hb : Below w.heap.size w W) => made_calls W y0 A1 c1 y1 hx (Kd.C_below hr1 hb))
  have HR := Aside0.mk hr3
  have HC3 := Aside0.mk hc3
  have hl0 : l.length ≤ 9223372036854775807 := hr3.2.1
  clear hr1 hr3 hx hc3
  cases hn : madeP y0 y1 with
  | none =>
    have HN := Aside0.mk hn
    clear hn hf
    go_enter Try.func8, Try.ntmps8
    go_wp2_with (first | (go_at_call 10; refine (AW.out w).mono ?_; rintro e W2 ⟨rfl, hb⟩; have HB2 := Aside0.mk hb; clear hb) | (go_at_call 17; (with_reducible refine (MD.out W2 HB2.out).mono ?_); rintro e W3 ⟨hv, hb⟩; rw [HN.out] at hv; have hv2 : e = .returned (.pointer none) := hv; subst hv2; have HB3 := Aside0.mk (below_step HB2.out hb); clear hb hv) | fail)
    go_ret
    exact ⟨rfl, HB3.out⟩
  | some M =>
    have HN := Aside0.mk hn
    have hf := hf M hn
    clear hn
    by_cases k1 : 600 < l.length
    · have d1 : decide (600 < (l.length : Int)) = true := decide_eq_true (by omega)
      clear hf
      go_enter Try.func8, Try.ntmps8
      go_wp2_with (first | (go_at_call 10; refine (AW.out w).mono ?_; rintro e W2 ⟨rfl, hb⟩; have HB2 := Aside0.mk hb; clear hb) | (go_at_call 17; (with_reducible refine (MD.out W2 HB2.out).mono ?_); rintro e W3 ⟨hv, hb⟩; rw [HN.out] at hv; obtain ⟨g, gm, L3, cl3, he, hM, q1, q2, q3⟩ := hv; subst he; have S3 := Aside0.mk (solo hM q1 q2 q3); have HB3 := Aside0.mk hb; clear hM q1 q2 q3 hb) | fail)
      go_ret
      exact ⟨rfl, below_then HB2.out HB2.out.size HB3.out⟩
    have d1 : decide (600 < (l.length : Int)) = false := decide_eq_false (by omega)
    by_cases k2 : l.length = 0
    · have d2 : ((l.length : Int) == 0) = true := beq_iff_eq.2 (by omega)
      clear hf
      replace k2 := Aside0.mk k2
      go_enter Try.func8, Try.ntmps8
      go_wp2_with (first | (go_at_call 10; refine (AW.out w).mono ?_; rintro e W2 ⟨rfl, hb⟩; have HB2 := Aside0.mk hb; clear hb) | (go_at_call 17; (with_reducible refine (MD.out W2 HB2.out).mono ?_); rintro e W3 ⟨hv, hb⟩; rw [HN.out] at hv; obtain ⟨g, gm, L3, cl3, he, hM, q1, q2, q3⟩ := hv; subst he; have S3 := Aside0.mk (solo hM q1 q2 q3); have HB3 := Aside0.mk hb; clear hM q1 q2 q3 hb) | fail)
      go_ret
      exact ⟨rfl, below_then HB2.out HB2.out.size HB3.out⟩
    have d2 : ((l.length : Int) == 0) = false := beq_eq_false_iff_ne.2 (by omega)
    have hf := hf (by omega) (by omega)
    rcases hf with ⟨h1, h2⟩ | ⟨M1, h1, hok, hfar, h2, hlen, h3⟩
    · have P1 := Aside0.mk h1
      have P2 := Aside0.mk h2
      clear h1 h2 k1 k2
      go_enter Try.func8, Try.ntmps8
      go_wp2_with (first | (go_at_call 10; refine (AW.out w).mono ?_; rintro e W2 ⟨rfl, hb⟩; have HB2 := Aside0.mk hb; clear hb) | (go_at_call 17; (with_reducible refine (MD.out W2 HB2.out).mono ?_); rintro e W3 ⟨hv, hb⟩; rw [HN.out] at hv; obtain ⟨g, gm, L3, cl3, he, hM, q1, q2, q3⟩ := hv; subst he; have S3 := Aside0.mk (solo hM q1 q2 q3); have HB3 := Aside0.mk hb; clear hM q1 q2 q3 hb) | (go_at_call 26; (with_reducible refine (sPut S3.out HB3.out at_ a0 a1 A3 c3 l (Kd.C_below HR.out HB2.out) P1.out).mono ?_); rintro e W4 ⟨rfl, ⟨L4, cl4, hs, hL⟩, hb, hu⟩; have S4 := Aside0.mk hs; have HB4 := Aside0.mk hb; clear hs hL hb hu S3 HB3) | (go_at_call 23; (with_reducible refine (sBytes S4.out at_ (l.length : Int) a0 a1).mono ?_); rintro e W5 ⟨v, rfl, hR, hb⟩; rw [P2.out] at hR; obtain ⟨AB, cb, rfl, hle, hK⟩ := Keeps.new S4.out hR hb; have RB5 := Aside0.mk hK; have HLAB := Aside0.mk hle; have S5 := Aside0.mk (S4.out.below hb); have HB5 := Aside0.mk (below_then HB4.out HB4.out.size hb); clear hR hb hle hK S4 HB4) | fail)
      go_ret
      exact ⟨rfl, below_then HB2.out HB2.out.size HB5.out⟩
    · have P1 := Aside0.mk h1
      have P2 := Aside0.mk h2
      have OK := Aside0.mk hok
      have H3 := Aside0.mk h3
      have V1 : IntKind.u64.wrap (l.length : Int) = l.length := u64w (by omega) (by omega)
      have V2 : IntKind.u64.wrap (at_ + (l.length : Int)) = at_ + l.length := u64w (by omega) (by omega)
      have hl6 := Aside0.mk (show l.length ≤ 600 by omega)
      clear h1 h2 hok h3 k1 k2
      have W2r := Aside0.mk (fun W (hb : Below w.heap.size w W) => Kd.C_below HR.out hb)
      clear HR
      obtain ⟨t, ht⟩ : ∃ t, t = tagmem_Mem_Tags.f M1 := ⟨_, rfl⟩
      rw [← ht] at H3 hlen
      replace ht := Aside0.mk ht
      go_enter Try.func8, Try.ntmps8
      go_wp2_with (first | (go_at_call 10; refine (AW.out w).mono ?_; rintro e W2 ⟨rfl, hb⟩; have HB2 := Aside0.mk hb; clear hb) | (go_at_call 17; (with_reducible refine (MD.out W2 HB2.out).mono ?_); rintro e W3 ⟨hv, hb⟩; rw [HN.out] at hv; obtain ⟨g, gm, L3, cl3, he, hM, q1, q2, q3⟩ := hv; subst he; have S3 := Aside0.mk (solo hM q1 q2 q3); have HB3 := Aside0.mk hb; clear hM q1 q2 q3 hb) | (go_at_call 26; (with_reducible refine (sPut S3.out HB3.out at_ a0 a1 A3 c3 l (W2r.out W2 HB2.out) P1.out).mono ?_); rintro e W4 ⟨rfl, ⟨L4, cl4, hs, hL⟩, hb, hu⟩; have S4 := Aside0.mk hs; have HB4 := Aside0.mk hb; clear hs hL hb hu S3 HB3) | (go_at_call 23; (with_reducible refine (sBytes S4.out at_ (l.length : Int) a0 a1).mono ?_); rintro e W5 ⟨v, rfl, hR, hb⟩; rw [P2.out] at hR; obtain ⟨AB, cb, rfl, hle, hK⟩ := Keeps.new S4.out hR hb; have RB5 := Aside0.mk hK; have HLAB := Aside0.mk hle; have S5 := Aside0.mk (S4.out.below hb); have HB5 := Aside0.mk (below_then HB4.out HB4.out.size hb); clear hR hb hle hK S4 HB4) | (go_at_call 15; (with_reducible refine (sTags S5.out OK.out).mono ?_); rintro e W6 ⟨v, rfl, hR, hb⟩; rw [← ht.out] at hR; obtain ⟨AT, ct, rfl, hle, hK⟩ := Keeps.new S5.out hR hb; have RT6 := Aside0.mk hK; have HLAT := Aside0.mk hle; have S6 := Aside0.mk (S5.out.below hb); have HB6 := Aside0.mk (below_then HB5.out HB5.out.size hb); have RB6 := Aside0.mk (RB5.out.below hb); clear hR hb hle hK S5 HB5 RB5) | fail)
      go_loopw [14] (fun v14 wr => ∃ (j : Nat), v14 = .int .i64 j ∧ j ≤ t.length ∧ wr = W6) (fun v14 _ => t.length - (intOf v14).toNat)
      case atStart => exact ⟨0, rfl, by omega, rfl⟩
      case round =>
        obtain ⟨j, rfl, hj, rfl⟩ := hrel
        by_cases hlt : j < t.length
        · have W3' := next64 hlt (by omega)
          obtain ⟨ad, eA, hx0⟩ := Kd.at_int RT6.out.now (j : Int) (by omega) (by omega)
          cases eA
          rw [Int.toNat_natCast] at hx0
          obtain ⟨⟨b0, b1⟩, b2⟩ := H3.out _ (rd_mem hlt)
          generalize rd t (j : Int) = x at hx0 b0 b1 b2
          have V3 : IntKind.u64.wrap (x + 32) = x + 32 := u64w (by omega) (by omega)
          by_cases e1 : x < at_ + l.length
          · have d3 : decide (x < at_ + (l.length : Int)) = true := decide_eq_true e1
            have d4 : decide (at_ < x + 32) = false := decide_eq_false (fun e => b2 ⟨e1, e⟩)
            clear e1 b2
            go_wp2
            exact ⟨⟨j + 1, by first | rfl | rw [W3'], hlt, trivial⟩, by first | exact round_meas hlt | (rw [W3']; exact round_meas hlt)⟩
          · have d3 : decide (x < at_ + (l.length : Int)) = false := decide_eq_false e1
            clear e1 b2
            go_wp2
            exact ⟨⟨j + 1, by first | rfl | rw [W3'], hlt, trivial⟩, by first | exact round_meas hlt | (rw [W3']; exact round_meas hlt)⟩
        · obtain rfl : j = t.length := by omega
          go_wp2_with (first | (go_at_call 27; refine (same_calls A3 c3 l AB cb l (W2r.out wr (below_then HB2.out HB2.out.size HB6.out)) HC3.out RB6.out.now HLAB.out (by have := hl6.out; omega)).mono ?_; rintro e W7 ⟨rfl, hd⟩; have HB7 := Aside0.mk (below_then (below_then HB2.out HB2.out.size HB6.out) (Nat.le_trans HB2.out.size HB6.out.size) hd.below); clear hd) | fail)
          go_ret
          exact ⟨rfl, HB7.out⟩
end Go.Proofs.Ytkppgepljjgjhaa.P
