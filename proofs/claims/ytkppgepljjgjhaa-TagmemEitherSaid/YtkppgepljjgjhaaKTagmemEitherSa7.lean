/- Texts of one proof, one behind the other. No condition. -/
import Derived.Test.YtkppgepljjgjhaaKTagmemEitherSa0
namespace Go.Proofs.Ytkppgepljjgjhaa.P
open Go.RowKit Go.Proofs.YtkppgepljjgjhaaW.PrintWords Go.Proofs.YtkppgepljjgjhaaW.PrintLast
open Go.Sort (ltInt swp)
set_option linter.unusedVariables false
set_option linter.unusedSimpArgs false
variable {w W : World} {blk off : Nat} {pre post : List Value} {ty : TypeId} {d : Array Int}
/-- A new block is written. -/
theorem SR.other (h : SR w W blk pre post ty d) (hb : blk < w.heap.size) {p : Addr} (hp : w.heap.size ≤ p.block) (u : Value) : SR w (W.setCell p u) blk pre post ty d :=
  ⟨(Below.heap_setCell W p u blk (by omega)).trans h.row, ⟨h.upd.os, h.upd.tape, h.upd.output, by simpa using h.upd.size, fun k hk hn => (Below.heap_setCell W p u k (by omega)).trans (h.upd.block k hk hn)⟩⟩
theorem SR.alloc (h : SR w W blk pre post ty d) (o : Obj) : SR w (W.alloc o) blk pre post ty d :=
  ⟨blk_alloc h.row o, h.upd.then_ (Upd.alloc (S := (· = blk)) W o) fun _ hk => .inl hk⟩
/-- A counter's box. -/
def Ctr (W : World) (sb : Nat) : Prop := ∃ s : Int, W.heap[sb]? = some (.cells #[.int .i64 s] 3 (0, 0))
set_option maxHeartbeats 4000000 in
set_option maxRecDepth 100000 in
theorem order2_calls (h : SR w W blk pre post ty d) (ho : pre.length = off) (hblk : blk < w.heap.size) (n cap a b sb lo hi : Nat) (hn : d.size = n) (hs : Ctr W sb) (hsb : w.heap.size ≤ sb) (a0 : lo ≤ a) (a1 : a < hi) (b0 : lo ≤ b) (b1 : b < hi) (hh : hi ≤ d.size) (hsz : d.size < 1000000000) :
    Calls Try.prog 82 #[.slice (some ⟨blk, off, none⟩) n cap, .int .i64 a, .int .i64 b, .pointer (some ⟨sb, 0, none⟩)] W fun e W' => ∃ x y : Nat, e = .returned (.tuple #[.int .i64 x, .int .i64 y]) ∧ ((lo ≤ x ∧ x < hi) ∧ lo ≤ y ∧ y < hi) ∧ SR w W' blk pre post ty d ∧ Ctr W' sb := by
  subst hn
  obtain ⟨s, hs⟩ := hs
  obtain ⟨G, hG⟩ : ∃ G : Nat → Int, ∀ t, G t = d[t]! := ⟨fun t => d[t]!, fun _ => rfl⟩
  have hcw : ∀ t, t < d.size → W.cell? ⟨blk, off + t, none⟩ = some (.int .u64 (G t)) := fun t ht => by rw [hG]; exact h.cell ho ht
  have H := Aside0.mk h
  have HS := Aside0.mk hs
  clear h hG
  have hc0 : W.cell? ⟨sb, 0, none⟩ = some (.int .i64 s) := by rw [blk_cell hs]; rfl
  have hf0 : W.frozen? ⟨sb, 0, none⟩ = false := by simp [World.frozen?, hs]
  clear hs
  go_enter Try.func82, Try.ntmps82
  go_wp2
  go_quiet (first | (go_at_call 66; refine Calls.quiet_of_same (less_calls _ _ _)))
  go_wp2
  · go_ret2
    exact ⟨b, a, rfl, ⟨⟨b0, b1⟩, a0, a1⟩, (H.out.drewN _).other hblk (p := ⟨sb, 0, none⟩) hsb _, _, blk_set HS.out 0 _⟩
  · go_ret2
    exact ⟨a, b, rfl, ⟨⟨a0, a1⟩, b0, b1⟩, H.out.drewN _, s, HS.out⟩
set_option maxHeartbeats 4000000 in
set_option maxRecDepth 100000 in
theorem median_calls (h : SR w W blk pre post ty d) (ho : pre.length = off) (hblk : blk < w.heap.size) (n cap a b c sb lo hi : Nat) (hn : d.size = n) (hs : Ctr W sb) (hsb : w.heap.size ≤ sb) (a0 : lo ≤ a) (a1 : a < hi) (b0 : lo ≤ b) (b1 : b < hi) (c0 : lo ≤ c) (c1 : c < hi) (hh : hi ≤ d.size) (hsz : d.size < 1000000000) :
    Calls Try.prog 79 #[.slice (some ⟨blk, off, none⟩) n cap, .int .i64 a, .int .i64 b, .int .i64 c, .pointer (some ⟨sb, 0, none⟩)] W fun e W' => ∃ x : Nat, e = .returned (.int .i64 x) ∧ (lo ≤ x ∧ x < hi) ∧ SR w W' blk pre post ty d ∧ Ctr W' sb := by
  have O := Aside0.mk (fun W (h : SR w W blk pre post ty d ∧ Ctr W sb) (a b : Nat) (p : (lo ≤ a ∧ a < hi) ∧ lo ≤ b ∧ b < hi) => order2_calls h.1 ho hblk n cap a b sb lo hi hn h.2 hsb p.1.1 p.1.2 p.2.1 p.2.2 hh hsz)
  have A := Aside0.mk (And.intro h hs)
  have P := Aside0.mk (show (lo ≤ a ∧ a < hi) ∧ lo ≤ b ∧ b < hi from ⟨⟨a0, a1⟩, b0, b1⟩)
  have PC := Aside0.mk (show lo ≤ c ∧ c < hi from ⟨c0, c1⟩)
  clear h hs a0 a1 b0 b1 c0 c1
  go_enter Try.func79, Try.ntmps79
  go_wp2_with (first | (go_at_call 82; first | (refine (O.out _ A.out a b P.out).mono ?_; rintro e W1 ⟨x1, y1, rfl, p1, A1⟩; have P1 := Aside0.mk p1; have A1 := Aside0.mk A1; clear A p1) | (refine (O.out _ A1.out y1 c ⟨P1.out.2, PC.out⟩).mono ?_; rintro e W2 ⟨x2, y2, rfl, p2, A2⟩; have P2 := Aside0.mk p2; have A2 := Aside0.mk A2; clear A1 p2) | (refine (O.out _ A2.out x1 x2 ⟨P1.out.1, P2.out.1⟩).mono ?_; rintro e W3 ⟨x3, y3, rfl, p3, A3⟩; have P3 := Aside0.mk p3; have A3 := Aside0.mk A3; clear A2 p3)) | fail)
  go_ret
  exact ⟨y3, rfl, P3.out.2, A3.out.1, A3.out.2⟩
set_option maxHeartbeats 4000000 in
set_option maxRecDepth 100000 in
theorem adjacent_calls (h : SR w W blk pre post ty d) (ho : pre.length = off) (hblk : blk < w.heap.size) (n cap a sb lo hi : Nat) (hn : d.size = n) (hs : Ctr W sb) (hsb : w.heap.size ≤ sb) (a0 : lo + 1 ≤ a) (a1 : a + 1 < hi) (hh : hi ≤ d.size) (hsz : d.size < 1000000000) :
    Calls Try.prog 78 #[.slice (some ⟨blk, off, none⟩) n cap, .int .i64 a, .pointer (some ⟨sb, 0, none⟩)] W fun e W' => ∃ x : Nat, e = .returned (.int .i64 x) ∧ (lo ≤ x ∧ x < hi) ∧ SR w W' blk pre post ty d ∧ Ctr W' sb := by
  have M0 := median_calls h ho hblk n cap (a - 1) a (a + 1) sb lo hi hn hs hsb (by omega) (by omega) (by omega) (by omega) (by omega) (by omega) hh hsz
  rw [show ((a - 1 : Nat) : Int) = (a : Int) - 1 by omega, show ((a + 1 : Nat) : Int) = (a : Int) + 1 by omega] at M0
  have M := Aside0.mk M0
  clear M0 h hs
  go_enter Try.func78, Try.ntmps78
  go_wp2_with (first | (go_at_call 79; refine M.out.mono ?_; rintro e W1 ⟨x, rfl, px, A⟩; have PX := Aside0.mk px; have A := Aside0.mk A; clear px) | fail)
  go_ret
  exact ⟨x, rfl, PX.out, A.out⟩
end Go.Proofs.Ytkppgepljjgjhaa.P

namespace Go.Proofs.Ytkppgepljjgjhaa.P
open Go.RowKit Go.Proofs.YtkppgepljjgjhaaW.PrintWords Go.Proofs.YtkppgepljjgjhaaW.PrintLast
open Go.Sort (ltInt swp)
set_option linter.unusedVariables false
set_option linter.unusedSimpArgs false
variable {w W : World} {blk off : Nat} {pre post : List Value} {ty : TypeId} {d : Array Int}
/-- What a counter's load reads. -/
theorem Ctr.cell {W : World} {sb : Nat} (h : Ctr W sb) : ∃ s : Int, W.cell? ⟨sb, 0, none⟩ = some (.int .i64 s) := by
  obtain ⟨s, hs⟩ := h
  exact ⟨s, by rw [blk_cell hs]; rfl⟩
theorem Ctr.new (W : World) : Ctr (W.alloc (.cells #[.int .i64 0] 3)) W.heap.size := ⟨0, blk_new _ _⟩
set_option maxHeartbeats 4000000 in
set_option maxRecDepth 100000 in
theorem pivot_calls (h : SR w W blk pre post ty d) (ho : pre.length = off) (hblk : blk < w.heap.size) (n cap a b : Nat) (hn : d.size = n) (hab : a + 8 ≤ b) (hb : b ≤ d.size) (hsz : d.size < 1000000000) :
    Calls Try.prog 63 #[.slice (some ⟨blk, off, none⟩) n cap, .int .i64 a, .int .i64 b] W fun e W' => ∃ (p : Nat) (k : Int), e = .returned (.tuple #[.int .i64 p, .int .i64 k]) ∧ (a ≤ p ∧ p < b) ∧ SR w W' blk pre post ty d := by
  have A := Aside0.mk (show SR w (W.alloc (.cells #[.int .i64 0] 3)) blk pre post ty d ∧ Ctr (W.alloc (.cells #[.int .i64 0] 3)) W.heap.size from ⟨h.alloc _, Ctr.new W⟩)
  have hsb : w.heap.size ≤ W.heap.size := h.upd.size
  have AD := fun W2 (h : SR w W2 blk pre post ty d ∧ Ctr W2 W.heap.size) (x : Nat) (p : a + 1 ≤ x ∧ x + 1 < b) => adjacent_calls h.1 ho hblk n cap x W.heap.size a b hn h.2 hsb p.1 p.2 hb hsz
  have MD := Aside0.mk (fun W2 (h : SR w W2 blk pre post ty d ∧ Ctr W2 W.heap.size) (x y z : Nat) (p : (a ≤ x ∧ x < b) ∧ (a ≤ y ∧ y < b) ∧ (a ≤ z ∧ z < b)) => median_calls h.1 ho hblk n cap x y z W.heap.size a b hn h.2 hsb p.1.1 p.1.2 p.2.1.1 p.2.1.2 p.2.2.1 p.2.2.2 hb hsz)
  have E1 : ((a + (b - a) / 4 : Nat) : Int) = (a : Int) + ((b : Int) - a) / 4 := by omega
  have E2 : ((a + (b - a) / 4 * 2 : Nat) : Int) = (a : Int) + ((b : Int) - a) / 4 * 2 := by omega
  have E3 : ((a + (b - a) / 4 * 3 : Nat) : Int) = (a : Int) + ((b : Int) - a) / 4 * 3 := by omega
  have c8 : decide ((8 : Int) ≤ (b : Int) - a) = true := decide_eq_true (by omega)
  by_cases c50 : 50 ≤ b - a
  · have AD1 := Aside0.mk (fun W2 (h : SR w W2 blk pre post ty d ∧ Ctr W2 W.heap.size) => by have q := AD W2 h (a + (b - a) / 4) (by omega); rw [E1] at q; exact q)
    have AD2 := Aside0.mk (fun W2 (h : SR w W2 blk pre post ty d ∧ Ctr W2 W.heap.size) => by have q := AD W2 h (a + (b - a) / 4 * 2) (by omega); rw [E2] at q; exact q)
    have AD3 := Aside0.mk (fun W2 (h : SR w W2 blk pre post ty d ∧ Ctr W2 W.heap.size) => by have q := AD W2 h (a + (b - a) / 4 * 3) (by omega); rw [E3] at q; exact q)
    clear E1 E2 E3 AD h
    have c5 : decide ((50 : Int) ≤ (b : Int) - a) = true := decide_eq_true (by omega)
    go_enter Try.func63, Try.ntmps63
    go_wp2_with (first | (go_at_call 78; first | (refine (AD1.out _ A.out).mono ?_; rintro e W1 ⟨x1, rfl, p1, A1⟩; have P1 := Aside0.mk p1; have A1 := Aside0.mk A1; clear A p1) | (refine (AD2.out _ A1.out).mono ?_; rintro e W2 ⟨x2, rfl, p2, A2⟩; have P2 := Aside0.mk p2; have A2 := Aside0.mk A2; clear A1 p2) | (refine (AD3.out _ A2.out).mono ?_; rintro e W3 ⟨x3, rfl, p3, A3⟩; have P3 := Aside0.mk p3; have A3 := Aside0.mk A3; clear A2 p3)) | (go_at_call 79; refine (MD.out _ A3.out x1 x2 x3 ⟨P1.out, P2.out, P3.out⟩).mono ?_; rintro e W4 ⟨x4, rfl, p4, A4⟩; have P4 := Aside0.mk p4; obtain ⟨s, hcs⟩ := A4.2.cell; have A4 := Aside0.mk A4; clear A3 p4) | fail)
    all_goals
      go_ret2
      exact ⟨x4, _, rfl, P4.out, A4.out.1⟩
  · have MD1 := Aside0.mk (fun W2 (h : SR w W2 blk pre post ty d ∧ Ctr W2 W.heap.size) => by have q := MD.out W2 h (a + (b - a) / 4) (a + (b - a) / 4 * 2) (a + (b - a) / 4 * 3) ⟨⟨by omega, by omega⟩, ⟨by omega, by omega⟩, by omega, by omega⟩; rw [E1, E2, E3] at q; exact q)
    clear E1 E2 E3 AD h
    have c5 : decide ((50 : Int) ≤ (b : Int) - a) = false := decide_eq_false (by omega)
    go_enter Try.func63, Try.ntmps63
    go_wp2_with (first | (go_at_call 79; refine (MD1.out _ A.out).mono ?_; rintro e W4 ⟨x4, rfl, p4, A4⟩; have P4 := Aside0.mk p4; obtain ⟨s, hcs⟩ := A4.2.cell; have A4 := Aside0.mk A4; clear A p4) | fail)
    all_goals
      go_ret2
      exact ⟨x4, _, rfl, P4.out, A4.out.1⟩
end Go.Proofs.Ytkppgepljjgjhaa.P
