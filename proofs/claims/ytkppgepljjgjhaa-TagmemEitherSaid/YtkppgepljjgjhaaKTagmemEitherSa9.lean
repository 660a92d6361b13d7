/- Texts of one proof, one behind the other. No condition. -/
import Derived.Test.YtkppgepljjgjhaaKTagmemEitherSa7
import Derived.Sort.Lot0
namespace Go.Proofs.Ytkppgepljjgjhaa.P
open Go.RowKit Go.Proofs.YtkppgepljjgjhaaW.PrintWords Go.Proofs.YtkppgepljjgjhaaW.PrintLast
open Go.Sort (ltInt swp)
set_option linter.unusedVariables false
set_option linter.unusedSimpArgs false
variable {w W : World} {blk off : Nat} {pre post : List Value} {ty : TypeId} {d : Array Int}
theorem ret_num {k : IntKind} {x y : Int} (h : x = y) : Ending.returned (.int k x) = .returned (.int k y) := by rw [h]
/-- The lengths of the numbers below 256. -/
def lenT : ByteArray := ⟨#[0, 1, 2, 2, 3, 3, 3, 3, 4, 4, 4, 4, 4, 4, 4, 4, 5, 5, 5, 5, 5, 5, 5, 5, 5, 5, 5, 5, 5, 5, 5, 5, 6, 6, 6, 6, 6, 6, 6, 6, 6, 6, 6, 6, 6, 6, 6, 6, 6, 6, 6, 6, 6, 6, 6, 6, 6, 6, 6, 6, 6, 6, 6, 6, 7, 7, 7, 7, 7, 7, 7, 7, 7, 7, 7, 7, 7, 7, 7, 7, 7, 7, 7, 7, 7, 7, 7, 7, 7, 7, 7, 7, 7, 7, 7, 7, 7, 7, 7, 7, 7, 7, 7, 7, 7, 7, 7, 7, 7, 7, 7, 7, 7, 7, 7, 7, 7, 7, 7, 7, 7, 7, 7, 7, 7, 7, 7, 7, 8, 8, 8, 8, 8, 8, 8, 8, 8, 8, 8, 8, 8, 8, 8, 8, 8, 8, 8, 8, 8, 8, 8, 8, 8, 8, 8, 8, 8, 8, 8, 8, 8, 8, 8, 8, 8, 8, 8, 8, 8, 8, 8, 8, 8, 8, 8, 8, 8, 8, 8, 8, 8, 8, 8, 8, 8, 8, 8, 8, 8, 8, 8, 8, 8, 8, 8, 8, 8, 8, 8, 8, 8, 8, 8, 8, 8, 8, 8, 8, 8, 8, 8, 8, 8, 8, 8, 8, 8, 8, 8, 8, 8, 8, 8, 8, 8, 8, 8, 8, 8, 8, 8, 8, 8, 8, 8, 8, 8, 8, 8, 8, 8, 8, 8, 8, 8, 8, 8, 8, 8, 8, 8, 8, 8, 8, 8, 8]⟩
theorem lenT_size : lenT.size = 256 := by kernel_rfl
theorem lenT_ok : ∀ i : Fin 256, (lenT[i.1]'(by rw [lenT_size]; exact i.2)).toNat ≤ 8 ∧ (1 ≤ i.1 → 2 ^ (lenT[i.1]'(by rw [lenT_size]; exact i.2)).toNat ≤ 2 * i.1) := by decide +kernel
theorem lenT_at {i : Nat} (hi : i < 256) (h : i < lenT.size) : (lenT[i]'h).toNat ≤ 8 ∧ (1 ≤ i → 2 ^ (lenT[i]'h).toNat ≤ 2 * i) := lenT_ok ⟨i, hi⟩
set_option maxHeartbeats 4000000 in
set_option maxRecDepth 100000 in
theorem len64_calls (x : Nat) (h2 : x < 65536) (W : World) : Calls Try.prog 70 #[.int .u64 x] W fun e W' => (∃ r : Nat, e = .returned (.int .i64 r) ∧ r ≤ 16 ∧ (1 ≤ x → 2 ^ r ≤ 2 * x)) ∧ W' = W := by
  have c1 : decide ((4294967296 : Int) ≤ (x : Int)) = false := decide_eq_false (by omega)
  have c2 : decide ((65536 : Int) ≤ (x : Int)) = false := decide_eq_false (by omega)
  have hu := Try.underlying9
  by_cases h : 256 ≤ x
  · have c3 : decide ((256 : Int) ≤ (x : Int)) = true := decide_eq_true (by omega)
    have hq : x / 256 < lenT.size := by rw [lenT_size]; omega
    obtain ⟨L, hL⟩ : ∃ L, L = (lenT[x / 256]'hq).toNat := ⟨_, rfl⟩
    have q := lenT_at (i := x / 256) (by omega) hq
    rw [← hL] at q
    obtain ⟨q1, q2⟩ := q
    have q3 : 2 ^ (8 + L) ≤ 2 * x := by have := q2 (by omega); rw [Nat.pow_add]; omega
    have Q := Aside0.mk (And.intro q1 q3)
    have HL := Aside0.mk hL
    clear q1 q2 q3 hL
    go_enter Try.func70, Try.ntmps70
    go_wp2
    go_ret
    refine ⟨⟨8 + L, ?_, by have := Q.out.1; omega, fun _ => Q.out.2⟩, rfl⟩
    have q1 := Q.out.1
    rw [HL.out] at q1 ⊢
    refine ret_num ?_
    show wrap64 (8 + wrap64 ((lenT[x / 256]'hq).toNat : Int)) = _
    unfold wrap64
    omega
  · have c3 : decide ((256 : Int) ≤ (x : Int)) = false := decide_eq_false (by omega)
    have hq : x < lenT.size := by rw [lenT_size]; omega
    have q := lenT_at (i := x) (by omega) hq
    have Q := Aside0.mk q
    clear q
    go_enter Try.func70, Try.ntmps70
    go_wp2
    go_ret
    refine ⟨⟨(lenT[x]'hq).toNat, ?_, by have := Q.out.1; omega, Q.out.2⟩, rfl⟩
    have q1 := Q.out.1
    refine ret_num ?_
    show wrap64 (wrap64 ((lenT[x]'hq).toNat : Int)) = _
    unfold wrap64
    omega
set_option maxHeartbeats 4000000 in
set_option maxRecDepth 100000 in
theorem len_calls (x : Nat) (h2 : x < 65536) (W : World) : Calls Try.prog 48 #[.int .u64 x] W fun e W' => (∃ r : Nat, e = .returned (.int .i64 r) ∧ r ≤ 16 ∧ (1 ≤ x → 2 ^ r ≤ 2 * x)) ∧ W' = W := by
  have L := Aside0.mk (len64_calls x h2 W)
  go_enter Try.func48, Try.ntmps48
  go_wp2_with (first | (go_at_call 70; refine L.out.mono ?_; rintro e w' ⟨⟨r, rfl, hr⟩, rfl⟩; have HR := Aside0.mk hr; clear hr) | fail)
  go_ret
  exact ⟨⟨r, rfl, HR.out⟩, rfl⟩
set_option maxHeartbeats 4000000 in
set_option maxRecDepth 100000 in
theorem power_calls (x : Nat) (h1 : 1 ≤ x) (h2 : x < 65536) (W : World) : Calls Try.prog 76 #[.int .i64 x] W fun e W' => (∃ m : Nat, e = .returned (.int .u64 m) ∧ 1 ≤ m ∧ m ≤ 2 * x) ∧ W' = W := by
  have L := Aside0.mk (len_calls x h2 W)
  go_enter Try.func76, Try.ntmps76
  go_wp2_with (first | (go_at_call 48; refine L.out.mono ?_; rintro e w' ⟨⟨r, rfl, hr0, hr⟩, rfl⟩; have HR := Aside0.mk hr; clear hr) | fail)
  go_ret
  have h16 : 2 ^ r ≤ 2 ^ 16 := Nat.pow_le_pow_right (by omega) hr0
  have h01 : 1 ≤ 2 ^ r := Nat.one_le_two_pow
  refine ⟨⟨2 ^ r, ret_num ?_, h01, HR.out h1⟩, rfl⟩
  show IntKind.u64.wrap ((2 : Int) ^ r) = ((2 ^ r : Nat) : Int)
  have e : ((2 : Int) ^ r) = ((2 ^ r : Nat) : Int) := by rw [Int.natCast_pow]; rfl
  rw [e, IntKind.wrap_u64]
  omega
/-- A generator's box. -/
def Gen (W : World) (rb : Nat) (t : TypeId) : Prop := ∃ X : Int, W.heap[rb]? = some (.cells #[.int .u64 X] t (0, 0))
theorem Gen.set {W : World} {rb : Nat} {t : TypeId} (h : Gen W rb t) (u : Int) : Gen (W.setCell ⟨rb, 0, none⟩ (.int .u64 u)) rb t := by
  obtain ⟨X, h⟩ := h
  exact ⟨u, blk_set h 0 _⟩
theorem Gen.cell {W : World} {rb : Nat} {t : TypeId} (h : Gen W rb t) : ∃ X : Int, W.cell? ⟨rb, 0, none⟩ = some (.int .u64 X) ∧ W.frozen? ⟨rb, 0, none⟩ = false := by
  obtain ⟨X, h⟩ := h
  exact ⟨X, by rw [blk_cell h]; rfl, by simp [World.frozen?, h]⟩
set_option maxHeartbeats 4000000 in
set_option maxRecDepth 100000 in
theorem next_calls (h : SR w W blk pre post ty d) (hblk : blk < w.heap.size) (rb : Nat) (t : TypeId) (hr : Gen W rb t) (hrb : w.heap.size ≤ rb) :
    Calls Try.prog 77 #[.pointer (some ⟨rb, 0, none⟩)] W fun e W' => ∃ v : Int, e = .returned (.int .u64 v) ∧ SR w W' blk pre post ty d ∧ Gen W' rb t := by
  have step : ∀ (W : World) (U : Int), SR w W blk pre post ty d → Gen W rb t → SR w (W.setCell ⟨rb, 0, none⟩ (.int .u64 U)).drew blk pre post ty d ∧ Gen (W.setCell ⟨rb, 0, none⟩ (.int .u64 U)).drew rb t := fun W U h1 h2 => ⟨(h1.other hblk (p := ⟨rb, 0, none⟩) hrb _).drewN 1, h2.set U⟩
  have ST := Aside0.mk step
  have H := Aside0.mk (And.intro h hr)
  obtain ⟨X, hc, hf⟩ := hr.cell
  clear h hr step
  go_enter Try.func77, Try.ntmps77
  go_wp2
  go_region
  have H1 := Aside0.mk (ST.out W (Go.bits .xor .u64 X (IntKind.u64.wrap (X * 8192))) H.out.1 H.out.2)
  clear hc hf H
  generalize (W.setCell ⟨rb, 0, none⟩ (.int .u64 (Go.bits .xor .u64 X (IntKind.u64.wrap (X * 8192))))).drew = W1 at H1 ⊢
  obtain ⟨X1, hc, hf⟩ := H1.out.2.cell
  go_wp2
  go_region
  have H2 := Aside0.mk (ST.out W1 (Go.bits .xor .u64 X1 (X1 / 128)) H1.out.1 H1.out.2)
  clear hc hf H1
  generalize (W1.setCell ⟨rb, 0, none⟩ (.int .u64 (Go.bits .xor .u64 X1 (X1 / 128)))).drew = W2 at H2 ⊢
  obtain ⟨X2, hc, hf⟩ := H2.out.2.cell
  go_wp2
  go_region
  have H3 := Aside0.mk (ST.out W2 (Go.bits .xor .u64 X2 (IntKind.u64.wrap (X2 * 131072))) H2.out.1 H2.out.2)
  clear hc hf H2
  generalize (W2.setCell ⟨rb, 0, none⟩ (.int .u64 (Go.bits .xor .u64 X2 (IntKind.u64.wrap (X2 * 131072))))).drew = W3 at H3 ⊢
  obtain ⟨X3, hc, hf⟩ := H3.out.2.cell
  go_wp2
  go_ret
  exact ⟨X3, rfl, H3.out⟩
end Go.Proofs.Ytkppgepljjgjhaa.P

namespace Go.Proofs.Ytkppgepljjgjhaa.P
open Go.RowKit Go.Proofs.YtkppgepljjgjhaaW.PrintWords Go.Proofs.YtkppgepljjgjhaaW.PrintLast
open Go.Sort (ltInt swp PermIn)
set_option linter.unusedVariables false
set_option linter.unusedSimpArgs false
variable {w W : World} {blk off : Nat} {pre post : List Value} {ty : TypeId} {d : Array Int}
theorem and_le (v : Int) (M : Nat) (hM : M < 18446744073709551616) : ∃ o : Nat, Go.bits .and .u64 v (M : Int) = (o : Int) ∧ o ≤ M := by
  refine ⟨(BitVec.ofInt 64 v).toNat &&& M, ?_, Nat.and_le_right⟩
  show IntKind.u64.wrap ((BitVec.ofInt 64 v &&& BitVec.ofInt 64 (M : Int)).toNat : Int) = _
  have e : (BitVec.ofInt 64 (M : Int)).toNat = M := by rw [BitVec.ofInt_natCast, BitVec.toNat_ofNat]; exact Nat.mod_eq_of_lt (by omega)
  have hx : (BitVec.ofInt 64 v).toNat &&& M < 2 ^ 64 := Nat.and_lt_two_pow _ (by omega)
  rw [BitVec.toNat_and, e, IntKind.wrap_u64]
  omega
theorem Gen.far {W : World} {rb blk i j : Nat} {t : TypeId} (h : Gen W rb t) (hne : rb ≠ blk) (u v : Value) : Gen (((W.drewN 1).setCell ⟨blk, i, none⟩ u).setCell ⟨blk, j, none⟩ v) rb t := by
  obtain ⟨X, h⟩ := h
  exact ⟨X, (Below.heap_setCell _ _ _ _ hne).trans ((Below.heap_setCell _ _ _ _ hne).trans h)⟩
theorem perm_swp {d dk : Array Int} {a b i j : Nat} (h : PermIn a b d dk) (hi : a ≤ i ∧ i < b) (hj : a ≤ j ∧ j < b) (hb : b ≤ dk.size) : PermIn a b d (swp dk i j) :=
  Go.Sort.permIn_trans d dk _ a b h (Go.Sort.swp_permIn dk a b i j hi.1 hi.2 hj.1 hj.2 hb)
set_option maxHeartbeats 4000000 in
set_option maxRecDepth 100000 in
theorem break_calls (h : SR w W blk pre post ty d) (ho : pre.length = off) (hblk : blk < w.heap.size) (cap a b : Nat) (hab : a + 8 ≤ b) (hb : b ≤ d.size) (hsz : d.size < 32768) :
    Calls Try.prog 62 #[.slice (some ⟨blk, off, none⟩) d.size cap, .int .i64 a, .int .i64 b] W fun e W' => e = .returned (.tuple #[]) ∧ ∃ d', SR w W' blk pre post ty d' ∧ PermIn a b d d' := by
  obtain ⟨L, hL⟩ : ∃ L, L = b - a := ⟨_, rfl⟩
  have hL8 : 8 ≤ L := by omega
  have eL : ((L : Nat) : Int) = (b : Int) - a := by omega
  have hsb : w.heap.size ≤ W.heap.size := h.upd.size
  have HA := Aside0.mk (show SR w (W.alloc (.cells #[.int .u64 ((b : Int) - a)] 108)) blk pre post ty d ∧ Gen (W.alloc (.cells #[.int .u64 ((b : Int) - a)] 108)) W.heap.size 108 from ⟨h.alloc _, _, blk_new _ _⟩)
  have PW := Aside0.mk (fun W => by have q := power_calls L (by omega) (by omega) W; rw [eL] at q; exact q)
  have NX := Aside0.mk (fun W2 (d2 : Array Int) (h : SR w W2 blk pre post ty d2 ∧ Gen W2 W.heap.size 108) => next_calls h.1 hblk W.heap.size 108 h.2 hsb)
  have c8 : decide ((8 : Int) ≤ (b : Int) - a) = true := decide_eq_true (by omega)
  obtain ⟨I, hI⟩ : ∃ I, I = a + (b - a) / 4 * 2 - 1 := ⟨_, rfl⟩
  have eI := Aside0.mk (show (a : Int) + ((b : Int) - a) / 4 * 2 - 1 = (I : Int) by omega)
  have hI0 : a ≤ I := by omega
  have hI1 : I + 2 < b := by omega
  have HLB := Aside0.mk (show a + L = b by omega)
  have EL := Aside0.mk eL
  clear h hL hI eL
  go_enter Try.func62, Try.ntmps62
  go_wp2_with (first | (go_at_call 76; refine (PW.out _).mono ?_; rintro e w' ⟨⟨m, rfl, hm1, hm2⟩, rfl⟩) | fail)
  rw [eI.out]
  go_loopw [9] (fun v wr => ∃ (i : Nat) (dk : Array Int), v = .int .i64 i ∧ I ≤ i ∧ i ≤ I + 3 ∧ dk.size = d.size ∧ Aside0 (SR w wr blk pre post ty dk ∧ Gen wr W.heap.size 108) ∧ Aside0 (PermIn a b d dk)) (fun v _ => I + 3 - (intOf v).toNat)
  case atStart => exact ⟨I, d, rfl, Nat.le_refl _, by omega, rfl, HA, ⟨Go.Sort.permIn_refl d a b⟩⟩
  case round =>
    obtain ⟨i, dk, rfl, hi1, hi2, hsk, HK, HP⟩ := hrel
    by_cases hlt : i ≤ I + 2
    · have c1 : decide ((i : Int) ≤ (a : Int) + ((b : Int) - a) / 4 * 2 + 1) = true := decide_eq_true (by have := eI.out; omega)
      go_wp2_with (first | (go_at_call 77; refine (NX.out _ _ HK.out).mono ?_; rintro e W1 ⟨v, rfl, hk1⟩; have HK1 := Aside0.mk hk1; clear hk1; obtain ⟨o, ha, hle⟩ := and_le v (m - 1) (by have := HLB.out; omega); have HA1 := Aside0.mk ha; clear ha) | fail)
      all_goals
        have hX : wrap64 (Go.bits .and .u64 v (IntKind.u64.wrap ((m : Int) - 1))) = (o : Int) := by
          rw [show IntKind.u64.wrap ((m : Int) - 1) = ((m - 1 : Nat) : Int) by rw [IntKind.wrap_u64]; have := HLB.out; omega, HA1.out]
          have := HLB.out
          unfold wrap64
          omega
        rename_i hc
        rw [hX] at hc
        rw [hX]
        clear hX
      · obtain ⟨p, hp⟩ : ∃ p, p = o - L := ⟨_, rfl⟩
        have hpp : wrap64 ((o : Int) - ((b : Int) - a)) = (p : Int) := by have := HLB.out; unfold wrap64; omega
        have hpb : a + p < b := by have := HLB.out; omega
        rw [hpp]
        clear hp hc hle
        obtain ⟨G, hG⟩ : ∃ G : Nat → Int, ∀ t, G t = dk[t]! := ⟨fun t => dk[t]!, fun _ => rfl⟩
        have hcw : ∀ t, t < d.size → W1.cell? ⟨blk, off + t, none⟩ = some (.int .u64 (G t)) := fun t ht => by rw [hG]; exact HK1.out.1.cell ho (by omega)
        have hfw : ∀ t, t < d.size → W1.frozen? ⟨blk, off + t, none⟩ = false := fun t ht => HK1.out.1.frozen _
        have hst : ∀ u, (W1.setCell ⟨blk, off + i, none⟩ u).cell? ⟨blk, off + (a + p), none⟩ = some (if a + p = i then u else .int .u64 (G (a + p))) := fun u => by
          by_cases e : a + p = i
          · rw [if_pos e, e]; exact World.cell?_setCell_same _ _ _ (hcw _ (by omega))
          · rw [if_neg e]; exact (World.cell?_setCell_other _ _ _ _ (by first | (simp; done) | (simp; omega))).trans (hcw _ (by omega))
        have HG := Aside0.mk hG
        clear hG
        go_region
        all_goals go_wp2
        go_roundw
        case rel => exact ⟨i + 1, swp dk i (a + p), by simp, by omega, by omega, by rw [swp_size]; exact hsk, ⟨⟨(HK1.out.1.drewN 1).swap ho (by omega) (by omega) (HG.out _) (HG.out _), HK1.out.2.far (by omega) _ _⟩⟩, ⟨perm_swp HP.out ⟨by omega, by omega⟩ ⟨by omega, hpb⟩ (by omega)⟩⟩
        case measure => simp [intOf]; omega
      · obtain ⟨p, hp⟩ : ∃ p, p = o := ⟨_, rfl⟩
        have hpb : a + p < b := by have := HLB.out; omega
        rw [← hp]
        clear hp hc hle
        obtain ⟨G, hG⟩ : ∃ G : Nat → Int, ∀ t, G t = dk[t]! := ⟨fun t => dk[t]!, fun _ => rfl⟩
        have hcw : ∀ t, t < d.size → W1.cell? ⟨blk, off + t, none⟩ = some (.int .u64 (G t)) := fun t ht => by rw [hG]; exact HK1.out.1.cell ho (by omega)
        have hfw : ∀ t, t < d.size → W1.frozen? ⟨blk, off + t, none⟩ = false := fun t ht => HK1.out.1.frozen _
        have hst : ∀ u, (W1.setCell ⟨blk, off + i, none⟩ u).cell? ⟨blk, off + (a + p), none⟩ = some (if a + p = i then u else .int .u64 (G (a + p))) := fun u => by
          by_cases e : a + p = i
          · rw [if_pos e, e]; exact World.cell?_setCell_same _ _ _ (hcw _ (by omega))
          · rw [if_neg e]; exact (World.cell?_setCell_other _ _ _ _ (by first | (simp; done) | (simp; omega))).trans (hcw _ (by omega))
        have HG := Aside0.mk hG
        clear hG
        go_region
        all_goals go_wp2
        go_roundw
        case rel => exact ⟨i + 1, swp dk i (a + p), by simp, by omega, by omega, by rw [swp_size]; exact hsk, ⟨⟨(HK1.out.1.drewN 1).swap ho (by omega) (by omega) (HG.out _) (HG.out _), HK1.out.2.far (by omega) _ _⟩⟩, ⟨perm_swp HP.out ⟨by omega, by omega⟩ ⟨by omega, hpb⟩ (by omega)⟩⟩
        case measure => simp [intOf]; omega
    · have c1 : decide ((i : Int) ≤ (a : Int) + ((b : Int) - a) / 4 * 2 + 1) = false := decide_eq_false (by have := eI.out; omega)
      go_wp2
      go_end0
      exact ⟨rfl, dk, HK.out.1, HP.out⟩
end Go.Proofs.Ytkppgepljjgjhaa.P
