/- The pages of a memory that has none. No condition. -/
import Derived.Test.YtccndffoljjadaaKAbiLessMc5
namespace Go.Proofs.Ytccndffoljjadaa.P
open Go.RowKit Go.Proofs.YtccndffoljjadaaW.PrintWords Go.Proofs.YtccndffoljjadaaW.PrintLast
open Go.ChangeMaps (setBlock)
set_option linter.unusedVariables false
set_option linter.unusedSimpArgs false
theorem ret_numE {k : IntKind} {x y : Int} (h : x = y) : Ending.returned (.int k x) = .returned (.int k y) := by rw [h]
/-- The lengths of the numbers below 256. -/
def lenE : ByteArray := ⟨#[0, 1, 2, 2, 3, 3, 3, 3, 4, 4, 4, 4, 4, 4, 4, 4, 5, 5, 5, 5, 5, 5, 5, 5, 5, 5, 5, 5, 5, 5, 5, 5, 6, 6, 6, 6, 6, 6, 6, 6, 6, 6, 6, 6, 6, 6, 6, 6, 6, 6, 6, 6, 6, 6, 6, 6, 6, 6, 6, 6, 6, 6, 6, 6, 7, 7, 7, 7, 7, 7, 7, 7, 7, 7, 7, 7, 7, 7, 7, 7, 7, 7, 7, 7, 7, 7, 7, 7, 7, 7, 7, 7, 7, 7, 7, 7, 7, 7, 7, 7, 7, 7, 7, 7, 7, 7, 7, 7, 7, 7, 7, 7, 7, 7, 7, 7, 7, 7, 7, 7, 7, 7, 7, 7, 7, 7, 7, 7, 8, 8, 8, 8, 8, 8, 8, 8, 8, 8, 8, 8, 8, 8, 8, 8, 8, 8, 8, 8, 8, 8, 8, 8, 8, 8, 8, 8, 8, 8, 8, 8, 8, 8, 8, 8, 8, 8, 8, 8, 8, 8, 8, 8, 8, 8, 8, 8, 8, 8, 8, 8, 8, 8, 8, 8, 8, 8, 8, 8, 8, 8, 8, 8, 8, 8, 8, 8, 8, 8, 8, 8, 8, 8, 8, 8, 8, 8, 8, 8, 8, 8, 8, 8, 8, 8, 8, 8, 8, 8, 8, 8, 8, 8, 8, 8, 8, 8, 8, 8, 8, 8, 8, 8, 8, 8, 8, 8, 8, 8, 8, 8, 8, 8, 8, 8, 8, 8, 8, 8, 8, 8, 8, 8, 8, 8, 8, 8]⟩
theorem lenE_size : lenE.size = 256 := by kernel_rfl
theorem lenE_ok : ∀ i : Fin 256, (lenE[i.1]'(by rw [lenE_size]; exact i.2)).toNat ≤ 8 ∧ (1 ≤ i.1 → 2 ^ (lenE[i.1]'(by rw [lenE_size]; exact i.2)).toNat ≤ 2 * i.1) := by decide +kernel
theorem lenE_at {i : Nat} (hi : i < 256) (h : i < lenE.size) : (lenE[i]'h).toNat ≤ 8 ∧ (1 ≤ i → 2 ^ (lenE[i]'h).toNat ≤ 2 * i) := lenE_ok ⟨i, hi⟩
set_option maxHeartbeats 4000000 in
set_option maxRecDepth 100000 in
theorem len64_e (x : Nat) (h2 : x < 65536) (W : World) : Calls Try.prog 91 #[.int .u64 x] W fun e W' => (∃ r : Nat, e = .returned (.int .i64 r) ∧ r ≤ 16 ∧ (1 ≤ x → 2 ^ r ≤ 2 * x)) ∧ W' = W := by
  have c1 : decide ((4294967296 : Int) ≤ (x : Int)) = false := decide_eq_false (by omega)
  have c2 : decide ((65536 : Int) ≤ (x : Int)) = false := decide_eq_false (by omega)
  have hu := Try.underlying9
  by_cases h : 256 ≤ x
  · have c3 : decide ((256 : Int) ≤ (x : Int)) = true := decide_eq_true (by omega)
    have hq : x / 256 < lenE.size := by rw [lenE_size]; omega
    obtain ⟨L, hL⟩ : ∃ L, L = (lenE[x / 256]'hq).toNat := ⟨_, rfl⟩
    have q := lenE_at (i := x / 256) (by omega) hq
    rw [← hL] at q
    obtain ⟨q1, q2⟩ := q
    have q3 : 2 ^ (8 + L) ≤ 2 * x := by have := q2 (by omega); rw [Nat.pow_add]; omega
    have Q := Aside0.mk (And.intro q1 q3)
    have HL := Aside0.mk hL
    clear q1 q2 q3 hL
    go_enter Try.func91, Try.ntmps91
    go_wp2
    go_ret
    refine ⟨⟨8 + L, ?_, by have := Q.out.1; omega, fun _ => Q.out.2⟩, rfl⟩
    have q1 := Q.out.1
    rw [HL.out] at q1 ⊢
    refine ret_numE ?_
    show wrap64 (8 + wrap64 ((lenE[x / 256]'hq).toNat : Int)) = _
    unfold wrap64
    omega
  · have c3 : decide ((256 : Int) ≤ (x : Int)) = false := decide_eq_false (by omega)
    have hq : x < lenE.size := by rw [lenE_size]; omega
    have q := lenE_at (i := x) (by omega) hq
    have Q := Aside0.mk q
    clear q
    go_enter Try.func91, Try.ntmps91
    go_wp2
    go_ret
    refine ⟨⟨(lenE[x]'hq).toNat, ?_, by have := Q.out.1; omega, Q.out.2⟩, rfl⟩
    have q1 := Q.out.1
    refine ret_numE ?_
    show wrap64 (wrap64 ((lenE[x]'hq).toNat : Int)) = _
    unfold wrap64
    omega
set_option maxHeartbeats 4000000 in
set_option maxRecDepth 100000 in
theorem len_e (x : Nat) (h2 : x < 65536) (W : World) : Calls Try.prog 69 #[.int .u64 x] W fun e W' => (∃ r : Nat, e = .returned (.int .i64 r) ∧ r ≤ 16 ∧ (1 ≤ x → 2 ^ r ≤ 2 * x)) ∧ W' = W := by
  have L := Aside0.mk (len64_e x h2 W)
  go_enter Try.func69, Try.ntmps69
  go_wp2_with (first | (go_at_call 91; refine L.out.mono ?_; rintro e w' ⟨⟨r, rfl, hr⟩, rfl⟩; have HR := Aside0.mk hr; clear hr) | fail)
  go_ret
  exact ⟨⟨r, rfl, HR.out⟩, rfl⟩
set_option maxHeartbeats 4000000 in
set_option maxRecDepth 100000 in
theorem sort_e (A : Option Addr) (cap : Nat) (W : World) : Calls Try.prog 37 #[.slice A 0 cap] W fun e W' => e = .returned (.tuple #[]) ∧ W' = W := by
  have IN : ∀ W, Calls Try.prog 81 #[.slice A 0 cap, .int .i64 0, .int .i64 0] W fun e W' => e = .returned (.tuple #[]) ∧ W' = W := by
    intro W
    go_enter Try.func81, Try.ntmps81
    go_wp2
    go_loopw [6] (fun v wr => v = .int .i64 1 ∧ wr = W) (fun _ _ => 0)
    case atStart => exact ⟨rfl, rfl⟩
    case round =>
      obtain ⟨rfl, rfl⟩ := hrel
      go_wp2
      go_end0
      exact ⟨rfl, rfl⟩
  have IA := Aside0.mk IN
  clear IN
  have PD : ∀ l W, Calls Try.prog 68 #[.slice A 0 cap, .int .i64 0, .int .i64 0, .int .i64 l] W fun e W' => e = .returned (.tuple #[]) ∧ W' = W := by
    intro l W
    go_enter Try.func68, Try.ntmps68
    go_wp2
    go_loopw [1, 2, 3, 8, 9] (fun va vb vl v8 v9 wr => va = .int .i64 0 ∧ vb = .int .i64 0 ∧ wr = W) (fun _ _ _ _ _ _ => 0)
    case atStart => exact ⟨rfl, rfl, rfl⟩
    case round =>
      obtain ⟨rfl, rfl, rfl⟩ := hrel
      go_wp2_with (first | (go_at_call 81; refine (IA.out _).mono ?_; rintro e W1 ⟨rfl, rfl⟩) | fail)
      (try simp only [Exit.inBlock, Exit.then]); refine bodyPost_ret (results_none rfl _ _ _) rfl ?_
      exact ⟨rfl, rfl⟩
  have PA := Aside0.mk PD
  have LN := Aside0.mk (len_e 0 (by omega) W)
  clear PD
  go_enter Try.func37, Try.ntmps37
  go_wp2_with (first | (go_at_call 69; refine LN.out.mono ?_; rintro e w' ⟨⟨r, rfl, hr⟩, rfl⟩; clear hr) | (go_at_call 68; refine (PA.out r _).mono ?_; rintro e W1 ⟨rfl, rfl⟩) | fail)
  go_end0
  exact ⟨rfl, rfl⟩
set_option maxHeartbeats 4000000 in
set_option maxRecDepth 100000 in
theorem Pages_none {w : World} {g gm : Nat} {clock : Nat} {b : Int} (h : MemL w g gm [] clock ⟨b, []⟩) :
    Calls Try.prog 15 #[.pointer (some ⟨g, 0, none⟩)] w fun e w' => e = .returned (.slice none 0 0) ∧ Below w.heap.size w w' := by
  have hc := blk_cell h.hd 0
  have hu := Try.underlying65
  have hmp : w.heap[gm]? = some (.map #[] clock) := by simpa using h.mp
  have hrg := run_range_map (P := Try.prog) w 63 22 80 gm #[] clock map_t hmp
  have HI := Aside0.mk (blk_new w (.mapIter (some gm) clock #[] clock))
  have HMP := Aside0.mk (blk_alloc hmp (.mapIter (some gm) clock #[] clock))
  have HB := Aside0.mk (below_alloc (Below.refl w.heap.size w) (.mapIter (some gm) clock #[] clock))
  clear h hmp
  go_enter Try.func15, Try.ntmps15
  go_wp2
  clear hrg hc
  generalize w.alloc (.mapIter (some gm) clock #[] clock) = W at HI HMP HB ⊢
  go_loopw [3] (fun v3 wr => v3 = .slice none 0 0 ∧ wr = W) (fun _ _ => 0)
  case atStart => exact ⟨rfl, rfl⟩
  case round =>
    obtain ⟨rfl, rfl⟩ := hrel
    have ST := Aside0.mk (sort_e none 0 wr)
    rcases run_next_at (P := Try.prog) wr 0 w.heap.size gm clock clock #[] #[] clock HI.out HMP.out (fun x hx => by simp at hx) (Nat.le_refl _) with ⟨hz, hnx⟩ | ⟨e, he, w1, hw1, hnx⟩
    · clear hz
      go_wp2_with (first | (go_at_call 37; refine ST.out.mono ?_; rintro e w2 ⟨rfl, rfl⟩) | fail)
      go_ret
      exact ⟨rfl, HB.out⟩
    · simp [leftOf] at he
end Go.Proofs.Ytccndffoljjadaa.P
