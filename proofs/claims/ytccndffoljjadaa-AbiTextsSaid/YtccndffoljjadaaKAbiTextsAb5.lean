/- Texts of one proof, one behind the other. No condition. -/
import Derived.Test.YtccndffoljjadaaKAbiTextsAb3
import Derived.Test.YtccndffoljjadaaKAbiTextsPx2
import Derived.Lib.SliceRun
namespace Go.Proofs.Ytccndffoljjadaa.P
open Go.RowKit Go.Proofs.YtccndffoljjadaaW.PrintWords Go.Proofs.YtccndffoljjadaaW.PrintLast
set_option linter.unusedVariables false
set_option linter.unusedSimpArgs false
def addW (n : Int) (s : ByteArray) : Int := wrap64 (n + wrap64 ((s.size : Int) + 1))
def sumW (l : List ByteArray) : Int := l.foldl addW 0
theorem sumW_next {l : List ByteArray} {j : Nat} (h : j < l.length) : sumW (l.take (j + 1)) = addW (sumW (l.take j)) (rdOf ByteArray.empty l (j : Int)) := by
  unfold sumW
  rw [List.take_succ_eq_append_getElem h, List.foldl_append]
  simp [rdOf, List.getElem?_eq_getElem h]
def upW (n : Int) : Int := wrap64 ((wrap64 (Int.tdiv (wrap64 ((wrap64 (n + 32)) - 1)) 32)) * 32)
def abi_Need.g (l0 l1 : List ByteArray) (l2 : List S30) : Int := wrap64 (upW (sumW (l0 ++ l1)) + wrap64 (32 * wrap64 (wrap64 (wrap64 ((l0.length : Int) + l1.length) + l2.length) + 3)))
def abi_Need.f (l0 l1 : List ByteArray) (l2 : List S30) : Option Int := if l0.length ≤ 1000 ∧ l1.length ≤ 1000 then some (abi_Need.g l0 l1 l2) else none
set_option maxHeartbeats 1000000 in
set_option maxRecDepth 100000 in
theorem abi_Need.calls' (A0 : Option Addr) (c0 : Nat) (l0 : List ByteArray) (A1 : Option Addr) (c1 : Nat) (l1 : List ByteArray) (A2 : Option Addr) (c2 : Nat) (l2 : List S30) (w : World) (hr0 : Kd.C Kd.string w A0 l0.length l0) (hr1 : Kd.C Kd.string w A1 l1.length l1) (h0 : l0.length ≤ 1000) (h1 : l1.length ≤ 1000) :
    Calls Try.prog 13 #[.slice A0 l0.length c0, .slice A1 l1.length c1, .slice A2 l2.length c2] w fun e w' => e = .returned (.int .i64 (abi_Need.g l0 l1 l2)) ∧ Below w.heap.size w w' := by
  have HC := Aside0.mk (Concat.calls w.heap.size A0 c0 l0 A1 c1 l1 (w.alloc (.cells #[.slice A0 l0.length c0, .slice A1 l1.length c1] 23)) (blk_new _ _) (Kd.C_below hr0 (below_alloc (Below.refl _ _) _)) (Kd.C_below hr1 (below_alloc (Below.refl _ _) _)) h0 h1)
  have W1 : wrap64 ((l0.length : Int) + l1.length) = (l0.length : Int) + l1.length := by unfold wrap64; omega
  have hlen : (l0 ++ l1).length = l0.length + l1.length := List.length_append
  have U := Aside0.mk (fun n W => abi_up.calls n (upW n) W rfl)
  clear hr0 hr1
  generalize hl : l0 ++ l1 = l at HC hlen
  have E : abi_Need.g l0 l1 l2 = wrap64 (upW (sumW l) + wrap64 (32 * wrap64 (wrap64 ((l0.length : Int) + l1.length + l2.length) + 3))) := by unfold abi_Need.g; rw [hl, W1]
  have HE := Aside0.mk E
  clear E hl
  go_enter Try.func13, Try.ntmps13
  go_wp2_with (first | (go_at_call 35; refine HC.out.mono ?_; rintro e w1 ⟨v, rfl, ho, hb⟩; obtain ⟨A, c, rfl, hcc, hC⟩ := Kd.R_reads ho; have HO := Aside0.mk hC; have HB1 := Aside0.mk (below_step (below_alloc (Below.refl _ _) _) hb); clear ho hC hb; clear HC) | fail)
  go_loopw [7, 15] (fun v7 v15 wr => ∃ (j : Nat), v15 = .int .i64 j ∧ j ≤ l.length ∧ v7 = .int .i64 (sumW (l.take j)) ∧ w1 = wr) (fun _ v15 _ => l.length - (intOf v15).toNat)
  case atStart => exact ⟨0, rfl, by omega, rfl, rfl⟩
  case round =>
    obtain ⟨j, rfl, hj, rfl, rfl⟩ := hrel
    by_cases hlt : j < l.length
    · have p1 : 0 ≤ (j : Int) := by omega
      have q1 : (j : Int) < l.length := by omega
      obtain ⟨ad, eA, hx0⟩ := Kd.at_string HO.out (j : Int) p1 q1
      cases eA
      simp only [Int.toNat_natCast] at hx0
      have W3 : wrap64 ((j : Int) + 1) = ((j + 1 : Nat) : Int) := by unfold wrap64; omega
      have HS := Aside0.mk (sumW_next hlt)
      generalize rdOf ByteArray.empty l (j : Int) = s at hx0 HS
      go_wp2
      exact ⟨⟨j + 1, by simp, by omega, by rw [HS.out]; simp [addW]⟩, by simp [intOf]; omega⟩
    · obtain rfl : j = l.length := by omega
      rw [List.take_length]
      go_wp2_with (first | (go_at_call 30; refine (U.out _ _).mono ?_; rintro e w2 ⟨rfl, hb⟩; have HB2 := Aside0.mk (below_step HB1.out hb.below); clear hb) | fail)
      go_ret
      exact ⟨by rw [HE.out]; simp, HB2.out⟩
end Go.Proofs.Ytccndffoljjadaa.P

namespace Go.Proofs.Ytccndffoljjadaa.P
open Go.RowKit Go.Proofs.YtccndffoljjadaaW.PrintWords Go.Proofs.YtccndffoljjadaaW.PrintLast
set_option linter.unusedVariables false
set_option linter.unusedSimpArgs false
set_option maxHeartbeats 1000000 in
set_option maxRecDepth 100000 in
theorem Clone_C.calls (A0 : Option Addr) (c0 : Nat) (l0 : List S30) (w : World) (hr0 : Kd.C k30 w A0 l0.length l0) (h0 : l0.length ≤ 1000) :
    Calls Try.prog 60 #[.slice A0 l0.length c0] w fun e w' => ∃ v, e = .returned v ∧ Kd.R k30 30 w' w.heap.size (fun _ => True) v l0 ∧ Below w.heap.size w w' := by
  have q40 : ∀ (w : World) (a : Option Addr) (n c n' c' : Nat), (binOp .eql 40 (.slice a n c) (.slice none n' c')).run Try.prog w = .ok (.bool a.isNone) w := fun w a n c n' c' => Go.Lib.run_eql_slice_nil w _ _ a n c n' c' Try.underlying40
  cases A0 with
  | none =>
    obtain rfl : l0 = [] := by
      rcases l0 with _ | ⟨x, r⟩
      · rfl
      · obtain ⟨ad, h, _⟩ := hr0.2.2 (by simp)
        cases h
    go_enter Try.func60, Try.ntmps60
    go_wp2
    go_ret
    exact ⟨_, rfl, Kd.R_nil _ _ _ _ _, Below.refl _ _⟩
  | some ad =>
    have HR := Aside0.mk (Kd.C_alloc hr0 (.cells #[] 30))
    have LM := Aside0.mk (show (([] : List S30).length + l0.length) * 48 ≤ 140737488355328 by simp; omega)
    have HO := Aside0.mk (show Kd.R k30 30 (w.alloc (.cells #[] 30)) w.heap.size (fun _ => True) (.slice (some ⟨w.heap.size, 0, none⟩) 0 0) [] from ⟨fun _ _ => trivial, [], ⟨by simp, .inr ⟨w.heap.size, 0, #[], rfl, Nat.le_refl _, blk_new w _, Nat.le_refl _, by simp, by simp, by simp⟩⟩, Reps.none _ _⟩)
    have HB := Aside0.mk (below_alloc (Below.refl w.heap.size w) (.cells #[] 30))
    clear hr0
    go_enter Try.func60, Try.ntmps60
    go_wp2_with (first | ((with_reducible refine gate_builtin (b := .append) (xs := #[.tmp 5, .tmp 6]) rfl ?_); at_builtin; go_loud (refine Kd.R_append_rows k30 (Rr := k30.K (w.alloc (.cells #[] 30))) (w0 := w) w.heap.size rfl (.tmp 5) (.tmp 6) 40 30 (.agg #[.int .u64 0, .int .u64 0, .int .u64 0, .int .i64 0, .int .i64 0, .bool false]) 48 rfl Try.underlying40 info30 rfl (by decide) (by omega) (.slice (some ⟨w.heap.size, 0, none⟩) 0 0) [] l0 (some ad) l0.length c0 (fun _ => True) (fun _ => False) rfl rfl HO.out HR.out (fun _ _ h => h) (fun _ hk => hk.elim) (fun _ _ => trivial) HB.out (below_size HB.out) LM.out ?_); intro v3 w3 ho hb hg hat; have HO3 := Aside0.mk ho; have HB3 := Aside0.mk hb; clear ho hb hg hat) | fail)
    go_ret
    exact ⟨_, rfl, HO3.out, HB3.out⟩
end Go.Proofs.Ytccndffoljjadaa.P
