/- Texts of one proof, one behind the other. No condition. -/
import Derived.Test.YtkppgepljjgjhaaKTagmemEitherSa0
namespace Go.Proofs.Ytkppgepljjgjhaa.P
open Go.RowKit Go.Proofs.YtkppgepljjgjhaaW.PrintWords Go.Proofs.YtkppgepljjgjhaaW.PrintLast
open Go.Sort (ltInt swp)
set_option linter.unusedVariables false
set_option linter.unusedSimpArgs false
variable {w W : World} {blk off : Nat} {pre post : List Value} {ty : TypeId} {d : Array Int}
set_option maxHeartbeats 4000000 in
set_option maxRecDepth 100000 in
theorem reverse_calls (h : SR w W blk pre post ty d) (ho : pre.length = off) (cap a b : Nat) (hab : a < b) (hb : b ≤ d.size) (hsz : d.size < 1000000000) :
    Calls Try.prog 64 #[.slice (some ⟨blk, off, none⟩) d.size cap, .int .i64 a, .int .i64 b] W fun e W' => e = .returned (.tuple #[]) ∧ SR w W' blk pre post ty (Sort.reverseRange d a b) := by
  have H := Aside0.mk h
  clear h
  go_enter Try.func64, Try.ntmps64
  go_wp2
  go_loopw [6, 7] (fun v u wr => ∃ (i j : Nat) (dk : Array Int), v = .int .i64 i ∧ u = .int .i64 j ∧ a ≤ i ∧ j < b ∧ dk.size = d.size ∧ Aside0 (SR w wr blk pre post ty dk) ∧ Aside0 (Sort.reverseLoop i j dk = Sort.reverseRange d a b)) (fun v u _ => (intOf u).toNat - (intOf v).toNat)
  case atStart => exact ⟨a, b - 1, d, rfl, by congr 1; omega, Nat.le_refl _, by omega, rfl, H, ⟨rfl⟩⟩
  case round =>
    obtain ⟨i, j, dk, rfl, rfl, hai, hjb, hsk, HK, HO⟩ := hrel
    by_cases hlt : i < j
    · have c1 : decide ((i : Int) < j) = true := decide_eq_true (by omega)
      obtain ⟨G, hG⟩ : ∃ G : Nat → Int, ∀ t, G t = dk[t]! := ⟨fun t => dk[t]!, fun _ => rfl⟩
      have hcw : ∀ t, t < d.size → wr.cell? ⟨blk, off + t, none⟩ = some (.int .u64 (G t)) := fun t ht => by rw [hG]; exact HK.out.cell ho (by omega)
      have hfw : ∀ t, t < d.size → wr.frozen? ⟨blk, off + t, none⟩ = false := fun t ht => HK.out.frozen _
      have HG := Aside0.mk hG
      clear hG
      go_wp2
      go_region
      all_goals go_wp2
      go_roundw
      case rel =>
        exact ⟨i + 1, j - 1, swp dk i j, by simp, by congr 1; omega, by omega, by omega, by rw [swp_size]; exact hsk, ⟨(HK.out.drewN 1).swap ho (by omega) (by omega) (HG.out _) (HG.out _)⟩, ⟨by rw [← HO.out, Sort.reverseLoop.eq_def i j dk, if_pos hlt]⟩⟩
      case measure => simp [intOf]; omega
    · have c1 : decide ((i : Int) < j) = false := decide_eq_false (by omega)
      go_wp2
      go_end0
      exact ⟨rfl, by rw [← HO.out, Sort.reverseLoop.eq_def i j dk, if_neg hlt]; exact HK.out⟩
theorem sift_end {hi F r : Nat} (d : Array Int) (h : hi ≤ 2 * r + 1) : Sort.siftDown ltInt hi F r d = d := by rw [Sort.siftDown, dif_pos h]
/-- The greater child. -/
theorem sift_right {hi F r : Nat} (d : Array Int) (h1 : 2 * r + 2 < hi) (h2 : ltInt d[F + 2 * r + 1]! d[F + 2 * r + 2]! = true) :
    Sort.siftDown ltInt hi F r d = if ltInt d[F + r]! d[F + 2 * r + 2]! then Sort.siftDown ltInt hi F (2 * r + 2) (swp d (F + r) (F + 2 * r + 2)) else d := by
  rw [Sort.siftDown, dif_neg (by omega), show F + (2 * r + 1) + 1 = F + 2 * r + 2 by omega, show F + (2 * r + 1) = F + 2 * r + 1 by omega, show F + (2 * r + 2) = F + 2 * r + 2 by omega, h2]
  cases ltInt d[F + r]! d[F + 2 * r + 2]! <;> simp [show 2 * r + 1 + 1 < hi by omega]
theorem sift_left {hi F r : Nat} (d : Array Int) (h0 : 2 * r + 1 < hi) (h1 : 2 * r + 2 < hi → ltInt d[F + 2 * r + 1]! d[F + 2 * r + 2]! = false) :
    Sort.siftDown ltInt hi F r d = if ltInt d[F + r]! d[F + 2 * r + 1]! then Sort.siftDown ltInt hi F (2 * r + 1) (swp d (F + r) (F + 2 * r + 1)) else d := by
  rw [Sort.siftDown, dif_neg (by omega), show F + (2 * r + 1) + 1 = F + 2 * r + 2 by omega, show F + (2 * r + 1) = F + 2 * r + 1 by omega]
  by_cases h : 2 * r + 2 < hi
  · rw [h1 h]
    cases ltInt d[F + r]! d[F + 2 * r + 1]! <;> simp
  · cases ltInt d[F + r]! d[F + 2 * r + 1]! <;> simp [show ¬ 2 * r + 1 + 1 < hi by omega]
theorem sift_size {hi F : Nat} : ∀ (n r : Nat) (d : Array Int), hi - r ≤ n → (Sort.siftDown ltInt hi F r d).size = d.size := by
  intro n
  induction n with
  | zero => intro r d h; rw [sift_end d (by omega)]
  | succ n ih =>
    intro r d h
    by_cases h0 : hi ≤ 2 * r + 1
    · rw [sift_end d h0]
    · by_cases h1 : 2 * r + 2 < hi ∧ ltInt d[F + 2 * r + 1]! d[F + 2 * r + 2]! = true
      · rw [sift_right d h1.1 h1.2]
        split
        · rw [ih _ _ (by omega), swp_size]
        · rfl
      · rw [sift_left d (by omega) (fun h => by simpa [h] using h1)]
        split
        · rw [ih _ _ (by omega), swp_size]
        · rfl
set_option maxHeartbeats 8000000 in
set_option maxRecDepth 100000 in
theorem sift_calls (h : SR w W blk pre post ty d) (ho : pre.length = off) (n cap lo hi first : Nat) (hn : d.size = n) (hlo : lo ≤ hi) (hb : first + hi ≤ d.size) (hsz : d.size < 1000000000) :
    Calls Try.prog 75 #[.slice (some ⟨blk, off, none⟩) n cap, .int .i64 lo, .int .i64 hi, .int .i64 first] W fun e W' => e = .returned (.tuple #[]) ∧ SR w W' blk pre post ty (Sort.siftDown ltInt hi first lo d) := by
  subst hn
  have H := Aside0.mk h
  clear h
  go_enter Try.func75, Try.ntmps75
  go_wp2
  go_loopw [8] (fun v wr => ∃ (root : Nat) (dk : Array Int), v = .int .i64 root ∧ root ≤ hi ∧ dk.size = d.size ∧ Aside0 (SR w wr blk pre post ty dk) ∧ Aside0 (Sort.siftDown ltInt hi first root dk = Sort.siftDown ltInt hi first lo d)) (fun v _ => hi - (intOf v).toNat)
  case atStart => exact ⟨lo, d, rfl, hlo, rfl, H, ⟨rfl⟩⟩
  case round =>
    obtain ⟨root, dk, rfl, hr, hsk, HK, HO⟩ := hrel
    obtain ⟨G, hG⟩ : ∃ G : Nat → Int, ∀ t, G t = dk[t]! := ⟨fun t => dk[t]!, fun _ => rfl⟩
    have hcw : ∀ t, t < d.size → wr.cell? ⟨blk, off + t, none⟩ = some (.int .u64 (G t)) := fun t ht => by rw [hG]; exact HK.out.cell ho (by omega)
    have hfw : ∀ t, t < d.size → wr.frozen? ⟨blk, off + t, none⟩ = false := fun t ht => HK.out.frozen _
    have HG := Aside0.mk hG
    clear hG
    by_cases h0 : hi ≤ 2 * root + 1
    · have c1 : (hi : Int) ≤ 2 * (root : Int) + 1 := by omega
      go_wp2
      go_end0
      exact ⟨rfl, by rw [← HO.out, sift_end dk h0]; exact HK.out⟩
    · have c1 : ¬ ((hi : Int) ≤ 2 * (root : Int) + 1) := by omega
      by_cases h1 : 2 * root + 2 < hi
      · have h1z : 2 * (root : Int) + 1 + 1 < (hi : Int) := by omega
        go_wp2
        go_quiet (first | (go_at_call 66; refine Calls.quiet_of_same (less_calls _ _ _)))
        go_wp2
        · have hL : ltInt (G (first + 2 * root + 1)) (G (first + 2 * root + 2)) = true := by assumption
          have HK2 := Aside0.mk (HK.out.drewN nq)
          have hcw2 : ∀ t, t < d.size → (wr.drewN nq).cell? ⟨blk, off + t, none⟩ = some (.int .u64 (G t)) := hcw
          have hfw2 : ∀ t, t < d.size → (wr.drewN nq).frozen? ⟨blk, off + t, none⟩ = false := hfw
          clear hcw hfw HK
          generalize wr.drewN nq = wr2 at HK2 hcw2 hfw2 ⊢
          go_quiet (first | (go_at_call 66; refine Calls.quiet_of_same (less_calls _ _ _)))
          go_wp2
          · have hS : (!ltInt (G (first + root)) (G (first + 2 * root + 2))) = true := by assumption
            (try simp only [Exit.inBlock, Exit.then]); refine bodyPost_ret (results_none rfl _ _ _) rfl ?_
            refine ⟨rfl, ?_⟩
            rw [Bool.not_eq_true'] at hS
            rw [HG.out, HG.out] at hL hS
            rw [← HO.out, sift_right dk h1 hL, hS]
            exact HK2.out.drewN _
          · have hS : (!ltInt (G (first + root)) (G (first + 2 * root + 2))) = false := by assumption
            go_region
            all_goals go_wp2
            go_roundw
            case rel =>
              rw [Bool.not_eq_false'] at hS
              rw [HG.out, HG.out] at hL hS
              exact ⟨2 * root + 2, swp dk (first + root) (first + 2 * root + 2), by simp <;> omega, by omega, by rw [swp_size]; exact hsk, ⟨(((HK2.out.drewN _).drewN 1)).swap ho (by omega) (by omega) (HG.out _) (HG.out _)⟩, ⟨by rw [← HO.out, sift_right dk h1 hL, hS, if_pos rfl]⟩⟩
            case measure => simp [intOf]; omega
        · have hL : ltInt (G (first + 2 * root + 1)) (G (first + 2 * root + 2)) = false := by assumption
          have HK2 := Aside0.mk (HK.out.drewN nq)
          have hcw2 : ∀ t, t < d.size → (wr.drewN nq).cell? ⟨blk, off + t, none⟩ = some (.int .u64 (G t)) := hcw
          have hfw2 : ∀ t, t < d.size → (wr.drewN nq).frozen? ⟨blk, off + t, none⟩ = false := hfw
          clear hcw hfw HK
          generalize wr.drewN nq = wr2 at HK2 hcw2 hfw2 ⊢
          go_quiet (first | (go_at_call 66; refine Calls.quiet_of_same (less_calls _ _ _)))
          go_wp2
          · have hS : (!ltInt (G (first + root)) (G (first + 2 * root + 1))) = true := by assumption
            (try simp only [Exit.inBlock, Exit.then]); refine bodyPost_ret (results_none rfl _ _ _) rfl ?_
            refine ⟨rfl, ?_⟩
            rw [Bool.not_eq_true'] at hS
            rw [HG.out, HG.out] at hL hS
            rw [← HO.out, sift_left dk (by omega) (fun _ => hL), hS]
            exact HK2.out.drewN _
          · have hS : (!ltInt (G (first + root)) (G (first + 2 * root + 1))) = false := by assumption
            go_region
            all_goals go_wp2
            go_roundw
            case rel =>
              rw [Bool.not_eq_false'] at hS
              rw [HG.out, HG.out] at hL hS
              exact ⟨2 * root + 1, swp dk (first + root) (first + 2 * root + 1), by simp <;> omega, by omega, by rw [swp_size]; exact hsk, ⟨(((HK2.out.drewN _).drewN 1)).swap ho (by omega) (by omega) (HG.out _) (HG.out _)⟩, ⟨by rw [← HO.out, sift_left dk (by omega) (fun _ => hL), hS, if_pos rfl]⟩⟩
            case measure => simp [intOf]; omega
      · have h1z : decide (2 * (root : Int) + 1 + 1 < (hi : Int)) = false := decide_eq_false (by omega)
        go_wp2
        go_quiet (first | (go_at_call 66; refine Calls.quiet_of_same (less_calls _ _ _)))
        go_wp2
        have HK2 := Aside0.mk (HK.out.drewN nq)
        have hcw2 : ∀ t, t < d.size → (wr.drewN nq).cell? ⟨blk, off + t, none⟩ = some (.int .u64 (G t)) := hcw
        have hfw2 : ∀ t, t < d.size → (wr.drewN nq).frozen? ⟨blk, off + t, none⟩ = false := hfw
        clear hcw hfw HK
        generalize wr.drewN nq = wr2 at HK2 hcw2 hfw2 ⊢
        go_quiet (first | (go_at_call 66; refine Calls.quiet_of_same (less_calls _ _ _)))
        go_wp2
        · have hS : (!ltInt (G (first + root)) (G (first + 2 * root + 1))) = true := by assumption
          (try simp only [Exit.inBlock, Exit.then]); refine bodyPost_ret (results_none rfl _ _ _) rfl ?_
          refine ⟨rfl, ?_⟩
          rw [Bool.not_eq_true'] at hS
          rw [HG.out, HG.out] at hS
          rw [← HO.out, sift_left dk (by omega) (fun h => absurd h h1), hS]
          exact HK2.out.drewN _
        · have hS : (!ltInt (G (first + root)) (G (first + 2 * root + 1))) = false := by assumption
          go_region
          all_goals go_wp2
          go_roundw
          case rel =>
            rw [Bool.not_eq_false'] at hS
            rw [HG.out, HG.out] at hS
            exact ⟨2 * root + 1, swp dk (first + root) (first + 2 * root + 1), by simp <;> omega, by omega, by rw [swp_size]; exact hsk, ⟨(((HK2.out.drewN _).drewN 1)).swap ho (by omega) (by omega) (HG.out _) (HG.out _)⟩, ⟨by rw [← HO.out, sift_left dk (by omega) (fun h => absurd h h1), hS, if_pos rfl]⟩⟩
          case measure => simp [intOf]; omega
end Go.Proofs.Ytkppgepljjgjhaa.P

namespace Go.Proofs.Ytkppgepljjgjhaa.P
open Go.RowKit Go.Proofs.YtkppgepljjgjhaaW.PrintWords Go.Proofs.YtkppgepljjgjhaaW.PrintLast
open Go.Sort (ltInt swp)
set_option linter.unusedVariables false
set_option linter.unusedSimpArgs false
variable {w W : World} {blk off : Nat} {pre post : List Value} {ty : TypeId} {d : Array Int}
set_option maxHeartbeats 4000000 in
set_option maxRecDepth 100000 in
theorem heap_calls (h : SR w W blk pre post ty d) (ho : pre.length = off) (cap a b : Nat) (hab : a < b) (hb : b ≤ d.size) (hsz : d.size < 1000000000) :
    Calls Try.prog 61 #[.slice (some ⟨blk, off, none⟩) d.size cap, .int .i64 a, .int .i64 b] W fun e W' => e = .returned (.tuple #[]) ∧ SR w W' blk pre post ty (Sort.heapSort ltInt d a b) := by
  have H := Aside0.mk h
  clear h
  obtain ⟨hi, hhi⟩ : ∃ hi : Nat, hi = b - a := ⟨_, rfl⟩
  have hi1 : 1 ≤ hi := by omega
  have hi2 : a + hi ≤ d.size := by omega
  have e2 := Aside0.mk (show ((hi : Int) - 1) / 2 = (((hi - 1) / 2 + 1 : Nat) : Int) - 1 by omega)
  have HS : Sort.heapSort ltInt d a b = Sort.heapPop ltInt a hi (Sort.heapBuild ltInt hi a ((hi - 1) / 2 + 1) d) := by rw [hhi]; rfl
  have HS := Aside0.mk HS
  have HH := Aside0.mk hhi
  have HJ := Aside0.mk (show (b : Int) - (a : Int) = (hi : Int) by omega)
  clear hhi
  go_enter Try.func61, Try.ntmps61
  go_wp2
  first | rw [HJ.out] | rw [← HH.out]
  obtain ⟨Y, eY⟩ : ∃ Y : Int, (hi : Int) - 1 = Y := ⟨_, rfl⟩
  rw [eY] at e2 ⊢
  have EY := Aside0.mk eY
  clear eY
  generalize Y / 2 = X at e2 ⊢
  go_loopw [9] (fun v wr => ∃ (k : Nat) (dk : Array Int), v = .int .i64 ((k : Int) - 1) ∧ k ≤ (hi - 1) / 2 + 1 ∧ dk.size = d.size ∧ Aside0 (SR w wr blk pre post ty dk) ∧ Aside0 (Sort.heapBuild ltInt hi a k dk = Sort.heapBuild ltInt hi a ((hi - 1) / 2 + 1) d)) (fun v _ => (intOf v + 1).toNat)
  case atStart => exact ⟨_, d, by rw [e2.out], Nat.le_refl _, rfl, H, ⟨rfl⟩⟩
  case round =>
    obtain ⟨k, dk, rfl, hk, hsk, HK, HO⟩ := hrel
    cases k with
    | succ k =>
      have q : (((k + 1 : Nat) : Int) - 1) = (k : Int) := by omega
      rw [q]
      have c1 : decide ((0 : Int) ≤ (k : Int)) = true := decide_eq_true (by omega)
      have SD := Aside0.mk (sift_calls HK.out ho d.size cap k hi a hsk (by omega) (by omega) (by omega))
      go_wp2_with (first | (go_at_call 75; refine SD.out.mono ?_; rintro e w' ⟨rfl, h2⟩; have H2 := Aside0.mk h2; clear h2) | fail)
      go_roundw
      case rel => exact ⟨k, _, rfl, by omega, by rw [sift_size _ _ _ (Nat.le_refl _)]; exact hsk, H2, ⟨HO.out⟩⟩
      case measure => simp [intOf]
    | zero =>
      have c1 : decide ((0 : Int) ≤ (((0 : Nat) : Int) - 1)) = false := by decide
      generalize (((0 : Nat) : Int) - 1) = Z at c1 ⊢
      have HB := Aside0.mk (show SR w wr blk pre post ty (Sort.heapBuild ltInt hi a ((hi - 1) / 2 + 1) d) by rw [← HO.out]; exact HK.out)
      have HZ := Aside0.mk (show (Sort.heapBuild ltInt hi a ((hi - 1) / 2 + 1) d).size = d.size by rw [← HO.out]; exact hsk)
      clear HK HO
      generalize Sort.heapBuild ltInt hi a ((hi - 1) / 2 + 1) d = d0 at HB HS HZ
      go_wp2
      rw [EY.out]
      go_loopw [10] (fun v wr => ∃ (k : Nat) (dk : Array Int), v = .int .i64 ((k : Int) - 1) ∧ k ≤ hi ∧ dk.size = d.size ∧ Aside0 (SR w wr blk pre post ty dk) ∧ Aside0 (Sort.heapPop ltInt a k dk = Sort.heapPop ltInt a hi d0)) (fun v _ => (intOf v + 1).toNat)
      case atStart => exact ⟨hi, d0, by rw [EY.out], Nat.le_refl _, HZ.out, HB, ⟨rfl⟩⟩
      case round =>
        obtain ⟨k, dk, rfl, hk, hsk, HK, HO⟩ := hrel
        cases k with
        | succ k =>
          have q : (((k + 1 : Nat) : Int) - 1) = (k : Int) := by omega
          rw [q]
          have c2 : decide ((0 : Int) ≤ (k : Int)) = true := decide_eq_true (by omega)
          obtain ⟨G, hG⟩ : ∃ G : Nat → Int, ∀ t, G t = dk[t]! := ⟨fun t => dk[t]!, fun _ => rfl⟩
          have hcw : ∀ t, t < d.size → wr.cell? ⟨blk, off + t, none⟩ = some (.int .u64 (G t)) := fun t ht => by rw [hG]; exact HK.out.cell ho (by omega)
          have hfw : ∀ t, t < d.size → wr.frozen? ⟨blk, off + t, none⟩ = false := fun t ht => HK.out.frozen _
          have hst : ∀ u, (wr.setCell ⟨blk, off + a, none⟩ u).cell? ⟨blk, off + (a + k), none⟩ = some (if k = 0 then u else .int .u64 (G (a + k))) := fun u => by
            by_cases e : k = 0
            · subst e; rw [if_pos rfl]; exact World.cell?_setCell_same _ _ _ (hcw a (by omega))
            · rw [if_neg e]; exact (World.cell?_setCell_other _ _ _ _ (by simp [e])).trans (hcw _ (by omega))
          have HG := Aside0.mk hG
          clear hG
          go_wp2
          go_region
          all_goals
            have H3 := Aside0.mk (((HK.out.drewN 1).swap ho (i := a) (j := a + k) (by omega) (by omega) (HG.out _) (HG.out _)))
            have SD := Aside0.mk (sift_calls H3.out ho d.size cap 0 k a (by rw [swp_size]; exact hsk) (by omega) (by rw [swp_size]; omega) (by rw [swp_size]; omega))
            go_wp2_with (first | (go_at_call 75; refine SD.out.mono ?_; rintro e w' ⟨rfl, h2⟩; have H2 := Aside0.mk h2; clear h2) | fail)
          go_roundw
          case rel => exact ⟨k, _, rfl, by omega, by rw [sift_size _ _ _ (Nat.le_refl _), swp_size]; exact hsk, H2, ⟨HO.out⟩⟩
          case measure => simp [intOf]
        | zero =>
          have c2 : decide ((0 : Int) ≤ (((0 : Nat) : Int) - 1)) = false := by decide
          go_wp2
          go_end0
          exact ⟨rfl, by rw [HS.out, ← HO.out]; exact HK.out⟩
end Go.Proofs.Ytkppgepljjgjhaa.P
