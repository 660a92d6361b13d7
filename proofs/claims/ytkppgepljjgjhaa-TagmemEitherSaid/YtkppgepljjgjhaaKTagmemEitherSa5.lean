/- partialInsertionSortOrdered at uint64. No condition. -/
import Derived.Test.YtkppgepljjgjhaaKTagmemEitherSa0
namespace Go.Proofs.Ytkppgepljjgjhaa.P
open Go.RowKit Go.Proofs.YtkppgepljjgjhaaW.PrintWords Go.Proofs.YtkppgepljjgjhaaW.PrintLast
open Go.Sort (ltInt swp)
set_option linter.unusedVariables false
set_option linter.unusedSimpArgs false
variable {w W : World} {blk off : Nat} {pre post : List Value} {ty : TypeId} {d : Array Int}
theorem sorted_facts (b : Nat) (d : Array Int) : ∀ (n i : Nat), b - i = n → i ≤ b → (i ≤ Sort.scanSorted ltInt d b i ∧ Sort.scanSorted ltInt d b i ≤ b) ∧ (∀ t, i ≤ t → t < Sort.scanSorted ltInt d b i → ltInt d[t]! d[t - 1]! = false) ∧ (Sort.scanSorted ltInt d b i < b → ltInt d[Sort.scanSorted ltInt d b i]! d[Sort.scanSorted ltInt d b i - 1]! = true) := by
  intro n
  induction n with
  | zero =>
    intro i hn hi
    have : ¬ i < b := by omega
    rw [Sort.scanSorted, if_neg (by simp [this])]
    exact ⟨⟨Nat.le_refl _, hi⟩, fun t h1 h2 => by omega, fun h => by omega⟩
  | succ n ih =>
    intro i hn hi
    rw [Sort.scanSorted]
    by_cases c : (decide (i < b) && !ltInt d[i]! d[i - 1]!) = true
    · rw [if_pos c]
      obtain ⟨h1, h2, h3⟩ := ih (i + 1) (by omega) (by omega)
      simp only [Bool.and_eq_true, decide_eq_true_eq, Bool.not_eq_true'] at c
      refine ⟨⟨by omega, h1.2⟩, fun t a b => ?_, h3⟩
      rcases Nat.lt_or_ge i t with e | e
      · exact h2 t e b
      · obtain rfl : t = i := by omega
        exact c.2
    · rw [if_neg c]
      simp only [Bool.and_eq_true, decide_eq_true_eq, not_and, Bool.not_eq_true', Bool.not_eq_false] at c
      exact ⟨⟨Nat.le_refl _, hi⟩, fun t h1 h2 => by omega, c⟩
theorem down_go {j : Nat} {d : Array Int} (hj : 1 ≤ j) (h : ltInt d[j]! d[j - 1]! = true) : Sort.shiftDown ltInt j d = Sort.shiftDown ltInt (j - 1) (swp d j (j - 1)) := by
  cases j with
  | zero => omega
  | succ k =>
    rw [Nat.add_sub_cancel] at h ⊢
    rw [Sort.shiftDown, h]; rfl
theorem down_end {j : Nat} {d : Array Int} (h : j = 0 ∨ ltInt d[j]! d[j - 1]! = false) : Sort.shiftDown ltInt j d = d := by
  cases j with
  | zero => rfl
  | succ k =>
    rcases h with h | h
    · cases h
    · rw [Nat.add_sub_cancel] at h
      rw [Sort.shiftDown, h]; rfl
theorem up_go {b j : Nat} {d : Array Int} (hj : j < b) (h : ltInt d[j]! d[j - 1]! = true) : Sort.shiftUp ltInt b j d = Sort.shiftUp ltInt b (j + 1) (swp d j (j - 1)) := by
  rw [Sort.shiftUp, if_pos hj, h]; rfl
theorem up_end {b j : Nat} {d : Array Int} (h : ¬ j < b ∨ ltInt d[j]! d[j - 1]! = false) : Sort.shiftUp ltInt b j d = d := by
  rw [Sort.shiftUp]
  rcases h with h | h
  · rw [if_neg h]
  · rw [h]; split <;> rfl
set_option maxHeartbeats 16000000 in
set_option maxRecDepth 100000 in
theorem partial_calls (h : SR w W blk pre post ty d) (ho : pre.length = off) (cap a b : Nat) (hab : a < b) (hb : b ≤ d.size) (hsz : d.size < 1000000000) :
    Calls Try.prog 65 #[.slice (some ⟨blk, off, none⟩) d.size cap, .int .i64 a, .int .i64 b] W fun e W' => e = .returned (.bool (Sort.partialInsertionSort ltInt d a b).2) ∧ SR w W' blk pre post ty (Sort.partialInsertionSort ltInt d a b).1 := by
  have H := Aside0.mk h
  clear h
  go_enter Try.func65, Try.ntmps65
  go_wp2
  go_loopw [7, 8] (fun v u wr => ∃ (i s : Nat) (dk : Array Int), v = .int .i64 i ∧ u = .int .i64 s ∧ s ≤ 5 ∧ a < i ∧ i ≤ b ∧ dk.size = d.size ∧ Aside0 (SR w wr blk pre post ty dk) ∧ Aside0 (Sort.partialIns ltInt a b (5 - s) i dk = Sort.partialInsertionSort ltInt d a b)) (fun _ u _ => 5 - (intOf u).toNat)
  case atStart => exact ⟨a + 1, 0, d, by simp, rfl, by omega, by omega, by omega, rfl, H, ⟨rfl⟩⟩
  case round =>
    obtain ⟨i, s, dk, rfl, rfl, hs, hai, hib, hsk, HK, HO⟩ := hrel
    by_cases cs : s < 5
    · have c0 : decide ((s : Int) < 5) = true := decide_eq_true (by omega)
      obtain ⟨G, hG⟩ : ∃ G : Nat → Int, ∀ t, G t = dk[t]! := ⟨fun t => dk[t]!, fun _ => rfl⟩
      have HG := Aside0.mk hG
      clear hG
      obtain ⟨F1, F2, F3⟩ := sorted_facts b dk _ i rfl hib
      obtain ⟨i2, ei2⟩ : ∃ i2, i2 = Sort.scanSorted ltInt dk b i := ⟨_, rfl⟩
      rw [← ei2] at F1 F2 F3
      have FF := Aside0.mk F1
      have EI := Aside0.mk ei2
      have UP := Aside0.mk (show ∀ t, i ≤ t → t < i2 → ltInt (G t) (G (t - 1)) = false from fun t h1 h2 => by have := F2 t h1 h2; simp only [HG.out]; simpa using this)
      have US := Aside0.mk (show i2 < b → ltInt (G i2) (G (i2 - 1)) = true from fun h => by have := F3 h; simp only [HG.out]; simpa using this)
      clear F2 F3 ei2
      have ES : 5 - s = (4 - s) + 1 := by omega
      go_wp2
      by_cases pA : i2 < b
      · have c3 : ((i2 : Int) == (b : Int)) = false := by simp; omega
        by_cases c50 : b - a < 50
        · have c4 : decide ((b : Int) - a < 50) = true := decide_eq_true (by omega)
          have R := Aside0.mk (show Sort.partialInsertionSort ltInt d a b = (dk, false) by rw [← HO.out, ES, Sort.partialIns]; simp only; rw [← EI.out, if_neg (by omega), if_pos c50])
          clear F1
          go_loopw [7] (fun v wr => ∃ i' : Nat, v = .int .i64 i' ∧ i ≤ i' ∧ i' ≤ i2 ∧ Aside0 (SR w wr blk pre post ty dk)) (fun v _ => i2 - (intOf v).toNat)
          case atStart => exact ⟨i, rfl, Nat.le_refl _, FF.out.1, HK⟩
          case round =>
            obtain ⟨i', rfl, hi1, hi2, HU⟩ := hrel
            have hcw : ∀ t, t < d.size → wr.cell? ⟨blk, off + t, none⟩ = some (.int .u64 (G t)) := fun t ht => by rw [HG.out]; exact HU.out.cell ho (by omega)
            have hfw : ∀ t, t < d.size → wr.frozen? ⟨blk, off + t, none⟩ = false := fun t ht => HU.out.frozen _
            by_cases hlt : i' < i2
            · have c : i' < b := by have := FF.out.2; omega
              have q : ltInt (G i') (G (i' - 1)) = false := UP.out i' hi1 hlt
              go_wp2
              go_quiet (first | (go_at_call 66; refine Calls.quiet_of_same (less_calls _ _ _)))
              go_wp2
              go_roundw
              case rel => exact ⟨i' + 1, by simp, by omega, by omega, ⟨HU.out.drewN _⟩⟩
              case measure => simp [intOf]; omega
            · obtain rfl : i' = i2 := by omega
              clear hlt hi2
              have q : ltInt (G i') (G (i' - 1)) = true := US.out pA
              go_wp2
              go_quiet (first | (go_at_call 66; refine Calls.quiet_of_same (less_calls _ _ _)))
              go_wp2
              clear q
              have HZ := Aside0.mk (HU.out.drewN nq)
              clear hcw hfw HU
              generalize wr.drewN nq = wz at HZ ⊢
              obtain ⟨i2, ei⟩ : ∃ i2, i2 = i' := ⟨_, rfl⟩
              subst ei
              go_ret
              exact ⟨by first | (rw [R.out]; done) | (rw [R.out]; rfl), by simp only [R.out]; exact HZ.out⟩
        · have c4 : decide ((b : Int) - a < 50) = false := decide_eq_false (by omega)
          have STEP := Aside0.mk (show Sort.partialIns ltInt a b (5 - s) i dk = Sort.partialIns ltInt a b (5 - (s + 1)) i2 (if b - i2 ≥ 2 then Sort.shiftUp ltInt b (i2 + 1) (if i2 - a ≥ 2 then Sort.shiftDown ltInt (i2 - 1) (swp dk i2 (i2 - 1)) else swp dk i2 (i2 - 1)) else (if i2 - a ≥ 2 then Sort.shiftDown ltInt (i2 - 1) (swp dk i2 (i2 - 1)) else swp dk i2 (i2 - 1))) by rw [ES, Sort.partialIns]; simp only; rw [← EI.out, if_neg (by omega), if_neg c50, show 5 - (s + 1) = 4 - s by omega])
          have hi2 : a < i2 := by omega
          clear F1
          by_cases ca : i2 - a ≥ 2
          · have c5 : decide ((2 : Int) ≤ (i2 : Int) - a) = true := decide_eq_true (by omega)
            by_cases cb : b - i2 ≥ 2
            · have c6 : decide ((2 : Int) ≤ (b : Int) - i2) = true := decide_eq_true (by omega)
              have CA := Aside0.mk ca
              have CB := Aside0.mk cb
              clear ca cb
              go_loopw [7] (fun v wr => ∃ i' : Nat, v = .int .i64 i' ∧ i ≤ i' ∧ i' ≤ i2 ∧ Aside0 (SR w wr blk pre post ty dk)) (fun v _ => i2 - (intOf v).toNat)
              case atStart => exact ⟨i, rfl, Nat.le_refl _, FF.out.1, HK⟩
              case round =>
                obtain ⟨i', rfl, hi1, hi2, HU⟩ := hrel
                have hcw : ∀ t, t < d.size → wr.cell? ⟨blk, off + t, none⟩ = some (.int .u64 (G t)) := fun t ht => by rw [HG.out]; exact HU.out.cell ho (by omega)
                have hfw : ∀ t, t < d.size → wr.frozen? ⟨blk, off + t, none⟩ = false := fun t ht => HU.out.frozen _
                by_cases hlt : i' < i2
                · have c : i' < b := by have := FF.out.2; omega
                  have q : ltInt (G i') (G (i' - 1)) = false := UP.out i' hi1 hlt
                  go_wp2
                  go_quiet (first | (go_at_call 66; refine Calls.quiet_of_same (less_calls _ _ _)))
                  go_wp2
                  go_roundw
                  case rel => exact ⟨i' + 1, by simp, by omega, by omega, ⟨HU.out.drewN _⟩⟩
                  case measure => simp [intOf]; omega
                · obtain rfl : i' = i2 := by omega
                  clear hlt hi2
                  have q : ltInt (G i') (G (i' - 1)) = true := US.out pA
                  go_wp2
                  go_quiet (first | (go_at_call 66; refine Calls.quiet_of_same (less_calls _ _ _)))
                  go_wp2
                  clear q
                  have HZ := Aside0.mk (HU.out.drewN nq)
                  clear hcw hfw HU
                  generalize wr.drewN nq = wz at HZ ⊢
                  obtain ⟨i2, ei⟩ : ∃ i2, i2 = i' := ⟨_, rfl⟩
                  subst ei
                  have hcw : ∀ t, t < d.size → wz.cell? ⟨blk, off + t, none⟩ = some (.int .u64 (G t)) := fun t ht => by rw [HG.out]; exact HZ.out.cell ho (by omega)
                  have hfw : ∀ t, t < d.size → wz.frozen? ⟨blk, off + t, none⟩ = false := fun t ht => HZ.out.frozen _
                  have hb2 : i2 < d.size := by omega
                  have hb3 : 1 ≤ i2 := by omega
                  have hb4 : i2 - 1 < d.size := by omega
                  go_region
                  all_goals go_wp2
                  have HX := Aside0.mk ((HZ.out.drewN 1).swap ho (i := i2) (j := i2 - 1) (by omega) (by omega) (HG.out _) (HG.out _))
                  have hsx : (swp dk i2 (i2 - 1)).size = d.size := by rw [swp_size]; exact hsk
                  clear hcw hfw HZ UP US HK HG
                  obtain ⟨D1, eD1⟩ : ∃ D1, D1 = swp dk i2 (i2 - 1) := ⟨_, rfl⟩
                  rw [← eD1] at HX hsx
                  have ED1 := Aside0.mk eD1
                  clear eD1
                  go_loopw [9] (fun v wr => ∃ (j : Nat) (dj : Array Int), v = .int .i64 j ∧ j ≤ i2 - 1 ∧ dj.size = d.size ∧ Aside0 (SR w wr blk pre post ty dj) ∧ Aside0 (Sort.shiftDown ltInt j dj = Sort.shiftDown ltInt (i2 - 1) D1)) (fun v _ => (intOf v).toNat)
                  case atStart => exact ⟨i2 - 1, D1, by first | rfl | (congr 1 <;> omega), Nat.le_refl _, hsx, HX, ⟨rfl⟩⟩
                  case round =>
                    clear HX hsx
                    obtain ⟨j, D2, rfl, hj2, hs2, HJ, HS⟩ := hrel
                    obtain ⟨G, hG⟩ : ∃ G : Nat → Int, ∀ t, G t = D2[t]! := ⟨fun t => D2[t]!, fun _ => rfl⟩
                    have HG := Aside0.mk hG
                    clear hG
                    have hcw : ∀ t, t < d.size → wr.cell? ⟨blk, off + t, none⟩ = some (.int .u64 (G t)) := fun t ht => by rw [HG.out]; exact HJ.out.cell ho (by omega)
                    have hfw : ∀ t, t < d.size → wr.frozen? ⟨blk, off + t, none⟩ = false := fun t ht => HJ.out.frozen _
                    by_cases cj : 1 ≤ j
                    · have c2 : decide ((1 : Int) ≤ (j : Int)) = true := decide_eq_true (by omega)
                      go_wp2
                      go_quiet (first | (go_at_call 66; refine Calls.quiet_of_same (less_calls _ _ _)))
                      go_wp2
                      · have q : (!ltInt (G j) (G (j - 1))) = true := by assumption
                        have q2 : ltInt D2[j]! D2[j - 1]! = false := by rw [← HG.out, ← HG.out]; simpa using q
                        have HX := Aside0.mk (HJ.out.drewN nq)
                        have HD := Aside0.mk (show (if i2 - a ≥ 2 then Sort.shiftDown ltInt (i2 - 1) (swp dk i2 (i2 - 1)) else swp dk i2 (i2 - 1)) = D2 by rw [if_pos CA.out, ← ED1.out, ← HS.out, down_end (.inr q2)])
                        clear HS HG hcw hfw HJ hj2
                        clear q q2 c2 cj
                        generalize wr.drewN nq = wx at HX ⊢
                        go_loopw [10] (fun v wr => ∃ (j : Nat) (dj : Array Int), v = .int .i64 j ∧ i2 + 1 ≤ j ∧ j ≤ b ∧ dj.size = d.size ∧ Aside0 (SR w wr blk pre post ty dj) ∧ Aside0 (Sort.shiftUp ltInt b j dj = Sort.shiftUp ltInt b (i2 + 1) D2)) (fun v _ => b - (intOf v).toNat)
                        case atStart => exact ⟨i2 + 1, D2, by simp, Nat.le_refl _, by have := CB.out; omega, hs2, HX, ⟨rfl⟩⟩
                        case round =>
                          clear HX hs2
                          obtain ⟨j, dj, rfl, hj1, hj2, hsj, HJ, HS⟩ := hrel
                          obtain ⟨G, hG⟩ : ∃ G : Nat → Int, ∀ t, G t = dj[t]! := ⟨fun t => dj[t]!, fun _ => rfl⟩
                          have HG := Aside0.mk hG
                          clear hG
                          have hcw : ∀ t, t < d.size → wr.cell? ⟨blk, off + t, none⟩ = some (.int .u64 (G t)) := fun t ht => by rw [HG.out]; exact HJ.out.cell ho (by omega)
                          have hfw : ∀ t, t < d.size → wr.frozen? ⟨blk, off + t, none⟩ = false := fun t ht => HJ.out.frozen _
                          by_cases cj : j < b
                          · have c2 : decide ((j : Int) < b) = true := decide_eq_true (by omega)
                            go_wp2
                            go_quiet (first | (go_at_call 66; refine Calls.quiet_of_same (less_calls _ _ _)))
                            go_wp2
                            · have q : (!ltInt (G j) (G (j - 1))) = true := by assumption
                              have q2 : ltInt dj[j]! dj[j - 1]! = false := by rw [← HG.out, ← HG.out]; simpa using q
                              have HX := Aside0.mk (HJ.out.drewN nq)
                              have HE := Aside0.mk (show (if b - i2 ≥ 2 then Sort.shiftUp ltInt b (i2 + 1) D2 else D2) = dj by rw [if_pos CB.out, ← HS.out, up_end (.inr q2)])
                              go_roundw
                              case rel => exact ⟨i2, s + 1, dj, rfl, by simp, by omega, by omega, by omega, hsj, HX, ⟨by rw [← HO.out, STEP.out, HD.out, HE.out]⟩⟩
                              case measure => simp [intOf]; omega
                            · have q : (!ltInt (G j) (G (j - 1))) = false := by assumption
                              have q2 : ltInt dj[j]! dj[j - 1]! = true := by rw [← HG.out, ← HG.out]; simpa using q
                              go_region
                              all_goals go_wp2
                              go_roundw
                              case rel => exact ⟨j + 1, swp dj j (j - 1), by simp, by omega, by omega, by rw [swp_size]; exact hsj, ⟨((HJ.out.drewN _).drewN 1).swap ho (by omega) (by omega) (HG.out _) (HG.out _)⟩, ⟨by rw [← HS.out, up_go cj q2]⟩⟩
                              case measure => simp [intOf]; omega
                          · have c2 : decide ((j : Int) < b) = false := decide_eq_false (by omega)
                            go_wp2
                            have HX := HJ
                            have HE := Aside0.mk (show (if b - i2 ≥ 2 then Sort.shiftUp ltInt b (i2 + 1) D2 else D2) = dj by rw [if_pos CB.out, ← HS.out, up_end (.inl cj)])
                            go_roundw
                            case rel => exact ⟨i2, s + 1, dj, rfl, by simp, by omega, by omega, by omega, hsj, HX, ⟨by rw [← HO.out, STEP.out, HD.out, HE.out]⟩⟩
                            case measure => simp [intOf]; omega
                      · have q : (!ltInt (G j) (G (j - 1))) = false := by assumption
                        have q2 : ltInt D2[j]! D2[j - 1]! = true := by rw [← HG.out, ← HG.out]; simpa using q
                        go_region
                        all_goals go_wp2
                        go_roundw
                        case rel => exact ⟨j - 1, swp D2 j (j - 1), by first | rfl | (congr 1 <;> omega), by omega, by rw [swp_size]; exact hs2, ⟨((HJ.out.drewN _).drewN 1).swap ho (by omega) (by omega) (HG.out _) (HG.out _)⟩, ⟨by rw [← HS.out, down_go cj q2]⟩⟩
                        case measure => simp [intOf]; omega
                    · have c2 : decide ((1 : Int) ≤ (j : Int)) = false := decide_eq_false (by omega)
                      go_wp2
                      have HX := HJ
                      have HD := Aside0.mk (show (if i2 - a ≥ 2 then Sort.shiftDown ltInt (i2 - 1) (swp dk i2 (i2 - 1)) else swp dk i2 (i2 - 1)) = D2 by rw [if_pos CA.out, ← ED1.out, ← HS.out, down_end (.inl (by omega))])
                      clear HS HG hcw hfw HJ hj2
                      clear c2 cj
                      go_loopw [10] (fun v wr => ∃ (j : Nat) (dj : Array Int), v = .int .i64 j ∧ i2 + 1 ≤ j ∧ j ≤ b ∧ dj.size = d.size ∧ Aside0 (SR w wr blk pre post ty dj) ∧ Aside0 (Sort.shiftUp ltInt b j dj = Sort.shiftUp ltInt b (i2 + 1) D2)) (fun v _ => b - (intOf v).toNat)
                      case atStart => exact ⟨i2 + 1, D2, by simp, Nat.le_refl _, by have := CB.out; omega, hs2, HX, ⟨rfl⟩⟩
                      case round =>
                        clear HX hs2
                        obtain ⟨j, dj, rfl, hj1, hj2, hsj, HJ, HS⟩ := hrel
                        obtain ⟨G, hG⟩ : ∃ G : Nat → Int, ∀ t, G t = dj[t]! := ⟨fun t => dj[t]!, fun _ => rfl⟩
                        have HG := Aside0.mk hG
                        clear hG
                        have hcw : ∀ t, t < d.size → wr.cell? ⟨blk, off + t, none⟩ = some (.int .u64 (G t)) := fun t ht => by rw [HG.out]; exact HJ.out.cell ho (by omega)
                        have hfw : ∀ t, t < d.size → wr.frozen? ⟨blk, off + t, none⟩ = false := fun t ht => HJ.out.frozen _
                        by_cases cj : j < b
                        · have c2 : decide ((j : Int) < b) = true := decide_eq_true (by omega)
                          go_wp2
                          go_quiet (first | (go_at_call 66; refine Calls.quiet_of_same (less_calls _ _ _)))
                          go_wp2
                          · have q : (!ltInt (G j) (G (j - 1))) = true := by assumption
                            have q2 : ltInt dj[j]! dj[j - 1]! = false := by rw [← HG.out, ← HG.out]; simpa using q
                            have HX := Aside0.mk (HJ.out.drewN nq)
                            have HE := Aside0.mk (show (if b - i2 ≥ 2 then Sort.shiftUp ltInt b (i2 + 1) D2 else D2) = dj by rw [if_pos CB.out, ← HS.out, up_end (.inr q2)])
                            go_roundw
                            case rel => exact ⟨i2, s + 1, dj, rfl, by simp, by omega, by omega, by omega, hsj, HX, ⟨by rw [← HO.out, STEP.out, HD.out, HE.out]⟩⟩
                            case measure => simp [intOf]; omega
                          · have q : (!ltInt (G j) (G (j - 1))) = false := by assumption
                            have q2 : ltInt dj[j]! dj[j - 1]! = true := by rw [← HG.out, ← HG.out]; simpa using q
                            go_region
                            all_goals go_wp2
                            go_roundw
                            case rel => exact ⟨j + 1, swp dj j (j - 1), by simp, by omega, by omega, by rw [swp_size]; exact hsj, ⟨((HJ.out.drewN _).drewN 1).swap ho (by omega) (by omega) (HG.out _) (HG.out _)⟩, ⟨by rw [← HS.out, up_go cj q2]⟩⟩
                            case measure => simp [intOf]; omega
                        · have c2 : decide ((j : Int) < b) = false := decide_eq_false (by omega)
                          go_wp2
                          have HX := HJ
                          have HE := Aside0.mk (show (if b - i2 ≥ 2 then Sort.shiftUp ltInt b (i2 + 1) D2 else D2) = dj by rw [if_pos CB.out, ← HS.out, up_end (.inl cj)])
                          go_roundw
                          case rel => exact ⟨i2, s + 1, dj, rfl, by simp, by omega, by omega, by omega, hsj, HX, ⟨by rw [← HO.out, STEP.out, HD.out, HE.out]⟩⟩
                          case measure => simp [intOf]; omega
            · have c6 : decide ((2 : Int) ≤ (b : Int) - i2) = false := decide_eq_false (by omega)
              have CA := Aside0.mk ca
              have CB := Aside0.mk cb
              clear ca cb
              go_loopw [7] (fun v wr => ∃ i' : Nat, v = .int .i64 i' ∧ i ≤ i' ∧ i' ≤ i2 ∧ Aside0 (SR w wr blk pre post ty dk)) (fun v _ => i2 - (intOf v).toNat)
              case atStart => exact ⟨i, rfl, Nat.le_refl _, FF.out.1, HK⟩
              case round =>
                obtain ⟨i', rfl, hi1, hi2, HU⟩ := hrel
                have hcw : ∀ t, t < d.size → wr.cell? ⟨blk, off + t, none⟩ = some (.int .u64 (G t)) := fun t ht => by rw [HG.out]; exact HU.out.cell ho (by omega)
                have hfw : ∀ t, t < d.size → wr.frozen? ⟨blk, off + t, none⟩ = false := fun t ht => HU.out.frozen _
                by_cases hlt : i' < i2
                · have c : i' < b := by have := FF.out.2; omega
                  have q : ltInt (G i') (G (i' - 1)) = false := UP.out i' hi1 hlt
                  go_wp2
                  go_quiet (first | (go_at_call 66; refine Calls.quiet_of_same (less_calls _ _ _)))
                  go_wp2
                  go_roundw
                  case rel => exact ⟨i' + 1, by simp, by omega, by omega, ⟨HU.out.drewN _⟩⟩
                  case measure => simp [intOf]; omega
                · obtain rfl : i' = i2 := by omega
                  clear hlt hi2
                  have q : ltInt (G i') (G (i' - 1)) = true := US.out pA
                  go_wp2
                  go_quiet (first | (go_at_call 66; refine Calls.quiet_of_same (less_calls _ _ _)))
                  go_wp2
                  clear q
                  have HZ := Aside0.mk (HU.out.drewN nq)
                  clear hcw hfw HU
                  generalize wr.drewN nq = wz at HZ ⊢
                  obtain ⟨i2, ei⟩ : ∃ i2, i2 = i' := ⟨_, rfl⟩
                  subst ei
                  have hcw : ∀ t, t < d.size → wz.cell? ⟨blk, off + t, none⟩ = some (.int .u64 (G t)) := fun t ht => by rw [HG.out]; exact HZ.out.cell ho (by omega)
                  have hfw : ∀ t, t < d.size → wz.frozen? ⟨blk, off + t, none⟩ = false := fun t ht => HZ.out.frozen _
                  have hb2 : i2 < d.size := by omega
                  have hb3 : 1 ≤ i2 := by omega
                  have hb4 : i2 - 1 < d.size := by omega
                  go_region
                  all_goals go_wp2
                  have HX := Aside0.mk ((HZ.out.drewN 1).swap ho (i := i2) (j := i2 - 1) (by omega) (by omega) (HG.out _) (HG.out _))
                  have hsx : (swp dk i2 (i2 - 1)).size = d.size := by rw [swp_size]; exact hsk
                  clear hcw hfw HZ UP US HK HG
                  obtain ⟨D1, eD1⟩ : ∃ D1, D1 = swp dk i2 (i2 - 1) := ⟨_, rfl⟩
                  rw [← eD1] at HX hsx
                  have ED1 := Aside0.mk eD1
                  clear eD1
                  go_loopw [9] (fun v wr => ∃ (j : Nat) (dj : Array Int), v = .int .i64 j ∧ j ≤ i2 - 1 ∧ dj.size = d.size ∧ Aside0 (SR w wr blk pre post ty dj) ∧ Aside0 (Sort.shiftDown ltInt j dj = Sort.shiftDown ltInt (i2 - 1) D1)) (fun v _ => (intOf v).toNat)
                  case atStart => exact ⟨i2 - 1, D1, by first | rfl | (congr 1 <;> omega), Nat.le_refl _, hsx, HX, ⟨rfl⟩⟩
                  case round =>
                    clear HX hsx
                    obtain ⟨j, D2, rfl, hj2, hs2, HJ, HS⟩ := hrel
                    obtain ⟨G, hG⟩ : ∃ G : Nat → Int, ∀ t, G t = D2[t]! := ⟨fun t => D2[t]!, fun _ => rfl⟩
                    have HG := Aside0.mk hG
                    clear hG
                    have hcw : ∀ t, t < d.size → wr.cell? ⟨blk, off + t, none⟩ = some (.int .u64 (G t)) := fun t ht => by rw [HG.out]; exact HJ.out.cell ho (by omega)
                    have hfw : ∀ t, t < d.size → wr.frozen? ⟨blk, off + t, none⟩ = false := fun t ht => HJ.out.frozen _
                    by_cases cj : 1 ≤ j
                    · have c2 : decide ((1 : Int) ≤ (j : Int)) = true := decide_eq_true (by omega)
                      go_wp2
                      go_quiet (first | (go_at_call 66; refine Calls.quiet_of_same (less_calls _ _ _)))
                      go_wp2
                      · have q : (!ltInt (G j) (G (j - 1))) = true := by assumption
                        have q2 : ltInt D2[j]! D2[j - 1]! = false := by rw [← HG.out, ← HG.out]; simpa using q
                        have HX := Aside0.mk (HJ.out.drewN nq)
                        have HD := Aside0.mk (show (if i2 - a ≥ 2 then Sort.shiftDown ltInt (i2 - 1) (swp dk i2 (i2 - 1)) else swp dk i2 (i2 - 1)) = D2 by rw [if_pos CA.out, ← ED1.out, ← HS.out, down_end (.inr q2)])
                        clear HS HG hcw hfw HJ hj2
                        clear q q2 c2 cj
                        generalize wr.drewN nq = wx at HX ⊢
                        have HE := Aside0.mk (show (if b - i2 ≥ 2 then Sort.shiftUp ltInt b (i2 + 1) D2 else D2) = D2 by rw [if_neg CB.out])
                        obtain ⟨dj, edj⟩ : ∃ dj, dj = D2 := ⟨_, rfl⟩
                        subst edj
                        have hsj := hs2
                        go_roundw
                        case rel => exact ⟨i2, s + 1, dj, rfl, by simp, by omega, by omega, by omega, hsj, HX, ⟨by rw [← HO.out, STEP.out, HD.out, HE.out]⟩⟩
                        case measure => simp [intOf]; omega
                      · have q : (!ltInt (G j) (G (j - 1))) = false := by assumption
                        have q2 : ltInt D2[j]! D2[j - 1]! = true := by rw [← HG.out, ← HG.out]; simpa using q
                        go_region
                        all_goals go_wp2
                        go_roundw
                        case rel => exact ⟨j - 1, swp D2 j (j - 1), by first | rfl | (congr 1 <;> omega), by omega, by rw [swp_size]; exact hs2, ⟨((HJ.out.drewN _).drewN 1).swap ho (by omega) (by omega) (HG.out _) (HG.out _)⟩, ⟨by rw [← HS.out, down_go cj q2]⟩⟩
                        case measure => simp [intOf]; omega
                    · have c2 : decide ((1 : Int) ≤ (j : Int)) = false := decide_eq_false (by omega)
                      go_wp2
                      have HX := HJ
                      have HD := Aside0.mk (show (if i2 - a ≥ 2 then Sort.shiftDown ltInt (i2 - 1) (swp dk i2 (i2 - 1)) else swp dk i2 (i2 - 1)) = D2 by rw [if_pos CA.out, ← ED1.out, ← HS.out, down_end (.inl (by omega))])
                      clear HS HG hcw hfw HJ hj2
                      clear c2 cj
                      have HE := Aside0.mk (show (if b - i2 ≥ 2 then Sort.shiftUp ltInt b (i2 + 1) D2 else D2) = D2 by rw [if_neg CB.out])
                      obtain ⟨dj, edj⟩ : ∃ dj, dj = D2 := ⟨_, rfl⟩
                      subst edj
                      have hsj := hs2
                      go_roundw
                      case rel => exact ⟨i2, s + 1, dj, rfl, by simp, by omega, by omega, by omega, hsj, HX, ⟨by rw [← HO.out, STEP.out, HD.out, HE.out]⟩⟩
                      case measure => simp [intOf]; omega
          · have c5 : decide ((2 : Int) ≤ (i2 : Int) - a) = false := decide_eq_false (by omega)
            by_cases cb : b - i2 ≥ 2
            · have c6 : decide ((2 : Int) ≤ (b : Int) - i2) = true := decide_eq_true (by omega)
              have CA := Aside0.mk ca
              have CB := Aside0.mk cb
              clear ca cb
              go_loopw [7] (fun v wr => ∃ i' : Nat, v = .int .i64 i' ∧ i ≤ i' ∧ i' ≤ i2 ∧ Aside0 (SR w wr blk pre post ty dk)) (fun v _ => i2 - (intOf v).toNat)
              case atStart => exact ⟨i, rfl, Nat.le_refl _, FF.out.1, HK⟩
              case round =>
                obtain ⟨i', rfl, hi1, hi2, HU⟩ := hrel
                have hcw : ∀ t, t < d.size → wr.cell? ⟨blk, off + t, none⟩ = some (.int .u64 (G t)) := fun t ht => by rw [HG.out]; exact HU.out.cell ho (by omega)
                have hfw : ∀ t, t < d.size → wr.frozen? ⟨blk, off + t, none⟩ = false := fun t ht => HU.out.frozen _
                by_cases hlt : i' < i2
                · have c : i' < b := by have := FF.out.2; omega
                  have q : ltInt (G i') (G (i' - 1)) = false := UP.out i' hi1 hlt
                  go_wp2
                  go_quiet (first | (go_at_call 66; refine Calls.quiet_of_same (less_calls _ _ _)))
                  go_wp2
                  go_roundw
                  case rel => exact ⟨i' + 1, by simp, by omega, by omega, ⟨HU.out.drewN _⟩⟩
                  case measure => simp [intOf]; omega
                · obtain rfl : i' = i2 := by omega
                  clear hlt hi2
                  have q : ltInt (G i') (G (i' - 1)) = true := US.out pA
                  go_wp2
                  go_quiet (first | (go_at_call 66; refine Calls.quiet_of_same (less_calls _ _ _)))
                  go_wp2
                  clear q
                  have HZ := Aside0.mk (HU.out.drewN nq)
                  clear hcw hfw HU
                  generalize wr.drewN nq = wz at HZ ⊢
                  obtain ⟨i2, ei⟩ : ∃ i2, i2 = i' := ⟨_, rfl⟩
                  subst ei
                  have hcw : ∀ t, t < d.size → wz.cell? ⟨blk, off + t, none⟩ = some (.int .u64 (G t)) := fun t ht => by rw [HG.out]; exact HZ.out.cell ho (by omega)
                  have hfw : ∀ t, t < d.size → wz.frozen? ⟨blk, off + t, none⟩ = false := fun t ht => HZ.out.frozen _
                  have hb2 : i2 < d.size := by omega
                  have hb3 : 1 ≤ i2 := by omega
                  have hb4 : i2 - 1 < d.size := by omega
                  go_region
                  all_goals go_wp2
                  have HX := Aside0.mk ((HZ.out.drewN 1).swap ho (i := i2) (j := i2 - 1) (by omega) (by omega) (HG.out _) (HG.out _))
                  have hsx : (swp dk i2 (i2 - 1)).size = d.size := by rw [swp_size]; exact hsk
                  clear hcw hfw HZ UP US HK HG
                  have HD := Aside0.mk (show (if i2 - a ≥ 2 then Sort.shiftDown ltInt (i2 - 1) (swp dk i2 (i2 - 1)) else swp dk i2 (i2 - 1)) = swp dk i2 (i2 - 1) by rw [if_neg CA.out])
                  obtain ⟨D2, eD⟩ : ∃ D2, D2 = swp dk i2 (i2 - 1) := ⟨_, rfl⟩
                  rw [← eD] at HX hsx
                  have HD := Aside0.mk (show (if i2 - a ≥ 2 then Sort.shiftDown ltInt (i2 - 1) (swp dk i2 (i2 - 1)) else swp dk i2 (i2 - 1)) = D2 by rw [eD]; exact HD.out)
                  have hs2 := hsx
                  clear eD hsx
                  go_loopw [10] (fun v wr => ∃ (j : Nat) (dj : Array Int), v = .int .i64 j ∧ i2 + 1 ≤ j ∧ j ≤ b ∧ dj.size = d.size ∧ Aside0 (SR w wr blk pre post ty dj) ∧ Aside0 (Sort.shiftUp ltInt b j dj = Sort.shiftUp ltInt b (i2 + 1) D2)) (fun v _ => b - (intOf v).toNat)
                  case atStart => exact ⟨i2 + 1, D2, by simp, Nat.le_refl _, by have := CB.out; omega, hs2, HX, ⟨rfl⟩⟩
                  case round =>
                    clear HX hs2
                    obtain ⟨j, dj, rfl, hj1, hj2, hsj, HJ, HS⟩ := hrel
                    obtain ⟨G, hG⟩ : ∃ G : Nat → Int, ∀ t, G t = dj[t]! := ⟨fun t => dj[t]!, fun _ => rfl⟩
                    have HG := Aside0.mk hG
                    clear hG
                    have hcw : ∀ t, t < d.size → wr.cell? ⟨blk, off + t, none⟩ = some (.int .u64 (G t)) := fun t ht => by rw [HG.out]; exact HJ.out.cell ho (by omega)
                    have hfw : ∀ t, t < d.size → wr.frozen? ⟨blk, off + t, none⟩ = false := fun t ht => HJ.out.frozen _
                    by_cases cj : j < b
                    · have c2 : decide ((j : Int) < b) = true := decide_eq_true (by omega)
                      go_wp2
                      go_quiet (first | (go_at_call 66; refine Calls.quiet_of_same (less_calls _ _ _)))
                      go_wp2
                      · have q : (!ltInt (G j) (G (j - 1))) = true := by assumption
                        have q2 : ltInt dj[j]! dj[j - 1]! = false := by rw [← HG.out, ← HG.out]; simpa using q
                        have HX := Aside0.mk (HJ.out.drewN nq)
                        have HE := Aside0.mk (show (if b - i2 ≥ 2 then Sort.shiftUp ltInt b (i2 + 1) D2 else D2) = dj by rw [if_pos CB.out, ← HS.out, up_end (.inr q2)])
                        go_roundw
                        case rel => exact ⟨i2, s + 1, dj, rfl, by simp, by omega, by omega, by omega, hsj, HX, ⟨by rw [← HO.out, STEP.out, HD.out, HE.out]⟩⟩
                        case measure => simp [intOf]; omega
                      · have q : (!ltInt (G j) (G (j - 1))) = false := by assumption
                        have q2 : ltInt dj[j]! dj[j - 1]! = true := by rw [← HG.out, ← HG.out]; simpa using q
                        go_region
                        all_goals go_wp2
                        go_roundw
                        case rel => exact ⟨j + 1, swp dj j (j - 1), by simp, by omega, by omega, by rw [swp_size]; exact hsj, ⟨((HJ.out.drewN _).drewN 1).swap ho (by omega) (by omega) (HG.out _) (HG.out _)⟩, ⟨by rw [← HS.out, up_go cj q2]⟩⟩
                        case measure => simp [intOf]; omega
                    · have c2 : decide ((j : Int) < b) = false := decide_eq_false (by omega)
                      go_wp2
                      have HX := HJ
                      have HE := Aside0.mk (show (if b - i2 ≥ 2 then Sort.shiftUp ltInt b (i2 + 1) D2 else D2) = dj by rw [if_pos CB.out, ← HS.out, up_end (.inl cj)])
                      go_roundw
                      case rel => exact ⟨i2, s + 1, dj, rfl, by simp, by omega, by omega, by omega, hsj, HX, ⟨by rw [← HO.out, STEP.out, HD.out, HE.out]⟩⟩
                      case measure => simp [intOf]; omega
            · have c6 : decide ((2 : Int) ≤ (b : Int) - i2) = false := decide_eq_false (by omega)
              have CA := Aside0.mk ca
              have CB := Aside0.mk cb
              clear ca cb
              go_loopw [7] (fun v wr => ∃ i' : Nat, v = .int .i64 i' ∧ i ≤ i' ∧ i' ≤ i2 ∧ Aside0 (SR w wr blk pre post ty dk)) (fun v _ => i2 - (intOf v).toNat)
              case atStart => exact ⟨i, rfl, Nat.le_refl _, FF.out.1, HK⟩
              case round =>
                obtain ⟨i', rfl, hi1, hi2, HU⟩ := hrel
                have hcw : ∀ t, t < d.size → wr.cell? ⟨blk, off + t, none⟩ = some (.int .u64 (G t)) := fun t ht => by rw [HG.out]; exact HU.out.cell ho (by omega)
                have hfw : ∀ t, t < d.size → wr.frozen? ⟨blk, off + t, none⟩ = false := fun t ht => HU.out.frozen _
                by_cases hlt : i' < i2
                · have c : i' < b := by have := FF.out.2; omega
                  have q : ltInt (G i') (G (i' - 1)) = false := UP.out i' hi1 hlt
                  go_wp2
                  go_quiet (first | (go_at_call 66; refine Calls.quiet_of_same (less_calls _ _ _)))
                  go_wp2
                  go_roundw
                  case rel => exact ⟨i' + 1, by simp, by omega, by omega, ⟨HU.out.drewN _⟩⟩
                  case measure => simp [intOf]; omega
                · obtain rfl : i' = i2 := by omega
                  clear hlt hi2
                  have q : ltInt (G i') (G (i' - 1)) = true := US.out pA
                  go_wp2
                  go_quiet (first | (go_at_call 66; refine Calls.quiet_of_same (less_calls _ _ _)))
                  go_wp2
                  clear q
                  have HZ := Aside0.mk (HU.out.drewN nq)
                  clear hcw hfw HU
                  generalize wr.drewN nq = wz at HZ ⊢
                  obtain ⟨i2, ei⟩ : ∃ i2, i2 = i' := ⟨_, rfl⟩
                  subst ei
                  have hcw : ∀ t, t < d.size → wz.cell? ⟨blk, off + t, none⟩ = some (.int .u64 (G t)) := fun t ht => by rw [HG.out]; exact HZ.out.cell ho (by omega)
                  have hfw : ∀ t, t < d.size → wz.frozen? ⟨blk, off + t, none⟩ = false := fun t ht => HZ.out.frozen _
                  have hb2 : i2 < d.size := by omega
                  have hb3 : 1 ≤ i2 := by omega
                  have hb4 : i2 - 1 < d.size := by omega
                  go_region
                  all_goals go_wp2
                  have HX := Aside0.mk ((HZ.out.drewN 1).swap ho (i := i2) (j := i2 - 1) (by omega) (by omega) (HG.out _) (HG.out _))
                  have hsx : (swp dk i2 (i2 - 1)).size = d.size := by rw [swp_size]; exact hsk
                  clear hcw hfw HZ UP US HK HG
                  have HD := Aside0.mk (show (if i2 - a ≥ 2 then Sort.shiftDown ltInt (i2 - 1) (swp dk i2 (i2 - 1)) else swp dk i2 (i2 - 1)) = swp dk i2 (i2 - 1) by rw [if_neg CA.out])
                  obtain ⟨D2, eD⟩ : ∃ D2, D2 = swp dk i2 (i2 - 1) := ⟨_, rfl⟩
                  rw [← eD] at HX hsx
                  have HD := Aside0.mk (show (if i2 - a ≥ 2 then Sort.shiftDown ltInt (i2 - 1) (swp dk i2 (i2 - 1)) else swp dk i2 (i2 - 1)) = D2 by rw [eD]; exact HD.out)
                  have hs2 := hsx
                  clear eD hsx
                  have HE := Aside0.mk (show (if b - i2 ≥ 2 then Sort.shiftUp ltInt b (i2 + 1) D2 else D2) = D2 by rw [if_neg CB.out])
                  obtain ⟨dj, edj⟩ : ∃ dj, dj = D2 := ⟨_, rfl⟩
                  subst edj
                  have hsj := hs2
                  go_roundw
                  case rel => exact ⟨i2, s + 1, dj, rfl, by simp, by omega, by omega, by omega, hsj, HX, ⟨by rw [← HO.out, STEP.out, HD.out, HE.out]⟩⟩
                  case measure => simp [intOf]; omega
      · have e : i2 = b := by omega
        have c3 : ((i2 : Int) == (b : Int)) = true := by rw [e]; simp
        have R := Aside0.mk (show Sort.partialInsertionSort ltInt d a b = (dk, true) by rw [← HO.out, ES, Sort.partialIns]; simp only; rw [← EI.out, if_pos e])
        clear F1 e
        go_loopw [7] (fun v wr => ∃ i' : Nat, v = .int .i64 i' ∧ i ≤ i' ∧ i' ≤ i2 ∧ Aside0 (SR w wr blk pre post ty dk)) (fun v _ => i2 - (intOf v).toNat)
        case atStart => exact ⟨i, rfl, Nat.le_refl _, FF.out.1, HK⟩
        case round =>
          obtain ⟨i', rfl, hi1, hi2, HU⟩ := hrel
          have hcw : ∀ t, t < d.size → wr.cell? ⟨blk, off + t, none⟩ = some (.int .u64 (G t)) := fun t ht => by rw [HG.out]; exact HU.out.cell ho (by omega)
          have hfw : ∀ t, t < d.size → wr.frozen? ⟨blk, off + t, none⟩ = false := fun t ht => HU.out.frozen _
          by_cases hlt : i' < i2
          · have c : i' < b := by have := FF.out.2; omega
            have q : ltInt (G i') (G (i' - 1)) = false := UP.out i' hi1 hlt
            go_wp2
            go_quiet (first | (go_at_call 66; refine Calls.quiet_of_same (less_calls _ _ _)))
            go_wp2
            go_roundw
            case rel => exact ⟨i' + 1, by simp, by omega, by omega, ⟨HU.out.drewN _⟩⟩
            case measure => simp [intOf]; omega
          · obtain rfl : i' = i2 := by omega
            clear hlt hi2
            go_wp2
            go_quiet (first | (go_at_call 66; refine Calls.quiet_of_same (less_calls _ _ _)))
            go_wp2
            have HZ := Aside0.mk (HU.out.drewN nq)
            clear hcw hfw HU
            generalize wr.drewN nq = wz at HZ ⊢
            obtain ⟨i2, ei⟩ : ∃ i2, i2 = i' := ⟨_, rfl⟩
            subst ei
            go_ret
            exact ⟨by first | (rw [R.out]; done) | (rw [R.out]; rfl), by simp only [R.out]; exact HZ.out⟩
    · have c0 : decide ((s : Int) < 5) = false := decide_eq_false (by omega)
      have R := Aside0.mk (show Sort.partialInsertionSort ltInt d a b = (dk, false) by rw [← HO.out, show 5 - s = 0 by omega]; rfl)
      have HZ := HK
      go_wp2
      go_ret
      exact ⟨by first | (rw [R.out]; done) | (rw [R.out]; rfl), by simp only [R.out]; exact HZ.out⟩
end Go.Proofs.Ytkppgepljjgjhaa.P
