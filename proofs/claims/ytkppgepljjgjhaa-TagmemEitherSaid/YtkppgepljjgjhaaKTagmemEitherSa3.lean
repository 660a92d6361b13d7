/- partitionEqualOrdered at uint64. No condition. -/
import Derived.Test.YtkppgepljjgjhaaKTagmemEitherSa2
import Derived.Sort.LotC
namespace Go.Proofs.Ytkppgepljjgjhaa.P
open Go.RowKit Go.Proofs.YtkppgepljjgjhaaW.PrintWords Go.Proofs.YtkppgepljjgjhaaW.PrintLast
open Go.Sort (ltInt swp)
set_option linter.unusedVariables false
set_option linter.unusedSimpArgs false
variable {w W : World} {blk off : Nat} {pre post : List Value} {ty : TypeId} {d : Array Int}
/-- What the two scans of a round find. -/
theorem scan_facts (p q : Int → Bool) (hq : ∀ x, q x = !p x) (d : Array Int) (a i j i2 j2 : Nat) (ha : a < i) (hij : i ≤ j + 1) (hi2 : i2 = Sort.scanUp p d j i) (hj2 : j2 = Sort.scanDown q d i2 j) :
    (i ≤ i2 ∧ i2 ≤ j + 1 ∧ j2 ≤ j ∧ i2 ≤ j2 + 1 ∧ (i2 ≤ j2 → i2 < j2)) ∧ (∀ t, i ≤ t → t < i2 → p d[t]! = true) ∧ (i2 ≤ j → p d[i2]! = false) ∧ (∀ t, j2 < t → t ≤ j → p d[t]! = false) ∧ (i2 ≤ j2 → p d[j2]! = true) := by
  obtain ⟨h1, h2, h3, h4⟩ := Sort.scanUp_spec p d j _ i rfl
  obtain ⟨k1, k2, k3, k4⟩ := Sort.scanDown_spec q d i2 j
  rw [← hi2] at h1 h2 h3 h4
  rw [← hj2] at k1 k2 k3 k4
  have k5 : ∀ t, j2 < t → t ≤ j → p d[t]! = false := fun t a b => by have := k3 t a b; rw [hq] at this; simpa using this
  have k6 : i2 ≤ j2 → p d[j2]! = true := fun a => by have := k4 a (by omega); rw [hq] at this; simpa using this
  refine ⟨⟨h1, h2 hij, k1, k2 (h2 hij), fun h => ?_⟩, h3, h4, k5, k6⟩
  rcases Nat.lt_or_ge i2 j2 with e | e
  · exact e
  · obtain rfl : i2 = j2 := by omega
    have := h4 (by omega)
    rw [k6 h] at this
    cases this
set_option maxHeartbeats 8000000 in
set_option maxRecDepth 100000 in
theorem partitionEqual_calls (h : SR w W blk pre post ty d) (ho : pre.length = off) (cap a b pivot : Nat) (hap : a ≤ pivot) (hpb : pivot < b) (hb : b ≤ d.size) (hsz : d.size < 1000000000) :
    Calls Try.prog 67 #[.slice (some ⟨blk, off, none⟩) d.size cap, .int .i64 a, .int .i64 b, .int .i64 pivot] W fun e W' => e = .returned (.int .i64 (Sort.partitionEqual ltInt d a b pivot).1) ∧ SR w W' blk pre post ty (Sort.partitionEqual ltInt d a b pivot).2 := by
  have HZ := Aside0.mk h
  clear h
  obtain ⟨G, hG⟩ : ∃ G : Nat → Int, ∀ t, G t = d[t]! := ⟨fun t => d[t]!, fun _ => rfl⟩
  have HG := Aside0.mk hG
  clear hG
  generalize hWz : W = wz at HZ ⊢
  clear hWz
  have hcw : ∀ t, t < d.size → wz.cell? ⟨blk, off + t, none⟩ = some (.int .u64 (G t)) := fun t ht => by rw [HG.out]; exact HZ.out.cell ho (by omega)
  have hfw : ∀ t, t < d.size → wz.frozen? ⟨blk, off + t, none⟩ = false := fun t ht => HZ.out.frozen _
  have hst : ∀ u, (wz.setCell ⟨blk, off + a, none⟩ u).cell? ⟨blk, off + pivot, none⟩ = some (if pivot = a then u else .int .u64 (G pivot)) := fun u => by
    by_cases e : pivot = a
    · rw [if_pos e, e]; exact World.cell?_setCell_same _ _ _ (hcw _ (by omega))
    · rw [if_neg e]; exact (World.cell?_setCell_other _ _ _ _ (by first | (simp; done) | (simp; omega))).trans (hcw _ (by omega))
  go_enter Try.func67, Try.ntmps67
  go_wp2
  go_region
  all_goals go_wp2
  have HK0 := Aside0.mk ((HZ.out.drewN 1).swap ho (i := a) (j := pivot) (by omega) (by omega) (HG.out _) (HG.out _))
  clear hcw hfw hst HZ HG
  go_loopw [9, 10] (fun v u wr => ∃ (i j : Nat) (dk : Array Int), v = .int .i64 i ∧ u = .int .i64 j ∧ a < i ∧ i ≤ j + 1 ∧ j < b ∧ dk.size = d.size ∧ Aside0 (SR w wr blk pre post ty dk) ∧ Aside0 (Sort.partEqLoop ltInt a i j dk = Sort.partitionEqual ltInt d a b pivot)) (fun v u _ => (intOf u).toNat + 1 - (intOf v).toNat)
  case atStart => exact ⟨a + 1, b - 1, swp d a pivot, by simp, by first | rfl | (congr 1 <;> omega), by omega, by omega, by omega, swp_size _ _ _, HK0, ⟨rfl⟩⟩
  case round =>
    clear HK0
    obtain ⟨i, j, dk, rfl, rfl, hai, hij, hjb, hsk, HK, HO⟩ := hrel
    obtain ⟨G, hG⟩ : ∃ G : Nat → Int, ∀ t, G t = dk[t]! := ⟨fun t => dk[t]!, fun _ => rfl⟩
    have HG := Aside0.mk hG
    clear hG
    obtain ⟨i2, ei2⟩ : ∃ i2, i2 = Sort.scanUp (fun x => !ltInt dk[a]! x) dk j i := ⟨_, rfl⟩
    obtain ⟨j2, ej2⟩ : ∃ j2, j2 = Sort.scanDown (fun x => ltInt dk[a]! x) dk i2 j := ⟨_, rfl⟩
    obtain ⟨F1, F2, F3, F4, F5⟩ := scan_facts (fun x => !ltInt dk[a]! x) (fun x => ltInt dk[a]! x) (fun x => by simp) dk a i j i2 j2 hai hij ei2 ej2
    have FF := Aside0.mk F1
    have EI := Aside0.mk ei2
    have EJ := Aside0.mk ej2
    have UP := Aside0.mk (show ∀ t, i ≤ t → t < i2 → ltInt (G a) (G t) = false from fun t h1 h2 => by have := F2 t h1 h2; simp only [HG.out]; simpa using this)
    have US := Aside0.mk (show i2 ≤ j → ltInt (G a) (G i2) = true from fun h => by have := F3 h; simp only [HG.out]; simpa using this)
    have DN := Aside0.mk (show ∀ t, j2 < t → t ≤ j → ltInt (G a) (G t) = true from fun t h1 h2 => by have := F4 t h1 h2; simp only [HG.out]; simpa using this)
    have DS := Aside0.mk (show i2 ≤ j2 → ltInt (G a) (G j2) = false from fun h => by have := F5 h; simp only [HG.out]; simpa using this)
    have BD := Aside0.mk (show i2 ≤ b ∧ j2 < b ∧ a < i2 from ⟨by omega, by omega, by omega⟩)
    clear F1 F2 F3 F4 F5 ei2 ej2
    go_wp2
    by_cases pA : i2 ≤ j
    · have PA := Aside0.mk pA
      clear pA
      by_cases pB : i2 ≤ j2
      · have PB := Aside0.mk pB
        clear pB
        go_loopw [9] (fun v wr => ∃ i' : Nat, v = .int .i64 i' ∧ i ≤ i' ∧ i' ≤ i2 ∧ Aside0 (SR w wr blk pre post ty dk)) (fun v _ => i2 - (intOf v).toNat)
        case atStart => exact ⟨i, rfl, Nat.le_refl _, FF.out.1, HK⟩
        case round =>
          obtain ⟨i', rfl, hi1, hi2, HU⟩ := hrel
          have hcw : ∀ t, t < d.size → wr.cell? ⟨blk, off + t, none⟩ = some (.int .u64 (G t)) := fun t ht => by rw [HG.out]; exact HU.out.cell ho (by omega)
          have hfw : ∀ t, t < d.size → wr.frozen? ⟨blk, off + t, none⟩ = false := fun t ht => HU.out.frozen _
          by_cases hlt : i' < i2
          · have c : i' ≤ j := by have := FF.out.2.1; omega
            have q : ltInt (G a) (G i') = false := UP.out i' hi1 hlt
            go_wp2
            go_quiet (first | (go_at_call 66; refine Calls.quiet_of_same (less_calls _ _ _)))
            go_wp2
            go_roundw
            case rel => exact ⟨i' + 1, by simp, by omega, by omega, ⟨HU.out.drewN _⟩⟩
            case measure => (have := FF.out; simp [intOf]; omega)
          · obtain rfl : i' = i2 := by omega
            clear hlt hi1 hi2
            have c : i' ≤ j := by have := PA.out; omega
            have q : ltInt (G a) (G i') = true := US.out PA.out
            go_wp2
            go_quiet (first | (go_at_call 66; refine Calls.quiet_of_same (less_calls _ _ _)))
            go_wp2
            clear c q
            have HU1 := Aside0.mk (HU.out.drewN nq)
            clear hcw hfw HU
            generalize wr.drewN nq = wv at HU1 ⊢
            go_loopw [10] (fun v wr => ∃ j' : Nat, v = .int .i64 j' ∧ j2 ≤ j' ∧ j' ≤ j ∧ Aside0 (SR w wr blk pre post ty dk)) (fun v _ => (intOf v).toNat - j2)
            case atStart => exact ⟨j, rfl, FF.out.2.2.1, Nat.le_refl _, HU1⟩
            case round =>
              obtain ⟨j', rfl, hj1, hj2, HV⟩ := hrel
              have hcw : ∀ t, t < d.size → wr.cell? ⟨blk, off + t, none⟩ = some (.int .u64 (G t)) := fun t ht => by rw [HG.out]; exact HV.out.cell ho (by omega)
              have hfw : ∀ t, t < d.size → wr.frozen? ⟨blk, off + t, none⟩ = false := fun t ht => HV.out.frozen _
              by_cases hlt : j2 < j'
              · have c : i' ≤ j' := by have := FF.out.2.2.2.1; omega
                have q : ltInt (G a) (G j') = true := DN.out j' hlt hj2
                go_wp2
                go_quiet (first | (go_at_call 66; refine Calls.quiet_of_same (less_calls _ _ _)))
                go_wp2
                go_roundw
                case rel => exact ⟨j' - 1, by first | rfl | (congr 1 <;> omega), by omega, by omega, ⟨HV.out.drewN _⟩⟩
                case measure => simp [intOf]; omega
              · obtain rfl : j' = j2 := by omega
                clear hlt hj1 hj2
                have c : i' ≤ j' := by have := PB.out; omega
                have q : ltInt (G a) (G j') = false := DS.out PB.out
                have hjx := BD.out.2.1
                go_wp2
                go_quiet (first | (go_at_call 66; refine Calls.quiet_of_same (less_calls _ _ _)))
                go_wp2
                clear c q hjx
                have HZ := Aside0.mk (HV.out.drewN nq)
                clear hcw hfw HV HU1
                generalize wr.drewN nq = wz at HZ ⊢
                have hne : i' < j' := FF.out.2.2.2.2 PB.out
                have hb1 := BD.out.2.1
                have hb0 := BD.out.2.2
                have hcw : ∀ t, t < d.size → wz.cell? ⟨blk, off + t, none⟩ = some (.int .u64 (G t)) := fun t ht => by rw [HG.out]; exact HZ.out.cell ho (by omega)
                have hfw : ∀ t, t < d.size → wz.frozen? ⟨blk, off + t, none⟩ = false := fun t ht => HZ.out.frozen _
                have c : decide ((j' : Int) < i') = false := decide_eq_false (by omega)
                go_wp2
                go_region
                all_goals go_wp2
                go_roundw
                case rel => exact ⟨i' + 1, j' - 1, swp dk i' j', by simp, by first | rfl | (congr 1 <;> omega), by omega, by omega, by omega, by rw [swp_size]; exact hsk, ⟨(HZ.out.drewN 1).swap ho (by omega) (by omega) (HG.out _) (HG.out _)⟩, ⟨by rw [← HO.out, Sort.partEqLoop_eq ltInt a i j dk, ← EI.out, ← EJ.out, if_neg (by omega)]⟩⟩
                case measure => (have := FF.out; simp [intOf]; omega)
      · have PB := Aside0.mk pB
        clear pB
        go_loopw [9] (fun v wr => ∃ i' : Nat, v = .int .i64 i' ∧ i ≤ i' ∧ i' ≤ i2 ∧ Aside0 (SR w wr blk pre post ty dk)) (fun v _ => i2 - (intOf v).toNat)
        case atStart => exact ⟨i, rfl, Nat.le_refl _, FF.out.1, HK⟩
        case round =>
          obtain ⟨i', rfl, hi1, hi2, HU⟩ := hrel
          have hcw : ∀ t, t < d.size → wr.cell? ⟨blk, off + t, none⟩ = some (.int .u64 (G t)) := fun t ht => by rw [HG.out]; exact HU.out.cell ho (by omega)
          have hfw : ∀ t, t < d.size → wr.frozen? ⟨blk, off + t, none⟩ = false := fun t ht => HU.out.frozen _
          by_cases hlt : i' < i2
          · have c : i' ≤ j := by have := FF.out.2.1; omega
            have q : ltInt (G a) (G i') = false := UP.out i' hi1 hlt
            go_wp2
            go_quiet (first | (go_at_call 66; refine Calls.quiet_of_same (less_calls _ _ _)))
            go_wp2
            go_roundw
            case rel => exact ⟨i' + 1, by simp, by omega, by omega, ⟨HU.out.drewN _⟩⟩
            case measure => (have := FF.out; simp [intOf]; omega)
          · obtain rfl : i' = i2 := by omega
            clear hlt hi1 hi2
            have c : i' ≤ j := by have := PA.out; omega
            have q : ltInt (G a) (G i') = true := US.out PA.out
            go_wp2
            go_quiet (first | (go_at_call 66; refine Calls.quiet_of_same (less_calls _ _ _)))
            go_wp2
            clear c q
            have HU1 := Aside0.mk (HU.out.drewN nq)
            clear hcw hfw HU
            generalize wr.drewN nq = wv at HU1 ⊢
            go_loopw [10] (fun v wr => ∃ j' : Nat, v = .int .i64 j' ∧ j2 ≤ j' ∧ j' ≤ j ∧ Aside0 (SR w wr blk pre post ty dk)) (fun v _ => (intOf v).toNat - j2)
            case atStart => exact ⟨j, rfl, FF.out.2.2.1, Nat.le_refl _, HU1⟩
            case round =>
              obtain ⟨j', rfl, hj1, hj2, HV⟩ := hrel
              have hcw : ∀ t, t < d.size → wr.cell? ⟨blk, off + t, none⟩ = some (.int .u64 (G t)) := fun t ht => by rw [HG.out]; exact HV.out.cell ho (by omega)
              have hfw : ∀ t, t < d.size → wr.frozen? ⟨blk, off + t, none⟩ = false := fun t ht => HV.out.frozen _
              by_cases hlt : j2 < j'
              · have c : i' ≤ j' := by have := FF.out.2.2.2.1; omega
                have q : ltInt (G a) (G j') = true := DN.out j' hlt hj2
                go_wp2
                go_quiet (first | (go_at_call 66; refine Calls.quiet_of_same (less_calls _ _ _)))
                go_wp2
                go_roundw
                case rel => exact ⟨j' - 1, by first | rfl | (congr 1 <;> omega), by omega, by omega, ⟨HV.out.drewN _⟩⟩
                case measure => simp [intOf]; omega
              · obtain rfl : j' = j2 := by omega
                clear hlt hj1 hj2
                have c : ¬ i' ≤ j' := by have := PB.out; omega
                go_wp2
                go_quiet (first | (go_at_call 66; refine Calls.quiet_of_same (less_calls _ _ _)))
                go_wp2
                clear c
                have HZ := Aside0.mk (HV.out.drewN nq)
                clear hcw hfw HV HU1
                generalize wr.drewN nq = wz at HZ ⊢
                have c : decide ((j' : Int) < i') = true := decide_eq_true (by have := PB.out; omega)
                have R := Aside0.mk (show Sort.partitionEqual ltInt d a b pivot = (i', dk) by rw [← HO.out, Sort.partEqLoop_eq, ← EI.out, ← EJ.out, if_pos (by have := PB.out; omega)])
                go_wp2
                go_ret
                exact ⟨by first | (rw [R.out]; done) | (rw [R.out]; rfl), by simp only [R.out]; exact HZ.out⟩
    · have PA := Aside0.mk pA
      clear pA
      have PB := Aside0.mk (show ¬ i2 ≤ j2 by have := FF.out; have := PA.out; omega)
      go_loopw [9] (fun v wr => ∃ i' : Nat, v = .int .i64 i' ∧ i ≤ i' ∧ i' ≤ i2 ∧ Aside0 (SR w wr blk pre post ty dk)) (fun v _ => i2 - (intOf v).toNat)
      case atStart => exact ⟨i, rfl, Nat.le_refl _, FF.out.1, HK⟩
      case round =>
        obtain ⟨i', rfl, hi1, hi2, HU⟩ := hrel
        have hcw : ∀ t, t < d.size → wr.cell? ⟨blk, off + t, none⟩ = some (.int .u64 (G t)) := fun t ht => by rw [HG.out]; exact HU.out.cell ho (by omega)
        have hfw : ∀ t, t < d.size → wr.frozen? ⟨blk, off + t, none⟩ = false := fun t ht => HU.out.frozen _
        by_cases hlt : i' < i2
        · have c : i' ≤ j := by have := FF.out.2.1; omega
          have q : ltInt (G a) (G i') = false := UP.out i' hi1 hlt
          go_wp2
          go_quiet (first | (go_at_call 66; refine Calls.quiet_of_same (less_calls _ _ _)))
          go_wp2
          go_roundw
          case rel => exact ⟨i' + 1, by simp, by omega, by omega, ⟨HU.out.drewN _⟩⟩
          case measure => (have := FF.out; simp [intOf]; omega)
        · obtain rfl : i' = i2 := by omega
          clear hlt hi1 hi2
          have c : ¬ i' ≤ j := by have := PA.out; omega
          go_wp2
          go_quiet (first | (go_at_call 66; refine Calls.quiet_of_same (less_calls _ _ _)))
          go_wp2
          clear c
          have HU1 := Aside0.mk (HU.out.drewN nq)
          clear hcw hfw HU
          generalize wr.drewN nq = wv at HU1 ⊢
          go_loopw [10] (fun v wr => ∃ j' : Nat, v = .int .i64 j' ∧ j2 ≤ j' ∧ j' ≤ j ∧ Aside0 (SR w wr blk pre post ty dk)) (fun v _ => (intOf v).toNat - j2)
          case atStart => exact ⟨j, rfl, FF.out.2.2.1, Nat.le_refl _, HU1⟩
          case round =>
            obtain ⟨j', rfl, hj1, hj2, HV⟩ := hrel
            have hcw : ∀ t, t < d.size → wr.cell? ⟨blk, off + t, none⟩ = some (.int .u64 (G t)) := fun t ht => by rw [HG.out]; exact HV.out.cell ho (by omega)
            have hfw : ∀ t, t < d.size → wr.frozen? ⟨blk, off + t, none⟩ = false := fun t ht => HV.out.frozen _
            · obtain rfl : j' = j2 := by have := FF.out; have := PA.out; omega
              clear hj1 hj2
              have c : ¬ i' ≤ j' := by have := PB.out; omega
              go_wp2
              go_quiet (first | (go_at_call 66; refine Calls.quiet_of_same (less_calls _ _ _)))
              go_wp2
              clear c
              have HZ := Aside0.mk (HV.out.drewN nq)
              clear hcw hfw HV HU1
              generalize wr.drewN nq = wz at HZ ⊢
              have c : decide ((j' : Int) < i') = true := decide_eq_true (by have := PB.out; omega)
              have R := Aside0.mk (show Sort.partitionEqual ltInt d a b pivot = (i', dk) by rw [← HO.out, Sort.partEqLoop_eq, ← EI.out, ← EJ.out, if_pos (by have := PB.out; omega)])
              go_wp2
              go_ret
              exact ⟨by first | (rw [R.out]; done) | (rw [R.out]; rfl), by simp only [R.out]; exact HZ.out⟩
end Go.Proofs.Ytkppgepljjgjhaa.P
