/- partitionOrdered at uint64. No condition. -/
import Derived.Test.YtkppgepljjgjhaaKTagmemEitherSa3
import Derived.Sort.LotC
namespace Go.Proofs.Ytkppgepljjgjhaa.P
open Go.RowKit Go.Proofs.YtkppgepljjgjhaaW.PrintWords Go.Proofs.YtkppgepljjgjhaaW.PrintLast
open Go.Sort (ltInt swp)
set_option linter.unusedVariables false
set_option linter.unusedSimpArgs false
variable {w W : World} {blk off : Nat} {pre post : List Value} {ty : TypeId} {d : Array Int}
set_option maxHeartbeats 16000000 in
set_option maxRecDepth 100000 in
theorem partition_calls (h : SR w W blk pre post ty d) (ho : pre.length = off) (cap a b pivot : Nat) (hap : a ≤ pivot) (hpb : pivot < b) (hb : b ≤ d.size) (hsz : d.size < 1000000000) :
    Calls Try.prog 68 #[.slice (some ⟨blk, off, none⟩) d.size cap, .int .i64 a, .int .i64 b, .int .i64 pivot] W fun e W' => e = .returned (.tuple #[.int .i64 (Sort.partition ltInt d a b pivot).1, .bool (Sort.partition ltInt d a b pivot).2.1]) ∧ SR w W' blk pre post ty (Sort.partition ltInt d a b pivot).2.2 := by
  have HZ := Aside0.mk h
  clear h
  obtain ⟨G, hG⟩ : ∃ G : Nat → Int, ∀ t, G t = d[t]! := ⟨fun t => d[t]!, fun _ => rfl⟩
  have HG := Aside0.mk hG
  clear hG
  generalize hWz : W = wz at HZ ⊢
  clear hWz
  have hcw : ∀ t, t < d.size → wz.cell? ⟨blk, off + t, none⟩ = some (.int .u64 (G t)) := fun t ht => by rw [HG.out]; exact HZ.out.cell ho (by omega)
  have hfw : ∀ t, t < d.size → wz.frozen? ⟨blk, off + t, none⟩ = false := fun t ht => HZ.out.frozen _
  have hst : ∀ u, (wz.setCell ⟨blk, off + a, none⟩ u).cell? ⟨blk, off + pivot, none⟩ = some (if pivot = a then u else .int .u64 (G pivot)) := fun u => by
    by_cases e : pivot = a
    · rw [if_pos e, e]; exact World.cell?_setCell_same _ _ _ (hcw _ (by omega))
    · rw [if_neg e]; exact (World.cell?_setCell_other _ _ _ _ (by first | (simp; done) | (simp; omega))).trans (hcw _ (by omega))
  go_enter Try.func68, Try.ntmps68
  go_wp2
  go_region
  all_goals go_wp2
  have HK := Aside0.mk ((HZ.out.drewN 1).swap ho (i := a) (j := pivot) (by omega) (by omega) (HG.out _) (HG.out _))
  clear hcw hfw hst HZ HG
  have e1 : ((a : Int) + 1) = ((a + 1 : Nat) : Int) := by omega
  have e2 : ((b : Int) - 1) = ((b - 1 : Nat) : Int) := by omega
  rw [e1]
  try rw [e2]
  clear e1 e2
  obtain ⟨i, ei⟩ : ∃ i, i = a + 1 := ⟨_, rfl⟩
  obtain ⟨j, ej⟩ : ∃ j, j = b - 1 := ⟨_, rfl⟩
  obtain ⟨dk, ed⟩ : ∃ dk, dk = swp d a pivot := ⟨_, rfl⟩
  rw [← ei, ← ej]
  rw [← ed] at HK
  have hai : a < i := by omega
  have hij : i ≤ j + 1 := by omega
  have hjb : j < b := by omega
  have hsk : dk.size = d.size := by rw [ed, swp_size]
  have HI := Aside0.mk ei
  have HJ := Aside0.mk ej
  have HD := Aside0.mk ed
  clear ei ej ed
  obtain ⟨G, hG⟩ : ∃ G : Nat → Int, ∀ t, G t = dk[t]! := ⟨fun t => dk[t]!, fun _ => rfl⟩
  have HG := Aside0.mk hG
  clear hG
  obtain ⟨i2, ei2⟩ : ∃ i2, i2 = Sort.scanUp (fun x => ltInt x dk[a]!) dk j i := ⟨_, rfl⟩
  obtain ⟨j2, ej2⟩ : ∃ j2, j2 = Sort.scanDown (fun x => !ltInt x dk[a]!) dk i2 j := ⟨_, rfl⟩
  obtain ⟨F1, F2, F3, F4, F5⟩ := scan_facts (fun x => ltInt x dk[a]!) (fun x => !ltInt x dk[a]!) (fun x => by simp) dk a i j i2 j2 hai hij ei2 ej2
  have FF := Aside0.mk F1
  have EI := Aside0.mk ei2
  have EJ := Aside0.mk ej2
  have UP := Aside0.mk (show ∀ t, i ≤ t → t < i2 → ltInt (G t) (G a) = true from fun t h1 h2 => by have := F2 t h1 h2; simp only [HG.out]; simpa using this)
  have US := Aside0.mk (show i2 ≤ j → ltInt (G i2) (G a) = false from fun h => by have := F3 h; simp only [HG.out]; simpa using this)
  have DN := Aside0.mk (show ∀ t, j2 < t → t ≤ j → ltInt (G t) (G a) = false from fun t h1 h2 => by have := F4 t h1 h2; simp only [HG.out]; simpa using this)
  have DS := Aside0.mk (show i2 ≤ j2 → ltInt (G j2) (G a) = true from fun h => by have := F5 h; simp only [HG.out]; simpa using this)
  have BD := Aside0.mk (show i2 ≤ b ∧ j2 < b ∧ a < i2 from ⟨by omega, by omega, by omega⟩)
  clear F1 F2 F3 F4 F5 ei2 ej2
  by_cases pA : i2 ≤ j
  · have PA := Aside0.mk pA
    clear pA
    by_cases pB : i2 ≤ j2
    · have PB := Aside0.mk pB
      clear pB
      go_loopw [10] (fun v wr => ∃ i' : Nat, v = .int .i64 i' ∧ i ≤ i' ∧ i' ≤ i2 ∧ Aside0 (SR w wr blk pre post ty dk)) (fun v _ => i2 - (intOf v).toNat)
      case atStart => exact ⟨i, rfl, Nat.le_refl _, FF.out.1, HK⟩
      case round =>
        obtain ⟨i', rfl, hi1, hi2, HU⟩ := hrel
        have hcw : ∀ t, t < d.size → wr.cell? ⟨blk, off + t, none⟩ = some (.int .u64 (G t)) := fun t ht => by rw [HG.out]; exact HU.out.cell ho (by omega)
        have hfw : ∀ t, t < d.size → wr.frozen? ⟨blk, off + t, none⟩ = false := fun t ht => HU.out.frozen _
        by_cases hlt : i' < i2
        · have c : i' ≤ j := by have := FF.out.2.1; omega
          have q : ltInt (G i') (G a) = true := UP.out i' hi1 hlt
          go_wp2
          go_quiet (first | (go_at_call 66; refine Calls.quiet_of_same (less_calls _ _ _)))
          go_wp2
          go_roundw
          case rel => exact ⟨i' + 1, by simp, by omega, by omega, ⟨HU.out.drewN _⟩⟩
          case measure => (have := FF.out; simp [intOf]; omega)
        · obtain rfl : i' = i2 := by omega
          clear hlt hi1 hi2
          have c : i' ≤ j := by have := PA.out; omega
          have q : ltInt (G i') (G a) = false := US.out PA.out
          go_wp2
          go_quiet (first | (go_at_call 66; refine Calls.quiet_of_same (less_calls _ _ _)))
          go_wp2
          clear c q
          have HU1 := Aside0.mk (HU.out.drewN nq)
          clear hcw hfw HU
          generalize wr.drewN nq = wv at HU1 ⊢
          go_loopw [11] (fun v wr => ∃ j' : Nat, v = .int .i64 j' ∧ j2 ≤ j' ∧ j' ≤ j ∧ Aside0 (SR w wr blk pre post ty dk)) (fun v _ => (intOf v).toNat - j2)
          case atStart => exact ⟨j, rfl, FF.out.2.2.1, Nat.le_refl _, HU1⟩
          case round =>
            obtain ⟨j', rfl, hj1, hj2, HV⟩ := hrel
            have hcw : ∀ t, t < d.size → wr.cell? ⟨blk, off + t, none⟩ = some (.int .u64 (G t)) := fun t ht => by rw [HG.out]; exact HV.out.cell ho (by omega)
            have hfw : ∀ t, t < d.size → wr.frozen? ⟨blk, off + t, none⟩ = false := fun t ht => HV.out.frozen _
            by_cases hlt : j2 < j'
            · have c : i' ≤ j' := by have := FF.out.2.2.2.1; omega
              have q : ltInt (G j') (G a) = false := DN.out j' hlt hj2
              go_wp2
              go_quiet (first | (go_at_call 66; refine Calls.quiet_of_same (less_calls _ _ _)))
              go_wp2
              go_roundw
              case rel => exact ⟨j' - 1, by first | rfl | (congr 1 <;> omega), by omega, by omega, ⟨HV.out.drewN _⟩⟩
              case measure => simp [intOf]; omega
            · obtain rfl : j' = j2 := by omega
              clear hlt hj1 hj2
              have c : i' ≤ j' := by have := PB.out; omega
              have q : ltInt (G j') (G a) = true := DS.out PB.out
              have hjx := BD.out.2.1
              go_wp2
              go_quiet (first | (go_at_call 66; refine Calls.quiet_of_same (less_calls _ _ _)))
              go_wp2
              clear c q hjx
              have HZ := Aside0.mk (HV.out.drewN nq)
              clear hcw hfw HV HU1
              generalize wr.drewN nq = wz at HZ ⊢
              have hne : i' < j' := FF.out.2.2.2.2 PB.out
              have hb1 := BD.out.2.1
              have hb0 := BD.out.2.2
              have hcw : ∀ t, t < d.size → wz.cell? ⟨blk, off + t, none⟩ = some (.int .u64 (G t)) := fun t ht => by rw [HG.out]; exact HZ.out.cell ho (by omega)
              have hfw : ∀ t, t < d.size → wz.frozen? ⟨blk, off + t, none⟩ = false := fun t ht => HZ.out.frozen _
              have c : decide ((j' : Int) < i') = false := decide_eq_false (by omega)
              go_wp2
              go_region
              all_goals go_wp2
              have HK1 := Aside0.mk ((HZ.out.drewN 1).swap ho (i := i') (j := j') (by omega) (by omega) (HG.out _) (HG.out _))
              have HP := Aside0.mk (show Sort.partition ltInt d a b pivot = ((Sort.partLoop ltInt a (i' + 1) (j' - 1) (swp dk i' j')).1, false, swp (Sort.partLoop ltInt a (i' + 1) (j' - 1) (swp dk i' j')).2 (Sort.partLoop ltInt a (i' + 1) (j' - 1) (swp dk i' j')).1 a) by unfold Sort.partition; simp only; rw [← HD.out, ← HI.out, ← HJ.out, ← EI.out, ← EJ.out]; rw [if_neg (by omega)])
              have hsk1 : (swp dk i' j').size = d.size := by rw [swp_size]; exact hsk
              have hz1 := Aside0.mk (show a < i' + 1 ∧ i' + 1 ≤ (j' - 1) + 1 ∧ j' - 1 < b by omega)
              clear hcw hfw HZ HG FF EI EJ UP US DN DS BD PA PB c HD HI HJ HK hsk hai hij hjb
              generalize swp dk i' j' = dn at HK1 HP hsk1
              generalize hL : Sort.partLoop ltInt a (i' + 1) (j' - 1) dn = L at HP
              have HL := Aside0.mk hL
              clear hL
              go_loopw [10, 11] (fun v u wr => ∃ (i j : Nat) (dk : Array Int), v = .int .i64 i ∧ u = .int .i64 j ∧ a < i ∧ i ≤ j + 1 ∧ j < b ∧ dk.size = d.size ∧ Aside0 (SR w wr blk pre post ty dk) ∧ Aside0 (Sort.partLoop ltInt a i j dk = L)) (fun v u _ => (intOf u).toNat + 1 - (intOf v).toNat)
              case atStart => exact ⟨i' + 1, j' - 1, dn, by simp, by first | rfl | (congr 1 <;> omega), hz1.out.1, hz1.out.2.1, hz1.out.2.2, hsk1, HK1, HL⟩
              case round =>
                clear HK1 hz1 HL hsk1 hne hb1 hb0
                obtain ⟨i, j, dk, rfl, rfl, hai, hij, hjb, hsk, HK, HO⟩ := hrel
                obtain ⟨G, hG⟩ : ∃ G : Nat → Int, ∀ t, G t = dk[t]! := ⟨fun t => dk[t]!, fun _ => rfl⟩
                have HG := Aside0.mk hG
                clear hG
                obtain ⟨i2, ei2⟩ : ∃ i2, i2 = Sort.scanUp (fun x => ltInt x dk[a]!) dk j i := ⟨_, rfl⟩
                obtain ⟨j2, ej2⟩ : ∃ j2, j2 = Sort.scanDown (fun x => !ltInt x dk[a]!) dk i2 j := ⟨_, rfl⟩
                obtain ⟨F1, F2, F3, F4, F5⟩ := scan_facts (fun x => ltInt x dk[a]!) (fun x => !ltInt x dk[a]!) (fun x => by simp) dk a i j i2 j2 hai hij ei2 ej2
                have FF := Aside0.mk F1
                have EI := Aside0.mk ei2
                have EJ := Aside0.mk ej2
                have UP := Aside0.mk (show ∀ t, i ≤ t → t < i2 → ltInt (G t) (G a) = true from fun t h1 h2 => by have := F2 t h1 h2; simp only [HG.out]; simpa using this)
                have US := Aside0.mk (show i2 ≤ j → ltInt (G i2) (G a) = false from fun h => by have := F3 h; simp only [HG.out]; simpa using this)
                have DN := Aside0.mk (show ∀ t, j2 < t → t ≤ j → ltInt (G t) (G a) = false from fun t h1 h2 => by have := F4 t h1 h2; simp only [HG.out]; simpa using this)
                have DS := Aside0.mk (show i2 ≤ j2 → ltInt (G j2) (G a) = true from fun h => by have := F5 h; simp only [HG.out]; simpa using this)
                have BD := Aside0.mk (show i2 ≤ b ∧ j2 < b ∧ a < i2 from ⟨by omega, by omega, by omega⟩)
                clear F1 F2 F3 F4 F5 ei2 ej2
                go_wp2
                by_cases pA : i2 ≤ j
                · have PA := Aside0.mk pA
                  clear pA
                  by_cases pB : i2 ≤ j2
                  · have PB := Aside0.mk pB
                    clear pB
                    go_loopw [10] (fun v wr => ∃ i' : Nat, v = .int .i64 i' ∧ i ≤ i' ∧ i' ≤ i2 ∧ Aside0 (SR w wr blk pre post ty dk)) (fun v _ => i2 - (intOf v).toNat)
                    case atStart => exact ⟨i, rfl, Nat.le_refl _, FF.out.1, HK⟩
                    case round =>
                      obtain ⟨i', rfl, hi1, hi2, HU⟩ := hrel
                      have hcw : ∀ t, t < d.size → wr.cell? ⟨blk, off + t, none⟩ = some (.int .u64 (G t)) := fun t ht => by rw [HG.out]; exact HU.out.cell ho (by omega)
                      have hfw : ∀ t, t < d.size → wr.frozen? ⟨blk, off + t, none⟩ = false := fun t ht => HU.out.frozen _
                      by_cases hlt : i' < i2
                      · have c : i' ≤ j := by have := FF.out.2.1; omega
                        have q : ltInt (G i') (G a) = true := UP.out i' hi1 hlt
                        go_wp2
                        go_quiet (first | (go_at_call 66; refine Calls.quiet_of_same (less_calls _ _ _)))
                        go_wp2
                        go_roundw
                        case rel => exact ⟨i' + 1, by simp, by omega, by omega, ⟨HU.out.drewN _⟩⟩
                        case measure => (have := FF.out; simp [intOf]; omega)
                      · obtain rfl : i' = i2 := by omega
                        clear hlt hi1 hi2
                        have c : i' ≤ j := by have := PA.out; omega
                        have q : ltInt (G i') (G a) = false := US.out PA.out
                        go_wp2
                        go_quiet (first | (go_at_call 66; refine Calls.quiet_of_same (less_calls _ _ _)))
                        go_wp2
                        clear c q
                        have HU1 := Aside0.mk (HU.out.drewN nq)
                        clear hcw hfw HU
                        generalize wr.drewN nq = wv at HU1 ⊢
                        go_loopw [11] (fun v wr => ∃ j' : Nat, v = .int .i64 j' ∧ j2 ≤ j' ∧ j' ≤ j ∧ Aside0 (SR w wr blk pre post ty dk)) (fun v _ => (intOf v).toNat - j2)
                        case atStart => exact ⟨j, rfl, FF.out.2.2.1, Nat.le_refl _, HU1⟩
                        case round =>
                          obtain ⟨j', rfl, hj1, hj2, HV⟩ := hrel
                          have hcw : ∀ t, t < d.size → wr.cell? ⟨blk, off + t, none⟩ = some (.int .u64 (G t)) := fun t ht => by rw [HG.out]; exact HV.out.cell ho (by omega)
                          have hfw : ∀ t, t < d.size → wr.frozen? ⟨blk, off + t, none⟩ = false := fun t ht => HV.out.frozen _
                          by_cases hlt : j2 < j'
                          · have c : i' ≤ j' := by have := FF.out.2.2.2.1; omega
                            have q : ltInt (G j') (G a) = false := DN.out j' hlt hj2
                            go_wp2
                            go_quiet (first | (go_at_call 66; refine Calls.quiet_of_same (less_calls _ _ _)))
                            go_wp2
                            go_roundw
                            case rel => exact ⟨j' - 1, by first | rfl | (congr 1 <;> omega), by omega, by omega, ⟨HV.out.drewN _⟩⟩
                            case measure => simp [intOf]; omega
                          · obtain rfl : j' = j2 := by omega
                            clear hlt hj1 hj2
                            have c : i' ≤ j' := by have := PB.out; omega
                            have q : ltInt (G j') (G a) = true := DS.out PB.out
                            have hjx := BD.out.2.1
                            go_wp2
                            go_quiet (first | (go_at_call 66; refine Calls.quiet_of_same (less_calls _ _ _)))
                            go_wp2
                            clear c q hjx
                            have HZ := Aside0.mk (HV.out.drewN nq)
                            clear hcw hfw HV HU1
                            generalize wr.drewN nq = wz at HZ ⊢
                            have hne : i' < j' := FF.out.2.2.2.2 PB.out
                            have hb1 := BD.out.2.1
                            have hb0 := BD.out.2.2
                            have hcw : ∀ t, t < d.size → wz.cell? ⟨blk, off + t, none⟩ = some (.int .u64 (G t)) := fun t ht => by rw [HG.out]; exact HZ.out.cell ho (by omega)
                            have hfw : ∀ t, t < d.size → wz.frozen? ⟨blk, off + t, none⟩ = false := fun t ht => HZ.out.frozen _
                            have c : decide ((j' : Int) < i') = false := decide_eq_false (by omega)
                            go_wp2
                            go_region
                            all_goals go_wp2
                            go_roundw
                            case rel => exact ⟨i' + 1, j' - 1, swp dk i' j', by simp, by first | rfl | (congr 1 <;> omega), by omega, by omega, by omega, by rw [swp_size]; exact hsk, ⟨(HZ.out.drewN 1).swap ho (by omega) (by omega) (HG.out _) (HG.out _)⟩, ⟨by rw [← HO.out, Sort.partLoop_eq ltInt a i j dk, ← EI.out, ← EJ.out, if_neg (by omega)]⟩⟩
                            case measure => (have := FF.out; simp [intOf]; omega)
                  · have PB := Aside0.mk pB
                    clear pB
                    go_loopw [10] (fun v wr => ∃ i' : Nat, v = .int .i64 i' ∧ i ≤ i' ∧ i' ≤ i2 ∧ Aside0 (SR w wr blk pre post ty dk)) (fun v _ => i2 - (intOf v).toNat)
                    case atStart => exact ⟨i, rfl, Nat.le_refl _, FF.out.1, HK⟩
                    case round =>
                      obtain ⟨i', rfl, hi1, hi2, HU⟩ := hrel
                      have hcw : ∀ t, t < d.size → wr.cell? ⟨blk, off + t, none⟩ = some (.int .u64 (G t)) := fun t ht => by rw [HG.out]; exact HU.out.cell ho (by omega)
                      have hfw : ∀ t, t < d.size → wr.frozen? ⟨blk, off + t, none⟩ = false := fun t ht => HU.out.frozen _
                      by_cases hlt : i' < i2
                      · have c : i' ≤ j := by have := FF.out.2.1; omega
                        have q : ltInt (G i') (G a) = true := UP.out i' hi1 hlt
                        go_wp2
                        go_quiet (first | (go_at_call 66; refine Calls.quiet_of_same (less_calls _ _ _)))
                        go_wp2
                        go_roundw
                        case rel => exact ⟨i' + 1, by simp, by omega, by omega, ⟨HU.out.drewN _⟩⟩
                        case measure => (have := FF.out; simp [intOf]; omega)
                      · obtain rfl : i' = i2 := by omega
                        clear hlt hi1 hi2
                        have c : i' ≤ j := by have := PA.out; omega
                        have q : ltInt (G i') (G a) = false := US.out PA.out
                        go_wp2
                        go_quiet (first | (go_at_call 66; refine Calls.quiet_of_same (less_calls _ _ _)))
                        go_wp2
                        clear c q
                        have HU1 := Aside0.mk (HU.out.drewN nq)
                        clear hcw hfw HU
                        generalize wr.drewN nq = wv at HU1 ⊢
                        go_loopw [11] (fun v wr => ∃ j' : Nat, v = .int .i64 j' ∧ j2 ≤ j' ∧ j' ≤ j ∧ Aside0 (SR w wr blk pre post ty dk)) (fun v _ => (intOf v).toNat - j2)
                        case atStart => exact ⟨j, rfl, FF.out.2.2.1, Nat.le_refl _, HU1⟩
                        case round =>
                          obtain ⟨j', rfl, hj1, hj2, HV⟩ := hrel
                          have hcw : ∀ t, t < d.size → wr.cell? ⟨blk, off + t, none⟩ = some (.int .u64 (G t)) := fun t ht => by rw [HG.out]; exact HV.out.cell ho (by omega)
                          have hfw : ∀ t, t < d.size → wr.frozen? ⟨blk, off + t, none⟩ = false := fun t ht => HV.out.frozen _
                          by_cases hlt : j2 < j'
                          · have c : i' ≤ j' := by have := FF.out.2.2.2.1; omega
                            have q : ltInt (G j') (G a) = false := DN.out j' hlt hj2
                            go_wp2
                            go_quiet (first | (go_at_call 66; refine Calls.quiet_of_same (less_calls _ _ _)))
                            go_wp2
                            go_roundw
                            case rel => exact ⟨j' - 1, by first | rfl | (congr 1 <;> omega), by omega, by omega, ⟨HV.out.drewN _⟩⟩
                            case measure => simp [intOf]; omega
                          · obtain rfl : j' = j2 := by omega
                            clear hlt hj1 hj2
                            have c : ¬ i' ≤ j' := by have := PB.out; omega
                            go_wp2
                            go_quiet (first | (go_at_call 66; refine Calls.quiet_of_same (less_calls _ _ _)))
                            go_wp2
                            clear c
                            have HZ := Aside0.mk (HV.out.drewN nq)
                            clear hcw hfw HV HU1
                            generalize wr.drewN nq = wz at HZ ⊢
                            have hb1 := BD.out.2.1
                            have hcw : ∀ t, t < d.size → wz.cell? ⟨blk, off + t, none⟩ = some (.int .u64 (G t)) := fun t ht => by rw [HG.out]; exact HZ.out.cell ho (by omega)
                            have hfw : ∀ t, t < d.size → wz.frozen? ⟨blk, off + t, none⟩ = false := fun t ht => HZ.out.frozen _
                            have hst : ∀ u, (wz.setCell ⟨blk, off + j', none⟩ u).cell? ⟨blk, off + a, none⟩ = some (if a = j' then u else .int .u64 (G a)) := fun u => by
                              by_cases e : a = j'
                              · rw [if_pos e, e]; exact World.cell?_setCell_same _ _ _ (hcw _ (by omega))
                              · rw [if_neg e]; exact (World.cell?_setCell_other _ _ _ _ (by first | (simp; done) | (simp; omega))).trans (hcw _ (by omega))
                            have c : decide ((j' : Int) < i') = true := decide_eq_true (by have := PB.out; omega)
                            go_wp2
                            go_region
                            all_goals go_wp2
                            have HE := Aside0.mk ((HZ.out.drewN 1).swap ho (i := j') (j := a) (by omega) (by omega) (HG.out _) (HG.out _))
                            have R := Aside0.mk (show Sort.partition ltInt d a b pivot = (j', false, swp dk j' a) by rw [HP.out, ← HO.out, Sort.partLoop_eq ltInt a i j dk, ← EI.out, ← EJ.out, if_pos (by have := PB.out; omega)])
                            go_ret2
                            exact ⟨by first | (rw [R.out]; done) | (rw [R.out]; rfl), by simp only [R.out]; exact HE.out⟩
                · have PA := Aside0.mk pA
                  clear pA
                  have PB := Aside0.mk (show ¬ i2 ≤ j2 by have := FF.out; have := PA.out; omega)
                  go_loopw [10] (fun v wr => ∃ i' : Nat, v = .int .i64 i' ∧ i ≤ i' ∧ i' ≤ i2 ∧ Aside0 (SR w wr blk pre post ty dk)) (fun v _ => i2 - (intOf v).toNat)
                  case atStart => exact ⟨i, rfl, Nat.le_refl _, FF.out.1, HK⟩
                  case round =>
                    obtain ⟨i', rfl, hi1, hi2, HU⟩ := hrel
                    have hcw : ∀ t, t < d.size → wr.cell? ⟨blk, off + t, none⟩ = some (.int .u64 (G t)) := fun t ht => by rw [HG.out]; exact HU.out.cell ho (by omega)
                    have hfw : ∀ t, t < d.size → wr.frozen? ⟨blk, off + t, none⟩ = false := fun t ht => HU.out.frozen _
                    by_cases hlt : i' < i2
                    · have c : i' ≤ j := by have := FF.out.2.1; omega
                      have q : ltInt (G i') (G a) = true := UP.out i' hi1 hlt
                      go_wp2
                      go_quiet (first | (go_at_call 66; refine Calls.quiet_of_same (less_calls _ _ _)))
                      go_wp2
                      go_roundw
                      case rel => exact ⟨i' + 1, by simp, by omega, by omega, ⟨HU.out.drewN _⟩⟩
                      case measure => (have := FF.out; simp [intOf]; omega)
                    · obtain rfl : i' = i2 := by omega
                      clear hlt hi1 hi2
                      have c : ¬ i' ≤ j := by have := PA.out; omega
                      go_wp2
                      go_quiet (first | (go_at_call 66; refine Calls.quiet_of_same (less_calls _ _ _)))
                      go_wp2
                      clear c
                      have HU1 := Aside0.mk (HU.out.drewN nq)
                      clear hcw hfw HU
                      generalize wr.drewN nq = wv at HU1 ⊢
                      go_loopw [11] (fun v wr => ∃ j' : Nat, v = .int .i64 j' ∧ j2 ≤ j' ∧ j' ≤ j ∧ Aside0 (SR w wr blk pre post ty dk)) (fun v _ => (intOf v).toNat - j2)
                      case atStart => exact ⟨j, rfl, FF.out.2.2.1, Nat.le_refl _, HU1⟩
                      case round =>
                        obtain ⟨j', rfl, hj1, hj2, HV⟩ := hrel
                        have hcw : ∀ t, t < d.size → wr.cell? ⟨blk, off + t, none⟩ = some (.int .u64 (G t)) := fun t ht => by rw [HG.out]; exact HV.out.cell ho (by omega)
                        have hfw : ∀ t, t < d.size → wr.frozen? ⟨blk, off + t, none⟩ = false := fun t ht => HV.out.frozen _
                        · obtain rfl : j' = j2 := by have := FF.out; have := PA.out; omega
                          clear hj1 hj2
                          have c : ¬ i' ≤ j' := by have := PB.out; omega
                          go_wp2
                          go_quiet (first | (go_at_call 66; refine Calls.quiet_of_same (less_calls _ _ _)))
                          go_wp2
                          clear c
                          have HZ := Aside0.mk (HV.out.drewN nq)
                          clear hcw hfw HV HU1
                          generalize wr.drewN nq = wz at HZ ⊢
                          have hb1 := BD.out.2.1
                          have hcw : ∀ t, t < d.size → wz.cell? ⟨blk, off + t, none⟩ = some (.int .u64 (G t)) := fun t ht => by rw [HG.out]; exact HZ.out.cell ho (by omega)
                          have hfw : ∀ t, t < d.size → wz.frozen? ⟨blk, off + t, none⟩ = false := fun t ht => HZ.out.frozen _
                          have hst : ∀ u, (wz.setCell ⟨blk, off + j', none⟩ u).cell? ⟨blk, off + a, none⟩ = some (if a = j' then u else .int .u64 (G a)) := fun u => by
                            by_cases e : a = j'
                            · rw [if_pos e, e]; exact World.cell?_setCell_same _ _ _ (hcw _ (by omega))
                            · rw [if_neg e]; exact (World.cell?_setCell_other _ _ _ _ (by first | (simp; done) | (simp; omega))).trans (hcw _ (by omega))
                          have c : decide ((j' : Int) < i') = true := decide_eq_true (by have := PB.out; omega)
                          go_wp2
                          go_region
                          all_goals go_wp2
                          have HE := Aside0.mk ((HZ.out.drewN 1).swap ho (i := j') (j := a) (by omega) (by omega) (HG.out _) (HG.out _))
                          have R := Aside0.mk (show Sort.partition ltInt d a b pivot = (j', false, swp dk j' a) by rw [HP.out, ← HO.out, Sort.partLoop_eq ltInt a i j dk, ← EI.out, ← EJ.out, if_pos (by have := PB.out; omega)])
                          go_ret2
                          exact ⟨by first | (rw [R.out]; done) | (rw [R.out]; rfl), by simp only [R.out]; exact HE.out⟩
    · have PB := Aside0.mk pB
      clear pB
      go_loopw [10] (fun v wr => ∃ i' : Nat, v = .int .i64 i' ∧ i ≤ i' ∧ i' ≤ i2 ∧ Aside0 (SR w wr blk pre post ty dk)) (fun v _ => i2 - (intOf v).toNat)
      case atStart => exact ⟨i, rfl, Nat.le_refl _, FF.out.1, HK⟩
      case round =>
        obtain ⟨i', rfl, hi1, hi2, HU⟩ := hrel
        have hcw : ∀ t, t < d.size → wr.cell? ⟨blk, off + t, none⟩ = some (.int .u64 (G t)) := fun t ht => by rw [HG.out]; exact HU.out.cell ho (by omega)
        have hfw : ∀ t, t < d.size → wr.frozen? ⟨blk, off + t, none⟩ = false := fun t ht => HU.out.frozen _
        by_cases hlt : i' < i2
        · have c : i' ≤ j := by have := FF.out.2.1; omega
          have q : ltInt (G i') (G a) = true := UP.out i' hi1 hlt
          go_wp2
          go_quiet (first | (go_at_call 66; refine Calls.quiet_of_same (less_calls _ _ _)))
          go_wp2
          go_roundw
          case rel => exact ⟨i' + 1, by simp, by omega, by omega, ⟨HU.out.drewN _⟩⟩
          case measure => (have := FF.out; simp [intOf]; omega)
        · obtain rfl : i' = i2 := by omega
          clear hlt hi1 hi2
          have c : i' ≤ j := by have := PA.out; omega
          have q : ltInt (G i') (G a) = false := US.out PA.out
          go_wp2
          go_quiet (first | (go_at_call 66; refine Calls.quiet_of_same (less_calls _ _ _)))
          go_wp2
          clear c q
          have HU1 := Aside0.mk (HU.out.drewN nq)
          clear hcw hfw HU
          generalize wr.drewN nq = wv at HU1 ⊢
          go_loopw [11] (fun v wr => ∃ j' : Nat, v = .int .i64 j' ∧ j2 ≤ j' ∧ j' ≤ j ∧ Aside0 (SR w wr blk pre post ty dk)) (fun v _ => (intOf v).toNat - j2)
          case atStart => exact ⟨j, rfl, FF.out.2.2.1, Nat.le_refl _, HU1⟩
          case round =>
            obtain ⟨j', rfl, hj1, hj2, HV⟩ := hrel
            have hcw : ∀ t, t < d.size → wr.cell? ⟨blk, off + t, none⟩ = some (.int .u64 (G t)) := fun t ht => by rw [HG.out]; exact HV.out.cell ho (by omega)
            have hfw : ∀ t, t < d.size → wr.frozen? ⟨blk, off + t, none⟩ = false := fun t ht => HV.out.frozen _
            by_cases hlt : j2 < j'
            · have c : i' ≤ j' := by have := FF.out.2.2.2.1; omega
              have q : ltInt (G j') (G a) = false := DN.out j' hlt hj2
              go_wp2
              go_quiet (first | (go_at_call 66; refine Calls.quiet_of_same (less_calls _ _ _)))
              go_wp2
              go_roundw
              case rel => exact ⟨j' - 1, by first | rfl | (congr 1 <;> omega), by omega, by omega, ⟨HV.out.drewN _⟩⟩
              case measure => simp [intOf]; omega
            · obtain rfl : j' = j2 := by omega
              clear hlt hj1 hj2
              have c : ¬ i' ≤ j' := by have := PB.out; omega
              go_wp2
              go_quiet (first | (go_at_call 66; refine Calls.quiet_of_same (less_calls _ _ _)))
              go_wp2
              clear c
              have HZ := Aside0.mk (HV.out.drewN nq)
              clear hcw hfw HV HU1
              generalize wr.drewN nq = wz at HZ ⊢
              have hb1 := BD.out.2.1
              have hcw : ∀ t, t < d.size → wz.cell? ⟨blk, off + t, none⟩ = some (.int .u64 (G t)) := fun t ht => by rw [HG.out]; exact HZ.out.cell ho (by omega)
              have hfw : ∀ t, t < d.size → wz.frozen? ⟨blk, off + t, none⟩ = false := fun t ht => HZ.out.frozen _
              have hst : ∀ u, (wz.setCell ⟨blk, off + j', none⟩ u).cell? ⟨blk, off + a, none⟩ = some (if a = j' then u else .int .u64 (G a)) := fun u => by
                by_cases e : a = j'
                · rw [if_pos e, e]; exact World.cell?_setCell_same _ _ _ (hcw _ (by omega))
                · rw [if_neg e]; exact (World.cell?_setCell_other _ _ _ _ (by first | (simp; done) | (simp; omega))).trans (hcw _ (by omega))
              have c : decide ((j' : Int) < i') = true := decide_eq_true (by have := PB.out; omega)
              go_wp2
              go_region
              all_goals go_wp2
              have HE := Aside0.mk ((HZ.out.drewN 1).swap ho (i := j') (j := a) (by omega) (by omega) (HG.out _) (HG.out _))
              have R := Aside0.mk (show Sort.partition ltInt d a b pivot = (j', true, swp dk j' a) by unfold Sort.partition; simp only; rw [← HD.out, ← HI.out, ← HJ.out, ← EI.out, ← EJ.out]; rw [if_pos (by have := PB.out; omega)])
              go_ret2
              exact ⟨by first | (rw [R.out]; done) | (rw [R.out]; rfl), by simp only [R.out]; exact HE.out⟩
  · have PA := Aside0.mk pA
    clear pA
    have PB := Aside0.mk (show ¬ i2 ≤ j2 by have := FF.out; have := PA.out; omega)
    go_loopw [10] (fun v wr => ∃ i' : Nat, v = .int .i64 i' ∧ i ≤ i' ∧ i' ≤ i2 ∧ Aside0 (SR w wr blk pre post ty dk)) (fun v _ => i2 - (intOf v).toNat)
    case atStart => exact ⟨i, rfl, Nat.le_refl _, FF.out.1, HK⟩
    case round =>
      obtain ⟨i', rfl, hi1, hi2, HU⟩ := hrel
      have hcw : ∀ t, t < d.size → wr.cell? ⟨blk, off + t, none⟩ = some (.int .u64 (G t)) := fun t ht => by rw [HG.out]; exact HU.out.cell ho (by omega)
      have hfw : ∀ t, t < d.size → wr.frozen? ⟨blk, off + t, none⟩ = false := fun t ht => HU.out.frozen _
      by_cases hlt : i' < i2
      · have c : i' ≤ j := by have := FF.out.2.1; omega
        have q : ltInt (G i') (G a) = true := UP.out i' hi1 hlt
        go_wp2
        go_quiet (first | (go_at_call 66; refine Calls.quiet_of_same (less_calls _ _ _)))
        go_wp2
        go_roundw
        case rel => exact ⟨i' + 1, by simp, by omega, by omega, ⟨HU.out.drewN _⟩⟩
        case measure => (have := FF.out; simp [intOf]; omega)
      · obtain rfl : i' = i2 := by omega
        clear hlt hi1 hi2
        have c : ¬ i' ≤ j := by have := PA.out; omega
        go_wp2
        go_quiet (first | (go_at_call 66; refine Calls.quiet_of_same (less_calls _ _ _)))
        go_wp2
        clear c
        have HU1 := Aside0.mk (HU.out.drewN nq)
        clear hcw hfw HU
        generalize wr.drewN nq = wv at HU1 ⊢
        go_loopw [11] (fun v wr => ∃ j' : Nat, v = .int .i64 j' ∧ j2 ≤ j' ∧ j' ≤ j ∧ Aside0 (SR w wr blk pre post ty dk)) (fun v _ => (intOf v).toNat - j2)
        case atStart => exact ⟨j, rfl, FF.out.2.2.1, Nat.le_refl _, HU1⟩
        case round =>
          obtain ⟨j', rfl, hj1, hj2, HV⟩ := hrel
          have hcw : ∀ t, t < d.size → wr.cell? ⟨blk, off + t, none⟩ = some (.int .u64 (G t)) := fun t ht => by rw [HG.out]; exact HV.out.cell ho (by omega)
          have hfw : ∀ t, t < d.size → wr.frozen? ⟨blk, off + t, none⟩ = false := fun t ht => HV.out.frozen _
          · obtain rfl : j' = j2 := by have := FF.out; have := PA.out; omega
            clear hj1 hj2
            have c : ¬ i' ≤ j' := by have := PB.out; omega
            go_wp2
            go_quiet (first | (go_at_call 66; refine Calls.quiet_of_same (less_calls _ _ _)))
            go_wp2
            clear c
            have HZ := Aside0.mk (HV.out.drewN nq)
            clear hcw hfw HV HU1
            generalize wr.drewN nq = wz at HZ ⊢
            have hb1 := BD.out.2.1
            have hcw : ∀ t, t < d.size → wz.cell? ⟨blk, off + t, none⟩ = some (.int .u64 (G t)) := fun t ht => by rw [HG.out]; exact HZ.out.cell ho (by omega)
            have hfw : ∀ t, t < d.size → wz.frozen? ⟨blk, off + t, none⟩ = false := fun t ht => HZ.out.frozen _
            have hst : ∀ u, (wz.setCell ⟨blk, off + j', none⟩ u).cell? ⟨blk, off + a, none⟩ = some (if a = j' then u else .int .u64 (G a)) := fun u => by
              by_cases e : a = j'
              · rw [if_pos e, e]; exact World.cell?_setCell_same _ _ _ (hcw _ (by omega))
              · rw [if_neg e]; exact (World.cell?_setCell_other _ _ _ _ (by first | (simp; done) | (simp; omega))).trans (hcw _ (by omega))
            have c : decide ((j' : Int) < i') = true := decide_eq_true (by have := PB.out; omega)
            go_wp2
            go_region
            all_goals go_wp2
            have HE := Aside0.mk ((HZ.out.drewN 1).swap ho (i := j') (j := a) (by omega) (by omega) (HG.out _) (HG.out _))
            have R := Aside0.mk (show Sort.partition ltInt d a b pivot = (j', true, swp dk j' a) by unfold Sort.partition; simp only; rw [← HD.out, ← HI.out, ← HJ.out, ← EI.out, ← EJ.out]; rw [if_pos (by have := PB.out; omega)])
            go_ret2
            exact ⟨by first | (rw [R.out]; done) | (rw [R.out]; rfl), by simp only [R.out]; exact HE.out⟩
end Go.Proofs.Ytkppgepljjgjhaa.P
