/- pdqsortOrdered at uint64: one step of its recursion. No condition. -/
import Derived.Test.YtkppgepljjgjhaaKTagmemEitherSb0
namespace Go.Proofs.Ytkppgepljjgjhaa.P
open Go.RowKit Go.Proofs.YtkppgepljjgjhaaW.PrintWords Go.Proofs.YtkppgepljjgjhaaW.PrintLast
open Go.Sort (ltInt swp PermIn SortedIn swo_ltInt)
set_option linter.unusedVariables false
set_option linter.unusedSimpArgs false
variable {w : World} {blk off : Nat} {pre post : List Value} {ty : TypeId}
set_option maxHeartbeats 16000000 in
set_option maxRecDepth 100000 in
theorem pdq_step (ho : pre.length = off) (hblk : blk < w.heap.size) (n cap : Nat) (hn : n < 32768) (N : Nat)
    (ih : ∀ (W : World) (d : Array Int) (a b : Nat) (l : Int) (F : Array Int → Prop), b - a < N → a ≤ b → b ≤ n → PL w W blk pre post ty n a b F d → Calls Try.prog 47 #[.slice (some ⟨blk, off, none⟩) n cap, .int .i64 a, .int .i64 b, .int .i64 l] W fun e W' => e = .returned (.tuple #[]) ∧ ∃ d', d'.size = n ∧ SR w W' blk pre post ty d' ∧ F d')
    (W : World) (d : Array Int) (a b : Nat) (l : Int) (F : Array Int → Prop) (hN : b - a < N + 1) (hab : a ≤ b) (hb : b ≤ n) (h : PL w W blk pre post ty n a b F d) :
    Calls Try.prog 47 #[.slice (some ⟨blk, off, none⟩) n cap, .int .i64 a, .int .i64 b, .int .i64 l] W fun e W' => e = .returned (.tuple #[]) ∧ ∃ d', d'.size = n ∧ SR w W' blk pre post ty d' ∧ F d' := by
  have H := Aside0.mk h
  have IH := Aside0.mk ih
  have IH1 := Aside0.mk (fun (W : World) (d : Array Int) (m b : Nat) (l : Int) (F : Array Int → Prop) (h1 : b - (m + 1) < N) (h2 : m + 1 ≤ b) (h3 : b ≤ n) (h4 : PL w W blk pre post ty n (m + 1) b F d) => by have q := ih W d (m + 1) b l F h1 h2 h3 h4; rw [show ((m + 1 : Nat) : Int) = (m : Int) + 1 by omega] at q; exact q)
  clear h ih
  go_enter Try.func47, Try.ntmps47
  go_wp2
  go_loopw [1, 2, 3, 8, 9] (fun va vb vl v8 v9 wr => ∃ (x y : Nat) (q : Int) (wb wp : Bool) (dk : Array Int), va = .int .i64 x ∧ vb = .int .i64 y ∧ vl = .int .i64 q ∧ v8 = .bool wb ∧ v9 = .bool wp ∧ x ≤ y ∧ y ≤ n ∧ y - x < N + 1 ∧ Aside0 (PL w wr blk pre post ty n x y F dk)) (fun va vb _ _ _ _ => (intOf vb).toNat - (intOf va).toNat)
  case atStart => exact ⟨a, b, l, true, true, d, rfl, rfl, rfl, rfl, rfl, hab, hb, hN, H⟩
  case round =>
    obtain ⟨x, y, q, wb, wp, dk, rfl, rfl, rfl, rfl, rfl, hxy, hy, hNx, HL⟩ := hrel
    have HC := Aside0.mk (show PQ w wr blk pre post ty n x y dk dk from ⟨HL.out.sr, HL.out.sz, Go.Sort.permIn_refl dk x y, HL.out.bl⟩)
    have HF := Aside0.mk HL.out.fin
    clear HL H
    by_cases c12 : y - x ≤ 12
    · have d12 : decide ((y : Int) - x ≤ 12) = true := decide_eq_true (by omega)
      go_wp2_with (first | (go_at_call 60; refine (pq_insertion ho hn hxy hy _ _ HC.out).mono ?_; rintro e W1 ⟨rfl, dc, h1, h2⟩; have HE := Aside0.mk (And.intro h1 h2); clear h1 h2) | fail)
      (try simp only [Exit.inBlock, Exit.then]); refine bodyPost_ret (results_none rfl _ _ _) rfl ?_
      exact ⟨rfl, dc, HE.out.1.sz, HE.out.1.sr, HF.out _ HE.out.1.pm HE.out.2⟩
    have d12 : decide ((y : Int) - x ≤ 12) = false := decide_eq_false (by omega)
    by_cases cq : q = 0
    · subst cq
      go_wp2_with (first | (go_at_call 61; refine (pq_heap ho hn (by omega) hy _ _ HC.out).mono ?_; rintro e W1 ⟨rfl, dc, h1, h2⟩; have HE := Aside0.mk (And.intro h1 h2); clear h1 h2) | fail)
      (try simp only [Exit.inBlock, Exit.then]); refine bodyPost_ret (results_none rfl _ _ _) rfl ?_
      exact ⟨rfl, dc, HE.out.1.sz, HE.out.1.sr, HF.out _ HE.out.1.pm HE.out.2⟩
    have dq : (q == 0) = false := by simpa using cq
    have BRK := Aside0.mk (fun W dc h => pq_break (w := w) (blk := blk) (off := off) (pre := pre) (post := post) (ty := ty) (n := n) (cap := cap) (x := x) (y := y) (dk := dk) ho hblk hn (by omega) hy W dc h)
    have PIV := Aside0.mk (fun W dc h => pq_pivot (w := w) (blk := blk) (off := off) (pre := pre) (post := post) (ty := ty) (n := n) (cap := cap) (x := x) (y := y) (dk := dk) ho hblk hn (by omega) hy W dc h)
    have REV := Aside0.mk (fun W dc h => pq_reverse (w := w) (blk := blk) (off := off) (pre := pre) (post := post) (ty := ty) (n := n) (cap := cap) (x := x) (y := y) (dk := dk) ho hn (by omega) hy W dc h)
    have PAR := Aside0.mk (fun W dc h => pq_partial (w := w) (blk := blk) (off := off) (pre := pre) (post := post) (ty := ty) (n := n) (cap := cap) (x := x) (y := y) (dk := dk) ho hn (by omega) hy W dc h)
    cases wb with
    | false =>
      go_wp2_with (first | (go_at_call 62; refine (BRK.out _ _ HC.out).mono ?_; rintro e W1 ⟨rfl, dc, h1⟩; clear HC; have HC := Aside0.mk h1; clear h1) | (go_at_call 63; refine (PIV.out _ _ HC.out).mono ?_; rintro e W2 ⟨p, k, rfl, hp, h1⟩; clear HC; have HC := Aside0.mk h1; have HP := Aside0.mk hp; clear h1 hp) | (go_at_call 64; refine (REV.out _ _ HC.out).mono ?_; rintro e W3 ⟨rfl, dc, h1⟩; clear HC; have HC := Aside0.mk h1; clear h1) | fail)
      · have e := Aside0.mk (show wrap64 ((y : Int) - 1 - wrap64 ((p : Int) - x)) = ((y - 1 - (p - x) : Nat) : Int) by have := HP.out; unfold wrap64; omega)
        rw [e.out]
        clear e
        have HP2 := Aside0.mk (show x ≤ y - 1 - (p - x) ∧ y - 1 - (p - x) < y by have := HP.out; omega)
        generalize y - 1 - (p - x) = p2 at HP2 ⊢
        have EQL := Aside0.mk (fun (hx : 0 < x) W dc h hl => pq_equal (w := w) (blk := blk) (off := off) (pre := pre) (post := post) (ty := ty) (n := n) (cap := cap) (x := x) (y := y) (dk := dk) ho hn hx p2 HP2.out hy F HF.out W dc h hl)
        have PRT := Aside0.mk (fun W dc h => pq_part (w := w) (blk := blk) (off := off) (pre := pre) (post := post) (ty := ty) (n := n) (cap := cap) (x := x) (y := y) (dk := dk) ho hn p2 HP2.out hy F HF.out W dc h)
        obtain ⟨G, hG⟩ : ∃ G : Nat → Int, ∀ t, G t = dc[t]! := ⟨fun t => dc[t]!, fun _ => rfl⟩
        have hcw : ∀ t, t < n → World.cell? _ ⟨blk, off + t, none⟩ = some (.int .u64 (G t)) := fun t ht => by rw [hG]; exact HC.out.sr.cell ho (by rw [HC.out.sz]; exact ht)
        have HG := Aside0.mk hG
        clear hG
        have hb1 := HP2.out.1
        have hb2 := HP2.out.2
        by_cases hx : 0 < x
        · by_cases hl : ltInt (G (x - 1)) (G p2) = true
          · go_quiet (first | (go_at_call 66; refine Calls.quiet_of_same (less_calls _ _ _)))
            have HC := Aside0.mk (show PQ w _ blk pre post ty n x y dk _ from ⟨HC.out.sr.drewN nq, HC.out.sz, HC.out.pm, HC.out.bl⟩)
            clear hcw
            clear hl
            go_wp2_with (first | (go_at_call 68; refine (PRT.out _ _ HC.out).mono ?_; rintro e W6 ⟨m, t6, d6, rfl, hm, h1, h2⟩; have HM := Aside0.mk hm; obtain ⟨hm1, hm2⟩ := hm; have HLe := Aside0.mk h1; have HRi := Aside0.mk h2; clear h1 h2 HC) | (go_at_call 47; first | (with_reducible refine (IH.out _ d6 x m _ _ (by have := HM.out; omega) HM.out.1 (by have := HM.out; omega) HLe.out).mono ?_; rintro e W7 ⟨rfl, d7, z7, s7, f7⟩; have HE := Aside0.mk (show PL w W7 blk pre post ty n (m + 1) y F d7 from ⟨s7, z7, f7.1, f7.2⟩); clear z7 s7 f7 HLe HRi) | (with_reducible refine (IH1.out _ d6 m y _ _ (by have := HM.out; omega) (by have := HM.out; omega) hy HRi.out).mono ?_; rintro e W7 ⟨rfl, d7, z7, s7, f7⟩; have HE := Aside0.mk (show PL w W7 blk pre post ty n x m F d7 from ⟨s7, z7, f7.1, f7.2⟩); clear z7 s7 f7 HLe HRi)) | fail)
            · go_roundw
              case rel => exact ⟨m + 1, y, _, _, _, d7, by simp, rfl, rfl, rfl, rfl, by have := HM.out; omega, hy, by have := HM.out; omega, HE⟩
              case measure => (have := HM.out; simp [intOf]; omega)
            · go_roundw
              case rel => exact ⟨x, m, _, _, _, d7, rfl, rfl, rfl, rfl, rfl, HM.out.1, by have := HM.out; omega, by have := HM.out; omega, HE⟩
              case measure => (have := HM.out; simp [intOf]; omega)
          · rw [Bool.not_eq_true] at hl
            go_quiet (first | (go_at_call 66; refine Calls.quiet_of_same (less_calls _ _ _)))
            have HC := Aside0.mk (show PQ w _ blk pre post ty n x y dk _ from ⟨HC.out.sr.drewN nq, HC.out.sz, HC.out.pm, HC.out.bl⟩)
            clear hcw
            have HL := Aside0.mk (show ltInt dc[x - 1]! dc[p2]! = false by rw [← HG.out, ← HG.out]; exact hl)
            have EQL := Aside0.mk (EQL.out hx)
            go_wp2_with (first | (go_at_call 67; refine (EQL.out _ _ HC.out HL.out).mono ?_; rintro e W5 ⟨m, d5, rfl, hm, h1⟩; have HM := Aside0.mk hm; have HE := Aside0.mk h1; obtain ⟨hm1, hm2⟩ := hm; clear h1 HC) | fail)
            go_roundw
            case rel => exact ⟨m, y, _, _, _, d5, rfl, rfl, rfl, rfl, rfl, HM.out.2, hy, by have := HM.out; omega, HE⟩
            case measure => (have := HM.out; simp [intOf]; omega)
        · go_quiet (first | (go_at_call 66; refine Calls.quiet_of_same (less_calls _ _ _)))
          have HC := Aside0.mk (show PQ w _ blk pre post ty n x y dk _ from ⟨HC.out.sr.drewN nq, HC.out.sz, HC.out.pm, HC.out.bl⟩)
          clear hcw
          go_wp2_with (first | (go_at_call 68; refine (PRT.out _ _ HC.out).mono ?_; rintro e W6 ⟨m, t6, d6, rfl, hm, h1, h2⟩; have HM := Aside0.mk hm; obtain ⟨hm1, hm2⟩ := hm; have HLe := Aside0.mk h1; have HRi := Aside0.mk h2; clear h1 h2 HC) | (go_at_call 47; first | (with_reducible refine (IH.out _ d6 x m _ _ (by have := HM.out; omega) HM.out.1 (by have := HM.out; omega) HLe.out).mono ?_; rintro e W7 ⟨rfl, d7, z7, s7, f7⟩; have HE := Aside0.mk (show PL w W7 blk pre post ty n (m + 1) y F d7 from ⟨s7, z7, f7.1, f7.2⟩); clear z7 s7 f7 HLe HRi) | (with_reducible refine (IH1.out _ d6 m y _ _ (by have := HM.out; omega) (by have := HM.out; omega) hy HRi.out).mono ?_; rintro e W7 ⟨rfl, d7, z7, s7, f7⟩; have HE := Aside0.mk (show PL w W7 blk pre post ty n x m F d7 from ⟨s7, z7, f7.1, f7.2⟩); clear z7 s7 f7 HLe HRi)) | fail)
          · go_roundw
            case rel => exact ⟨m + 1, y, _, _, _, d7, by simp, rfl, rfl, rfl, rfl, by have := HM.out; omega, hy, by have := HM.out; omega, HE⟩
            case measure => (have := HM.out; simp [intOf]; omega)
          · go_roundw
            case rel => exact ⟨x, m, _, _, _, d7, rfl, rfl, rfl, rfl, rfl, HM.out.1, by have := HM.out; omega, by have := HM.out; omega, HE⟩
            case measure => (have := HM.out; simp [intOf]; omega)
      · have HP2 := HP
        obtain ⟨p2, ep⟩ : ∃ p2, p2 = p := ⟨_, rfl⟩
        rw [← ep] at HP2 ⊢
        clear ep
        have EQL := Aside0.mk (fun (hx : 0 < x) W dc h hl => pq_equal (w := w) (blk := blk) (off := off) (pre := pre) (post := post) (ty := ty) (n := n) (cap := cap) (x := x) (y := y) (dk := dk) ho hn hx p2 HP2.out hy F HF.out W dc h hl)
        have PRT := Aside0.mk (fun W dc h => pq_part (w := w) (blk := blk) (off := off) (pre := pre) (post := post) (ty := ty) (n := n) (cap := cap) (x := x) (y := y) (dk := dk) ho hn p2 HP2.out hy F HF.out W dc h)
        obtain ⟨G, hG⟩ : ∃ G : Nat → Int, ∀ t, G t = dc[t]! := ⟨fun t => dc[t]!, fun _ => rfl⟩
        have hcw : ∀ t, t < n → World.cell? _ ⟨blk, off + t, none⟩ = some (.int .u64 (G t)) := fun t ht => by rw [hG]; exact HC.out.sr.cell ho (by rw [HC.out.sz]; exact ht)
        have HG := Aside0.mk hG
        clear hG
        have hb1 := HP2.out.1
        have hb2 := HP2.out.2
        by_cases hx : 0 < x
        · by_cases hl : ltInt (G (x - 1)) (G p2) = true
          · go_quiet (first | (go_at_call 66; refine Calls.quiet_of_same (less_calls _ _ _)))
            have HC := Aside0.mk (show PQ w _ blk pre post ty n x y dk _ from ⟨HC.out.sr.drewN nq, HC.out.sz, HC.out.pm, HC.out.bl⟩)
            clear hcw
            clear hl
            go_wp2_with (first | (go_at_call 68; refine (PRT.out _ _ HC.out).mono ?_; rintro e W6 ⟨m, t6, d6, rfl, hm, h1, h2⟩; have HM := Aside0.mk hm; obtain ⟨hm1, hm2⟩ := hm; have HLe := Aside0.mk h1; have HRi := Aside0.mk h2; clear h1 h2 HC) | (go_at_call 47; first | (with_reducible refine (IH.out _ d6 x m _ _ (by have := HM.out; omega) HM.out.1 (by have := HM.out; omega) HLe.out).mono ?_; rintro e W7 ⟨rfl, d7, z7, s7, f7⟩; have HE := Aside0.mk (show PL w W7 blk pre post ty n (m + 1) y F d7 from ⟨s7, z7, f7.1, f7.2⟩); clear z7 s7 f7 HLe HRi) | (with_reducible refine (IH1.out _ d6 m y _ _ (by have := HM.out; omega) (by have := HM.out; omega) hy HRi.out).mono ?_; rintro e W7 ⟨rfl, d7, z7, s7, f7⟩; have HE := Aside0.mk (show PL w W7 blk pre post ty n x m F d7 from ⟨s7, z7, f7.1, f7.2⟩); clear z7 s7 f7 HLe HRi)) | fail)
            · go_roundw
              case rel => exact ⟨m + 1, y, _, _, _, d7, by simp, rfl, rfl, rfl, rfl, by have := HM.out; omega, hy, by have := HM.out; omega, HE⟩
              case measure => (have := HM.out; simp [intOf]; omega)
            · go_roundw
              case rel => exact ⟨x, m, _, _, _, d7, rfl, rfl, rfl, rfl, rfl, HM.out.1, by have := HM.out; omega, by have := HM.out; omega, HE⟩
              case measure => (have := HM.out; simp [intOf]; omega)
          · rw [Bool.not_eq_true] at hl
            go_quiet (first | (go_at_call 66; refine Calls.quiet_of_same (less_calls _ _ _)))
            have HC := Aside0.mk (show PQ w _ blk pre post ty n x y dk _ from ⟨HC.out.sr.drewN nq, HC.out.sz, HC.out.pm, HC.out.bl⟩)
            clear hcw
            have HL := Aside0.mk (show ltInt dc[x - 1]! dc[p2]! = false by rw [← HG.out, ← HG.out]; exact hl)
            have EQL := Aside0.mk (EQL.out hx)
            go_wp2_with (first | (go_at_call 67; refine (EQL.out _ _ HC.out HL.out).mono ?_; rintro e W5 ⟨m, d5, rfl, hm, h1⟩; have HM := Aside0.mk hm; have HE := Aside0.mk h1; obtain ⟨hm1, hm2⟩ := hm; clear h1 HC) | fail)
            go_roundw
            case rel => exact ⟨m, y, _, _, _, d5, rfl, rfl, rfl, rfl, rfl, HM.out.2, hy, by have := HM.out; omega, HE⟩
            case measure => (have := HM.out; simp [intOf]; omega)
        · go_quiet (first | (go_at_call 66; refine Calls.quiet_of_same (less_calls _ _ _)))
          have HC := Aside0.mk (show PQ w _ blk pre post ty n x y dk _ from ⟨HC.out.sr.drewN nq, HC.out.sz, HC.out.pm, HC.out.bl⟩)
          clear hcw
          go_wp2_with (first | (go_at_call 68; refine (PRT.out _ _ HC.out).mono ?_; rintro e W6 ⟨m, t6, d6, rfl, hm, h1, h2⟩; have HM := Aside0.mk hm; obtain ⟨hm1, hm2⟩ := hm; have HLe := Aside0.mk h1; have HRi := Aside0.mk h2; clear h1 h2 HC) | (go_at_call 47; first | (with_reducible refine (IH.out _ d6 x m _ _ (by have := HM.out; omega) HM.out.1 (by have := HM.out; omega) HLe.out).mono ?_; rintro e W7 ⟨rfl, d7, z7, s7, f7⟩; have HE := Aside0.mk (show PL w W7 blk pre post ty n (m + 1) y F d7 from ⟨s7, z7, f7.1, f7.2⟩); clear z7 s7 f7 HLe HRi) | (with_reducible refine (IH1.out _ d6 m y _ _ (by have := HM.out; omega) (by have := HM.out; omega) hy HRi.out).mono ?_; rintro e W7 ⟨rfl, d7, z7, s7, f7⟩; have HE := Aside0.mk (show PL w W7 blk pre post ty n x m F d7 from ⟨s7, z7, f7.1, f7.2⟩); clear z7 s7 f7 HLe HRi)) | fail)
          · go_roundw
            case rel => exact ⟨m + 1, y, _, _, _, d7, by simp, rfl, rfl, rfl, rfl, by have := HM.out; omega, hy, by have := HM.out; omega, HE⟩
            case measure => (have := HM.out; simp [intOf]; omega)
          · go_roundw
            case rel => exact ⟨x, m, _, _, _, d7, rfl, rfl, rfl, rfl, rfl, HM.out.1, by have := HM.out; omega, by have := HM.out; omega, HE⟩
            case measure => (have := HM.out; simp [intOf]; omega)
    | true =>
      cases wp with
      | false =>
        go_wp2_with (first | (go_at_call 62; refine (BRK.out _ _ HC.out).mono ?_; rintro e W1 ⟨rfl, dc, h1⟩; clear HC; have HC := Aside0.mk h1; clear h1) | (go_at_call 63; refine (PIV.out _ _ HC.out).mono ?_; rintro e W2 ⟨p, k, rfl, hp, h1⟩; clear HC; have HC := Aside0.mk h1; have HP := Aside0.mk hp; clear h1 hp) | (go_at_call 64; refine (REV.out _ _ HC.out).mono ?_; rintro e W3 ⟨rfl, dc, h1⟩; clear HC; have HC := Aside0.mk h1; clear h1) | fail)
        · have e := Aside0.mk (show wrap64 ((y : Int) - 1 - wrap64 ((p : Int) - x)) = ((y - 1 - (p - x) : Nat) : Int) by have := HP.out; unfold wrap64; omega)
          rw [e.out]
          clear e
          have HP2 := Aside0.mk (show x ≤ y - 1 - (p - x) ∧ y - 1 - (p - x) < y by have := HP.out; omega)
          generalize y - 1 - (p - x) = p2 at HP2 ⊢
          have EQL := Aside0.mk (fun (hx : 0 < x) W dc h hl => pq_equal (w := w) (blk := blk) (off := off) (pre := pre) (post := post) (ty := ty) (n := n) (cap := cap) (x := x) (y := y) (dk := dk) ho hn hx p2 HP2.out hy F HF.out W dc h hl)
          have PRT := Aside0.mk (fun W dc h => pq_part (w := w) (blk := blk) (off := off) (pre := pre) (post := post) (ty := ty) (n := n) (cap := cap) (x := x) (y := y) (dk := dk) ho hn p2 HP2.out hy F HF.out W dc h)
          obtain ⟨G, hG⟩ : ∃ G : Nat → Int, ∀ t, G t = dc[t]! := ⟨fun t => dc[t]!, fun _ => rfl⟩
          have hcw : ∀ t, t < n → World.cell? _ ⟨blk, off + t, none⟩ = some (.int .u64 (G t)) := fun t ht => by rw [hG]; exact HC.out.sr.cell ho (by rw [HC.out.sz]; exact ht)
          have HG := Aside0.mk hG
          clear hG
          have hb1 := HP2.out.1
          have hb2 := HP2.out.2
          by_cases hx : 0 < x
          · by_cases hl : ltInt (G (x - 1)) (G p2) = true
            · go_quiet (first | (go_at_call 66; refine Calls.quiet_of_same (less_calls _ _ _)))
              have HC := Aside0.mk (show PQ w _ blk pre post ty n x y dk _ from ⟨HC.out.sr.drewN nq, HC.out.sz, HC.out.pm, HC.out.bl⟩)
              clear hcw
              clear hl
              go_wp2_with (first | (go_at_call 68; refine (PRT.out _ _ HC.out).mono ?_; rintro e W6 ⟨m, t6, d6, rfl, hm, h1, h2⟩; have HM := Aside0.mk hm; obtain ⟨hm1, hm2⟩ := hm; have HLe := Aside0.mk h1; have HRi := Aside0.mk h2; clear h1 h2 HC) | (go_at_call 47; first | (with_reducible refine (IH.out _ d6 x m _ _ (by have := HM.out; omega) HM.out.1 (by have := HM.out; omega) HLe.out).mono ?_; rintro e W7 ⟨rfl, d7, z7, s7, f7⟩; have HE := Aside0.mk (show PL w W7 blk pre post ty n (m + 1) y F d7 from ⟨s7, z7, f7.1, f7.2⟩); clear z7 s7 f7 HLe HRi) | (with_reducible refine (IH1.out _ d6 m y _ _ (by have := HM.out; omega) (by have := HM.out; omega) hy HRi.out).mono ?_; rintro e W7 ⟨rfl, d7, z7, s7, f7⟩; have HE := Aside0.mk (show PL w W7 blk pre post ty n x m F d7 from ⟨s7, z7, f7.1, f7.2⟩); clear z7 s7 f7 HLe HRi)) | fail)
              · go_roundw
                case rel => exact ⟨m + 1, y, _, _, _, d7, by simp, rfl, rfl, rfl, rfl, by have := HM.out; omega, hy, by have := HM.out; omega, HE⟩
                case measure => (have := HM.out; simp [intOf]; omega)
              · go_roundw
                case rel => exact ⟨x, m, _, _, _, d7, rfl, rfl, rfl, rfl, rfl, HM.out.1, by have := HM.out; omega, by have := HM.out; omega, HE⟩
                case measure => (have := HM.out; simp [intOf]; omega)
            · rw [Bool.not_eq_true] at hl
              go_quiet (first | (go_at_call 66; refine Calls.quiet_of_same (less_calls _ _ _)))
              have HC := Aside0.mk (show PQ w _ blk pre post ty n x y dk _ from ⟨HC.out.sr.drewN nq, HC.out.sz, HC.out.pm, HC.out.bl⟩)
              clear hcw
              have HL := Aside0.mk (show ltInt dc[x - 1]! dc[p2]! = false by rw [← HG.out, ← HG.out]; exact hl)
              have EQL := Aside0.mk (EQL.out hx)
              go_wp2_with (first | (go_at_call 67; refine (EQL.out _ _ HC.out HL.out).mono ?_; rintro e W5 ⟨m, d5, rfl, hm, h1⟩; have HM := Aside0.mk hm; have HE := Aside0.mk h1; obtain ⟨hm1, hm2⟩ := hm; clear h1 HC) | fail)
              go_roundw
              case rel => exact ⟨m, y, _, _, _, d5, rfl, rfl, rfl, rfl, rfl, HM.out.2, hy, by have := HM.out; omega, HE⟩
              case measure => (have := HM.out; simp [intOf]; omega)
          · go_quiet (first | (go_at_call 66; refine Calls.quiet_of_same (less_calls _ _ _)))
            have HC := Aside0.mk (show PQ w _ blk pre post ty n x y dk _ from ⟨HC.out.sr.drewN nq, HC.out.sz, HC.out.pm, HC.out.bl⟩)
            clear hcw
            go_wp2_with (first | (go_at_call 68; refine (PRT.out _ _ HC.out).mono ?_; rintro e W6 ⟨m, t6, d6, rfl, hm, h1, h2⟩; have HM := Aside0.mk hm; obtain ⟨hm1, hm2⟩ := hm; have HLe := Aside0.mk h1; have HRi := Aside0.mk h2; clear h1 h2 HC) | (go_at_call 47; first | (with_reducible refine (IH.out _ d6 x m _ _ (by have := HM.out; omega) HM.out.1 (by have := HM.out; omega) HLe.out).mono ?_; rintro e W7 ⟨rfl, d7, z7, s7, f7⟩; have HE := Aside0.mk (show PL w W7 blk pre post ty n (m + 1) y F d7 from ⟨s7, z7, f7.1, f7.2⟩); clear z7 s7 f7 HLe HRi) | (with_reducible refine (IH1.out _ d6 m y _ _ (by have := HM.out; omega) (by have := HM.out; omega) hy HRi.out).mono ?_; rintro e W7 ⟨rfl, d7, z7, s7, f7⟩; have HE := Aside0.mk (show PL w W7 blk pre post ty n x m F d7 from ⟨s7, z7, f7.1, f7.2⟩); clear z7 s7 f7 HLe HRi)) | fail)
            · go_roundw
              case rel => exact ⟨m + 1, y, _, _, _, d7, by simp, rfl, rfl, rfl, rfl, by have := HM.out; omega, hy, by have := HM.out; omega, HE⟩
              case measure => (have := HM.out; simp [intOf]; omega)
            · go_roundw
              case rel => exact ⟨x, m, _, _, _, d7, rfl, rfl, rfl, rfl, rfl, HM.out.1, by have := HM.out; omega, by have := HM.out; omega, HE⟩
              case measure => (have := HM.out; simp [intOf]; omega)
        · have HP2 := HP
          obtain ⟨p2, ep⟩ : ∃ p2, p2 = p := ⟨_, rfl⟩
          rw [← ep] at HP2 ⊢
          clear ep
          have EQL := Aside0.mk (fun (hx : 0 < x) W dc h hl => pq_equal (w := w) (blk := blk) (off := off) (pre := pre) (post := post) (ty := ty) (n := n) (cap := cap) (x := x) (y := y) (dk := dk) ho hn hx p2 HP2.out hy F HF.out W dc h hl)
          have PRT := Aside0.mk (fun W dc h => pq_part (w := w) (blk := blk) (off := off) (pre := pre) (post := post) (ty := ty) (n := n) (cap := cap) (x := x) (y := y) (dk := dk) ho hn p2 HP2.out hy F HF.out W dc h)
          obtain ⟨G, hG⟩ : ∃ G : Nat → Int, ∀ t, G t = dk[t]! := ⟨fun t => dk[t]!, fun _ => rfl⟩
          have hcw : ∀ t, t < n → World.cell? _ ⟨blk, off + t, none⟩ = some (.int .u64 (G t)) := fun t ht => by rw [hG]; exact HC.out.sr.cell ho (by rw [HC.out.sz]; exact ht)
          have HG := Aside0.mk hG
          clear hG
          have hb1 := HP2.out.1
          have hb2 := HP2.out.2
          by_cases hx : 0 < x
          · by_cases hl : ltInt (G (x - 1)) (G p2) = true
            · go_quiet (first | (go_at_call 66; refine Calls.quiet_of_same (less_calls _ _ _)))
              have HC := Aside0.mk (show PQ w _ blk pre post ty n x y dk _ from ⟨HC.out.sr.drewN nq, HC.out.sz, HC.out.pm, HC.out.bl⟩)
              clear hcw
              clear hl
              go_wp2_with (first | (go_at_call 68; refine (PRT.out _ _ HC.out).mono ?_; rintro e W6 ⟨m, t6, d6, rfl, hm, h1, h2⟩; have HM := Aside0.mk hm; obtain ⟨hm1, hm2⟩ := hm; have HLe := Aside0.mk h1; have HRi := Aside0.mk h2; clear h1 h2 HC) | (go_at_call 47; first | (with_reducible refine (IH.out _ d6 x m _ _ (by have := HM.out; omega) HM.out.1 (by have := HM.out; omega) HLe.out).mono ?_; rintro e W7 ⟨rfl, d7, z7, s7, f7⟩; have HE := Aside0.mk (show PL w W7 blk pre post ty n (m + 1) y F d7 from ⟨s7, z7, f7.1, f7.2⟩); clear z7 s7 f7 HLe HRi) | (with_reducible refine (IH1.out _ d6 m y _ _ (by have := HM.out; omega) (by have := HM.out; omega) hy HRi.out).mono ?_; rintro e W7 ⟨rfl, d7, z7, s7, f7⟩; have HE := Aside0.mk (show PL w W7 blk pre post ty n x m F d7 from ⟨s7, z7, f7.1, f7.2⟩); clear z7 s7 f7 HLe HRi)) | fail)
              · go_roundw
                case rel => exact ⟨m + 1, y, _, _, _, d7, by simp, rfl, rfl, rfl, rfl, by have := HM.out; omega, hy, by have := HM.out; omega, HE⟩
                case measure => (have := HM.out; simp [intOf]; omega)
              · go_roundw
                case rel => exact ⟨x, m, _, _, _, d7, rfl, rfl, rfl, rfl, rfl, HM.out.1, by have := HM.out; omega, by have := HM.out; omega, HE⟩
                case measure => (have := HM.out; simp [intOf]; omega)
            · rw [Bool.not_eq_true] at hl
              go_quiet (first | (go_at_call 66; refine Calls.quiet_of_same (less_calls _ _ _)))
              have HC := Aside0.mk (show PQ w _ blk pre post ty n x y dk _ from ⟨HC.out.sr.drewN nq, HC.out.sz, HC.out.pm, HC.out.bl⟩)
              clear hcw
              have HL := Aside0.mk (show ltInt dk[x - 1]! dk[p2]! = false by rw [← HG.out, ← HG.out]; exact hl)
              have EQL := Aside0.mk (EQL.out hx)
              go_wp2_with (first | (go_at_call 67; refine (EQL.out _ _ HC.out HL.out).mono ?_; rintro e W5 ⟨m, d5, rfl, hm, h1⟩; have HM := Aside0.mk hm; have HE := Aside0.mk h1; obtain ⟨hm1, hm2⟩ := hm; clear h1 HC) | fail)
              go_roundw
              case rel => exact ⟨m, y, _, _, _, d5, rfl, rfl, rfl, rfl, rfl, HM.out.2, hy, by have := HM.out; omega, HE⟩
              case measure => (have := HM.out; simp [intOf]; omega)
          · go_quiet (first | (go_at_call 66; refine Calls.quiet_of_same (less_calls _ _ _)))
            have HC := Aside0.mk (show PQ w _ blk pre post ty n x y dk _ from ⟨HC.out.sr.drewN nq, HC.out.sz, HC.out.pm, HC.out.bl⟩)
            clear hcw
            go_wp2_with (first | (go_at_call 68; refine (PRT.out _ _ HC.out).mono ?_; rintro e W6 ⟨m, t6, d6, rfl, hm, h1, h2⟩; have HM := Aside0.mk hm; obtain ⟨hm1, hm2⟩ := hm; have HLe := Aside0.mk h1; have HRi := Aside0.mk h2; clear h1 h2 HC) | (go_at_call 47; first | (with_reducible refine (IH.out _ d6 x m _ _ (by have := HM.out; omega) HM.out.1 (by have := HM.out; omega) HLe.out).mono ?_; rintro e W7 ⟨rfl, d7, z7, s7, f7⟩; have HE := Aside0.mk (show PL w W7 blk pre post ty n (m + 1) y F d7 from ⟨s7, z7, f7.1, f7.2⟩); clear z7 s7 f7 HLe HRi) | (with_reducible refine (IH1.out _ d6 m y _ _ (by have := HM.out; omega) (by have := HM.out; omega) hy HRi.out).mono ?_; rintro e W7 ⟨rfl, d7, z7, s7, f7⟩; have HE := Aside0.mk (show PL w W7 blk pre post ty n x m F d7 from ⟨s7, z7, f7.1, f7.2⟩); clear z7 s7 f7 HLe HRi)) | fail)
            · go_roundw
              case rel => exact ⟨m + 1, y, _, _, _, d7, by simp, rfl, rfl, rfl, rfl, by have := HM.out; omega, hy, by have := HM.out; omega, HE⟩
              case measure => (have := HM.out; simp [intOf]; omega)
            · go_roundw
              case rel => exact ⟨x, m, _, _, _, d7, rfl, rfl, rfl, rfl, rfl, HM.out.1, by have := HM.out; omega, by have := HM.out; omega, HE⟩
              case measure => (have := HM.out; simp [intOf]; omega)
      | true =>
        go_wp2_with (first | (go_at_call 62; refine (BRK.out _ _ HC.out).mono ?_; rintro e W1 ⟨rfl, dc, h1⟩; clear HC; have HC := Aside0.mk h1; clear h1) | (go_at_call 63; refine (PIV.out _ _ HC.out).mono ?_; rintro e W2 ⟨p, k, rfl, hp, h1⟩; clear HC; have HC := Aside0.mk h1; have HP := Aside0.mk hp; clear h1 hp) | (go_at_call 64; refine (REV.out _ _ HC.out).mono ?_; rintro e W3 ⟨rfl, dc, h1⟩; clear HC; have HC := Aside0.mk h1; clear h1) | (go_at_call 65; refine (PAR.out _ _ HC.out).mono ?_; rintro e W4 ⟨t, dc, rfl, h1, h2⟩; clear HC; have HC := Aside0.mk h1; have HT := Aside0.mk h2; clear h1 h2) | fail)
        · (try simp only [Exit.inBlock, Exit.then]); refine bodyPost_ret (results_none rfl _ _ _) rfl ?_
          exact ⟨rfl, dc, HC.out.sz, HC.out.sr, HF.out _ HC.out.pm (HT.out (by first | rfl | assumption))⟩
        · have e := Aside0.mk (show wrap64 ((y : Int) - 1 - wrap64 ((p : Int) - x)) = ((y - 1 - (p - x) : Nat) : Int) by have := HP.out; unfold wrap64; omega)
          rw [e.out]
          clear e
          have HP2 := Aside0.mk (show x ≤ y - 1 - (p - x) ∧ y - 1 - (p - x) < y by have := HP.out; omega)
          generalize y - 1 - (p - x) = p2 at HP2 ⊢
          have EQL := Aside0.mk (fun (hx : 0 < x) W dc h hl => pq_equal (w := w) (blk := blk) (off := off) (pre := pre) (post := post) (ty := ty) (n := n) (cap := cap) (x := x) (y := y) (dk := dk) ho hn hx p2 HP2.out hy F HF.out W dc h hl)
          have PRT := Aside0.mk (fun W dc h => pq_part (w := w) (blk := blk) (off := off) (pre := pre) (post := post) (ty := ty) (n := n) (cap := cap) (x := x) (y := y) (dk := dk) ho hn p2 HP2.out hy F HF.out W dc h)
          obtain ⟨G, hG⟩ : ∃ G : Nat → Int, ∀ t, G t = dc[t]! := ⟨fun t => dc[t]!, fun _ => rfl⟩
          have hcw : ∀ t, t < n → World.cell? _ ⟨blk, off + t, none⟩ = some (.int .u64 (G t)) := fun t ht => by rw [hG]; exact HC.out.sr.cell ho (by rw [HC.out.sz]; exact ht)
          have HG := Aside0.mk hG
          clear hG
          have hb1 := HP2.out.1
          have hb2 := HP2.out.2
          by_cases hx : 0 < x
          · by_cases hl : ltInt (G (x - 1)) (G p2) = true
            · go_quiet (first | (go_at_call 66; refine Calls.quiet_of_same (less_calls _ _ _)))
              have HC := Aside0.mk (show PQ w _ blk pre post ty n x y dk _ from ⟨HC.out.sr.drewN nq, HC.out.sz, HC.out.pm, HC.out.bl⟩)
              clear hcw
              clear hl
              go_wp2_with (first | (go_at_call 68; refine (PRT.out _ _ HC.out).mono ?_; rintro e W6 ⟨m, t6, d6, rfl, hm, h1, h2⟩; have HM := Aside0.mk hm; obtain ⟨hm1, hm2⟩ := hm; have HLe := Aside0.mk h1; have HRi := Aside0.mk h2; clear h1 h2 HC) | (go_at_call 47; first | (with_reducible refine (IH.out _ d6 x m _ _ (by have := HM.out; omega) HM.out.1 (by have := HM.out; omega) HLe.out).mono ?_; rintro e W7 ⟨rfl, d7, z7, s7, f7⟩; have HE := Aside0.mk (show PL w W7 blk pre post ty n (m + 1) y F d7 from ⟨s7, z7, f7.1, f7.2⟩); clear z7 s7 f7 HLe HRi) | (with_reducible refine (IH1.out _ d6 m y _ _ (by have := HM.out; omega) (by have := HM.out; omega) hy HRi.out).mono ?_; rintro e W7 ⟨rfl, d7, z7, s7, f7⟩; have HE := Aside0.mk (show PL w W7 blk pre post ty n x m F d7 from ⟨s7, z7, f7.1, f7.2⟩); clear z7 s7 f7 HLe HRi)) | fail)
              · go_roundw
                case rel => exact ⟨m + 1, y, _, _, _, d7, by simp, rfl, rfl, rfl, rfl, by have := HM.out; omega, hy, by have := HM.out; omega, HE⟩
                case measure => (have := HM.out; simp [intOf]; omega)
              · go_roundw
                case rel => exact ⟨x, m, _, _, _, d7, rfl, rfl, rfl, rfl, rfl, HM.out.1, by have := HM.out; omega, by have := HM.out; omega, HE⟩
                case measure => (have := HM.out; simp [intOf]; omega)
            · rw [Bool.not_eq_true] at hl
              go_quiet (first | (go_at_call 66; refine Calls.quiet_of_same (less_calls _ _ _)))
              have HC := Aside0.mk (show PQ w _ blk pre post ty n x y dk _ from ⟨HC.out.sr.drewN nq, HC.out.sz, HC.out.pm, HC.out.bl⟩)
              clear hcw
              have HL := Aside0.mk (show ltInt dc[x - 1]! dc[p2]! = false by rw [← HG.out, ← HG.out]; exact hl)
              have EQL := Aside0.mk (EQL.out hx)
              go_wp2_with (first | (go_at_call 67; refine (EQL.out _ _ HC.out HL.out).mono ?_; rintro e W5 ⟨m, d5, rfl, hm, h1⟩; have HM := Aside0.mk hm; have HE := Aside0.mk h1; obtain ⟨hm1, hm2⟩ := hm; clear h1 HC) | fail)
              go_roundw
              case rel => exact ⟨m, y, _, _, _, d5, rfl, rfl, rfl, rfl, rfl, HM.out.2, hy, by have := HM.out; omega, HE⟩
              case measure => (have := HM.out; simp [intOf]; omega)
          · go_quiet (first | (go_at_call 66; refine Calls.quiet_of_same (less_calls _ _ _)))
            have HC := Aside0.mk (show PQ w _ blk pre post ty n x y dk _ from ⟨HC.out.sr.drewN nq, HC.out.sz, HC.out.pm, HC.out.bl⟩)
            clear hcw
            go_wp2_with (first | (go_at_call 68; refine (PRT.out _ _ HC.out).mono ?_; rintro e W6 ⟨m, t6, d6, rfl, hm, h1, h2⟩; have HM := Aside0.mk hm; obtain ⟨hm1, hm2⟩ := hm; have HLe := Aside0.mk h1; have HRi := Aside0.mk h2; clear h1 h2 HC) | (go_at_call 47; first | (with_reducible refine (IH.out _ d6 x m _ _ (by have := HM.out; omega) HM.out.1 (by have := HM.out; omega) HLe.out).mono ?_; rintro e W7 ⟨rfl, d7, z7, s7, f7⟩; have HE := Aside0.mk (show PL w W7 blk pre post ty n (m + 1) y F d7 from ⟨s7, z7, f7.1, f7.2⟩); clear z7 s7 f7 HLe HRi) | (with_reducible refine (IH1.out _ d6 m y _ _ (by have := HM.out; omega) (by have := HM.out; omega) hy HRi.out).mono ?_; rintro e W7 ⟨rfl, d7, z7, s7, f7⟩; have HE := Aside0.mk (show PL w W7 blk pre post ty n x m F d7 from ⟨s7, z7, f7.1, f7.2⟩); clear z7 s7 f7 HLe HRi)) | fail)
            · go_roundw
              case rel => exact ⟨m + 1, y, _, _, _, d7, by simp, rfl, rfl, rfl, rfl, by have := HM.out; omega, hy, by have := HM.out; omega, HE⟩
              case measure => (have := HM.out; simp [intOf]; omega)
            · go_roundw
              case rel => exact ⟨x, m, _, _, _, d7, rfl, rfl, rfl, rfl, rfl, HM.out.1, by have := HM.out; omega, by have := HM.out; omega, HE⟩
              case measure => (have := HM.out; simp [intOf]; omega)
        · (try simp only [Exit.inBlock, Exit.then]); refine bodyPost_ret (results_none rfl _ _ _) rfl ?_
          exact ⟨rfl, dc, HC.out.sz, HC.out.sr, HF.out _ HC.out.pm (HT.out (by first | rfl | assumption))⟩
        · have HP2 := HP
          obtain ⟨p2, ep⟩ : ∃ p2, p2 = p := ⟨_, rfl⟩
          rw [← ep] at HP2 ⊢
          clear ep
          have EQL := Aside0.mk (fun (hx : 0 < x) W dc h hl => pq_equal (w := w) (blk := blk) (off := off) (pre := pre) (post := post) (ty := ty) (n := n) (cap := cap) (x := x) (y := y) (dk := dk) ho hn hx p2 HP2.out hy F HF.out W dc h hl)
          have PRT := Aside0.mk (fun W dc h => pq_part (w := w) (blk := blk) (off := off) (pre := pre) (post := post) (ty := ty) (n := n) (cap := cap) (x := x) (y := y) (dk := dk) ho hn p2 HP2.out hy F HF.out W dc h)
          obtain ⟨G, hG⟩ : ∃ G : Nat → Int, ∀ t, G t = dc[t]! := ⟨fun t => dc[t]!, fun _ => rfl⟩
          have hcw : ∀ t, t < n → World.cell? _ ⟨blk, off + t, none⟩ = some (.int .u64 (G t)) := fun t ht => by rw [hG]; exact HC.out.sr.cell ho (by rw [HC.out.sz]; exact ht)
          have HG := Aside0.mk hG
          clear hG
          have hb1 := HP2.out.1
          have hb2 := HP2.out.2
          by_cases hx : 0 < x
          · by_cases hl : ltInt (G (x - 1)) (G p2) = true
            · go_quiet (first | (go_at_call 66; refine Calls.quiet_of_same (less_calls _ _ _)))
              have HC := Aside0.mk (show PQ w _ blk pre post ty n x y dk _ from ⟨HC.out.sr.drewN nq, HC.out.sz, HC.out.pm, HC.out.bl⟩)
              clear hcw
              clear hl
              go_wp2_with (first | (go_at_call 68; refine (PRT.out _ _ HC.out).mono ?_; rintro e W6 ⟨m, t6, d6, rfl, hm, h1, h2⟩; have HM := Aside0.mk hm; obtain ⟨hm1, hm2⟩ := hm; have HLe := Aside0.mk h1; have HRi := Aside0.mk h2; clear h1 h2 HC) | (go_at_call 47; first | (with_reducible refine (IH.out _ d6 x m _ _ (by have := HM.out; omega) HM.out.1 (by have := HM.out; omega) HLe.out).mono ?_; rintro e W7 ⟨rfl, d7, z7, s7, f7⟩; have HE := Aside0.mk (show PL w W7 blk pre post ty n (m + 1) y F d7 from ⟨s7, z7, f7.1, f7.2⟩); clear z7 s7 f7 HLe HRi) | (with_reducible refine (IH1.out _ d6 m y _ _ (by have := HM.out; omega) (by have := HM.out; omega) hy HRi.out).mono ?_; rintro e W7 ⟨rfl, d7, z7, s7, f7⟩; have HE := Aside0.mk (show PL w W7 blk pre post ty n x m F d7 from ⟨s7, z7, f7.1, f7.2⟩); clear z7 s7 f7 HLe HRi)) | fail)
              · go_roundw
                case rel => exact ⟨m + 1, y, _, _, _, d7, by simp, rfl, rfl, rfl, rfl, by have := HM.out; omega, hy, by have := HM.out; omega, HE⟩
                case measure => (have := HM.out; simp [intOf]; omega)
              · go_roundw
                case rel => exact ⟨x, m, _, _, _, d7, rfl, rfl, rfl, rfl, rfl, HM.out.1, by have := HM.out; omega, by have := HM.out; omega, HE⟩
                case measure => (have := HM.out; simp [intOf]; omega)
            · rw [Bool.not_eq_true] at hl
              go_quiet (first | (go_at_call 66; refine Calls.quiet_of_same (less_calls _ _ _)))
              have HC := Aside0.mk (show PQ w _ blk pre post ty n x y dk _ from ⟨HC.out.sr.drewN nq, HC.out.sz, HC.out.pm, HC.out.bl⟩)
              clear hcw
              have HL := Aside0.mk (show ltInt dc[x - 1]! dc[p2]! = false by rw [← HG.out, ← HG.out]; exact hl)
              have EQL := Aside0.mk (EQL.out hx)
              go_wp2_with (first | (go_at_call 67; refine (EQL.out _ _ HC.out HL.out).mono ?_; rintro e W5 ⟨m, d5, rfl, hm, h1⟩; have HM := Aside0.mk hm; have HE := Aside0.mk h1; obtain ⟨hm1, hm2⟩ := hm; clear h1 HC) | fail)
              go_roundw
              case rel => exact ⟨m, y, _, _, _, d5, rfl, rfl, rfl, rfl, rfl, HM.out.2, hy, by have := HM.out; omega, HE⟩
              case measure => (have := HM.out; simp [intOf]; omega)
          · go_quiet (first | (go_at_call 66; refine Calls.quiet_of_same (less_calls _ _ _)))
            have HC := Aside0.mk (show PQ w _ blk pre post ty n x y dk _ from ⟨HC.out.sr.drewN nq, HC.out.sz, HC.out.pm, HC.out.bl⟩)
            clear hcw
            go_wp2_with (first | (go_at_call 68; refine (PRT.out _ _ HC.out).mono ?_; rintro e W6 ⟨m, t6, d6, rfl, hm, h1, h2⟩; have HM := Aside0.mk hm; obtain ⟨hm1, hm2⟩ := hm; have HLe := Aside0.mk h1; have HRi := Aside0.mk h2; clear h1 h2 HC) | (go_at_call 47; first | (with_reducible refine (IH.out _ d6 x m _ _ (by have := HM.out; omega) HM.out.1 (by have := HM.out; omega) HLe.out).mono ?_; rintro e W7 ⟨rfl, d7, z7, s7, f7⟩; have HE := Aside0.mk (show PL w W7 blk pre post ty n (m + 1) y F d7 from ⟨s7, z7, f7.1, f7.2⟩); clear z7 s7 f7 HLe HRi) | (with_reducible refine (IH1.out _ d6 m y _ _ (by have := HM.out; omega) (by have := HM.out; omega) hy HRi.out).mono ?_; rintro e W7 ⟨rfl, d7, z7, s7, f7⟩; have HE := Aside0.mk (show PL w W7 blk pre post ty n x m F d7 from ⟨s7, z7, f7.1, f7.2⟩); clear z7 s7 f7 HLe HRi)) | fail)
            · go_roundw
              case rel => exact ⟨m + 1, y, _, _, _, d7, by simp, rfl, rfl, rfl, rfl, by have := HM.out; omega, hy, by have := HM.out; omega, HE⟩
              case measure => (have := HM.out; simp [intOf]; omega)
            · go_roundw
              case rel => exact ⟨x, m, _, _, _, d7, rfl, rfl, rfl, rfl, rfl, HM.out.1, by have := HM.out; omega, by have := HM.out; omega, HE⟩
              case measure => (have := HM.out; simp [intOf]; omega)
        · have HP2 := HP
          obtain ⟨p2, ep⟩ : ∃ p2, p2 = p := ⟨_, rfl⟩
          rw [← ep] at HP2 ⊢
          clear ep
          have EQL := Aside0.mk (fun (hx : 0 < x) W dc h hl => pq_equal (w := w) (blk := blk) (off := off) (pre := pre) (post := post) (ty := ty) (n := n) (cap := cap) (x := x) (y := y) (dk := dk) ho hn hx p2 HP2.out hy F HF.out W dc h hl)
          have PRT := Aside0.mk (fun W dc h => pq_part (w := w) (blk := blk) (off := off) (pre := pre) (post := post) (ty := ty) (n := n) (cap := cap) (x := x) (y := y) (dk := dk) ho hn p2 HP2.out hy F HF.out W dc h)
          obtain ⟨G, hG⟩ : ∃ G : Nat → Int, ∀ t, G t = dk[t]! := ⟨fun t => dk[t]!, fun _ => rfl⟩
          have hcw : ∀ t, t < n → World.cell? _ ⟨blk, off + t, none⟩ = some (.int .u64 (G t)) := fun t ht => by rw [hG]; exact HC.out.sr.cell ho (by rw [HC.out.sz]; exact ht)
          have HG := Aside0.mk hG
          clear hG
          have hb1 := HP2.out.1
          have hb2 := HP2.out.2
          by_cases hx : 0 < x
          · by_cases hl : ltInt (G (x - 1)) (G p2) = true
            · go_quiet (first | (go_at_call 66; refine Calls.quiet_of_same (less_calls _ _ _)))
              have HC := Aside0.mk (show PQ w _ blk pre post ty n x y dk _ from ⟨HC.out.sr.drewN nq, HC.out.sz, HC.out.pm, HC.out.bl⟩)
              clear hcw
              clear hl
              go_wp2_with (first | (go_at_call 68; refine (PRT.out _ _ HC.out).mono ?_; rintro e W6 ⟨m, t6, d6, rfl, hm, h1, h2⟩; have HM := Aside0.mk hm; obtain ⟨hm1, hm2⟩ := hm; have HLe := Aside0.mk h1; have HRi := Aside0.mk h2; clear h1 h2 HC) | (go_at_call 47; first | (with_reducible refine (IH.out _ d6 x m _ _ (by have := HM.out; omega) HM.out.1 (by have := HM.out; omega) HLe.out).mono ?_; rintro e W7 ⟨rfl, d7, z7, s7, f7⟩; have HE := Aside0.mk (show PL w W7 blk pre post ty n (m + 1) y F d7 from ⟨s7, z7, f7.1, f7.2⟩); clear z7 s7 f7 HLe HRi) | (with_reducible refine (IH1.out _ d6 m y _ _ (by have := HM.out; omega) (by have := HM.out; omega) hy HRi.out).mono ?_; rintro e W7 ⟨rfl, d7, z7, s7, f7⟩; have HE := Aside0.mk (show PL w W7 blk pre post ty n x m F d7 from ⟨s7, z7, f7.1, f7.2⟩); clear z7 s7 f7 HLe HRi)) | fail)
              · go_roundw
                case rel => exact ⟨m + 1, y, _, _, _, d7, by simp, rfl, rfl, rfl, rfl, by have := HM.out; omega, hy, by have := HM.out; omega, HE⟩
                case measure => (have := HM.out; simp [intOf]; omega)
              · go_roundw
                case rel => exact ⟨x, m, _, _, _, d7, rfl, rfl, rfl, rfl, rfl, HM.out.1, by have := HM.out; omega, by have := HM.out; omega, HE⟩
                case measure => (have := HM.out; simp [intOf]; omega)
            · rw [Bool.not_eq_true] at hl
              go_quiet (first | (go_at_call 66; refine Calls.quiet_of_same (less_calls _ _ _)))
              have HC := Aside0.mk (show PQ w _ blk pre post ty n x y dk _ from ⟨HC.out.sr.drewN nq, HC.out.sz, HC.out.pm, HC.out.bl⟩)
              clear hcw
              have HL := Aside0.mk (show ltInt dk[x - 1]! dk[p2]! = false by rw [← HG.out, ← HG.out]; exact hl)
              have EQL := Aside0.mk (EQL.out hx)
              go_wp2_with (first | (go_at_call 67; refine (EQL.out _ _ HC.out HL.out).mono ?_; rintro e W5 ⟨m, d5, rfl, hm, h1⟩; have HM := Aside0.mk hm; have HE := Aside0.mk h1; obtain ⟨hm1, hm2⟩ := hm; clear h1 HC) | fail)
              go_roundw
              case rel => exact ⟨m, y, _, _, _, d5, rfl, rfl, rfl, rfl, rfl, HM.out.2, hy, by have := HM.out; omega, HE⟩
              case measure => (have := HM.out; simp [intOf]; omega)
          · go_quiet (first | (go_at_call 66; refine Calls.quiet_of_same (less_calls _ _ _)))
            have HC := Aside0.mk (show PQ w _ blk pre post ty n x y dk _ from ⟨HC.out.sr.drewN nq, HC.out.sz, HC.out.pm, HC.out.bl⟩)
            clear hcw
            go_wp2_with (first | (go_at_call 68; refine (PRT.out _ _ HC.out).mono ?_; rintro e W6 ⟨m, t6, d6, rfl, hm, h1, h2⟩; have HM := Aside0.mk hm; obtain ⟨hm1, hm2⟩ := hm; have HLe := Aside0.mk h1; have HRi := Aside0.mk h2; clear h1 h2 HC) | (go_at_call 47; first | (with_reducible refine (IH.out _ d6 x m _ _ (by have := HM.out; omega) HM.out.1 (by have := HM.out; omega) HLe.out).mono ?_; rintro e W7 ⟨rfl, d7, z7, s7, f7⟩; have HE := Aside0.mk (show PL w W7 blk pre post ty n (m + 1) y F d7 from ⟨s7, z7, f7.1, f7.2⟩); clear z7 s7 f7 HLe HRi) | (with_reducible refine (IH1.out _ d6 m y _ _ (by have := HM.out; omega) (by have := HM.out; omega) hy HRi.out).mono ?_; rintro e W7 ⟨rfl, d7, z7, s7, f7⟩; have HE := Aside0.mk (show PL w W7 blk pre post ty n x m F d7 from ⟨s7, z7, f7.1, f7.2⟩); clear z7 s7 f7 HLe HRi)) | fail)
            · go_roundw
              case rel => exact ⟨m + 1, y, _, _, _, d7, by simp, rfl, rfl, rfl, rfl, by have := HM.out; omega, hy, by have := HM.out; omega, HE⟩
              case measure => (have := HM.out; simp [intOf]; omega)
            · go_roundw
              case rel => exact ⟨x, m, _, _, _, d7, rfl, rfl, rfl, rfl, rfl, HM.out.1, by have := HM.out; omega, by have := HM.out; omega, HE⟩
              case measure => (have := HM.out; simp [intOf]; omega)
end Go.Proofs.Ytkppgepljjgjhaa.P
