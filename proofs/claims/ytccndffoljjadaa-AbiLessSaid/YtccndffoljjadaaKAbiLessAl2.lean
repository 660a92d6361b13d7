/- The law AbiLess, walked. No condition. -/
import Derived.Test.YtccndffoljjadaaKAbiLessAr0
import Derived.Test.YtccndffoljjadaaKAbiLessAl1
import Derived.Test.YtccndffoljjadaaKAbiLessSd0
import Derived.Test.YtccndffoljjadaaKAbiLessPx4
namespace Go.Proofs.Ytccndffoljjadaa.P
open Go.RowKit Go.Proofs.YtccndffoljjadaaW.PrintWords Go.Proofs.YtccndffoljjadaaW.PrintLast
set_option linter.unusedVariables false
set_option linter.unusedSimpArgs false
/-- What was built is as it should be. -/
def LessOk (B : Bd) (y1 y2 : Int) : Prop := ∃ a1 t1 a2 t2 a3 t3 a0 fin : Int, B.s1 = ⟨a1, t1, a1, 9, -1, true⟩ ∧ B.s2 = ⟨a2, t2, a2, 9, -1, true⟩ ∧ B.s3 = ⟨a3, t3, a3, 9, -1, true⟩ ∧ B.s0 = ⟨a0, fin, fin, 27, -1, true⟩ ∧
  (0 ≤ y1 ∧ 1 ≤ y2 ∧ y1 + y2 ≤ 65536) ∧ (y1 * 256 ≤ a1 ∧ a1 ≤ t1 ∧ t1 < a2 ∧ a2 ≤ t2 ∧ t2 < a3 ∧ a3 ≤ t3 ∧ t3 < a0 ∧ a0 + 64 ≤ fin ∧ fin = (y1 + y2) * 256)
/-- What the law asks, in plain words. -/
def LessHyp (k : Nat) (y0 y1 y2 : Int) (y3 y4 : List ByteArray) (y5 : List S30) : Prop := ∃ fine, curtilagelaw19_right.f k y5 = some fine ∧
  (fine = true → 0 ≤ y0 → y0 ≤ 256 → -9 ≤ y2 → y2 ≤ 300 → y3.length ≤ 20 → y4.length ≤ 20 →
    ((buildF ⟨y0, []⟩ y1 y2 y3 y4 y5).e ≠ 0 → (buildF ⟨y0, []⟩ y1 y2 y3 y4 y5).m = ⟨y0, []⟩ ∧ (buildF ⟨y0, []⟩ y1 y2 y3 y4 y5).s0.f5 = false ∧ (buildF ⟨y0, []⟩ y1 y2 y3 y4 y5).s1.f5 = false) ∧
    ((buildF ⟨y0, []⟩ y1 y2 y3 y4 y5).e = 0 → LessOk (buildF ⟨y0, []⟩ y1 y2 y3 y4 y5) y1 y2))
theorem MemL.none {w : World} {g gm : Nat} {L : List Lp} {clock : Nat} {b : Int} (h : MemL w g gm L clock ⟨b, []⟩) : L = [] := by
  have := h.pgs
  simpa using this.symm
set_option maxHeartbeats 8000000 in
set_option maxRecDepth 100000 in
theorem curtilagelaw19_AbiLess.calls (k : Nat) (y0 y1 y2 : Int) (A3 : Option Addr) (c3 : Nat) (y3 : List ByteArray) (A4 : Option Addr) (c4 : Nat) (y4 : List ByteArray) (A5 : Option Addr) (c5 : Nat) (y5 : List S30) (r : Bool) (w : World) (hy1 : 0 ≤ y1 ∧ y1 ≤ 18446744073709551615)
    (hr3 : Kd.C Kd.string w A3 y3.length y3) (hc3 : y3.length ≤ c3) (hr4 : Kd.C Kd.string w A4 y4.length y4) (hc4 : y4.length ≤ c4) (hr5 : Kd.C k30 w A5 y5.length y5) (hc5 : y5.length ≤ c5) (hf : LessHyp k y0 y1 y2 y3 y4 y5) (hr : r = true) :
    Calls Try.prog 6 #[.int .i64 y0, .int .u64 y1, .int .i64 y2, .slice A3 y3.length c3, .slice A4 y4.length c4, .slice A5 y5.length c5] w fun e w' => e = .returned (.bool r) ∧ Below w.heap.size w w' := by
  subst hr
  have hu32 := Try.underlying32
  have hu30 := Try.underlying30
  obtain ⟨fine, hfine, hf⟩ := hf
  have AW := Aside0.mk (awake.calls w)
  have HB0 := Aside0.mk (Below.refl w.heap.size w)
  have RT := Aside0.mk (fun W (hb : Below w.heap.size w W) => curtilagelaw19_right.calls k A5 c5 y5 fine W (Kd.C_below hr5 hb) hc5 hfine)
  have HR3 := Aside0.mk hr3
  have HR4 := Aside0.mk hr4
  have HR5 := Aside0.mk hr5
  have HF := Aside0.mk hf
  clear hr3 hr4 hr5 hfine hf
  by_cases hv : y0 < 0 ∨ y0 > 256
  · have NN := Aside0.mk (fun W => New_none y0 W hv)
    cases fine <;>
    · go_enter Try.func6, Try.ntmps6
      go_wp2_with (first | (go_at_call 8; refine AW.out.mono ?_; rintro e W1 ⟨rfl, hb⟩; have HB1 := Aside0.mk hb; clear hb AW) | (go_at_call 14; refine (RT.out _ HB1.out).mono ?_; rintro e W2 ⟨rfl, hd⟩; have HB2 := Aside0.mk (below_step HB1.out hd); clear hd HB1) | (go_at_call 9; refine (NN.out W2).mono ?_; rintro e W3 ⟨rfl, rfl⟩) | fail)
      go_ret
      exact ⟨rfl, HB2.out⟩
  have NW := Aside0.mk (fun W => New_some y0 W (by omega) (by omega))
  have HV := Aside0.mk hv
  clear hv
  cases fine with
  | false =>
    go_enter Try.func6, Try.ntmps6
    go_wp2_with (first | (go_at_call 8; refine AW.out.mono ?_; rintro e W1 ⟨rfl, hb⟩; have HB1 := Aside0.mk hb; clear hb AW) | (go_at_call 14; refine (RT.out _ HB1.out).mono ?_; rintro e W2 ⟨rfl, hd⟩; have HB2 := Aside0.mk (below_step HB1.out hd); clear hd HB1) | (go_at_call 9; have hbx := HB2.out; refine (NW.out W2).mono ?_; rintro e W3 ⟨ga, gma, rfl, hm, hg1, hg2, hb⟩; have HM3 := Aside0.mk hm; have HG := Aside0.mk (And.intro (Nat.le_trans hbx.size hg1) (Nat.le_trans hbx.size hg2)); have HB3 := Aside0.mk (below_step hbx hb); clear hbx hm hg1 hg2 hb HB2) | fail)
    go_ret
    exact ⟨rfl, HB3.out⟩
  | true =>
    by_cases q1 : y2 < -9
    · have d1 : decide (y2 < -9) = true := decide_eq_true q1
      go_enter Try.func6, Try.ntmps6
      go_wp2_with (first | (go_at_call 8; refine AW.out.mono ?_; rintro e W1 ⟨rfl, hb⟩; have HB1 := Aside0.mk hb; clear hb AW) | (go_at_call 14; refine (RT.out _ HB1.out).mono ?_; rintro e W2 ⟨rfl, hd⟩; have HB2 := Aside0.mk (below_step HB1.out hd); clear hd HB1) | (go_at_call 9; have hbx := HB2.out; refine (NW.out W2).mono ?_; rintro e W3 ⟨ga, gma, rfl, hm, hg1, hg2, hb⟩; have HM3 := Aside0.mk hm; have HG := Aside0.mk (And.intro (Nat.le_trans hbx.size hg1) (Nat.le_trans hbx.size hg2)); have HB3 := Aside0.mk (below_step hbx hb); clear hbx hm hg1 hg2 hb HB2) | fail)
      go_ret
      exact ⟨rfl, HB3.out⟩
    have d1 : decide (y2 < -9) = false := decide_eq_false q1
    by_cases q2 : 300 < y2
    · have d2 : decide (300 < y2) = true := decide_eq_true q2
      go_enter Try.func6, Try.ntmps6
      go_wp2_with (first | (go_at_call 8; refine AW.out.mono ?_; rintro e W1 ⟨rfl, hb⟩; have HB1 := Aside0.mk hb; clear hb AW) | (go_at_call 14; refine (RT.out _ HB1.out).mono ?_; rintro e W2 ⟨rfl, hd⟩; have HB2 := Aside0.mk (below_step HB1.out hd); clear hd HB1) | (go_at_call 9; have hbx := HB2.out; refine (NW.out W2).mono ?_; rintro e W3 ⟨ga, gma, rfl, hm, hg1, hg2, hb⟩; have HM3 := Aside0.mk hm; have HG := Aside0.mk (And.intro (Nat.le_trans hbx.size hg1) (Nat.le_trans hbx.size hg2)); have HB3 := Aside0.mk (below_step hbx hb); clear hbx hm hg1 hg2 hb HB2) | fail)
      go_ret
      exact ⟨rfl, HB3.out⟩
    have d2 : decide (300 < y2) = false := decide_eq_false q2
    by_cases q3 : 20 < y3.length
    · have d3 : decide (20 < (y3.length : Int)) = true := decide_eq_true (by omega)
      go_enter Try.func6, Try.ntmps6
      go_wp2_with (first | (go_at_call 8; refine AW.out.mono ?_; rintro e W1 ⟨rfl, hb⟩; have HB1 := Aside0.mk hb; clear hb AW) | (go_at_call 14; refine (RT.out _ HB1.out).mono ?_; rintro e W2 ⟨rfl, hd⟩; have HB2 := Aside0.mk (below_step HB1.out hd); clear hd HB1) | (go_at_call 9; have hbx := HB2.out; refine (NW.out W2).mono ?_; rintro e W3 ⟨ga, gma, rfl, hm, hg1, hg2, hb⟩; have HM3 := Aside0.mk hm; have HG := Aside0.mk (And.intro (Nat.le_trans hbx.size hg1) (Nat.le_trans hbx.size hg2)); have HB3 := Aside0.mk (below_step hbx hb); clear hbx hm hg1 hg2 hb HB2) | fail)
      go_ret
      exact ⟨rfl, HB3.out⟩
    have d3 : decide (20 < (y3.length : Int)) = false := decide_eq_false (by omega)
    by_cases q4 : 20 < y4.length
    · have d4 : decide (20 < (y4.length : Int)) = true := decide_eq_true (by omega)
      go_enter Try.func6, Try.ntmps6
      go_wp2_with (first | (go_at_call 8; refine AW.out.mono ?_; rintro e W1 ⟨rfl, hb⟩; have HB1 := Aside0.mk hb; clear hb AW) | (go_at_call 14; refine (RT.out _ HB1.out).mono ?_; rintro e W2 ⟨rfl, hd⟩; have HB2 := Aside0.mk (below_step HB1.out hd); clear hd HB1) | (go_at_call 9; have hbx := HB2.out; refine (NW.out W2).mono ?_; rintro e W3 ⟨ga, gma, rfl, hm, hg1, hg2, hb⟩; have HM3 := Aside0.mk hm; have HG := Aside0.mk (And.intro (Nat.le_trans hbx.size hg1) (Nat.le_trans hbx.size hg2)); have HB3 := Aside0.mk (below_step hbx hb); clear hbx hm hg1 hg2 hb HB2) | fail)
      go_ret
      exact ⟨rfl, HB3.out⟩
    have d4 : decide (20 < (y4.length : Int)) = false := decide_eq_false (by omega)
    have BD := Aside0.mk (fun W g gm cl (h : MemL W g gm [] cl ⟨y0, []⟩) (hb : Below w.heap.size w W) (hg : w.heap.size ≤ gm) => Build.calls h y1 y2 hy1.1 hy1.2 (by omega) (by omega) A3 c3 y3 A4 c4 y4 A5 c5 y5 (fun W2 hu => Kd.C_below HR3.out (upd_none (B := 0) hu hb hg)) (fun W2 hu => Kd.C_below HR4.out (upd_none (B := 0) hu hb hg)) (fun W2 hu => Kd.C_below HR5.out (upd_none (B := 0) hu hb hg)) (by omega) (by omega) (fun h => (right_small h).1) (fun h => (right_small h).2))
    have HH := HF.out rfl (by have := HV.out; omega) (by have := HV.out; omega) (by omega) (by omega) (by omega) (by omega)
    obtain ⟨B, hB⟩ : ∃ B, B = buildF ⟨y0, []⟩ y1 y2 y3 y4 y5 := ⟨_, rfl⟩
    rw [← hB] at HH
    have HBF := Aside0.mk hB
    obtain ⟨HH1, HH2⟩ := HH
    clear hB HF HV
    by_cases he0 : B.e = 0
    case neg =>
      obtain ⟨hbm, hb0, hb1⟩ := HH1 he0
      have de : (B.e != 0) = true := by simpa using he0
      obtain ⟨m0, s0, s1, s2, s3, e0⟩ := B
      simp only at hbm hb0 hb1 de HBF
      subst hbm
      obtain ⟨f00, f01, f02, f03, f04, f05⟩ := s0
      obtain ⟨f10, f11, f12, f13, f14, f15⟩ := s1
      simp only at hb0 hb1
      subst hb0 hb1
      clear HH1 HH2 he0
      obtain ⟨CS, hCS⟩ : ∃ CS, CS = cs24 ⟨f00, f01, f02, f03, f04, false⟩ ⟨f10, f11, f12, f13, f14, false⟩ s2 s3 := ⟨_, rfl⟩
      have HONE := Aside0.mk (cs24_one ⟨f00, f01, f02, f03, f04, false⟩ ⟨f10, f11, f12, f13, f14, false⟩ s2 s3)
      have PGN := Aside0.mk (fun W g gm L cl (h : MemL W g gm L cl ⟨y0, []⟩) => Pages_none (w := W) (g := g) (gm := gm) (clock := cl) (b := y0) (by have := h.none; subst this; exact h))
      clear hCS CS
      go_enter Try.func6, Try.ntmps6
      go_wp2_with (first | (go_at_call 8; refine AW.out.mono ?_; rintro e W1 ⟨rfl, hb⟩; have HB1 := Aside0.mk hb; clear hb AW) | (go_at_call 14; refine (RT.out _ HB1.out).mono ?_; rintro e W2 ⟨rfl, hd⟩; have HB2 := Aside0.mk (below_step HB1.out hd); clear hd HB1) | (go_at_call 9; have hbx := HB2.out; refine (NW.out W2).mono ?_; rintro e W3 ⟨ga, gma, rfl, hm, hg1, hg2, hb⟩; have HM3 := Aside0.mk hm; have HG := Aside0.mk (And.intro (Nat.le_trans hbx.size hg1) (Nat.le_trans hbx.size hg2)); have HB3 := Aside0.mk (below_step hbx hb); clear hbx hm hg1 hg2 hb HB2) | (go_at_call 10; refine (BD.out _ ga gma 0 HM3.out HB3.out HG.out.2).mono ?_; rintro e W4 ⟨he, L4, cl4, hm, hl, hu⟩; rw [← HBF.out] at he hm; subst he; have HM4 := Aside0.mk hm; have HB4 := Aside0.mk (upd_none (B := 0) hu HB3.out HG.out.2); clear hm hl hu HB3 HM3) | ((with_reducible refine gate_dst (N := 17) rfl ?_); refine box_event ?hg (N := 17) ?hd (cs := #[.int .u64 0, .int .u64 0, .int .u64 0, .int .i64 0, .int .i64 0, .bool false, .int .u64 0, .int .u64 0, .int .u64 0, .int .i64 0, .int .i64 0, .bool false, .int .u64 0, .int .u64 0, .int .u64 0, .int .i64 0, .int .i64 0, .bool false, .int .u64 0, .int .u64 0, .int .u64 0, .int .i64 0, .int .i64 0, .bool false]) (t := 32) ?hr ?_; (case hd => rfl); (case hg => rfl); (case hr => first | (go_simp; done) | (go_simp; rfl)); intro g17 hgb W7 hbox hb; have HB7 := Aside0.mk (below_step HB4.out hb); have B7 := Aside0.mk hbox; have HM7 := Aside0.mk (HM4.out.below hb); have G17 := Aside0.mk (show w.heap.size ≤ g17 by rw [hgb]; exact HB4.out.size); clear hb hbox hgb HB4 HM4) | ((with_reducible refine gate_store (t := 32) (p := 17) rfl ?_); (go_loud (refine store_row_event (t := 32) (p := 17) (v := ?vo_W8x1) ?hg ?ho ?hn (g := g17) (cs := (cs24 ⟨f00, f01, f02, f03, f04, false⟩ ⟨f10, f11, f12, f13, f14, false⟩ s2 s3)) ?hp ?hv B7.out info32 rfl (HONE.out) ?_)); (case ho => rfl); (case hg => rfl); (case hn => rfl); (case hp => rfl); (case hv => rfl); intro W8 hw; have hz1 := setRow_blk (cs := (cs24 ⟨f00, f01, f02, f03, f04, false⟩ ⟨f10, f11, f12, f13, f14, false⟩ s2 s3)) B7.out; have hz2 := setRow_upd W7 g17 (cs24 ⟨f00, f01, f02, f03, f04, false⟩ ⟨f10, f11, f12, f13, f14, false⟩ s2 s3); rw [← hw] at hz1 hz2; have B8 := Aside0.mk hz1; have HM8 := Aside0.mk (HM7.out.upd hz2 (fun e => blk_ne HM7.out.hd B7.out (by decide) e) (fun e => by have h1 := HM7.out.mp; rw [e, B7.out] at h1; cases h1) (fun x hx e => blk_ne (HM7.out.blk x hx) B7.out (by decide) e)); have HB8 := Aside0.mk (hz2.below HB7.out HB7.out.size (fun k hk => by rw [hk]; exact G17.out)); clear hz1 hz2 hw HM7 HB7 B7) | (go_at_call 15; refine (PGN.out W8 ga gma L4 cl4 HM8.out).mono ?_; rintro e W9 ⟨rfl, hb⟩; have HB9 := Aside0.mk (below_step HB8.out hb); have B9 := Aside0.mk (blk_below B8.out hb); have hcl := blk_cell B9.out; unfold cs24 at hcl; clear hb HB8 HM8) | fail)
      go_ret
      exact ⟨rfl, HB9.out⟩
    case pos =>
      obtain ⟨a1, t1, a2, t2, a3, t3, a0, fin, g1, g2, g3, g0, hyy, hin⟩ := HH2 he0
      obtain ⟨m0, s0, s1, s2, s3, e0⟩ := B
      simp only at g1 g2 g3 g0 he0 HBF
      subst g1 g2 g3 g0 he0
      obtain ⟨z1, z2, z3⟩ := hyy
      obtain ⟨i1, i2, i3, i4, i5, i6, i7, i8, i9⟩ := hin
      clear HH1 HH2
      have HONE := Aside0.mk (cs24_one ⟨a0, fin, fin, 27, -1, true⟩ ⟨a1, t1, a1, 9, -1, true⟩ ⟨a2, t2, a2, 9, -1, true⟩ ⟨a3, t3, a3, 9, -1, true⟩)
      have STA := Aside0.mk (fun W => start_calls ⟨a0, fin, fin, 27, -1, true⟩ ⟨a1, t1, a1, 9, -1, true⟩ ⟨a2, t2, a2, 9, -1, true⟩ ⟨a3, t3, a3, 9, -1, true⟩ W)
      have I9 := Aside0.mk i9
      have hfin : fin ≤ 16777216 := by omega
      have hfin2 : ¬ ((y1 + y2) * 256 < fin) := by omega
      clear i9
      go_enter Try.func6, Try.ntmps6
      go_wp2_with (first | (go_at_call 8; refine AW.out.mono ?_; rintro e W1 ⟨rfl, hb⟩; have HB1 := Aside0.mk hb; clear hb AW) | (go_at_call 14; refine (RT.out _ HB1.out).mono ?_; rintro e W2 ⟨rfl, hd⟩; have HB2 := Aside0.mk (below_step HB1.out hd); clear hd HB1) | (go_at_call 9; have hbx := HB2.out; refine (NW.out W2).mono ?_; rintro e W3 ⟨ga, gma, rfl, hm, hg1, hg2, hb⟩; have HM3 := Aside0.mk hm; have HG := Aside0.mk (And.intro (Nat.le_trans hbx.size hg1) (Nat.le_trans hbx.size hg2)); have HB3 := Aside0.mk (below_step hbx hb); clear hbx hm hg1 hg2 hb HB2) | (go_at_call 10; refine (BD.out _ ga gma 0 HM3.out HB3.out HG.out.2).mono ?_; rintro e W4 ⟨he, L4, cl4, hm, hl, hu⟩; rw [← HBF.out] at he hm; subst he; have HM4 := Aside0.mk hm; have HB4 := Aside0.mk (upd_none (B := 0) hu HB3.out HG.out.2); clear hm hl hu HB3 HM3) | ((with_reducible refine gate_dst (N := 17) rfl ?_); refine box_event ?hg (N := 17) ?hd (cs := #[.int .u64 0, .int .u64 0, .int .u64 0, .int .i64 0, .int .i64 0, .bool false, .int .u64 0, .int .u64 0, .int .u64 0, .int .i64 0, .int .i64 0, .bool false, .int .u64 0, .int .u64 0, .int .u64 0, .int .i64 0, .int .i64 0, .bool false, .int .u64 0, .int .u64 0, .int .u64 0, .int .i64 0, .int .i64 0, .bool false]) (t := 32) ?hr ?_; (case hd => rfl); (case hg => rfl); (case hr => first | (go_simp; done) | (go_simp; rfl)); intro g17 hgb W7 hbox hb; have HB7 := Aside0.mk (below_step HB4.out hb); have B7 := Aside0.mk hbox; have HM7 := Aside0.mk (HM4.out.below hb); have G17 := Aside0.mk (show w.heap.size ≤ g17 by rw [hgb]; exact HB4.out.size); clear hb hbox hgb HB4 HM4) | ((with_reducible refine gate_store (t := 32) (p := 17) rfl ?_); (go_loud (refine store_row_event (t := 32) (p := 17) (v := ?vo_W8x1) ?hg ?ho ?hn (g := g17) (cs := (cs24 ⟨a0, fin, fin, 27, -1, true⟩ ⟨a1, t1, a1, 9, -1, true⟩ ⟨a2, t2, a2, 9, -1, true⟩ ⟨a3, t3, a3, 9, -1, true⟩)) ?hp ?hv B7.out info32 rfl (HONE.out) ?_)); (case ho => rfl); (case hg => rfl); (case hn => rfl); (case hp => rfl); (case hv => rfl); intro W8 hw; have hz1 := setRow_blk (cs := (cs24 ⟨a0, fin, fin, 27, -1, true⟩ ⟨a1, t1, a1, 9, -1, true⟩ ⟨a2, t2, a2, 9, -1, true⟩ ⟨a3, t3, a3, 9, -1, true⟩)) B7.out; have hz2 := setRow_upd W7 g17 (cs24 ⟨a0, fin, fin, 27, -1, true⟩ ⟨a1, t1, a1, 9, -1, true⟩ ⟨a2, t2, a2, 9, -1, true⟩ ⟨a3, t3, a3, 9, -1, true⟩); rw [← hw] at hz1 hz2; have B8 := Aside0.mk hz1; have HM8 := Aside0.mk (HM7.out.upd hz2 (fun e => blk_ne HM7.out.hd B7.out (by decide) e) (fun e => by have h1 := HM7.out.mp; rw [e, B7.out] at h1; cases h1) (fun x hx e => blk_ne (HM7.out.blk x hx) B7.out (by decide) e)); have HB8 := Aside0.mk (hz2.below HB7.out HB7.out.size (fun k hk => by rw [hk]; exact G17.out)); clear hz1 hz2 hw HM7 HB7 B7) | ((with_reducible refine gate_dst (N := 87) rfl ?_); refine wpList_load_row rfl 32 (.tmp 17) rfl g17 rfl 32 (cs24 ⟨a0, fin, fin, 27, -1, true⟩ ⟨a1, t1, a1, 9, -1, true⟩ ⟨a2, t2, a2, 9, -1, true⟩ ⟨a3, t3, a3, 9, -1, true⟩) (0, 0) _ B8.out Try.underlying32 rfl info32 ?_) | (go_at_call 16; refine (STA.out W8).mono ?_; rintro e W9 ⟨⟨g20, hg20, rfl, hrow⟩, hb⟩; have HB9 := Aside0.mk (below_step HB8.out hb); have hcl := blk_cell (blk_below B8.out hb); have hcs := blk_cell hrow; unfold cs24 at hcl hcs; clear hb HB8 hrow hg20) | fail)
      go_loopw [21] (fun v wr => (v = .int .i64 0 ∨ v = .int .i64 1 ∨ v = .int .i64 2 ∨ v = .int .i64 3 ∨ v = .int .i64 4) ∧ wr = W9) (fun v _ => 4 - (intOf v).toNat)
      case atStart => exact ⟨.inl rfl, rfl⟩
      case round =>
        obtain ⟨hi, rfl⟩ := hrel
        have p1 : Go.bits .and .i64 27 228 = 0 := by decide
        have p2 : Go.bits .and .i64 27 2 = 2 := by decide
        have p3 : Go.bits .and .i64 9 228 = 0 := by decide
        have p4 : Go.bits .and .i64 9 2 = 0 := by decide
        rcases hi with rfl | rfl | rfl | rfl | rfl
        · go_wp2
          exact ⟨⟨.inr (.inl rfl), trivial⟩, by simp [intOf]⟩
        · go_wp2
          exact ⟨⟨.inr (.inr (.inl rfl)), trivial⟩, by simp [intOf]⟩
        · go_wp2
          exact ⟨⟨.inr (.inr (.inr (.inl rfl))), trivial⟩, by simp [intOf]⟩
        · go_wp2
          exact ⟨⟨.inr (.inr (.inr (.inr rfl))), trivial⟩, by simp [intOf]⟩
        · go_wp2
          go_ret
          exact ⟨rfl, HB9.out⟩
end Go.Proofs.Ytccndffoljjadaa.P
