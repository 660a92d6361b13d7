/- The law AbiTexts, walked. No condition. -/
import Derived.Test.YtccndffoljjadaaKAbiTextsAt5
import Derived.Test.YtccndffoljjadaaKAbiTextsAl0
import Derived.Test.YtccndffoljjadaaKAbiTextsAb9
import Derived.Test.YtccndffoljjadaaKAbiTextsPx4
namespace Go.Proofs.Ytccndffoljjadaa.P
open Go.RowKit Go.Proofs.YtccndffoljjadaaW.PrintWords Go.Proofs.YtccndffoljjadaaW.PrintLast
set_option linter.unusedVariables false
set_option linter.unusedSimpArgs false
/-- What the law asks, in plain words. -/
def TextsHyp (y0 y1 y2 : Int) (y3 y4 : List ByteArray) : Prop := (buildF ⟨y0, []⟩ y1 y2 y3 y4 []).e = 0 → TextsOk (buildF ⟨y0, []⟩ y1 y2 y3 y4 []) y3 y4 ∧ (∀ s ∈ y3, s.size ≤ 200) ∧ (∀ s ∈ y4, s.size ≤ 200)
set_option maxHeartbeats 8000000 in
set_option maxRecDepth 100000 in
theorem curtilagelaw19_AbiTexts.calls (y0 y1 y2 : Int) (A3 : Option Addr) (c3 : Nat) (y3 : List ByteArray) (A4 : Option Addr) (c4 : Nat) (y4 : List ByteArray) (r : Bool) (w : World) (hy1 : 0 ≤ y1 ∧ y1 ≤ 18446744073709551615)
    (hr3 : Kd.C Kd.string w A3 y3.length y3) (hc3 : y3.length ≤ c3) (hr4 : Kd.C Kd.string w A4 y4.length y4) (hc4 : y4.length ≤ c4) (hf : TextsHyp y0 y1 y2 y3 y4) (hr : r = true) :
    Calls Try.prog 3 #[.int .i64 y0, .int .u64 y1, .int .i64 y2, .slice A3 y3.length c3, .slice A4 y4.length c4] w fun e w' => e = .returned (.bool r) ∧ Below w.heap.size w w' := by
  subst hr
  have hu32 := Try.underlying32
  have hu30 := Try.underlying30
  have AW := Aside0.mk (awake.calls w)
  have HB0 := Aside0.mk (Below.refl w.heap.size w)
  have HR3 := Aside0.mk hr3
  have HR4 := Aside0.mk hr4
  have HF := Aside0.mk hf
  clear hr3 hr4 hf
  by_cases hv : y0 < 0 ∨ y0 > 256
  · have NN := Aside0.mk (fun W => New_none y0 W hv)
    go_enter Try.func3, Try.ntmps3
    go_wp2_with (first | (go_at_call 8; refine AW.out.mono ?_; rintro e W1 ⟨rfl, hb⟩; have HB1 := Aside0.mk hb; clear hb AW) | (go_at_call 9; refine (NN.out W1).mono ?_; rintro e W3 ⟨rfl, rfl⟩) | fail)
    go_ret
    exact ⟨rfl, HB1.out⟩
  have NW := Aside0.mk (fun W => New_some y0 W (by omega) (by omega))
  clear hv
  by_cases q1 : y2 < -9
  · have d1 : decide (y2 < -9) = true := decide_eq_true q1
    go_enter Try.func3, Try.ntmps3
    go_wp2_with (first | (go_at_call 8; refine AW.out.mono ?_; rintro e W1 ⟨rfl, hb⟩; have HB1 := Aside0.mk hb; clear hb AW) | (go_at_call 9; have hbx := HB1.out; refine (NW.out W1).mono ?_; rintro e W3 ⟨ga, gma, rfl, hm, hg1, hg2, hb⟩; have HM3 := Aside0.mk hm; have HG := Aside0.mk (And.intro (Nat.le_trans hbx.size hg1) (Nat.le_trans hbx.size hg2)); have HB3 := Aside0.mk (below_step hbx hb); clear hbx hm hg1 hg2 hb HB1) | fail)
    go_ret
    exact ⟨rfl, HB3.out⟩
  have d1 : decide (y2 < -9) = false := decide_eq_false q1
  by_cases q2 : 300 < y2
  · have d2 : decide (300 < y2) = true := decide_eq_true q2
    go_enter Try.func3, Try.ntmps3
    go_wp2_with (first | (go_at_call 8; refine AW.out.mono ?_; rintro e W1 ⟨rfl, hb⟩; have HB1 := Aside0.mk hb; clear hb AW) | (go_at_call 9; have hbx := HB1.out; refine (NW.out W1).mono ?_; rintro e W3 ⟨ga, gma, rfl, hm, hg1, hg2, hb⟩; have HM3 := Aside0.mk hm; have HG := Aside0.mk (And.intro (Nat.le_trans hbx.size hg1) (Nat.le_trans hbx.size hg2)); have HB3 := Aside0.mk (below_step hbx hb); clear hbx hm hg1 hg2 hb HB1) | fail)
    go_ret
    exact ⟨rfl, HB3.out⟩
  have d2 : decide (300 < y2) = false := decide_eq_false q2
  by_cases q3 : 20 < y3.length
  · have d3 : decide (20 < (y3.length : Int)) = true := decide_eq_true (by omega)
    go_enter Try.func3, Try.ntmps3
    go_wp2_with (first | (go_at_call 8; refine AW.out.mono ?_; rintro e W1 ⟨rfl, hb⟩; have HB1 := Aside0.mk hb; clear hb AW) | (go_at_call 9; have hbx := HB1.out; refine (NW.out W1).mono ?_; rintro e W3 ⟨ga, gma, rfl, hm, hg1, hg2, hb⟩; have HM3 := Aside0.mk hm; have HG := Aside0.mk (And.intro (Nat.le_trans hbx.size hg1) (Nat.le_trans hbx.size hg2)); have HB3 := Aside0.mk (below_step hbx hb); clear hbx hm hg1 hg2 hb HB1) | fail)
    go_ret
    exact ⟨rfl, HB3.out⟩
  have d3 : decide (20 < (y3.length : Int)) = false := decide_eq_false (by omega)
  by_cases q4 : 20 < y4.length
  · have d4 : decide (20 < (y4.length : Int)) = true := decide_eq_true (by omega)
    go_enter Try.func3, Try.ntmps3
    go_wp2_with (first | (go_at_call 8; refine AW.out.mono ?_; rintro e W1 ⟨rfl, hb⟩; have HB1 := Aside0.mk hb; clear hb AW) | (go_at_call 9; have hbx := HB1.out; refine (NW.out W1).mono ?_; rintro e W3 ⟨ga, gma, rfl, hm, hg1, hg2, hb⟩; have HM3 := Aside0.mk hm; have HG := Aside0.mk (And.intro (Nat.le_trans hbx.size hg1) (Nat.le_trans hbx.size hg2)); have HB3 := Aside0.mk (below_step hbx hb); clear hbx hm hg1 hg2 hb HB1) | fail)
    go_ret
    exact ⟨rfl, HB3.out⟩
  have d4 : decide (20 < (y4.length : Int)) = false := decide_eq_false (by omega)
  have BD := Aside0.mk (fun W g gm cl (h : MemL W g gm [] cl ⟨y0, []⟩) (hb : Below w.heap.size w W) (hg : w.heap.size ≤ gm) => Build.calls h y1 y2 hy1.1 hy1.2 (by omega) (by omega) A3 c3 y3 A4 c4 y4 none 0 [] (fun W2 hu => Kd.C_below HR3.out (upd_none (B := 0) hu hb hg)) (fun W2 hu => Kd.C_below HR4.out (upd_none (B := 0) hu hb hg)) (fun W2 hu => Kd.C_nil k30 W2) (by omega) (by omega) (fun h => (right_small h).1) (fun h => (right_small h).2))
  have HH := HF.out
  obtain ⟨B, hB⟩ : ∃ B, B = buildF ⟨y0, []⟩ y1 y2 y3 y4 [] := ⟨_, rfl⟩
  unfold TextsHyp at HH
  rw [← hB] at HH
  have HBF := Aside0.mk hB
  clear hB HF
  replace q3 : y3.length ≤ 20 := by omega
  replace q4 : y4.length ≤ 20 := by omega
  by_cases he0 : B.e = 0
  case neg =>
    have de : (B.e != 0) = true := by simpa using he0
    obtain ⟨m0, s0, s1, s2, s3, e0⟩ := B
    simp only at de HBF
    clear HH he0
    have HONE := Aside0.mk (cs24_one s0 s1 s2 s3)
    go_enter Try.func3, Try.ntmps3
    go_wp2_with (first | (go_at_call 8; refine AW.out.mono ?_; rintro e W1 ⟨rfl, hb⟩; have HB1 := Aside0.mk hb; clear hb AW) | (go_at_call 9; have hbx := HB1.out; refine (NW.out W1).mono ?_; rintro e W3 ⟨ga, gma, rfl, hm, hg1, hg2, hb⟩; have HM3 := Aside0.mk hm; have HG := Aside0.mk (And.intro (Nat.le_trans hbx.size hg1) (Nat.le_trans hbx.size hg2)); have HB3 := Aside0.mk (below_step hbx hb); clear hbx hm hg1 hg2 hb HB1) | (go_at_call 10; refine (BD.out _ ga gma 0 HM3.out HB3.out HG.out.2).mono ?_; rintro e W4 ⟨he, L4, cl4, hm, hl, hu⟩; rw [← HBF.out] at he hm; subst he; have HM4 := Aside0.mk hm; have HB4 := Aside0.mk (upd_none (B := 0) hu HB3.out HG.out.2); clear hm hl hu HB3 HM3) | ((with_reducible refine gate_dst (N := 14) rfl ?_); refine box_event ?hg (N := 14) ?hd (cs := #[.int .u64 0, .int .u64 0, .int .u64 0, .int .i64 0, .int .i64 0, .bool false, .int .u64 0, .int .u64 0, .int .u64 0, .int .i64 0, .int .i64 0, .bool false, .int .u64 0, .int .u64 0, .int .u64 0, .int .i64 0, .int .i64 0, .bool false, .int .u64 0, .int .u64 0, .int .u64 0, .int .i64 0, .int .i64 0, .bool false]) (t := 32) ?hr ?_; (case hd => rfl); (case hg => rfl); (case hr => first | (go_simp; done) | (go_simp; rfl)); intro g17 hgb W7 hbox hb; have HB7 := Aside0.mk (below_step HB4.out hb); have B7 := Aside0.mk hbox; have HM7 := Aside0.mk (HM4.out.below hb); have G17 := Aside0.mk (show w.heap.size ≤ g17 by rw [hgb]; exact HB4.out.size); clear hb hbox hgb HB4 HM4) | ((with_reducible refine gate_store (t := 32) (p := 14) rfl ?_); (go_loud (refine store_row_event (t := 32) (p := 14) (v := ?vo_W8x1) ?hg ?ho ?hn (g := g17) (cs := cs24 s0 s1 s2 s3) ?hp ?hv B7.out info32 rfl (HONE.out) ?_)); (case ho => rfl); (case hg => rfl); (case hn => rfl); (case hp => rfl); (case hv => rfl); intro W8 hw; have hz1 := setRow_blk (cs := cs24 s0 s1 s2 s3) B7.out; have hz2 := setRow_upd W7 g17 (cs24 s0 s1 s2 s3); rw [← hw] at hz1 hz2; have B8 := Aside0.mk hz1; have HM8 := Aside0.mk (HM7.out.upd hz2 (fun e => blk_ne HM7.out.hd B7.out (by decide) e) (fun e => by have h1 := HM7.out.mp; rw [e, B7.out] at h1; cases h1) (fun x hx e => blk_ne (HM7.out.blk x hx) B7.out (by decide) e)); have HB8 := Aside0.mk (hz2.below HB7.out HB7.out.size (fun k hk => by rw [hk]; exact G17.out)); have hcl := blk_cell B8.out; unfold cs24 at hcl; clear hz1 hz2 hw HM7 HB7 B7) | fail)
    go_ret
    exact ⟨rfl, HB8.out⟩
  case pos =>
    obtain ⟨⟨b1, b2, b3, g1, g2, g3, t1, t2, t3⟩, z3, z4⟩ := HH he0
    obtain ⟨m0, s0, s1, s2, s3, e0⟩ := B
    simp only at g1 g2 g3 he0 t1 t2 t3 HBF
    subst g1 g2 g3 he0
    clear HH
    have T1 := Aside0.mk t1
    have T2 := Aside0.mk t2
    have T3 := Aside0.mk t3
    have SZ3 := Aside0.mk z3
    have SZ4 := Aside0.mk z4
    clear t1 t2 t3 z3 z4
    have HONE := Aside0.mk (cs24_one s0 ⟨b1, b1 + 32 * (y3.length : Int), b1, 9, -1, true⟩ ⟨b2, b2 + 32 * (y4.length : Int), b2, 9, -1, true⟩ ⟨b3, b3, b3, 9, -1, true⟩)
    go_enter Try.func3, Try.ntmps3
    go_wp2_with (first | (go_at_call 8; refine AW.out.mono ?_; rintro e W1 ⟨rfl, hb⟩; have HB1 := Aside0.mk hb; clear hb AW) | (go_at_call 9; have hbx := HB1.out; refine (NW.out W1).mono ?_; rintro e W3 ⟨ga, gma, rfl, hm, hg1, hg2, hb⟩; have HM3 := Aside0.mk hm; have HG := Aside0.mk (And.intro (Nat.le_trans hbx.size hg1) (Nat.le_trans hbx.size hg2)); have HB3 := Aside0.mk (below_step hbx hb); clear hbx hm hg1 hg2 hb HB1) | (go_at_call 10; refine (BD.out _ ga gma 0 HM3.out HB3.out HG.out.2).mono ?_; rintro e W4 ⟨he, L4, cl4, hm, hl, hu⟩; rw [← HBF.out] at he hm; subst he; have HM4 := Aside0.mk hm; have HB4 := Aside0.mk (upd_none (B := 0) hu HB3.out HG.out.2); clear hm hl hu HB3 HM3) | ((with_reducible refine gate_dst (N := 14) rfl ?_); refine box_event ?hg (N := 14) ?hd (cs := #[.int .u64 0, .int .u64 0, .int .u64 0, .int .i64 0, .int .i64 0, .bool false, .int .u64 0, .int .u64 0, .int .u64 0, .int .i64 0, .int .i64 0, .bool false, .int .u64 0, .int .u64 0, .int .u64 0, .int .i64 0, .int .i64 0, .bool false, .int .u64 0, .int .u64 0, .int .u64 0, .int .i64 0, .int .i64 0, .bool false]) (t := 32) ?hr ?_; (case hd => rfl); (case hg => rfl); (case hr => first | (go_simp; done) | (go_simp; rfl)); intro g17 hgb W7 hbox hb; have HB7 := Aside0.mk (below_step HB4.out hb); have B7 := Aside0.mk hbox; have HM7 := Aside0.mk (HM4.out.below hb); have G17 := Aside0.mk (show w.heap.size ≤ g17 by rw [hgb]; exact HB4.out.size); clear hb hbox hgb HB4 HM4) | ((with_reducible refine gate_store (t := 32) (p := 14) rfl ?_); (go_loud (refine store_row_event (t := 32) (p := 14) (v := ?vo_W8x1) ?hg ?ho ?hn (g := g17) (cs := cs24 s0 ⟨b1, b1 + 32 * (y3.length : Int), b1, 9, -1, true⟩ ⟨b2, b2 + 32 * (y4.length : Int), b2, 9, -1, true⟩ ⟨b3, b3, b3, 9, -1, true⟩) ?hp ?hv B7.out info32 rfl (HONE.out) ?_)); (case ho => rfl); (case hg => rfl); (case hn => rfl); (case hp => rfl); (case hv => rfl); intro W8 hw; have hz1 := setRow_blk (cs := cs24 s0 ⟨b1, b1 + 32 * (y3.length : Int), b1, 9, -1, true⟩ ⟨b2, b2 + 32 * (y4.length : Int), b2, 9, -1, true⟩ ⟨b3, b3, b3, 9, -1, true⟩) B7.out; have hz2 := setRow_upd W7 g17 (cs24 s0 ⟨b1, b1 + 32 * (y3.length : Int), b1, 9, -1, true⟩ ⟨b2, b2 + 32 * (y4.length : Int), b2, 9, -1, true⟩ ⟨b3, b3, b3, 9, -1, true⟩); rw [← hw] at hz1 hz2; have B8 := Aside0.mk hz1; have HM8 := Aside0.mk (HM7.out.upd hz2 (fun e => blk_ne HM7.out.hd B7.out (by decide) e) (fun e => by have h1 := HM7.out.mp; rw [e, B7.out] at h1; cases h1) (fun x hx e => blk_ne (HM7.out.blk x hx) B7.out (by decide) e)); have HB8 := Aside0.mk (hz2.below HB7.out HB7.out.size (fun k hk => by rw [hk]; exact G17.out)); have hcl := blk_cell B8.out; unfold cs24 at hcl; clear hz1 hz2 hw HM7 HB7 B7) | (go_at_call 11; refine (told.calls HM8.out T1.out rfl q3 SZ3.out A3 c3 (Kd.C_below HR3.out HB8.out)).mono ?_; rintro e W9 ⟨rfl, hb⟩; have HB9 := Aside0.mk (below_step HB8.out hb); have B9 := Aside0.mk (blk_below B8.out hb); have HM9 := Aside0.mk (HM8.out.below hb); have hcl := blk_cell B9.out; unfold cs24 at hcl; clear hb HB8 B8 HM8) | (go_at_call 11; refine (told.calls HM9.out T2.out rfl q4 SZ4.out A4 c4 (Kd.C_below HR4.out HB9.out)).mono ?_; rintro e W10 ⟨rfl, hb⟩; have HB10 := Aside0.mk (below_step HB9.out hb); have B10 := Aside0.mk (blk_below B9.out hb); have HM10 := Aside0.mk (HM9.out.below hb); have hcl := blk_cell B10.out; unfold cs24 at hcl; clear hb HB9 B9 HM9) | (go_at_call 11; refine (told.calls HM10.out T3.out (by simp) (by simp) (fun s hs => by cases hs) none 0 (Kd.C_nil Kd.string W10)).mono ?_; rintro e W11 ⟨rfl, hb⟩; have HB11 := Aside0.mk (below_step HB10.out hb); have B11 := Aside0.mk (blk_below B10.out hb); have HM11 := Aside0.mk (HM10.out.below hb); have hcl := blk_cell B11.out; unfold cs24 at hcl; clear hb HB10 B10 HM10) | fail)
    go_ret
    exact ⟨rfl, HB11.out⟩
end Go.Proofs.Ytccndffoljjadaa.P
