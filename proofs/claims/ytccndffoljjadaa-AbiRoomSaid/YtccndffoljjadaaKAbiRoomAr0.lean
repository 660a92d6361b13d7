/- The law AbiRoom, walked. No condition. -/
import Derived.Test.YtccndffoljjadaaKAbiRoomAbb
import Derived.Test.YtccndffoljjadaaKAbiRoomPx12
namespace Go.Proofs.Ytccndffoljjadaa.P
open Go.RowKit Go.Proofs.YtccndffoljjadaaW.PrintWords Go.Proofs.YtccndffoljjadaaW.PrintLast
set_option linter.unusedVariables false
set_option linter.unusedSimpArgs false
theorem any_false {α : Type} {p : α → Bool} {l : List α} (h : (!l.any p) = true) {x : α} (hx : x ∈ l) : p x = false := by
  rw [Bool.not_eq_true'] at h
  have := List.any_eq_false.1 h x hx
  simpa using this
theorem right_small {y0 y1 : List ByteArray} {y2 : List S30} (h : abi_right.f y0 y1 y2 = true) : (∀ s ∈ y0, s.size ≤ 200) ∧ (∀ s ∈ y1, s.size ≤ 200) := by
  unfold abi_right.f at h
  simp only [Bool.and_eq_true] at h
  obtain ⟨⟨⟨⟨⟨_, _⟩, _⟩, h0⟩, h1⟩, _⟩ := h
  have key : ∀ s, badS s = false → s.size ≤ 200 := fun s hs => by
    unfold badS abi_text.f at hs
    rw [Bool.not_eq_false'] at hs
    split at hs
    · cases hs
    · have := of_decide_eq_true hs; omega
  exact ⟨fun s hs => key s (any_false h0 hs), fun s hs => key s (any_false h1 hs)⟩
def roomF (y0 y1 : List ByteArray) (y2 : Int) (need : Int) (pg : Int) : Option Bool :=
  if y0.length ≤ 8 ∧ y1.length ≤ 8 ∧ 0 ≤ need ∧ need ≤ 100000 then
    if 200 < pg + y2 then some true else if (buildF ⟨200, []⟩ 9 (pg + y2) y0 y1 []).e = 0 ∧ (buildF ⟨200, []⟩ 9 (pg - 1) y0 y1 []).e = 190 then some true else some false
  else none
def curtilagelaw19_AbiRoom.f (k : Nat) (y0 y1 : List ByteArray) (y2 : Int) : Option Bool :=
  (curtilageref19_Right.f k y0 y1 []).bind fun rt => if rt = false then some true else if y2 < 0 then some true else if 50 < y2 then some true else roomF y0 y1 y2 (abi_Need.g y0 y1 []) (Int.tdiv (abi_Need.g y0 y1 [] + 64 + 255) 256)
theorem upd_none {w W : World} {gm B : Nat} (hu : Upd w W (MS [] gm)) {w0 : World} (hb : Below w0.heap.size w0 w) (hg : w0.heap.size ≤ gm) : Below w0.heap.size w0 W :=
  hu.below hb hb.size (fun k hk => by rcases hk with hk | hk; rw [hk]; exact hg; simp [inL] at hk)
set_option maxHeartbeats 4000000 in
set_option maxRecDepth 100000 in
theorem curtilagelaw19_AbiRoom.calls (k : Nat) (A0 : Option Addr) (c0 : Nat) (y0 : List ByteArray) (A1 : Option Addr) (c1 : Nat) (y1 : List ByteArray) (y2 : Int) (r : Bool) (w : World) (hr0 : Kd.C Kd.string w A0 y0.length y0) (hc0 : y0.length ≤ c0) (hr1 : Kd.C Kd.string w A1 y1.length y1) (hc1 : y1.length ≤ c1) (hf : curtilagelaw19_AbiRoom.f k y0 y1 y2 = some r) (hr : r = true) :
    Calls Try.prog 4 #[.slice A0 y0.length c0, .slice A1 y1.length c1, .int .i64 y2] w fun e w' => e = .returned (.bool r) ∧ Below w.heap.size w w' := by
  subst hr
  have hu32 := Try.underlying32
  have AW := Aside0.mk (awake.calls w)
  have HR0 := Aside0.mk hr0
  have HR1 := Aside0.mk hr1
  have HB0 := Aside0.mk (Below.refl w.heap.size w)
  unfold curtilagelaw19_AbiRoom.f at hf
  obtain ⟨rt, hrt, hf⟩ := Option.bind_eq_some_iff.1 hf
  have RT := Aside0.mk (fun W (hb : Below w.heap.size w W) => curtilageref19_Right.calls k A0 c0 y0 A1 c1 y1 none 0 [] rt W (Kd.C_below hr0 hb) hc0 (Kd.C_below hr1 hb) hc1 (C_none _ _) (Nat.le_refl _) hrt)
  clear hr0 hr1 hrt
  cases rt with
  | false =>
    go_enter Try.func4, Try.ntmps4
    go_wp2_with (first | (go_at_call 8; refine AW.out.mono ?_; rintro e W1 ⟨rfl, hb⟩; have HB1 := Aside0.mk hb; clear hb AW) | (go_at_call 12; refine (RT.out _ HB1.out).mono ?_; rintro e W2 ⟨rfl, hd⟩; have HB2 := Aside0.mk (below_step HB1.out hd.below); clear hd HB1) | fail)
    go_ret
    exact ⟨rfl, HB2.out⟩
  | true =>
    rw [if_neg (by decide)] at hf
    by_cases p1 : y2 < 0
    · have dp1 : decide (y2 < 0) = true := decide_eq_true p1
      go_enter Try.func4, Try.ntmps4
      go_wp2_with (first | (go_at_call 8; refine AW.out.mono ?_; rintro e W1 ⟨rfl, hb⟩; have HB1 := Aside0.mk hb; clear hb AW) | (go_at_call 12; refine (RT.out _ HB1.out).mono ?_; rintro e W2 ⟨rfl, hd⟩; have HB2 := Aside0.mk (below_step HB1.out hd.below); clear hd HB1) | fail)
      go_ret
      exact ⟨rfl, HB2.out⟩
    rw [if_neg p1] at hf
    have dp1 : decide (y2 < 0) = false := decide_eq_false p1
    by_cases p2 : 50 < y2
    · have dp2 : decide (50 < y2) = true := decide_eq_true p2
      go_enter Try.func4, Try.ntmps4
      go_wp2_with (first | (go_at_call 8; refine AW.out.mono ?_; rintro e W1 ⟨rfl, hb⟩; have HB1 := Aside0.mk hb; clear hb AW) | (go_at_call 12; refine (RT.out _ HB1.out).mono ?_; rintro e W2 ⟨rfl, hd⟩; have HB2 := Aside0.mk (below_step HB1.out hd.below); clear hd HB1) | fail)
      go_ret
      exact ⟨rfl, HB2.out⟩
    rw [if_neg p2] at hf
    have dp2 : decide (50 < y2) = false := decide_eq_false p2
    obtain ⟨need, hnd⟩ : ∃ x, x = abi_Need.g y0 y1 [] := ⟨_, rfl⟩
    obtain ⟨pg, hpg⟩ : ∃ x, x = Int.tdiv (need + 64 + 255) 256 := ⟨_, rfl⟩
    rw [← hnd, ← hpg] at hf
    unfold roomF at hf
    by_cases hg : y0.length ≤ 8 ∧ y1.length ≤ 8 ∧ 0 ≤ need ∧ need ≤ 100000
    case neg => rw [if_neg hg] at hf; cases hf
    rw [if_pos hg] at hf
    obtain ⟨l0, l1, n0, n1⟩ := hg
    have ND := Aside0.mk (fun W (hb : Below w.heap.size w W) => abi_Need.calls' A0 c0 y0 A1 c1 y1 none 0 [] W (Kd.C_below HR0.out hb) (Kd.C_below HR1.out hb) (by omega) (by omega))
    rw [← hnd] at ND
    have WN1 : wrap64 (need + 64) = need + 64 := by unfold wrap64; omega
    have WN2 : wrap64 (need + 64 + 255) = need + 64 + 255 := by unfold wrap64; omega
    have hp0 : 0 ≤ pg ∧ pg ≤ 400 := by rw [hpg, Int.tdiv_eq_ediv_of_nonneg (by omega)]; omega
    obtain ⟨hp0, hp1⟩ := hp0
    have WN3 : wrap64 (Int.tdiv (need + 64 + 255) 256) = pg := by rw [← hpg]; unfold wrap64; omega
    have WN6 : (need + 64 + 255) / 256 = pg := by rw [hpg, Int.tdiv_eq_ediv_of_nonneg (by omega)]
    have WN7 : wrap64 pg = pg := by unfold wrap64; omega
    have WN4 : wrap64 (pg + y2) = pg + y2 := by unfold wrap64; omega
    have WN5 : wrap64 (pg - 1) = pg - 1 := by unfold wrap64; omega
    clear hnd hpg
    have NW := Aside0.mk (fun W => New_some 200 W (by omega) (by omega))
    by_cases p3 : 200 < pg + y2
    · have dp3 : decide (200 < pg + y2) = true := decide_eq_true p3
      go_enter Try.func4, Try.ntmps4
      go_wp2_with (first | (go_at_call 8; refine AW.out.mono ?_; rintro e W1 ⟨rfl, hb⟩; have HB1 := Aside0.mk hb; clear hb AW) | (go_at_call 12; refine (RT.out _ HB1.out).mono ?_; rintro e W2 ⟨rfl, hd⟩; have HB2 := Aside0.mk (below_step HB1.out hd.below); clear hd HB1) | (go_at_call 13; refine (ND.out _ HB2.out).mono ?_; rintro e W3 ⟨rfl, hb⟩; have HB3 := Aside0.mk (below_step HB2.out hb); clear hb HB2) | (go_at_call 9; first | (have hbx := HB3.out; refine (NW.out _).mono ?_; rintro e W4 ⟨ga, gma, rfl, hm, hg1, hg2, hb⟩; have HMa4 := Aside0.mk hm; have HG1 := Aside0.mk (And.intro (Nat.le_trans hbx.size hg1) (Nat.le_trans hbx.size hg2)); have HB4 := Aside0.mk (below_step hbx hb); clear hbx hm hg1 hg2 hb HB3) | (have hbx := HB4.out; refine (NW.out _).mono ?_; rintro e W5 ⟨gb, gmb, rfl, hm, hg1, hg2, hb⟩; have HMa5 := Aside0.mk (HMa4.out.below hb); have HMb5 := Aside0.mk hm; have HG2 := Aside0.mk (And.intro (Nat.le_trans hbx.size hg1) (Nat.le_trans hbx.size hg2)); have HNE := Aside0.mk (show gb ≠ gma ∧ gmb ≠ gma from ⟨fun e => by have := blk_lt HMa4.out.mp; omega, fun e => by have := blk_lt HMa4.out.mp; omega⟩); have HB5 := Aside0.mk (below_step hbx hb); clear hbx hm hg1 hg2 hb HB4 HMa4)) | fail)
      go_ret
      exact ⟨rfl, HB5.out⟩
    rw [if_neg p3] at hf
    have dp3 : decide (200 < pg + y2) = false := decide_eq_false p3
    by_cases he : (buildF ⟨200, []⟩ 9 (pg + y2) y0 y1 []).e = 0 ∧ (buildF ⟨200, []⟩ 9 (pg - 1) y0 y1 []).e = 190
    case neg => rw [if_neg he] at hf; cases hf
    obtain ⟨he1, he2⟩ := he
    clear hf
    have BD := Aside0.mk (fun W g gm cl (pages : Int) (h : MemL W g gm [] cl ⟨200, []⟩) (hb : Below w.heap.size w W) (hg : w.heap.size ≤ gm) (q0 : -100000 ≤ pages) (q1 : pages ≤ 65536) => Build.calls h 9 pages (by omega) (by omega) q0 q1 A0 c0 y0 A1 c1 y1 none 0 [] (fun W2 hu => Kd.C_below HR0.out (upd_none (B := 0) hu hb hg)) (fun W2 hu => Kd.C_below HR1.out (upd_none (B := 0) hu hb hg)) (fun W2 hu => C_none _ _) (by omega) (by omega) (fun h => (right_small h).1) (fun h => (right_small h).2))
    obtain ⟨Ba, hBa⟩ : ∃ x, x = buildF ⟨200, []⟩ 9 (pg + y2) y0 y1 [] := ⟨_, rfl⟩
    obtain ⟨Bb, hBb⟩ : ∃ x, x = buildF ⟨200, []⟩ 9 (pg - 1) y0 y1 [] := ⟨_, rfl⟩
    rw [← hBa] at he1
    rw [← hBb] at he2
    have HBA := Aside0.mk hBa
    have HBB := Aside0.mk hBb
    have HE1 := Aside0.mk he1
    have HE2 := Aside0.mk he2
    have q1 : -100000 ≤ pg + y2 := by omega
    have q2 : pg + y2 ≤ 65536 := by omega
    have q3 : -100000 ≤ pg - 1 := by omega
    have q4 : pg - 1 ≤ 65536 := by omega
    have QQ := Aside0.mk (And.intro (And.intro q1 q2) (And.intro q3 q4))
    clear hBa hBb he1 he2 q1 q2 q3 q4
    go_enter Try.func4, Try.ntmps4
    go_wp2_with (first | (go_at_call 8; refine AW.out.mono ?_; rintro e W1 ⟨rfl, hb⟩; have HB1 := Aside0.mk hb; clear hb AW) | (go_at_call 12; refine (RT.out _ HB1.out).mono ?_; rintro e W2 ⟨rfl, hd⟩; have HB2 := Aside0.mk (below_step HB1.out hd.below); clear hd HB1) | (go_at_call 13; refine (ND.out _ HB2.out).mono ?_; rintro e W3 ⟨rfl, hb⟩; have HB3 := Aside0.mk (below_step HB2.out hb); clear hb HB2) | (go_at_call 9; first | (have hbx := HB3.out; refine (NW.out _).mono ?_; rintro e W4 ⟨ga, gma, rfl, hm, hg1, hg2, hb⟩; have HMa4 := Aside0.mk hm; have HG1 := Aside0.mk (And.intro (Nat.le_trans hbx.size hg1) (Nat.le_trans hbx.size hg2)); have HB4 := Aside0.mk (below_step hbx hb); clear hbx hm hg1 hg2 hb HB3) | (have hbx := HB4.out; refine (NW.out _).mono ?_; rintro e W5 ⟨gb, gmb, rfl, hm, hg1, hg2, hb⟩; have HMa5 := Aside0.mk (HMa4.out.below hb); have HMb5 := Aside0.mk hm; have HG2 := Aside0.mk (And.intro (Nat.le_trans hbx.size hg1) (Nat.le_trans hbx.size hg2)); have HNE := Aside0.mk (show gb ≠ gma ∧ gmb ≠ gma from ⟨fun e => by have := blk_lt HMa4.out.mp; omega, fun e => by have := blk_lt HMa4.out.mp; omega⟩); have HB5 := Aside0.mk (below_step hbx hb); clear hbx hm hg1 hg2 hb HB4 HMa4)) | (go_at_call 10; first | (refine (BD.out _ ga gma 0 (pg + y2) HMa5.out HB5.out HG1.out.2 QQ.out.1.1 QQ.out.1.2).mono ?_; rintro e W6 ⟨he, L6, cl6, hm, hl, hu⟩; rw [← HBA.out, HE1.out] at he; subst he; have HMb6 := Aside0.mk (HMb5.out.upd hu (fun hk => by rcases hk with hk | hk; exact HNE.out.1 hk; simp [inL] at hk) (fun hk => by rcases hk with hk | hk; exact HNE.out.2 hk; simp [inL] at hk) (fun x hx => by simp at hx)); have HB6 := Aside0.mk (upd_none (B := 0) hu HB5.out HG1.out.2); clear hm hl hu HB5 HMa5 HMb5) | (refine (BD.out _ gb gmb 0 (pg - 1) HMb8.out HB8.out HG2.out.2 QQ.out.2.1 QQ.out.2.2).mono ?_; rintro e W9 ⟨he, L9, cl9, hm, hl, hu⟩; rw [← HBB.out, HE2.out] at he; subst he; have HB9 := Aside0.mk (upd_none (B := 0) hu HB8.out HG2.out.2); clear hm hl hu HB8 HMb8)) | ((with_reducible refine gate_dst (N := 15) rfl ?_); refine box_event ?hg (N := 15) ?hd (cs := #[.int .u64 0, .int .u64 0, .int .u64 0, .int .i64 0, .int .i64 0, .bool false, .int .u64 0, .int .u64 0, .int .u64 0, .int .i64 0, .int .i64 0, .bool false, .int .u64 0, .int .u64 0, .int .u64 0, .int .i64 0, .int .i64 0, .bool false, .int .u64 0, .int .u64 0, .int .u64 0, .int .i64 0, .int .i64 0, .bool false]) (t := 32) ?hr ?_; (case hd => rfl); (case hg => rfl); (case hr => first | (go_simp; done) | (go_simp; rfl)); intro g15 hgb W7 hbox hb; have HB7 := Aside0.mk (below_step HB6.out hb); have B7 := Aside0.mk hbox; have HMb7 := Aside0.mk (HMb6.out.below hb); have G15 := Aside0.mk (show w.heap.size ≤ g15 by rw [hgb]; exact HB6.out.size); clear hb hbox hgb HMb6 HB6) | ((with_reducible refine gate_store (t := 32) (p := 15) rfl ?_); (go_loud (refine store_row_event (t := 32) (p := 15) (v := ?vo_W8x1) ?hg ?ho ?hn (g := g15) (cs := (cs24 Ba.s0 Ba.s1 Ba.s2 Ba.s3)) ?hp ?hv B7.out info32 rfl (cs24_one _ _ _ _) ?_)); (case ho => rfl); (case hg => rfl); (case hn => rfl); (case hp => rfl); (case hv => rfl); intro W8x hw; have hz2 := setRow_upd W7 g15 (cs24 Ba.s0 Ba.s1 Ba.s2 Ba.s3); rw [← hw] at hz2; have HMb8 := Aside0.mk (HMb7.out.upd hz2 (fun e => blk_ne HMb7.out.hd B7.out (by decide) e) (fun e => by have h1 := HMb7.out.mp; rw [e, B7.out] at h1; cases h1) (fun x hx e => by simp at hx)); have HB8 := Aside0.mk (hz2.below HB7.out HB7.out.size (fun k hk => by rw [hk]; exact G15.out)); clear hw hz2 HMb7 HB7 B7) | ((with_reducible refine gate_dst (N := 17) rfl ?_); refine box_event ?hg (N := 17) ?hd (cs := #[.int .u64 0, .int .u64 0, .int .u64 0, .int .i64 0, .int .i64 0, .bool false, .int .u64 0, .int .u64 0, .int .u64 0, .int .i64 0, .int .i64 0, .bool false, .int .u64 0, .int .u64 0, .int .u64 0, .int .i64 0, .int .i64 0, .bool false, .int .u64 0, .int .u64 0, .int .u64 0, .int .i64 0, .int .i64 0, .bool false]) (t := 32) ?hr ?_; (case hd => rfl); (case hg => rfl); (case hr => first | (go_simp; done) | (go_simp; rfl)); intro g17 hgb W10 hbox hb; have HB10 := Aside0.mk (below_step HB9.out hb); have B10 := Aside0.mk hbox; have G17 := Aside0.mk (show w.heap.size ≤ g17 by rw [hgb]; exact HB9.out.size); clear hb hbox hgb HB9) | ((with_reducible refine gate_store (t := 32) (p := 17) rfl ?_); (go_loud (refine store_row_event (t := 32) (p := 17) (v := ?vo_W11x2) ?hg ?ho ?hn (g := g17) (cs := (cs24 Bb.s0 Bb.s1 Bb.s2 Bb.s3)) ?hp ?hv B10.out info32 rfl (cs24_one _ _ _ _) ?_)); (case ho => rfl); (case hg => rfl); (case hn => rfl); (case hp => rfl); (case hv => rfl); intro W11x hw; have hz2 := setRow_upd W10 g17 (cs24 Bb.s0 Bb.s1 Bb.s2 Bb.s3); rw [← hw] at hz2; have HB11 := Aside0.mk (hz2.below HB10.out HB10.out.size (fun k hk => by rw [hk]; exact G17.out)); clear hw hz2 HB10 B10) | fail)
    go_ret
    exact ⟨rfl, HB11.out⟩
end Go.Proofs.Ytccndffoljjadaa.P
