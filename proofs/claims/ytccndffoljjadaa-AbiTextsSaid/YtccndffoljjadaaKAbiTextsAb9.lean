/- Words of the walks: lemmas about memory, cut down to what this proof uses. No condition. -/
import Derived.Test.YtccndffoljjadaaKAbiTextsAb9a
namespace Go.Proofs.Ytccndffoljjadaa.P
open Go.RowKit Go.Proofs.YtccndffoljjadaaW.PrintWords Go.Proofs.YtccndffoljjadaaW.PrintLast
set_option linter.unusedVariables false
set_option linter.unusedSimpArgs false
/-- What a memory's call may write of what there was. -/
def MS (L : List Lp) (gm : Nat) (k : Nat) : Prop := k = gm ∨ inL L k
set_option maxHeartbeats 4000000 in
set_option maxRecDepth 100000 in
theorem Build.calls {w : World} {g gm : Nat} {L : List Lp} {clock : Nat} {m : Mm} (h : MemL w g gm L clock m) (fr pages : Int) (f0 : 0 ≤ fr) (f1 : fr ≤ 18446744073709551615) (p0 : -100000 ≤ pages) (p1 : pages ≤ 65536) (A0 : Option Addr) (c0 : Nat) (l0 : List ByteArray) (A1 : Option Addr) (c1 : Nat) (l1 : List ByteArray) (A2 : Option Addr) (c2 : Nat) (l2 : List S30)
    (hr0 : ∀ W, Upd w W (MS L gm) → Kd.C Kd.string W A0 l0.length l0) (hr1 : ∀ W, Upd w W (MS L gm) → Kd.C Kd.string W A1 l1.length l1) (hr2 : ∀ W, Upd w W (MS L gm) → Kd.C k30 W A2 l2.length l2) (h0 : l0.length ≤ 1000) (h1 : l1.length ≤ 1000) (hs0 : abi_right.f l0 l1 l2 = true → ∀ s ∈ l0, s.size ≤ 200) (hs1 : abi_right.f l0 l1 l2 = true → ∀ s ∈ l1, s.size ≤ 200) :
    Calls Try.prog 10 #[.pointer (some ⟨g, 0, none⟩), .int .u64 fr, .int .i64 pages, .slice A0 l0.length c0, .slice A1 l1.length c1, .slice A2 l2.length c2] w fun e w' => e = .returned (.tuple #[.agg (cs24 (buildF m fr pages l0 l1 l2).s0 (buildF m fr pages l0 l1 l2).s1 (buildF m fr pages l0 l1 l2).s2 (buildF m fr pages l0 l1 l2).s3), .int .i64 (buildF m fr pages l0 l1 l2).e]) ∧ ∃ L' clock', MemL w' g gm L' clock' (buildF m fr pages l0 l1 l2).m ∧ (∀ x ∈ L', inL L x.blk ∨ w.heap.size ≤ x.blk) ∧ Upd w w' (MS L gm) := by
  have hu := Try.underlying30
  have hu32 := Try.underlying32
  have hu68 := Try.underlying68
  have HB0 := Aside0.mk (Below.refl w.heap.size w)
  have H0 := Aside0.mk h
  have HR0 := Aside0.mk hr0
  have HR1 := Aside0.mk hr1
  have HR2 := Aside0.mk hr2
  have HS0 := Aside0.mk hs0
  have HS1 := Aside0.mk hs1
  have RI := Aside0.mk (fun W (hu : Upd w W (MS L gm)) => abi_right.calls A0 c0 l0 A1 c1 l1 A2 c2 l2 W (hr0 W hu) (hr1 W hu) (hr2 W hu))
  have ND := Aside0.mk (fun W (hu : Upd w W (MS L gm)) => abi_Need.calls' A0 c0 l0 A1 c1 l1 A2 c2 l2 W (hr0 W hu) (hr1 W hu) h0 h1)
  have MP := Aside0.mk (fun W (hb : Below w.heap.size w W) => Map_calls (h.below hb) fr pages f0 f1)
  have d1 : decide (pages ≤ 65536) = true := decide_eq_true p1
  have WP1 : wrap64 (pages * 256) = pages * 256 := by unfold wrap64; omega
  have WP2 : wrap64 (pages * 256 - 64) = pages * 256 - 64 := by unfold wrap64; omega
  clear hr0 hr1 hr2 hs0 hs1 h
  generalize hbf : buildF m fr pages l0 l1 l2 = bf
  unfold buildF at hbf
  cases hR : abi_right.f l0 l1 l2 with
  | false =>
    rw [hR, if_pos rfl] at hbf
    subst hbf
    have RV := Aside0.mk hR
    clear hR
    go_enter Try.func10, Try.ntmps10
    go_wp2_with (first | ((with_reducible refine gate_dst (N := 12) rfl ?_); refine box_event ?hg (N := 12) ?hd (cs := #[.int .u64 0, .int .u64 0, .int .u64 0, .int .i64 0, .int .i64 0, .bool false, .int .u64 0, .int .u64 0, .int .u64 0, .int .i64 0, .int .i64 0, .bool false, .int .u64 0, .int .u64 0, .int .u64 0, .int .i64 0, .int .i64 0, .bool false, .int .u64 0, .int .u64 0, .int .u64 0, .int .i64 0, .int .i64 0, .bool false]) (t := 32) ?hr ?_; (case hd => rfl); (case hg => rfl); (case hr => first | (go_simp; done) | (go_simp; rfl)); intro g12 hgb W1 hbox hb; have HB1 := Aside0.mk (below_step HB0.out hb); have B12 := Aside0.mk hbox; have G12 := Aside0.mk (show w.heap.size ≤ g12 by rw [hgb]; exact Nat.le_refl _); clear hb hbox hgb HB0) | (go_at_call 28; refine (RI.out _ (Upd.of_below HB1.out _)).mono ?_; rintro e W2 ⟨rfl, hb⟩; rw [RV.out]; have HB2 := Aside0.mk (below_step HB1.out hb); have BY2 := Aside0.mk (blk_below B12.out hb); clear hb HB1 B12) | ((with_reducible refine gate_store (t := 32) (p := 12) rfl ?_); (go_loud (refine store_row_event (t := 32) (p := 12) (v := ?vo_Wz1) ?hg ?ho ?hn (g := g12) (cs := #[.int .u64 0, .int .u64 0, .int .u64 0, .int .i64 0, .int .i64 0, .bool false, .int .u64 0, .int .u64 0, .int .u64 0, .int .i64 0, .int .i64 0, .bool false, .int .u64 0, .int .u64 0, .int .u64 0, .int .i64 0, .int .i64 0, .bool false, .int .u64 0, .int .u64 0, .int .u64 0, .int .i64 0, .int .i64 0, .bool false]) ?hp ?hv BY2.out info32 rfl (cs24_one z30 z30 z30 z30) ?_)); (case ho => rfl); (case hg => rfl); (case hn => rfl); (case hp => rfl); (case hv => rfl); intro Wz hw; have hz1 := setRow_blk (cs := #[.int .u64 0, .int .u64 0, .int .u64 0, .int .i64 0, .int .i64 0, .bool false, .int .u64 0, .int .u64 0, .int .u64 0, .int .i64 0, .int .i64 0, .bool false, .int .u64 0, .int .u64 0, .int .u64 0, .int .i64 0, .int .i64 0, .bool false, .int .u64 0, .int .u64 0, .int .u64 0, .int .i64 0, .int .i64 0, .bool false]) BY2.out; have hz2 := setRow_upd W2 g12 #[.int .u64 0, .int .u64 0, .int .u64 0, .int .i64 0, .int .i64 0, .bool false, .int .u64 0, .int .u64 0, .int .u64 0, .int .i64 0, .int .i64 0, .bool false, .int .u64 0, .int .u64 0, .int .u64 0, .int .i64 0, .int .i64 0, .bool false, .int .u64 0, .int .u64 0, .int .u64 0, .int .i64 0, .int .i64 0, .bool false]; rw [← hw] at hz1 hz2; have BZZ := Aside0.mk hz1; have HUz := Aside0.mk hz2; go_loud (have HBz := Aside0.mk (hz2.below HB2.out HB2.out.size (fun k hk => by rw [hk]; exact G12.out))); clear hw hz1 hz2) | fail)
    refine bodyPost_ret (results_ct rfl _ _ g12 32 #[.int .u64 0, .int .u64 0, .int .u64 0, .int .i64 0, .int .i64 0, .bool false, .int .u64 0, .int .u64 0, .int .u64 0, .int .i64 0, .int .i64 0, .bool false, .int .u64 0, .int .u64 0, .int .u64 0, .int .i64 0, .int .i64 0, .bool false, .int .u64 0, .int .u64 0, .int .u64 0, .int .i64 0, .int .i64 0, .bool false] (0, 0) _ rfl (by exact BZZ.out) Try.underlying32 rfl (by kernel_rfl)) rfl ?_
    exact ⟨rfl, L, clock, H0.out.below HBz.out, fun x hx => .inl (List.mem_map_of_mem hx), Upd.of_below HBz.out _⟩
  | true =>
    rw [hR, if_neg (by decide)] at hbf
    have hl8 : l0.length ≤ 8 ∧ l1.length ≤ 8 ∧ l2.length ≤ 8 := by
      unfold abi_right.f at hR
      simp only [Bool.and_eq_true, decide_eq_true_eq] at hR
      obtain ⟨⟨⟨⟨⟨q0, q1⟩, q2⟩, _⟩, _⟩, _⟩ := hR
      exact ⟨by omega, by omega, by omega⟩
    have HS0 := Aside0.mk (HS0.out hR)
    have HS1 := Aside0.mk (HS1.out hR)
    have RV := Aside0.mk hR
    clear hR
    generalize abi_Need.g l0 l1 l2 = need at ND hbf
    by_cases p2 : pages * 256 - 64 < need
    · rw [if_pos p2] at hbf
      subst hbf
      have d2 : decide (pages * 256 - 64 < need) = true := decide_eq_true p2
      go_enter Try.func10, Try.ntmps10
      go_wp2_with (first | ((with_reducible refine gate_dst (N := 12) rfl ?_); refine box_event ?hg (N := 12) ?hd (cs := #[.int .u64 0, .int .u64 0, .int .u64 0, .int .i64 0, .int .i64 0, .bool false, .int .u64 0, .int .u64 0, .int .u64 0, .int .i64 0, .int .i64 0, .bool false, .int .u64 0, .int .u64 0, .int .u64 0, .int .i64 0, .int .i64 0, .bool false, .int .u64 0, .int .u64 0, .int .u64 0, .int .i64 0, .int .i64 0, .bool false]) (t := 32) ?hr ?_; (case hd => rfl); (case hg => rfl); (case hr => first | (go_simp; done) | (go_simp; rfl)); intro g12 hgb W1 hbox hb; have HB1 := Aside0.mk (below_step HB0.out hb); have B12 := Aside0.mk hbox; have G12 := Aside0.mk (show w.heap.size ≤ g12 by rw [hgb]; exact Nat.le_refl _); clear hb hbox hgb HB0) | (go_at_call 28; refine (RI.out _ (Upd.of_below HB1.out _)).mono ?_; rintro e W2 ⟨rfl, hb⟩; rw [RV.out]; have HB2 := Aside0.mk (below_step HB1.out hb); have BY2 := Aside0.mk (blk_below B12.out hb); clear hb HB1 B12) | (go_at_call 13; refine (ND.out _ (Upd.of_below HB2.out _)).mono ?_; rintro e W3 ⟨rfl, hb⟩; have HB3 := Aside0.mk (below_step HB2.out hb); have BY3 := Aside0.mk (blk_below BY2.out hb); clear hb HB2 BY2) | ((with_reducible refine gate_store (t := 32) (p := 12) rfl ?_); (go_loud (refine store_row_event (t := 32) (p := 12) (v := ?vo_Wz2) ?hg ?ho ?hn (g := g12) (cs := #[.int .u64 0, .int .u64 0, .int .u64 0, .int .i64 0, .int .i64 0, .bool false, .int .u64 0, .int .u64 0, .int .u64 0, .int .i64 0, .int .i64 0, .bool false, .int .u64 0, .int .u64 0, .int .u64 0, .int .i64 0, .int .i64 0, .bool false, .int .u64 0, .int .u64 0, .int .u64 0, .int .i64 0, .int .i64 0, .bool false]) ?hp ?hv BY3.out info32 rfl (cs24_one z30 z30 z30 z30) ?_)); (case ho => rfl); (case hg => rfl); (case hn => rfl); (case hp => rfl); (case hv => rfl); intro Wz hw; have hz1 := setRow_blk (cs := #[.int .u64 0, .int .u64 0, .int .u64 0, .int .i64 0, .int .i64 0, .bool false, .int .u64 0, .int .u64 0, .int .u64 0, .int .i64 0, .int .i64 0, .bool false, .int .u64 0, .int .u64 0, .int .u64 0, .int .i64 0, .int .i64 0, .bool false, .int .u64 0, .int .u64 0, .int .u64 0, .int .i64 0, .int .i64 0, .bool false]) BY3.out; have hz2 := setRow_upd W3 g12 #[.int .u64 0, .int .u64 0, .int .u64 0, .int .i64 0, .int .i64 0, .bool false, .int .u64 0, .int .u64 0, .int .u64 0, .int .i64 0, .int .i64 0, .bool false, .int .u64 0, .int .u64 0, .int .u64 0, .int .i64 0, .int .i64 0, .bool false, .int .u64 0, .int .u64 0, .int .u64 0, .int .i64 0, .int .i64 0, .bool false]; rw [← hw] at hz1 hz2; have BZZ := Aside0.mk hz1; have HUz := Aside0.mk hz2; go_loud (have HBz := Aside0.mk (hz2.below HB3.out HB3.out.size (fun k hk => by rw [hk]; exact G12.out))); clear hw hz1 hz2) | fail)
      refine bodyPost_ret (results_ct rfl _ _ g12 32 #[.int .u64 0, .int .u64 0, .int .u64 0, .int .i64 0, .int .i64 0, .bool false, .int .u64 0, .int .u64 0, .int .u64 0, .int .i64 0, .int .i64 0, .bool false, .int .u64 0, .int .u64 0, .int .u64 0, .int .i64 0, .int .i64 0, .bool false, .int .u64 0, .int .u64 0, .int .u64 0, .int .i64 0, .int .i64 0, .bool false] (0, 0) _ rfl (by exact BZZ.out) Try.underlying32 rfl (by kernel_rfl)) rfl ?_
      exact ⟨rfl, L, clock, H0.out.below HBz.out, fun x hx => .inl (List.mem_map_of_mem hx), Upd.of_below HBz.out _⟩
    · rw [if_neg p2] at hbf
      have d2 : decide (pages * 256 - 64 < need) = false := decide_eq_false p2
      have HG := Aside0.mk (show gm < w.heap.size from blk_lt H0.out.mp)
      generalize hme : tagmem_Mem_Map.f m fr pages = me at MP hbf
      obtain ⟨m1, e1⟩ := me
      simp only at MP hbf
      by_cases p3 : e1 = 0
      · rw [if_pos p3] at hbf
        subst p3
        obtain ⟨q1, q2⟩ := map_ok f0 hme
        have WA : IntKind.u64.wrap (fr * 256) = fr * 256 := by rw [IntKind.wrap_u64]; omega
        have WB : IntKind.u64.wrap pages = pages := by rw [IntKind.wrap_u64]; omega
        have WC : IntKind.u64.wrap (fr + pages) = fr + pages := by rw [IntKind.wrap_u64]; omega
        have WD : IntKind.u64.wrap ((fr + pages) * 256) = (fr + pages) * 256 := by rw [IntKind.wrap_u64]; omega
        have HAT0 := Aside0.mk (show 0 ≤ fr * 256 ∧ fr * 256 ≤ 18446744073709551615 from ⟨by omega, by omega⟩)
        have HAT1 := Aside0.mk (textsF_at (m := m1) HAT0.out l0 [])
        have HAT2 := Aside0.mk (textsF_at (m := (textsF m1 (fr * 256) l0).1) HAT1.out l1 [])
        have HLA := Aside0.mk (textsF_len m1 (fr * 256) l0 [])
        have HLB := Aside0.mk (textsF_len (textsF m1 (fr * 256) l0).1 (textsF m1 (fr * 256) l0).2.1 l1 [])
        have U := Aside0.mk (fun n W => abi_up.calls n (upW n) W rfl)
        have HL8 := Aside0.mk hl8
        clear hme
        unfold buildOk at hbf
        simp only at hbf
        obtain ⟨at8, h8⟩ : ∃ x, x = IntKind.u64.wrap (fr * 256 + IntKind.u64.wrap (upW (wrap64 (IntKind.u64.wrap ((textsF (textsF m1 (fr * 256) l0).1 (textsF m1 (fr * 256) l0).2.1 l1).2.1 - fr * 256))))) := ⟨_, rfl⟩
        rw [← h8] at hbf
        have H8 := Aside0.mk h8
        have HAT8 := Aside0.mk (show 0 ≤ at8 ∧ at8 ≤ 18446744073709551615 by rw [h8, IntKind.wrap_u64]; omega)
        clear h8
        have HAT10 := Aside0.mk (capsF_at (m := (textsF (textsF m1 (fr * 256) l0).1 (textsF m1 (fr * 256) l0).2.1 l1).1) HAT8.out ((textsF m1 (fr * 256) l0).2.2 ++ [nullC]))
        have HAT11 := Aside0.mk (capsF_at (m := (listF (textsF (textsF m1 (fr * 256) l0).1 (textsF m1 (fr * 256) l0).2.1 l1).1 at8 (textsF m1 (fr * 256) l0).2.2).1) HAT10.out ((textsF (textsF m1 (fr * 256) l0).1 (textsF m1 (fr * 256) l0).2.1 l1).2.2 ++ [nullC]))
        have HBF := Aside0.mk hbf
        clear hbf
        go_enter Try.func10, Try.ntmps10
        go_wp2_with (first | ((with_reducible refine gate_dst (N := 12) rfl ?_); refine box_event ?hg (N := 12) ?hd (cs := #[.int .u64 0, .int .u64 0, .int .u64 0, .int .i64 0, .int .i64 0, .bool false, .int .u64 0, .int .u64 0, .int .u64 0, .int .i64 0, .int .i64 0, .bool false, .int .u64 0, .int .u64 0, .int .u64 0, .int .i64 0, .int .i64 0, .bool false, .int .u64 0, .int .u64 0, .int .u64 0, .int .i64 0, .int .i64 0, .bool false]) (t := 32) ?hr ?_; (case hd => rfl); (case hg => rfl); (case hr => first | (go_simp; done) | (go_simp; rfl)); intro g12 hgb W1 hbox hb; have HB1 := Aside0.mk (below_step HB0.out hb); have B12 := Aside0.mk hbox; have G12 := Aside0.mk (show w.heap.size ≤ g12 by rw [hgb]; exact Nat.le_refl _); clear hb hbox hgb HB0) | (go_at_call 28; refine (RI.out _ (Upd.of_below HB1.out _)).mono ?_; rintro e W2 ⟨rfl, hb⟩; rw [RV.out]; have HB2 := Aside0.mk (below_step HB1.out hb); have BY2 := Aside0.mk (blk_below B12.out hb); clear hb HB1 B12) | (go_at_call 13; refine (ND.out _ (Upd.of_below HB2.out _)).mono ?_; rintro e W3 ⟨rfl, hb⟩; have HB3 := Aside0.mk (below_step HB2.out hb); have BY3 := Aside0.mk (blk_below BY2.out hb); clear hb HB2 BY2) | (go_at_call 18; refine (MP.out _ HB3.out).mono ?_; rintro e W4 ⟨rfl, L4, clock4, hm4, hl4, hu4⟩; have HM4 := Aside0.mk hm4; have HL4 := Aside0.mk (show ∀ x ∈ L4, inL L x.blk ∨ w.heap.size ≤ x.blk from fun x hx => (hl4 x hx).imp id (fun h => Nat.le_trans HB3.out.size h)); have HU4 := Aside0.mk ((Upd.of_below HB3.out (MS L gm)).then_ hu4 (fun k hk => .inl (.inl hk))); have BY4 := Aside0.mk ((hu4.block g12 (blk_lt BY3.out) (fun e => by have := HG.out; have := G12.out; omega)).trans BY3.out); clear hm4 hl4 hu4 HB3 BY3) | ((with_reducible refine gate_dst (N := 51) rfl ?_); refine box_event ?hg (N := 51) ?hd (cs := #[.pointer (some ⟨g, 0, none⟩), .int .u64 (fr * 256)]) (t := 68) ?hr ?_; (case hd => rfl); (case hg => rfl); (case hr => first | (go_simp; done) | (go_simp; rfl)); intro gl hgb W5 hbox hb; have BK5 := Aside0.mk hbox; have HM5 := Aside0.mk (HM4.out.below hb); have HU5 := Aside0.mk (HU4.out.then_ (Upd.of_below hb (fun _ => False)) (fun _ hk => hk.elim)); have B12_5 := Aside0.mk (blk_below BY4.out hb); have GLE := Aside0.mk hgb; have HW4 := Aside0.mk (show w.heap.size ≤ W4.heap.size from HU4.out.size); have HSIDE := Aside0.mk (show ∀ k, Lay L4 gl k → MS L gm k ∨ w.heap.size ≤ k from fun k hk => hk.elim (fun hi => by obtain ⟨x, hx, e⟩ := List.mem_map.1 hi; rw [← e]; exact (HL4.out x hx).imp (fun h => .inr h) id) (fun e => .inr (by rw [e, hgb]; exact HU4.out.size))); have HN12 := Aside0.mk (show ∀ k, Lay L4 gl k → k ≠ g12 from fun k hk e => hk.elim (fun hi => by obtain ⟨x, hx, e2⟩ := List.mem_map.1 hi; exact blk_ne (HM4.out.blk x hx) BY4.out (by decide) (e2.trans e)) (fun e2 => by have := blk_lt BY4.out; rw [← e, e2, hgb] at this; exact Nat.lt_irrefl _ this)); have HLO := Aside0.mk (show ∀ k, Lay L4 gl k → k < W5.heap.size from fun k hk => hk.elim (fun hi => by obtain ⟨x, hx, e⟩ := List.mem_map.1 hi; rw [← e]; exact Nat.lt_of_lt_of_le (blk_lt (HM4.out.blk x hx)) hb.size) (fun e => by rw [e]; exact blk_lt hbox)); clear hb hbox hgb HM4 HU4 BY4) | (go_at_call 29; first | (refine (texts.calls HM5.out BK5.out HAT0.out A0 c0 l0 (fun W hu => HR0.out W (HU5.out.then_ hu (fun k hk => HSIDE.out k hk))) hl8.1 HS0.out).mono ?_; rintro e W6 ⟨v, rfl, ho, L6, hm, hl, hbk, hu⟩; obtain ⟨Aa, Aac, rfl⟩ := Kd.R_slice ho; have HL6 := Aside0.mk hl; have HM6 := Aside0.mk hm; have BK6 := Aside0.mk hbk; have HU6 := Aside0.mk (HU5.out.then_ hu HSIDE.out); have HOa6 := Aside0.mk ho; have B12_6 := Aside0.mk ((hu.block g12 (blk_lt B12_5.out) (fun hk => HN12.out _ hk rfl)).trans B12_5.out); have HS5 := Aside0.mk (show W5.heap.size ≤ W6.heap.size from hu.size); clear ho hm hl hbk hu HM5 HU5 BK5 B12_5) | (refine (texts.calls HM6.out BK6.out HAT1.out A1 c1 l1 (fun W hu => HR1.out W (HU6.out.then_ hu (fun k hk => HSIDE.out k (hk.imp (fun hi => inL_eq HL6.out hi) id)))) hl8.2.1 HS1.out).mono ?_; rintro e W7 ⟨v, rfl, ho, L7, hm, hl, hbk, hu⟩; obtain ⟨Ab, Abc, rfl⟩ := Kd.R_slice ho; have HL7 := Aside0.mk (hl.trans HL6.out); have HM7 := Aside0.mk hm; have BK7 := Aside0.mk hbk; have HU7 := Aside0.mk (HU6.out.then_ hu (fun k hk => HSIDE.out k (hk.imp (fun hi => inL_eq HL6.out hi) id))); have HOa7 := Aside0.mk (R_upd HOa6.out hu (fun k hk => HLO.out k (hk.imp (fun hi => inL_eq HL6.out hi) id))); have HOb7 := Aside0.mk ho; have B12_7 := Aside0.mk ((hu.block g12 (blk_lt B12_6.out) (fun hk => HN12.out _ (hk.imp (fun hi => inL_eq HL6.out hi) id) rfl)).trans B12_6.out); have hc7 := (blk_cell BK7.out 1).trans rfl; clear ho hm hl hbk hu HM6 HU6 BK6 B12_6 HOa6)) | (go_at_call 30; refine (U.out _ _).mono ?_; rintro e W8 ⟨rfl, hd⟩; have hb := hd.below; have BK8 := Aside0.mk (blk_below BK7.out hb); have HM8 := Aside0.mk (HM7.out.below hb); have HU8 := Aside0.mk (HU7.out.then_ (Upd.of_below hb (fun _ => False)) (fun _ hk => hk.elim)); have HOa8 := Aside0.mk (Kd.R_below HOa7.out hb); have HOb8 := Aside0.mk (Kd.R_below HOb7.out hb); have BZ8 := Aside0.mk (blk_below B12_7.out hb); clear hd hb BK7 HM7 HU7 HOa7 HOb7 B12_7 hc7; have hc8 := (blk_cell BK8.out 1).trans rfl; have hf8 := blk_frozen BK8.out 1) | ((with_reducible refine gate_store (t := 22) (p := 73) rfl ?_); (go_loud (refine store_event (t := 22) (p := 73) (v := ?vo_W9) (w1 := W8.setCell ⟨gl, 1, none⟩ (.int .u64 (IntKind.u64.wrap (fr * 256 + IntKind.u64.wrap (upW (wrap64 (IntKind.u64.wrap ((textsF (textsF m1 (fr * 256) l0).1 (textsF m1 (fr * 256) l0).2.1 l1).2.1 - fr * 256)))))))) ?hg ?ho ?hn ?hr ?_)); (case ho => rfl); (case hg => rfl); (case hn => rfl); (case hr => first | (go_simp; done) | (go_simp; rfl)); intro W9 hw; rw [← H8.out] at hw; have hset := Upd.setCell (S := fun k => k = gl) W8 (p := ⟨gl, 1, none⟩) rfl (.int .u64 at8); have hput := blk_put BK8.out 1 (.int .u64 at8) rfl; rw [← hw] at hset hput; have BK9 := Aside0.mk (show W9.heap[gl]? = some (.cells #[.pointer (some ⟨g, 0, none⟩), .int .u64 at8] 68 (0, 0)) from hput); go_loud (have HM9 := Aside0.mk (HM8.out.upd hset (fun e => blk_ne HM8.out.hd BK8.out (by decide) e) (fun e => by have h1 := HM8.out.mp; rw [e, BK8.out] at h1; cases h1) (fun x hx e => blk_ne (HM8.out.blk x hx) BK8.out (by decide) e))); have HU9 := Aside0.mk (HU8.out.then_ hset (fun k hk => HSIDE.out k (.inr hk))); have HOa9 := Aside0.mk (R_upd HOa8.out hset (fun k hk => HLO.out k (.inr hk))); have HOb9 := Aside0.mk (R_upd HOb8.out hset (fun k hk => Nat.lt_of_lt_of_le (HLO.out k (.inr hk)) HS5.out)); have BZ9 := Aside0.mk ((hset.block g12 (blk_lt BZ8.out) (fun e => HN12.out gl (.inr rfl) e.symm)).trans BZ8.out); clear hw hset hput BK8 HM8 HU8 HOa8 HOb8 BZ8 hc8 hf8) | (go_at_call 31; first | (refine (list.calls HM9.out BK9.out HAT8.out Aa Aac (textsF m1 (fr * 256) l0).2.2 (Kd.R_reads' HOa9.out).2.2 (by have := HLA.out; simp only [List.length_nil] at this; unfold textsF; rw [this]; have := HL8.out; omega)).mono ?_; rintro e W10 ⟨rfl, L10, hm, hl, hbk, hu⟩; have HL10 := Aside0.mk (hl.trans HL7.out); have HM10 := Aside0.mk hm; have BK10 := Aside0.mk hbk; have HU10 := Aside0.mk (HU9.out.then_ hu (fun k hk => HSIDE.out k (hk.imp (fun hi => inL_eq HL7.out hi) id))); have BZ10 := Aside0.mk ((hu.block g12 (blk_lt BZ9.out) (fun hk => HN12.out _ (hk.imp (fun hi => inL_eq HL7.out hi) id) rfl)).trans BZ9.out); have HOb10 := Aside0.mk (R_upd HOb9.out hu (fun k hk => Nat.lt_of_lt_of_le (HLO.out k (hk.imp (fun hi => inL_eq HL7.out hi) id)) HS5.out)); clear HOa9 HOb9; clear hm hl hbk hu HM9 BK9 HU9 BZ9) | (refine (list.calls HM10.out BK10.out HAT10.out Ab Abc (textsF (textsF m1 (fr * 256) l0).1 (textsF m1 (fr * 256) l0).2.1 l1).2.2 (Kd.R_reads' HOb10.out).2.2 (by have := HLB.out; simp only [List.length_nil] at this; unfold textsF at this ⊢; rw [this]; have := HL8.out; omega)).mono ?_; rintro e W11 ⟨rfl, L11, hm, hl, hbk, hu⟩; have HL11 := Aside0.mk (hl.trans HL10.out); have HM11 := Aside0.mk hm; have BK11 := Aside0.mk hbk; have HU11 := Aside0.mk (HU10.out.then_ hu (fun k hk => HSIDE.out k (hk.imp (fun hi => inL_eq HL10.out hi) id))); have BZ11 := Aside0.mk ((hu.block g12 (blk_lt BZ10.out) (fun hk => HN12.out _ (hk.imp (fun hi => inL_eq HL10.out hi) id) rfl)).trans BZ10.out); clear HOb10; clear hm hl hbk hu HM10 BK10 HU10 BZ10) | go_loud (refine (list.calls HM11.out BK11.out HAT11.out A2 c2 l2 (HR2.out _ HU11.out) (by have := HL8.out; omega)).mono ?_; rintro e W12 ⟨rfl, L12, hm, hl, hbk, hu⟩; have HL12 := Aside0.mk (hl.trans HL11.out); have HM12 := Aside0.mk hm; have BK12 := Aside0.mk hbk; have HU12 := Aside0.mk (HU11.out.then_ hu (fun k hk => HSIDE.out k (hk.imp (fun hi => inL_eq HL11.out hi) id))); have BZ12 := Aside0.mk ((hu.block g12 (blk_lt BZ11.out) (fun hk => HN12.out _ (hk.imp (fun hi => inL_eq HL11.out hi) id) rfl)).trans BZ11.out); clear hm hl hbk hu HM11 BK11 HU11 BZ11)) | ((with_reducible refine gate_dst (N := 18) rfl ?_); refine box_event ?hg (N := 18) ?hd (cs := #[.int .u64 0, .int .u64 0, .int .u64 0, .int .i64 0, .int .i64 0, .bool false, .int .u64 0, .int .u64 0, .int .u64 0, .int .i64 0, .int .i64 0, .bool false, .int .u64 0, .int .u64 0, .int .u64 0, .int .i64 0, .int .i64 0, .bool false, .int .u64 0, .int .u64 0, .int .u64 0, .int .i64 0, .int .i64 0, .bool false]) (t := 32) ?hr ?_; (case hd => rfl); (case hg => rfl); (case hr => first | (go_simp; done) | (go_simp; rfl)); intro gs hgb W13 hbox hb; have HM13 := Aside0.mk (HM12.out.below hb); have BK13 := Aside0.mk (blk_below BK12.out hb); have HU13 := Aside0.mk (HU12.out.then_ (Upd.of_below hb (fun _ => False)) (fun _ hk => hk.elim)); have BZ13 := Aside0.mk (blk_below BZ12.out hb); have BS13 := Aside0.mk hbox; have GS := Aside0.mk hgb; have HGS := Aside0.mk (show w.heap.size ≤ gs by rw [hgb]; exact HU12.out.size); have HN1 := Aside0.mk (show g12 ≠ gs from fun e => by have := blk_lt BZ12.out; rw [e, hgb] at this; exact Nat.lt_irrefl _ this); have HN2 := Aside0.mk (show gl ≠ gs from fun e => by have := blk_lt BK12.out; rw [e, hgb] at this; exact Nat.lt_irrefl _ this); clear hb hbox hgb HM12 BK12 HU12 BZ12) | ((with_reducible refine gate_store (t := 32) (p := 18) rfl ?_); (go_loud (refine store_row_event (t := 32) (p := 18) (v := ?vo_W14x4) ?hg ?ho ?hn (g := gs) (cs := (cs24 z30 (listC (textsF (textsF m1 (fr * 256) l0).1 (textsF m1 (fr * 256) l0).2.1 l1).1 at8 (textsF m1 (fr * 256) l0).2.2) (listC (listF (textsF (textsF m1 (fr * 256) l0).1 (textsF m1 (fr * 256) l0).2.1 l1).1 at8 (textsF m1 (fr * 256) l0).2.2).1 (listF (textsF (textsF m1 (fr * 256) l0).1 (textsF m1 (fr * 256) l0).2.1 l1).1 at8 (textsF m1 (fr * 256) l0).2.2).2 (textsF (textsF m1 (fr * 256) l0).1 (textsF m1 (fr * 256) l0).2.1 l1).2.2) (listC (listF (listF (textsF (textsF m1 (fr * 256) l0).1 (textsF m1 (fr * 256) l0).2.1 l1).1 at8 (textsF m1 (fr * 256) l0).2.2).1 (listF (textsF (textsF m1 (fr * 256) l0).1 (textsF m1 (fr * 256) l0).2.1 l1).1 at8 (textsF m1 (fr * 256) l0).2.2).2 (textsF (textsF m1 (fr * 256) l0).1 (textsF m1 (fr * 256) l0).2.1 l1).2.2).1 (listF (listF (textsF (textsF m1 (fr * 256) l0).1 (textsF m1 (fr * 256) l0).2.1 l1).1 at8 (textsF m1 (fr * 256) l0).2.2).1 (listF (textsF (textsF m1 (fr * 256) l0).1 (textsF m1 (fr * 256) l0).2.1 l1).1 at8 (textsF m1 (fr * 256) l0).2.2).2 (textsF (textsF m1 (fr * 256) l0).1 (textsF m1 (fr * 256) l0).2.1 l1).2.2).2 l2))) ?hp ?hv BS13.out info32 rfl (cs24_one _ _ _ _) ?_)); (case ho => rfl); (case hg => rfl); (case hn => rfl); (case hp => rfl); (case hv => rfl); intro W14x hw; have hz1 := setRow_blk (cs := cs24 z30 (listC (textsF (textsF m1 (fr * 256) l0).1 (textsF m1 (fr * 256) l0).2.1 l1).1 at8 (textsF m1 (fr * 256) l0).2.2) (listC (listF (textsF (textsF m1 (fr * 256) l0).1 (textsF m1 (fr * 256) l0).2.1 l1).1 at8 (textsF m1 (fr * 256) l0).2.2).1 (listF (textsF (textsF m1 (fr * 256) l0).1 (textsF m1 (fr * 256) l0).2.1 l1).1 at8 (textsF m1 (fr * 256) l0).2.2).2 (textsF (textsF m1 (fr * 256) l0).1 (textsF m1 (fr * 256) l0).2.1 l1).2.2) (listC (listF (listF (textsF (textsF m1 (fr * 256) l0).1 (textsF m1 (fr * 256) l0).2.1 l1).1 at8 (textsF m1 (fr * 256) l0).2.2).1 (listF (textsF (textsF m1 (fr * 256) l0).1 (textsF m1 (fr * 256) l0).2.1 l1).1 at8 (textsF m1 (fr * 256) l0).2.2).2 (textsF (textsF m1 (fr * 256) l0).1 (textsF m1 (fr * 256) l0).2.1 l1).2.2).1 (listF (listF (textsF (textsF m1 (fr * 256) l0).1 (textsF m1 (fr * 256) l0).2.1 l1).1 at8 (textsF m1 (fr * 256) l0).2.2).1 (listF (textsF (textsF m1 (fr * 256) l0).1 (textsF m1 (fr * 256) l0).2.1 l1).1 at8 (textsF m1 (fr * 256) l0).2.2).2 (textsF (textsF m1 (fr * 256) l0).1 (textsF m1 (fr * 256) l0).2.1 l1).2.2).2 l2)) BS13.out; have hz2 := setRow_upd W13 gs (cs24 z30 (listC (textsF (textsF m1 (fr * 256) l0).1 (textsF m1 (fr * 256) l0).2.1 l1).1 at8 (textsF m1 (fr * 256) l0).2.2) (listC (listF (textsF (textsF m1 (fr * 256) l0).1 (textsF m1 (fr * 256) l0).2.1 l1).1 at8 (textsF m1 (fr * 256) l0).2.2).1 (listF (textsF (textsF m1 (fr * 256) l0).1 (textsF m1 (fr * 256) l0).2.1 l1).1 at8 (textsF m1 (fr * 256) l0).2.2).2 (textsF (textsF m1 (fr * 256) l0).1 (textsF m1 (fr * 256) l0).2.1 l1).2.2) (listC (listF (listF (textsF (textsF m1 (fr * 256) l0).1 (textsF m1 (fr * 256) l0).2.1 l1).1 at8 (textsF m1 (fr * 256) l0).2.2).1 (listF (textsF (textsF m1 (fr * 256) l0).1 (textsF m1 (fr * 256) l0).2.1 l1).1 at8 (textsF m1 (fr * 256) l0).2.2).2 (textsF (textsF m1 (fr * 256) l0).1 (textsF m1 (fr * 256) l0).2.1 l1).2.2).1 (listF (listF (textsF (textsF m1 (fr * 256) l0).1 (textsF m1 (fr * 256) l0).2.1 l1).1 at8 (textsF m1 (fr * 256) l0).2.2).1 (listF (textsF (textsF m1 (fr * 256) l0).1 (textsF m1 (fr * 256) l0).2.1 l1).1 at8 (textsF m1 (fr * 256) l0).2.2).2 (textsF (textsF m1 (fr * 256) l0).1 (textsF m1 (fr * 256) l0).2.1 l1).2.2).2 l2)); rw [← hw] at hz1 hz2; have BS14 := Aside0.mk hz1; have hset := Aside0.mk hz2; clear hw hz1 hz2) | fail)
        obtain ⟨sC, hsC⟩ : ∃ x, x = (listC (textsF (textsF m1 (fr * 256) l0).1 (textsF m1 (fr * 256) l0).2.1 l1).1 at8 (textsF m1 (fr * 256) l0).2.2) := ⟨_, rfl⟩
        obtain ⟨sD, hsD⟩ : ∃ x, x = (listC (listF (textsF (textsF m1 (fr * 256) l0).1 (textsF m1 (fr * 256) l0).2.1 l1).1 at8 (textsF m1 (fr * 256) l0).2.2).1 (listF (textsF (textsF m1 (fr * 256) l0).1 (textsF m1 (fr * 256) l0).2.1 l1).1 at8 (textsF m1 (fr * 256) l0).2.2).2 (textsF (textsF m1 (fr * 256) l0).1 (textsF m1 (fr * 256) l0).2.1 l1).2.2) := ⟨_, rfl⟩
        obtain ⟨sE, hsE⟩ : ∃ x, x = (listC (listF (listF (textsF (textsF m1 (fr * 256) l0).1 (textsF m1 (fr * 256) l0).2.1 l1).1 at8 (textsF m1 (fr * 256) l0).2.2).1 (listF (textsF (textsF m1 (fr * 256) l0).1 (textsF m1 (fr * 256) l0).2.1 l1).1 at8 (textsF m1 (fr * 256) l0).2.2).2 (textsF (textsF m1 (fr * 256) l0).1 (textsF m1 (fr * 256) l0).2.1 l1).2.2).1 (listF (listF (textsF (textsF m1 (fr * 256) l0).1 (textsF m1 (fr * 256) l0).2.1 l1).1 at8 (textsF m1 (fr * 256) l0).2.2).1 (listF (textsF (textsF m1 (fr * 256) l0).1 (textsF m1 (fr * 256) l0).2.1 l1).1 at8 (textsF m1 (fr * 256) l0).2.2).2 (textsF (textsF m1 (fr * 256) l0).1 (textsF m1 (fr * 256) l0).2.1 l1).2.2).2 l2) := ⟨_, rfl⟩
        obtain ⟨me, hme⟩ : ∃ x, x = listF (listF (listF (textsF (textsF m1 (fr * 256) l0).1 (textsF m1 (fr * 256) l0).2.1 l1).1 at8 (textsF m1 (fr * 256) l0).2.2).1 (listF (textsF (textsF m1 (fr * 256) l0).1 (textsF m1 (fr * 256) l0).2.1 l1).1 at8 (textsF m1 (fr * 256) l0).2.2).2 (textsF (textsF m1 (fr * 256) l0).1 (textsF m1 (fr * 256) l0).2.1 l1).2.2).1 (listF (listF (textsF (textsF m1 (fr * 256) l0).1 (textsF m1 (fr * 256) l0).2.1 l1).1 at8 (textsF m1 (fr * 256) l0).2.2).1 (listF (textsF (textsF m1 (fr * 256) l0).1 (textsF m1 (fr * 256) l0).2.1 l1).1 at8 (textsF m1 (fr * 256) l0).2.2).2 (textsF (textsF m1 (fr * 256) l0).1 (textsF m1 (fr * 256) l0).2.1 l1).2.2).2 l2 := ⟨_, rfl⟩
        have HBF2 := HBF.out
        rw [← hsC, ← hsD, ← hsE, ← hme] at HBF2
        have HBF := Aside0.mk HBF2
        clear HBF2
        have BS14 := Aside0.mk (show W14x.heap[gs]? = some (.cells (cs24 z30 sC sD sE) 32 (0, 0)) by rw [hsC, hsD, hsE]; exact BS14.out)
        have BK14 := Aside0.mk (show W14x.heap[gl]? = some (.cells #[.pointer (some ⟨g, 0, none⟩), .int .u64 me.2] 68 (0, 0)) by rw [hme]; exact (hset.out.block gl (blk_lt BK13.out) HN2.out).trans BK13.out)
        have BZ14 := Aside0.mk ((hset.out.block g12 (blk_lt BZ13.out) HN1.out).trans BZ13.out)
        have HM14 := Aside0.mk (show MemL W14x g gm L12 clock4 me.1 by rw [hme]; exact HM13.out.upd hset.out (fun e => blk_ne HM13.out.hd BS13.out (by decide) e) (fun e => by have h1 := HM13.out.mp; rw [e, BS13.out] at h1; cases h1) (fun x hx e => blk_ne (HM13.out.blk x hx) BS13.out (by decide) e))
        have HU14 := Aside0.mk (HU13.out.then_ hset.out (fun k hk => .inr (by rw [hk]; exact HGS.out)))
        clear hsC hsD hsE hme hset BK13 BZ13 HM13 HU13 BS13
        generalize hW : W14x = W14 at BS14 BK14 BZ14 HM14 HU14
        clear hW
        generalize me.2 = at12 at BK14 HBF
        refine start_ (n := 15) (S := fun w' => w'.cell? ⟨gl, 1, none⟩ = some (.int .u64 at12)) (ds := []) #[false, false, false, false, false, false, false, false, false, false, false, false, false, false, false] (by kernel_rfl) rfl rfl ((blk_cell BK14.out 1).trans rfl) (fun hHeld => ?_)
        have BK15 := Aside0.mk (show W14.drew.heap[gl]? = _ from BK14.out)
        have BS15 := Aside0.mk (show W14.drew.heap[gs]? = _ from BS14.out)
        have BZ15 := Aside0.mk (show W14.drew.heap[g12]? = _ from BZ14.out)
        have HM15 := Aside0.mk (HM14.out.drewL)
        have HU15 := Aside0.mk (HU14.out.then_ (Upd.drew (S := fun _ => False) W14) (fun _ hk => hk.elim))
        generalize W14.drew = W15 at BK15 BS15 BZ15 HM15 HU15 hHeld ⊢
        clear BK14 BS14 BZ14 HM14 HU14
        refine pure_ (i := 0) (N := some 89) (v := ?_) (a' := ?_) #[true, false, false, false, false, false, false, false, false, false, false, false, false, false, false] rfl rfl (by kernel_rfl) (fun _ _ _ h => h) (Or.inl ⟨by rfl, ?_⟩) ?_ ?_
        rotate_left
        · intro w'
          go_simp
          with_reducible rfl
        rotate_left
        · simp only [Act.put, List.setIfInBounds_toArray, List.set_cons_zero, List.set_cons_succ, i64_w, i32_w]
          rfl
        refine pure_ (i := 1) (N := some 90) (v := ?_) (a' := ?_) #[true, true, false, false, false, false, false, false, false, false, false, false, false, false, false] rfl rfl (by kernel_rfl) (fun _ _ _ h => h) (Or.inl ⟨by rfl, ?_⟩) ?_ ?_
        rotate_left
        · intro w'
          go_simp
          with_reducible rfl
        rotate_left
        · simp only [Act.put, List.setIfInBounds_toArray, List.set_cons_zero, List.set_cons_succ, i64_w, i32_w]
          rfl
        refine pure_ (i := 2) (N := some 91) (v := ?_) (a' := ?_) #[true, true, true, false, false, false, false, false, false, false, false, false, false, false, false] rfl rfl (by kernel_rfl) (fun _ _ _ h => h) (Or.inl ⟨by rfl, ?_⟩) ?_ ?_
        rotate_left
        · intro w'
          go_simp
          with_reducible rfl
        rotate_left
        · simp only [Act.put, List.setIfInBounds_toArray, List.set_cons_zero, List.set_cons_succ, i64_w, i32_w]
          rfl
        refine take_ (i := 3) (N := some 92) (v := ?_) (a' := ?_) #[true, true, true, true, false, false, false, false, false, false, false, false, false, false, false] rfl rfl (by kernel_rfl) (fun _ _ _ h => h) (Or.inl ⟨by rfl, ?_⟩) hHeld ?_ ?_
        rotate_left
        · rintro w' s0
          go_simp
          with_reducible rfl
        rotate_left
        · simp only [Act.put, List.setIfInBounds_toArray, List.set_cons_zero, List.set_cons_succ, i64_w, i32_w]
          rfl
        refine pure_ (i := 4) (N := some 93) (v := ?_) (a' := ?_) #[true, true, true, true, true, false, false, false, false, false, false, false, false, false, false] rfl rfl (by kernel_rfl) (fun _ _ _ h => h) (Or.inl ⟨by rfl, ?_⟩) ?_ ?_
        rotate_left
        · intro w'
          go_simp
          with_reducible rfl
        rotate_left
        · simp only [Act.put, List.setIfInBounds_toArray, List.set_cons_zero, List.set_cons_succ, i64_w, i32_w]
          rfl
        refine pure_ (i := 5) (N := some 94) (v := ?_) (a' := ?_) #[true, true, true, true, true, true, false, false, false, false, false, false, false, false, false] rfl rfl (by kernel_rfl) (fun _ _ _ h => h) (Or.inl ⟨by rfl, ?_⟩) ?_ ?_
        rotate_left
        · intro w'
          go_simp
          with_reducible rfl
        rotate_left
        · simp only [Act.put, List.setIfInBounds_toArray, List.set_cons_zero, List.set_cons_succ, i64_w, i32_w]
          rfl
        refine pure_ (i := 6) (N := some 95) (v := ?_) (a' := ?_) #[true, true, true, true, true, true, true, false, false, false, false, false, false, false, false] rfl rfl (by kernel_rfl) (fun _ _ _ h => h) (Or.inl ⟨by rfl, ?_⟩) ?_ ?_
        rotate_left
        · intro w'
          go_simp
          with_reducible rfl
        rotate_left
        · simp only [Act.put, List.setIfInBounds_toArray, List.set_cons_zero, List.set_cons_succ, i64_w, i32_w]
          rfl
        refine pure_ (i := 7) (N := some 96) (v := ?_) (a' := ?_) #[true, true, true, true, true, true, true, true, false, false, false, false, false, false, false] rfl rfl (by kernel_rfl) (fun _ _ _ h => h) (Or.inl ⟨by rfl, ?_⟩) ?_ ?_
        rotate_left
        · intro w'
          go_simp
          with_reducible rfl
        rotate_left
        · simp only [Act.put, List.setIfInBounds_toArray, List.set_cons_zero, List.set_cons_succ, i64_w, i32_w]
          rfl
        refine take_ (i := 8) (N := some 97) (v := ?_) (a' := ?_) #[true, true, true, true, true, true, true, true, true, false, false, false, false, false, false] rfl rfl (by kernel_rfl) (fun _ _ _ h => h) (Or.inl ⟨by rfl, ?_⟩) hHeld ?_ ?_
        rotate_left
        · rintro w' s0
          go_simp
          with_reducible rfl
        rotate_left
        · simp only [Act.put, List.setIfInBounds_toArray, List.set_cons_zero, List.set_cons_succ, i64_w, i32_w]
          rfl
        refine pure_ (i := 9) (N := some 98) (v := ?_) (a' := ?_) #[true, true, true, true, true, true, true, true, true, true, false, false, false, false, false] rfl rfl (by kernel_rfl) (fun _ _ _ h => h) (Or.inl ⟨by rfl, ?_⟩) ?_ ?_
        rotate_left
        · intro w'
          go_simp
          with_reducible rfl
        rotate_left
        · simp only [Act.put, List.setIfInBounds_toArray, List.set_cons_zero, List.set_cons_succ, i64_w, i32_w]
          rfl
        refine pure_ (i := 11) (N := some 100) (v := ?_) (a' := ?_) #[true, true, true, true, true, true, true, true, true, true, false, true, false, false, false] rfl rfl (by kernel_rfl) (fun _ _ _ h => h) (Or.inl ⟨by rfl, ?_⟩) ?_ ?_
        rotate_left
        · intro w'
          go_simp
          with_reducible rfl
        rotate_left
        · simp only [Act.put, List.setIfInBounds_toArray, List.set_cons_zero, List.set_cons_succ, i64_w, i32_w]
          rfl
        refine one_ (i := 10) (N := some 99) #[true, true, true, true, true, true, true, true, true, true, true, true, false, false, false] rfl rfl (by kernel_rfl) (by decide) (fun K hK => ?_)
        refine goes_ Try.func33 (by kernel_rfl) rfl #[.int .u64 at12, .int .u64 (IntKind.u64.wrap (((fr + pages) * 256) - at12)), .int .i64 27] (by rfl) rfl rfl (by (try simp only [List.map_toArray, List.map_cons, List.map_nil]); first | done | rfl) ?_
        refine (of_calls at12 (IntKind.u64.wrap (((fr + pages) * 256) - at12)) 27 _).mono ?_
        rintro e W16 ⟨rfl, hb⟩
        refine ⟨_, rfl, ?_⟩
        have BK16 := Aside0.mk (blk_below BK15.out hb)
        have BS16 := Aside0.mk (blk_below BS15.out hb)
        have BZ16 := Aside0.mk (blk_below BZ15.out hb)
        have HM16 := Aside0.mk (HM15.out.below hb)
        have HU16 := Aside0.mk (HU15.out.then_ (Upd.of_below hb (fun _ => False)) (fun _ hk => hk.elim))
        clear hb BK15 BS15 BZ15 HM15 HU15
        refine hK.out _ _ ((blk_cell BK16.out 1).trans rfl) (fun hHeld => ?_)
        clear hHeld
        generalize ofC at12 (IntKind.u64.wrap (((fr + pages) * 256) - at12)) 27 = so at HBF ⊢
        clear hK K
        refine norm_ (a' := ?_) ?_ ?_
        rotate_left
        · show Act.put _ (some 99) _ = _
          simp only [Act.put, List.setIfInBounds_toArray, List.set_cons_zero, List.set_cons_succ, i64_w, i32_w]
          rfl
        refine one_ (i := 12) (N := some 101) #[true, true, true, true, true, true, true, true, true, true, true, true, true, false, false] rfl rfl (by kernel_rfl) (by decide) (fun K hK => ?_)
        refine goes_ Try.func32 (by kernel_rfl) rfl #[.agg #[.int .u64 so.f0, .int .u64 so.f1, .int .u64 so.f2, .int .i64 so.f3, .int .i64 so.f4, .bool so.f5], .int .u64 ((fr + pages) * 256)] (by rfl) rfl rfl (by (try simp only [List.map_toArray, List.map_cons, List.map_nil]); first | done | rfl) ?_
        refine (move_calls so ((fr + pages) * 256) _).mono ?_
        rintro e W17 ⟨rfl, hb⟩
        refine ⟨_, rfl, ?_⟩
        have BK17 := Aside0.mk (blk_below BK16.out hb)
        have BS17 := Aside0.mk (blk_below BS16.out hb)
        have BZ17 := Aside0.mk (blk_below BZ16.out hb)
        have HM17 := Aside0.mk (HM16.out.below hb)
        have HU17 := Aside0.mk (HU16.out.then_ (Upd.of_below hb (fun _ => False)) (fun _ hk => hk.elim))
        clear hb BK16 BS16 BZ16 HM16 HU16
        refine hK.out _ _ ((blk_cell BK17.out 1).trans rfl) (fun hHeld => ?_)
        generalize moveC so ((fr + pages) * 256) = sA at HBF ⊢
        clear hK K
        refine norm_ (a' := ?_) ?_ ?_
        rotate_left
        · show Act.put _ (some 101) _ = _
          simp only [Act.put, List.setIfInBounds_toArray, List.set_cons_zero, List.set_cons_succ, i64_w, i32_w]
          rfl
        refine pure_ (i := 13) (N := some 102) (v := ?_) (a' := ?_) #[true, true, true, true, true, true, true, true, true, true, true, true, true, true, false] rfl rfl (by kernel_rfl) (fun _ _ _ h => h) (Or.inl ⟨by rfl, ?_⟩) ?_ ?_
        rotate_left
        · intro w'
          go_simp
          with_reducible rfl
        rotate_left
        · simp only [Act.put, List.setIfInBounds_toArray, List.set_cons_zero, List.set_cons_succ, i64_w, i32_w]
          rfl
        refine one_ (i := 14) (N := none) #[true, true, true, true, true, true, true, true, true, true, true, true, true, true, true] rfl rfl (by kernel_rfl) (by decide) (fun K hK => ?_)
        have hzc0 : W17.cell? ⟨gs, 0, none⟩ = some (.int .u64 0) := (blk_cell BS17.out 0).trans rfl
        have hzf0 := blk_frozen BS17.out 0
        have hzc1 : W17.cell? ⟨gs, 1, none⟩ = some (.int .u64 0) := (blk_cell BS17.out 1).trans rfl
        have hzf1 := blk_frozen BS17.out 1
        have hzc2 : W17.cell? ⟨gs, 2, none⟩ = some (.int .u64 0) := (blk_cell BS17.out 2).trans rfl
        have hzf2 := blk_frozen BS17.out 2
        have hzc3 : W17.cell? ⟨gs, 3, none⟩ = some (.int .i64 0) := (blk_cell BS17.out 3).trans rfl
        have hzf3 := blk_frozen BS17.out 3
        have hzc4 : W17.cell? ⟨gs, 4, none⟩ = some (.int .i64 0) := (blk_cell BS17.out 4).trans rfl
        have hzf4 := blk_frozen BS17.out 4
        have hzc5 : W17.cell? ⟨gs, 5, none⟩ = some (.bool false) := (blk_cell BS17.out 5).trans rfl
        have hzf5 := blk_frozen BS17.out 5
        refine skip_ (w1 := put6 W17 gs sA) (by rfl) rfl ?_ ?_
        · unfold put6
          first | (go_simp; done) | (go_simp; rfl)
        clear hzc0 hzf0 hzc1 hzf1 hzc2 hzf2 hzc3 hzf3 hzc4 hzf4 hzc5 hzf5
        have hset := put6_upd W17 gs sA
        have BS18 := Aside0.mk (show (put6 W17 gs sA).heap[gs]? = some (.cells (cs24 sA sC sD sE) 32 (0, 0)) by unfold put6; exact blk_put (blk_put (blk_put (blk_put (blk_put (blk_put BS17.out 0 _ rfl) 1 _ rfl) 2 _ rfl) 3 _ rfl) 4 _ rfl) 5 _ rfl)
        have BK18 := Aside0.mk ((hset.block gl (blk_lt BK17.out) HN2.out).trans BK17.out)
        have BZ18 := Aside0.mk ((hset.block g12 (blk_lt BZ17.out) HN1.out).trans BZ17.out)
        have HM18 := Aside0.mk (HM17.out.upd hset (fun e => blk_ne HM17.out.hd BS17.out (by decide) e) (fun e => by have h1 := HM17.out.mp; rw [e, BS17.out] at h1; cases h1) (fun x hx e => blk_ne (HM17.out.blk x hx) BS17.out (by decide) e))
        have HU18 := Aside0.mk (HU17.out.then_ hset (fun k hk => .inr (by rw [hk]; exact HGS.out)))
        generalize put6 W17 gs sA = W18 at BS18 BK18 BZ18 HM18 HU18 ⊢
        clear hset BK17 BS17 BZ17 HM17 HU17
        refine hK.out _ _ ((blk_cell BK18.out 1).trans rfl) (fun hHeld => ?_)
        clear hK K hHeld
        refine done_ (by kernel_rfl) ?_
        have hi32 : (Try.prog.info? 32).map (·.size) = some (cs24 sA sC sD sE).size := info32
        go_wp2_with (first | ((with_reducible refine gate_dst (N := 103) rfl ?_); go_loud (refine wpList_load_row rfl 32 (.tmp 18) rfl gs rfl 32 (cs24 sA sC sD sE) (0, 0) _ BS18.out Try.underlying32 rfl hi32 ?_)) | ((with_reducible refine gate_store (t := 32) (p := 12) rfl ?_); (go_loud (refine store_row_event (t := 32) (p := 12) (v := ?vo_W19) ?hg ?ho ?hn (g := g12) (cs := cs24 sA sC sD sE) ?hp ?hv BZ18.out info32 rfl (cs24_one _ _ _ _) ?_)); (case ho => rfl); (case hg => rfl); (case hn => rfl); (case hp => rfl); (case hv => rfl); intro W19 hw; have hz1 := setRow_blk (cs := cs24 sA sC sD sE) BZ18.out; have hz2 := setRow_upd W18 g12 (cs24 sA sC sD sE); rw [← hw] at hz1 hz2; have BZ19 := Aside0.mk hz1; have hset := Aside0.mk hz2; clear hw hz1 hz2) | fail)
        refine bodyPost_ret (results_ct rfl _ _ g12 32 (cs24 sA sC sD sE) (0, 0) _ rfl (by exact BZ19.out) Try.underlying32 rfl (by kernel_rfl)) rfl ?_
        rw [← HBF.out]
        refine ⟨rfl, L12, clock4, ?_, ?_, ?_⟩
        · exact HM18.out.upd hset.out (fun e => blk_ne HM18.out.hd BZ18.out (by decide) e) (fun e => by have h1 := HM18.out.mp; rw [e, BZ18.out] at h1; cases h1) (fun x hx e => blk_ne (HM18.out.blk x hx) BZ18.out (by decide) e)
        · intro x hx
          have hk := HL12.out
          have := HSIDE.out x.blk (.inl (inL_eq hk (List.mem_map_of_mem hx)))
          rcases this with (h | h) | h
          · exact absurd (by rw [h] : x.blk = gm) (fun e => by have h1 := HM18.out.mp; rw [← e, HM18.out.blk x hx] at h1; cases h1)
          · exact .inl h
          · exact .inr h
        · exact HU18.out.then_ hset.out (fun k hk => .inr (by rw [hk]; exact G12.out))
      · rw [if_neg p3] at hbf
        subst hbf
        have d3 : (e1 != 0) = true := by simp [p3]
        have d4 : (e1 == 0) = false := by simp [p3]
        go_enter Try.func10, Try.ntmps10
        go_wp2_with (first | ((with_reducible refine gate_dst (N := 12) rfl ?_); refine box_event ?hg (N := 12) ?hd (cs := #[.int .u64 0, .int .u64 0, .int .u64 0, .int .i64 0, .int .i64 0, .bool false, .int .u64 0, .int .u64 0, .int .u64 0, .int .i64 0, .int .i64 0, .bool false, .int .u64 0, .int .u64 0, .int .u64 0, .int .i64 0, .int .i64 0, .bool false, .int .u64 0, .int .u64 0, .int .u64 0, .int .i64 0, .int .i64 0, .bool false]) (t := 32) ?hr ?_; (case hd => rfl); (case hg => rfl); (case hr => first | (go_simp; done) | (go_simp; rfl)); intro g12 hgb W1 hbox hb; have HB1 := Aside0.mk (below_step HB0.out hb); have B12 := Aside0.mk hbox; have G12 := Aside0.mk (show w.heap.size ≤ g12 by rw [hgb]; exact Nat.le_refl _); clear hb hbox hgb HB0) | (go_at_call 28; refine (RI.out _ (Upd.of_below HB1.out _)).mono ?_; rintro e W2 ⟨rfl, hb⟩; rw [RV.out]; have HB2 := Aside0.mk (below_step HB1.out hb); have BY2 := Aside0.mk (blk_below B12.out hb); clear hb HB1 B12) | (go_at_call 13; refine (ND.out _ (Upd.of_below HB2.out _)).mono ?_; rintro e W3 ⟨rfl, hb⟩; have HB3 := Aside0.mk (below_step HB2.out hb); have BY3 := Aside0.mk (blk_below BY2.out hb); clear hb HB2 BY2) | (go_at_call 18; refine (MP.out _ HB3.out).mono ?_; rintro e W4 ⟨rfl, L4, clock4, hm4, hl4, hu4⟩; have HM4 := Aside0.mk hm4; have HL4 := Aside0.mk (show ∀ x ∈ L4, inL L x.blk ∨ w.heap.size ≤ x.blk from fun x hx => (hl4 x hx).imp id (fun h => Nat.le_trans HB3.out.size h)); have HU4 := Aside0.mk ((Upd.of_below HB3.out (MS L gm)).then_ hu4 (fun k hk => .inl (.inl hk))); have BY4 := Aside0.mk ((hu4.block g12 (blk_lt BY3.out) (fun e => by have := HG.out; have := G12.out; omega)).trans BY3.out); clear hm4 hl4 hu4 HB3 BY3) | ((with_reducible refine gate_store (t := 32) (p := 12) rfl ?_); (go_loud (refine store_row_event (t := 32) (p := 12) (v := ?vo_Wz3) ?hg ?ho ?hn (g := g12) (cs := #[.int .u64 0, .int .u64 0, .int .u64 0, .int .i64 0, .int .i64 0, .bool false, .int .u64 0, .int .u64 0, .int .u64 0, .int .i64 0, .int .i64 0, .bool false, .int .u64 0, .int .u64 0, .int .u64 0, .int .i64 0, .int .i64 0, .bool false, .int .u64 0, .int .u64 0, .int .u64 0, .int .i64 0, .int .i64 0, .bool false]) ?hp ?hv BY4.out info32 rfl (cs24_one z30 z30 z30 z30) ?_)); (case ho => rfl); (case hg => rfl); (case hn => rfl); (case hp => rfl); (case hv => rfl); intro Wz hw; have hz1 := setRow_blk (cs := #[.int .u64 0, .int .u64 0, .int .u64 0, .int .i64 0, .int .i64 0, .bool false, .int .u64 0, .int .u64 0, .int .u64 0, .int .i64 0, .int .i64 0, .bool false, .int .u64 0, .int .u64 0, .int .u64 0, .int .i64 0, .int .i64 0, .bool false, .int .u64 0, .int .u64 0, .int .u64 0, .int .i64 0, .int .i64 0, .bool false]) BY4.out; have hz2 := setRow_upd W4 g12 #[.int .u64 0, .int .u64 0, .int .u64 0, .int .i64 0, .int .i64 0, .bool false, .int .u64 0, .int .u64 0, .int .u64 0, .int .i64 0, .int .i64 0, .bool false, .int .u64 0, .int .u64 0, .int .u64 0, .int .i64 0, .int .i64 0, .bool false, .int .u64 0, .int .u64 0, .int .u64 0, .int .i64 0, .int .i64 0, .bool false]; rw [← hw] at hz1 hz2; have BZZ := Aside0.mk hz1; have HUz := Aside0.mk hz2; clear hw hz1 hz2) | fail)
        refine bodyPost_ret (results_ct rfl _ _ g12 32 #[.int .u64 0, .int .u64 0, .int .u64 0, .int .i64 0, .int .i64 0, .bool false, .int .u64 0, .int .u64 0, .int .u64 0, .int .i64 0, .int .i64 0, .bool false, .int .u64 0, .int .u64 0, .int .u64 0, .int .i64 0, .int .i64 0, .bool false, .int .u64 0, .int .u64 0, .int .u64 0, .int .i64 0, .int .i64 0, .bool false] (0, 0) _ rfl (by exact BZZ.out) Try.underlying32 rfl (by kernel_rfl)) rfl ?_
        exact ⟨rfl, L4, clock4, HM4.out.upd HUz.out (fun e => by have := blk_lt H0.out.hd; have := G12.out; omega) (fun e => by have := HG.out; have := G12.out; omega) (fun x hx e => blk_ne (HM4.out.blk x hx) BY4.out (by decide) e), HL4.out, HU4.out.then_ HUz.out (fun k hk => .inr (by rw [hk]; exact G12.out))⟩
end Go.Proofs.Ytccndffoljjadaa.P
