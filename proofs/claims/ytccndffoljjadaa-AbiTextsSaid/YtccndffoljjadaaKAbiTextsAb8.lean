/- Words of the walks: lemmas about memory, cut down to what this proof uses. No condition. -/
import Derived.Test.YtccndffoljjadaaKAbiTextsAb8a
namespace Go.Proofs.Ytccndffoljjadaa.P
open Go.RowKit Go.Proofs.YtccndffoljjadaaW.PrintWords Go.Proofs.YtccndffoljjadaaW.PrintLast
set_option linter.unusedVariables false
set_option linter.unusedSimpArgs false
/-- What a list's capability is. -/
def listF (m : Mm) (a : Int) (l : List S30) : Mm × Int := capsF m a (l ++ [nullC])
def listC (m : Mm) (a : Int) (l : List S30) : S30 := ofC a (IntKind.u64.wrap (IntKind.u64.wrap ((listF m a l).2 - a) - 32)) 9
theorem put6_below {B : Nat} {w W : World} {g : Nat} (h : Below B w W) (hg : B ≤ g) (x : S30) : Below B w (put6 W g x) := by
  unfold put6
  exact (((((h.setCell (p := ⟨g, 0, none⟩) hg _).setCell (p := ⟨g, 1, none⟩) hg _).setCell (p := ⟨g, 2, none⟩) hg _).setCell (p := ⟨g, 3, none⟩) hg _).setCell (p := ⟨g, 4, none⟩) hg _).setCell (p := ⟨g, 5, none⟩) hg _
set_option maxHeartbeats 4000000 in
set_option maxRecDepth 100000 in
theorem list.calls {w : World} {g gm gl : Nat} {L : List Lp} {clock : Nat} {m : Mm} {at0 : Int} (h : MemL w g gm L clock m) (hbk : w.heap[gl]? = some (.cells #[.pointer (some ⟨g, 0, none⟩), .int .u64 at0] 68 (0, 0))) (hat : 0 ≤ at0 ∧ at0 ≤ 18446744073709551615) (A0 : Option Addr) (c0 : Nat) (l0 : List S30) (hr0 : Kd.C k30 w A0 l0.length l0) (h0 : l0.length ≤ 8) :
    Calls Try.prog 31 #[.pointer (some ⟨gl, 0, none⟩), .slice A0 l0.length c0] w fun e w' => e = .returned (.agg #[.int .u64 (listC m at0 l0).f0, .int .u64 (listC m at0 l0).f1, .int .u64 (listC m at0 l0).f2, .int .i64 (listC m at0 l0).f3, .int .i64 (listC m at0 l0).f4, .bool (listC m at0 l0).f5]) ∧ ∃ L', MemL w' g gm L' clock (listF m at0 l0).1 ∧ L'.map Lp.blk = L.map Lp.blk ∧ w'.heap[gl]? = some (.cells #[.pointer (some ⟨g, 0, none⟩), .int .u64 (listF m at0 l0).2] 68 (0, 0)) ∧ Upd w w' (Lay L gl) := by
  have hu := Try.underlying30
  have HGL := Aside0.mk (show ∀ Lj : List Lp, Lj.map Lp.blk = L.map Lp.blk → ¬ inL Lj gl from fun Lj e hk => by
    obtain ⟨x, hx, e⟩ := List.mem_map.1 (inL_eq e hk)
    exact blk_ne (h.blk x hx) hbk (by decide) e)
  have HLT := Aside0.mk (show ∀ k, inL L k → k < w.heap.size from fun k hk => by
    obtain ⟨x, hx, rfl⟩ := List.mem_map.1 hk
    exact blk_lt (h.blk x hx))
  have HLG := Aside0.mk (show gl < w.heap.size from blk_lt hbk)
  have HGM := Aside0.mk (show g < w.heap.size ∧ gm < w.heap.size from ⟨blk_lt h.hd, blk_lt h.mp⟩)
  have OF := Aside0.mk (fun a n W => of_calls a n 9 W)
  have CL := Aside0.mk (fun W (hb : Below w.heap.size w W) => Clone_C.calls A0 c0 l0 W (Kd.C_below hr0 hb) (by omega))
  have HB0 := Aside0.mk (Below.refl w.heap.size w)
  have hle : l0.length ≤ 9223372036854775807 := by omega
  have LM := Aside0.mk (show (l0.length + 1) * 48 ≤ 140737488355328 by omega)
  have H0 := Aside0.mk h
  have HK0 := Aside0.mk hbk
  clear hr0
  generalize hl1 : l0 ++ [nullC] = l1
  have e1 : l1.length = l0.length + 1 := by rw [← hl1]; simp
  have HL1 := Aside0.mk hl1
  clear hl1
  go_enter Try.func31, Try.ntmps31
  go_wp2_with (first | ((with_reducible refine gate_dst (N := 4) rfl ?_); refine box_event ?hg (N := 4) ?hd (cs := #[.int .u64 0, .int .u64 0, .int .u64 0, .int .i64 0, .int .i64 0, .bool false]) (t := 30) ?hr ?_; (case hd => rfl); (case hg => rfl); (case hr => first | (go_simp; done) | (go_simp; rfl)); intro g4 hgb W1 hbox hb; have HB1 := Aside0.mk (below_step HB0.out hb); have B41 := Aside0.mk hbox; have G4 := Aside0.mk (show w.heap.size ≤ g4 by rw [hgb]; exact Nat.le_refl _); have hc0 : W1.cell? ⟨gl, 1, none⟩ = some (.int .u64 at0) := (blk_cell (blk_below HK0.out hb) 1).trans rfl; clear hb hbox hgb HB0) | (go_at_call 60; refine (CL.out _ HB1.out).mono ?_; rintro e W2 ⟨v, rfl, ho, hb⟩; have HB2 := Aside0.mk (below_step HB1.out hb); have B42 := Aside0.mk (blk_below B41.out hb); have HO2 := Aside0.mk ho; have HS2 := Aside0.mk (show W1.heap.size ≤ W2.heap.size from hb.size); have H4S := Aside0.mk (show g4 < W1.heap.size from blk_lt B41.out); have HS1 := Aside0.mk (show w.heap.size ≤ W1.heap.size from HB1.out.size); clear ho hb hc0 HB1 B41) | (go_at_call 61; refine (null_calls _).mono ?_; rintro e W3 ⟨rfl, hb⟩; have HB3 := Aside0.mk (below_step HB2.out hb); have B43 := Aside0.mk (blk_below B42.out hb); have HO3 := Aside0.mk (Kd.R_below HO2.out hb); have HS3 := Aside0.mk (show W1.heap.size ≤ W3.heap.size from Nat.le_trans HS2.out hb.size); clear hb HB2 B42 HO2) | ((with_reducible refine gate_builtin (b := .append) (xs := #[.tmp 13, .tmp 15]) rfl ?_); at_builtin; go_loud (refine Kd.R_append k30 (w0 := W3) W1.heap.size rfl (.tmp 13) (.tmp 15) 40 30 (.agg #[.int .u64 0, .int .u64 0, .int .u64 0, .int .i64 0, .int .i64 0, .bool false]) 48 rfl Try.underlying40 info30 rfl (by decide) (by omega) v l0 nullC [.int .u64 0, .int .u64 0, .int .u64 0, .int .i64 0, .int .i64 (-1), .bool false] (fun _ => True) (fun _ => False) rfl rfl (k30_mkM _ _ _ nullC) (fun _ hk => hk.elim) (fun _ _ => trivial) HO3.out (Below.refl _ _) HS3.out LM.out ?_); intro v4 W4 ho hb hg hat2; obtain ⟨A4, c4, rfl, hcc, hC⟩ := Kd.R_reads ho; have HO4 := Aside0.mk ho; have HB4 := Aside0.mk hb; clear hC ho hb hg hat2) | fail)
  have B44 := Aside0.mk ((HB4.out.block g4 H4S.out).trans B43.out)
  have HB5 := Aside0.mk (show Below w.heap.size w W4 from HB3.out.trans ⟨HB4.out.os, HB4.out.tape, HB4.out.output, HB4.out.size, fun k hk => HB4.out.block k (Nat.lt_of_lt_of_le hk HS1.out)⟩)
  have BK4 := Aside0.mk (blk_below HK0.out HB5.out)
  have HM4 := Aside0.mk (H0.out.below HB5.out)
  have HU4 := Aside0.mk (Upd.of_below HB5.out (Lay L gl))
  have e1' : (l0 ++ [nullC]).length = l1.length := by rw [HL1.out]
  rw [HL1.out] at HO4 hcc
  have HG4 := Aside0.mk (show g4 ≠ gl from fun e => by have := G4.out; have := HLG.out; omega)
  have HGB := Aside0.mk (show ∀ k, Lay L gl k → k < W1.heap.size from fun k hk => Nat.lt_of_lt_of_le (hk.elim (HLT.out k) (fun e => e ▸ HLG.out)) HS1.out)
  clear HB3 HB4 HB5 B43 HO3 H0 HK0 h hbk
  go_loopw [18] (fun v18 wr => ∃ (j : Nat) (Lj : List Lp), v18 = .int .i64 j ∧ j ≤ l1.length ∧ Aside0 (Kd.R k30 30 wr W1.heap.size (fun _ => True) (.slice A4 l1.length c4) l1) ∧ Aside0 (MemL wr g gm Lj clock (capsF m at0 (l1.take j)).1) ∧ Aside0 (Lj.map Lp.blk = L.map Lp.blk) ∧ Aside0 (wr.heap[gl]? = some (.cells #[.pointer (some ⟨g, 0, none⟩), .int .u64 (capsF m at0 (l1.take j)).2] 68 (0, 0))) ∧ Aside0 (wr.heap[g4]? = some (.cells #[.int .u64 0, .int .u64 0, .int .u64 0, .int .i64 0, .int .i64 0, .bool false] 30 (0, 0))) ∧ Aside0 (Upd w wr (Lay L gl))) (fun v18 _ => l1.length - (intOf v18).toNat)
  case atStart => exact ⟨0, L, rfl, by omega, HO4, HM4, ⟨rfl⟩, BK4, B44, HU4⟩
  case round =>
    clear HO4 HM4 BK4 B44 HU4
    obtain ⟨j, Lj, rfl, hj, HO, HM, HL, BK, B4, HU⟩ := hrel
    by_cases hlt : j < l1.length
    · have HT := Aside0.mk (capsF_next (m := m) (a := at0) hlt)
      have HAT := Aside0.mk (capsF_at (m := m) hat (l1.take j))
      have c18 : decide ((j : Int) < (l0.length : Int) + 1) = true := decide_eq_true (by omega)
      obtain ⟨ad, eA, hx0, hx1, hx2, hx3, hx4, hx5⟩ := at_T30 (Kd.R_reads' HO.out).2.2 (j : Int) (by omega) (by omega)
      cases eA
      simp only [Int.toNat_natCast] at hx0 hx1 hx2 hx3 hx4 hx5
      generalize rd_T30 l1 (j : Int) = x at hx0 hx1 hx2 hx3 hx4 hx5 HT
      unfold capsF at HT HAT HM BK
      generalize (l1.take j).foldl capStep (m, at0) = st at HT HAT HM BK
      obtain ⟨mj, at_⟩ := st
      simp only at HAT HM BK
      have WJ : wrap64 ((j : Int) + 1) = ((j + 1 : Nat) : Int) := by unfold wrap64; omega
      go_wp2_with (first | ((with_reducible refine gate_dst (N := 7) rfl ?_); refine box_event ?hg (N := 7) ?hd (cs := #[.int .u64 0, .int .u64 0, .int .u64 0, .int .i64 0, .int .i64 0, .bool false]) (t := 30) ?hr ?_; (case hd => rfl); (case hg => rfl); (case hr => first | (go_simp; done) | (go_simp; rfl)); intro gb hgb Wb hbox hb; have HBb := Aside0.mk hb; have BBb := Aside0.mk hbox; have GBb := Aside0.mk hgb; clear hb hbox hgb; have hbc0 : Wb.cell? ⟨gb, 0, none⟩ = some (.int .u64 0) := (blk_cell BBb.out 0).trans rfl; have hbf0 := blk_frozen BBb.out 0; have hbc1 : Wb.cell? ⟨gb, 1, none⟩ = some (.int .u64 0) := (blk_cell BBb.out 1).trans rfl; have hbf1 := blk_frozen BBb.out 1; have hbc2 : Wb.cell? ⟨gb, 2, none⟩ = some (.int .u64 0) := (blk_cell BBb.out 2).trans rfl; have hbf2 := blk_frozen BBb.out 2; have hbc3 : Wb.cell? ⟨gb, 3, none⟩ = some (.int .i64 0) := (blk_cell BBb.out 3).trans rfl; have hbf3 := blk_frozen BBb.out 3; have hbc4 : Wb.cell? ⟨gb, 4, none⟩ = some (.int .i64 0) := (blk_cell BBb.out 4).trans rfl; have hbf4 := blk_frozen BBb.out 4; have hbc5 : Wb.cell? ⟨gb, 5, none⟩ = some (.bool false) := (blk_cell BBb.out 5).trans rfl; have hbf5 := blk_frozen BBb.out 5) | ((with_reducible refine gate_store (t := 30) (p := 7) rfl ?_); refine store_event (t := 30) (p := 7) (v := ?vo_W3) (w1 := put6 Wb gb x) ?hg ?ho ?hn ?hr ?_; (case ho => rfl); (case hg => rfl); (case hn => rfl); (case hr => unfold put6; first | (go_simp; done) | (go_simp; rfl)); intro W3 hw; have BB3 := Aside0.mk (show W3.heap[gb]? = _ from hw ▸ put6_blk BBb.out x); have HB3 := Aside0.mk (show Below wr.heap.size wr W3 from hw ▸ put6_below HBb.out (by rw [GBb.out]; exact Nat.le_refl _) x); have BK3 := Aside0.mk (blk_below BK.out HB3.out); have B43 := Aside0.mk (blk_below B4.out HB3.out); have HM3 := Aside0.mk (HM.out.below HB3.out); have HU3 := Aside0.mk (HU.out.then_ (Upd.of_below HB3.out (fun _ => False)) (fun _ hk => hk.elim)); have HO3 := Aside0.mk (Kd.R_below HO.out HB3.out); have HN3 := Aside0.mk (show ∀ k, k < wr.heap.size → k ≠ gb from fun k hk e => by rw [e, GBb.out] at hk; exact Nat.lt_irrefl _ hk); clear hw hbc0 hbc1 hbc2 hbc3 hbc4 hbc5 hbf0 hbf1 hbf2 hbf3 hbf4 hbf5 HBb BBb GBb BK B4 HM HU HO HB3 hx0 hx1 hx2 hx3 hx4 hx5) | fail)
      refine start_ (n := 10) (S := fun w' => w'.cell? ⟨gl, 0, none⟩ = some (.pointer (some ⟨g, 0, none⟩)) ∧ w'.cell? ⟨gl, 1, none⟩ = some (.int .u64 at_) ∧ w'.cell? ⟨gb, 0, none⟩ = some (.int .u64 x.f0) ∧ w'.cell? ⟨gb, 1, none⟩ = some (.int .u64 x.f1) ∧ w'.cell? ⟨gb, 2, none⟩ = some (.int .u64 x.f2) ∧ w'.cell? ⟨gb, 3, none⟩ = some (.int .i64 x.f3) ∧ w'.cell? ⟨gb, 4, none⟩ = some (.int .i64 x.f4) ∧ w'.cell? ⟨gb, 5, none⟩ = some (.bool x.f5)) (ds := []) #[false, false, false, false, false, false, false, false, false, false] (by kernel_rfl) rfl rfl ⟨(blk_cell BK3.out 0).trans rfl, (blk_cell BK3.out 1).trans rfl, (blk_cell BB3.out 0).trans rfl, (blk_cell BB3.out 1).trans rfl, (blk_cell BB3.out 2).trans rfl, (blk_cell BB3.out 3).trans rfl, (blk_cell BB3.out 4).trans rfl, (blk_cell BB3.out 5).trans rfl⟩ (fun hHeld => ?_)
      have BK4 := Aside0.mk (show W3.drew.heap[gl]? = _ from BK3.out)
      have BB4 := Aside0.mk (show W3.drew.heap[gb]? = _ from BB3.out)
      have HM4 := Aside0.mk (HM3.out.drewL)
      have HU4 := Aside0.mk (HU3.out.then_ (Upd.drew (S := fun _ => False) W3) (fun _ hk => hk.elim))
      have HO4 := Aside0.mk (Kd.R_drew HO3.out)
      have B44 := Aside0.mk (show W3.drew.heap[g4]? = _ from B43.out)
      generalize W3.drew = W4 at BK4 BB4 HM4 HU4 HO4 B44 hHeld ⊢
      clear BK3 BB3 HM3 HU3 HO3 B43
      refine pure_ (i := 0) (N := some 22) (v := ?_) (a' := ?_) #[true, false, false, false, false, false, false, false, false, false] rfl rfl (by kernel_rfl) (fun _ _ _ h => h) (Or.inl ⟨by rfl, ?_⟩) ?_ ?_
      rotate_left
      · intro w'
        go_simp
        with_reducible rfl
      rotate_left
      · simp only [Act.put, List.setIfInBounds_toArray, List.set_cons_zero, List.set_cons_succ, i64_w, i32_w]
        rfl
      refine pure_ (i := 1) (N := some 23) (v := ?_) (a' := ?_) #[true, true, false, false, false, false, false, false, false, false] rfl rfl (by kernel_rfl) (fun _ _ _ h => h) (Or.inl ⟨by rfl, ?_⟩) ?_ ?_
      rotate_left
      · intro w'
        go_simp
        with_reducible rfl
      rotate_left
      · simp only [Act.put, List.setIfInBounds_toArray, List.set_cons_zero, List.set_cons_succ, i64_w, i32_w]
        rfl
      refine pure_ (i := 2) (N := some 24) (v := ?_) (a' := ?_) #[true, true, true, false, false, false, false, false, false, false] rfl rfl (by kernel_rfl) (fun _ _ _ h => h) (Or.inl ⟨by rfl, ?_⟩) ?_ ?_
      rotate_left
      · intro w'
        go_simp
        with_reducible rfl
      rotate_left
      · simp only [Act.put, List.setIfInBounds_toArray, List.set_cons_zero, List.set_cons_succ, i64_w, i32_w]
        rfl
      refine take_ (i := 3) (N := some 25) (v := ?_) (a' := ?_) #[true, true, true, true, false, false, false, false, false, false] rfl rfl (by kernel_rfl) (fun _ _ _ h => h) (Or.inl ⟨by rfl, ?_⟩) hHeld ?_ ?_
      rotate_left
      · rintro w' ⟨s0, s1, s2, s3, s4, s5, s6, s7⟩
        go_simp
        with_reducible rfl
      rotate_left
      · simp only [Act.put, List.setIfInBounds_toArray, List.set_cons_zero, List.set_cons_succ, i64_w, i32_w]
        rfl
      refine pure_ (i := 4) (N := some 26) (v := ?_) (a' := ?_) #[true, true, true, true, true, false, false, false, false, false] rfl rfl (by kernel_rfl) (fun _ _ _ h => h) (Or.inl ⟨by rfl, ?_⟩) ?_ ?_
      rotate_left
      · intro w'
        go_simp
        with_reducible rfl
      rotate_left
      · simp only [Act.put, List.setIfInBounds_toArray, List.set_cons_zero, List.set_cons_succ, i64_w, i32_w]
        rfl
      refine pure_ (i := 5) (N := some 27) (v := ?_) (a' := ?_) #[true, true, true, true, true, true, false, false, false, false] rfl rfl (by kernel_rfl) (fun _ _ _ h => h) (Or.inl ⟨by rfl, ?_⟩) ?_ ?_
      rotate_left
      · intro w'
        go_simp
        with_reducible rfl
      rotate_left
      · simp only [Act.put, List.setIfInBounds_toArray, List.set_cons_zero, List.set_cons_succ, i64_w, i32_w]
        rfl
      refine pure_ (i := 6) (N := some 28) (v := ?_) (a' := ?_) #[true, true, true, true, true, true, true, false, false, false] rfl rfl (by kernel_rfl) (fun _ _ _ h => h) (Or.inl ⟨by rfl, ?_⟩) ?_ ?_
      rotate_left
      · intro w'
        go_simp
        with_reducible rfl
      rotate_left
      · simp only [Act.put, List.setIfInBounds_toArray, List.set_cons_zero, List.set_cons_succ, i64_w, i32_w]
        rfl
      refine take_ (i := 7) (N := some 29) (v := ?_) (a' := ?_) #[true, true, true, true, true, true, true, true, false, false] rfl rfl (by kernel_rfl) (fun _ _ _ h => h) (Or.inl ⟨by rfl, ?_⟩) hHeld ?_ ?_
      rotate_left
      · rintro w' ⟨s0, s1, s2, s3, s4, s5, s6, s7⟩
        go_simp
        with_reducible rfl
      rotate_left
      · simp only [Act.put, List.setIfInBounds_toArray, List.set_cons_zero, List.set_cons_succ, i64_w, i32_w]
        rfl
      refine take_ (i := 8) (N := some 30) (v := ?_) (a' := ?_) #[true, true, true, true, true, true, true, true, true, false] rfl rfl (by kernel_rfl) (fun _ _ _ h => h) (Or.inl ⟨by rfl, ?_⟩) hHeld ?_ ?_
      rotate_left
      · rintro w' ⟨s0, s1, s2, s3, s4, s5, s6, s7⟩
        go_simp
        with_reducible rfl
      rotate_left
      · simp only [Act.put, List.setIfInBounds_toArray, List.set_cons_zero, List.set_cons_succ, i64_w, i32_w]
        rfl
      refine one_ (i := 9) (N := some 31) #[true, true, true, true, true, true, true, true, true, true] rfl rfl (by kernel_rfl) (by decide) (fun K hK => ?_)
      refine goes_ Try.func62 (by kernel_rfl) rfl #[.pointer (some ⟨g, 0, none⟩), .int .u64 at_, .agg #[.int .u64 x.f0, .int .u64 x.f1, .int .u64 x.f2, .int .i64 x.f3, .int .i64 x.f4, .bool x.f5]] (by rfl) rfl rfl (by (try simp only [List.map_toArray, List.map_cons, List.map_nil]); first | done | rfl) ?_
      obtain ⟨m5, e5, hf5⟩ := storeCap_tot mj at_ x.f0 x.f1 x.f2 x.f3 x.f4 x.f5
      refine (StoreCap_calls 20 HM4.out at_ x.f0 x.f1 x.f2 x.f3 x.f4 x.f5 HAT.out.1 HAT.out.2 m5 e5 hf5).mono ?_
      rintro e W5 ⟨rfl, L5, hm5, hl5, hu5⟩
      refine ⟨_, rfl, ?_⟩
      have BK5 := Aside0.mk ((hu5.block _ (blk_lt BK4.out) (fun hk => HGL.out Lj HL.out hk)).trans BK4.out)
      have BB5 := Aside0.mk ((hu5.block _ (blk_lt BB4.out) (fun hk => by obtain ⟨y, hy, e⟩ := List.mem_map.1 hk; exact blk_ne (HM4.out.blk y hy) BB4.out (by decide) e)).trans BB4.out)
      have HM5 := Aside0.mk hm5
      have HL5 := Aside0.mk (hl5.trans HL.out)
      have HU5 := Aside0.mk (HU4.out.then_ hu5 (fun k hk => .inl (.inl (inL_eq HL.out hk))))
      have HF5 := Aside0.mk (capStep_is hf5)
      have HO5 := Aside0.mk (R_upd HO4.out hu5 (fun k hk => HGB.out k (.inl (inL_eq HL.out hk))))
      have B45 := Aside0.mk ((hu5.block _ (blk_lt B44.out) (fun hk => by obtain ⟨y, hy, e⟩ := List.mem_map.1 hk; exact blk_ne (HM4.out.blk y hy) B44.out (by decide) e)).trans B44.out)
      clear hm5 hl5 hu5 hf5 BK4 BB4 HM4 HU4 HL HO4 B44
      refine hK.out _ _ ⟨(blk_cell BK5.out 0).trans rfl, (blk_cell BK5.out 1).trans rfl, (blk_cell BB5.out 0).trans rfl, (blk_cell BB5.out 1).trans rfl, (blk_cell BB5.out 2).trans rfl, (blk_cell BB5.out 3).trans rfl, (blk_cell BB5.out 4).trans rfl, (blk_cell BB5.out 5).trans rfl⟩ (fun hHeld => ?_)
      clear hHeld
      clear hK K
      refine norm_ (a' := ?_) ?_ ?_
      rotate_left
      · show Act.put _ (some 31) _ = _
        simp only [Act.put, List.setIfInBounds_toArray, List.set_cons_zero, List.set_cons_succ, i64_w, i32_w]
        rfl
      refine done_ (by kernel_rfl) ?_
      have hc5 := (blk_cell BK5.out 1).trans rfl
      have hf5 := blk_frozen BK5.out 1
      go_wp2
      have e : capsF m at0 (l1.take (j + 1)) = (m5, IntKind.u64.wrap (at_ + 32)) := HT.out.trans HF5.out
      have hset : ∀ u : Value, Upd W5 (W5.setCell ⟨gl, 1, none⟩ u) (fun k => k = gl) := fun u => Upd.setCell (S := fun k => k = gl) W5 (p := ⟨gl, 1, none⟩) rfl u
      refine ⟨⟨j + 1, L5, by simp, by omega, ⟨?_⟩, ⟨?_⟩, HL5, ⟨?_⟩, ⟨?_⟩, ⟨?_⟩⟩, by simp [intOf]; omega⟩
      · exact R_upd HO5.out (hset _) (fun k hk => by rw [hk]; exact HGB.out gl (.inr rfl))
      · rw [e]
        exact HM5.out.upd (hset _) (fun e => blk_ne HM5.out.hd BK5.out (by decide) e) (fun e => by have h1 := HM5.out.mp; rw [e, BK5.out] at h1; cases h1) (fun x hx e => blk_ne (HM5.out.blk x hx) BK5.out (by decide) e)
      · rw [e]
        exact blk_put BK5.out 1 _ rfl
      · exact blk_far B45.out (p := ⟨gl, 1, none⟩) HG4.out _
      · exact HU5.out.then_ (hset _) (fun k hk => .inl (.inr hk))
    · obtain rfl : j = l1.length := by omega
      have c18 : decide (((l1.length : Nat) : Int) < (l0.length : Int) + 1) = false := decide_eq_false (by omega)
      rw [List.take_length, ← HL1.out] at HM BK
      have hc5 := (blk_cell BK.out 1).trans rfl
      have E9 := Aside0.mk (show ofC at0 (IntKind.u64.wrap (IntKind.u64.wrap ((capsF m at0 (l0 ++ [nullC])).2 - at0) - 32)) 9 = listC m at0 l0 from rfl)
      obtain ⟨rc, hrc⟩ : ∃ rc, listC m at0 l0 = rc := ⟨_, rfl⟩
      rw [hrc] at E9
      have HRC := Aside0.mk hrc
      clear hrc
      generalize hst : capsF m at0 (l0 ++ [nullC]) = st at HM BK E9 hc5
      have HST := Aside0.mk (show listF m at0 l0 = st from hst)
      clear hst
      obtain ⟨mj, at_⟩ := st
      simp only at HM BK E9 hc5
      go_wp2_with (first | (go_at_call 33; refine (OF.out _ _ _).mono ?_; rintro e W6 ⟨rfl, hb⟩; rw [E9.out]; have HBx := Aside0.mk hb; have B46 := Aside0.mk (blk_below B4.out hb); clear hb hc5; have hzc0 : W6.cell? ⟨g4, 0, none⟩ = some (.int .u64 0) := (blk_cell B46.out 0).trans rfl; have hzf0 := blk_frozen B46.out 0; have hzc1 : W6.cell? ⟨g4, 1, none⟩ = some (.int .u64 0) := (blk_cell B46.out 1).trans rfl; have hzf1 := blk_frozen B46.out 1; have hzc2 : W6.cell? ⟨g4, 2, none⟩ = some (.int .u64 0) := (blk_cell B46.out 2).trans rfl; have hzf2 := blk_frozen B46.out 2; have hzc3 : W6.cell? ⟨g4, 3, none⟩ = some (.int .i64 0) := (blk_cell B46.out 3).trans rfl; have hzf3 := blk_frozen B46.out 3; have hzc4 : W6.cell? ⟨g4, 4, none⟩ = some (.int .i64 0) := (blk_cell B46.out 4).trans rfl; have hzf4 := blk_frozen B46.out 4; have hzc5 : W6.cell? ⟨g4, 5, none⟩ = some (.bool false) := (blk_cell B46.out 5).trans rfl; have hzf5 := blk_frozen B46.out 5) | ((with_reducible refine gate_store (t := 30) (p := 4) rfl ?_); refine store_event (t := 30) (p := 4) (v := ?vo_w7) (w1 := put6 W6 g4 rc) ?hg ?ho ?hn ?hr ?_; (case ho => rfl); (case hg => rfl); (case hn => rfl); (case hr => unfold put6; first | (go_simp; done) | (go_simp; rfl)); intro W7 hw; have B47 := Aside0.mk (show W7.heap[g4]? = _ from hw ▸ put6_blk B46.out rc); have HU7 := Aside0.mk (show Upd W6 W7 (fun k => k = g4) from hw ▸ put6_upd W6 g4 rc); clear hw) | fail)
      refine bodyPost_ret (results_cell_row rfl _ _ g4 30 #[.int .u64 rc.f0, .int .u64 rc.f1, .int .u64 rc.f2, .int .i64 rc.f3, .int .i64 rc.f4, .bool rc.f5] (0, 0) _ rfl (by exact B47.out) Try.underlying30 rfl (by kernel_rfl)) rfl ?_
      have HBK := (HU7.out.block gl (Nat.lt_of_lt_of_le (blk_lt BK.out) HBx.out.size) (fun e => HG4.out e.symm)).trans (blk_below BK.out HBx.out)
      rw [HST.out]
      refine ⟨by rw [HRC.out], Lj, ?_, HL.out, HBK, ?_⟩
      · have hm := HM.out.below HBx.out
        exact hm.upd HU7.out (fun e => blk_ne hm.hd B46.out (by decide) e) (fun e => by have h1 := hm.mp; rw [e, B46.out] at h1; cases h1) (fun x hx e => blk_ne (hm.blk x hx) B46.out (by decide) e)
      · exact (HU.out.then_ (Upd.of_below HBx.out (fun _ => False)) (fun _ hk => hk.elim)).then_ HU7.out (fun k hk => .inr (by rw [hk]; exact G4.out))
end Go.Proofs.Ytccndffoljjadaa.P
