/- Words of the walks: lemmas about memory, cut down to what this proof uses. No condition. -/
import Derived.Test.YtccndffoljjadaaKAbiTextsAb7a
namespace Go.Proofs.Ytccndffoljjadaa.P
open Go.RowKit Go.Proofs.YtccndffoljjadaaW.PrintWords Go.Proofs.YtccndffoljjadaaW.PrintLast
set_option linter.unusedVariables false
set_option linter.unusedSimpArgs false
/-- What a layer's world keeps. -/
def Lay (L : List Lp) (gl : Nat) (k : Nat) : Prop := inL L k ∨ k = gl
set_option maxHeartbeats 4000000 in
set_option maxRecDepth 100000 in
theorem texts.calls {w : World} {g gm gl : Nat} {L : List Lp} {clock : Nat} {m : Mm} {at0 : Int} (h : MemL w g gm L clock m) (hbk : w.heap[gl]? = some (.cells #[.pointer (some ⟨g, 0, none⟩), .int .u64 at0] 68 (0, 0))) (hat : 0 ≤ at0 ∧ at0 ≤ 18446744073709551615) (A0 : Option Addr) (c0 : Nat) (l0 : List ByteArray) (hr0 : ∀ W, Upd w W (Lay L gl) → Kd.C Kd.string W A0 l0.length l0) (h0 : l0.length ≤ 8) (hsz : ∀ s ∈ l0, s.size ≤ 200) :
    Calls Try.prog 29 #[.pointer (some ⟨gl, 0, none⟩), .slice A0 l0.length c0] w fun e w' => ∃ v, e = .returned v ∧ Kd.R k30 30 w' w.heap.size (fun _ => True) v (textsF m at0 l0).2.2 ∧ ∃ L', MemL w' g gm L' clock (textsF m at0 l0).1 ∧ L'.map Lp.blk = L.map Lp.blk ∧ w'.heap[gl]? = some (.cells #[.pointer (some ⟨g, 0, none⟩), .int .u64 (textsF m at0 l0).2.1] 68 (0, 0)) ∧ Upd w w' (Lay L gl) := by
  have HR0 := Aside0.mk hr0
  have HSZ := Aside0.mk hsz
  have HGL := Aside0.mk (show ∀ Lj : List Lp, Lj.map Lp.blk = L.map Lp.blk → ¬ inL Lj gl from fun Lj e hk => by
    obtain ⟨x, hx, e⟩ := List.mem_map.1 (inL_eq e hk)
    exact blk_ne (h.blk x hx) hbk (by decide) e)
  have HLT := Aside0.mk (show ∀ k, inL L k → k < w.heap.size from fun k hk => by
    obtain ⟨x, hx, rfl⟩ := List.mem_map.1 hk
    exact blk_lt (h.blk x hx))
  have HLG := Aside0.mk (show gl < w.heap.size from blk_lt hbk)
  have HGM := Aside0.mk (show g < w.heap.size ∧ gm < w.heap.size from ⟨blk_lt h.hd, blk_lt h.mp⟩)
  have OF := Aside0.mk (fun a n W => of_calls a n 1 W)
  have hle : l0.length ≤ 9223372036854775807 := by omega
  clear hr0 hsz
  go_enter Try.func29, Try.ntmps29
  go_wp2
  go_loopw [5, 11] (fun v5 v11 wr => ∃ (j : Nat) (Lj : List Lp), v11 = .int .i64 j ∧ j ≤ l0.length ∧ Aside0 (Kd.R k30 30 wr w.heap.size (fun _ => True) v5 (textsF m at0 (l0.take j)).2.2) ∧ Aside0 (MemL wr g gm Lj clock (textsF m at0 (l0.take j)).1) ∧ Aside0 (Lj.map Lp.blk = L.map Lp.blk) ∧ Aside0 (wr.heap[gl]? = some (.cells #[.pointer (some ⟨g, 0, none⟩), .int .u64 (textsF m at0 (l0.take j)).2.1] 68 (0, 0))) ∧ Aside0 (Upd w wr (Lay L gl))) (fun _ v11 _ => l0.length - (intOf v11).toNat)
  case atStart => exact ⟨0, L, rfl, by omega, ⟨Kd.R_nil _ _ _ _ _⟩, ⟨h⟩, ⟨rfl⟩, ⟨hbk⟩, ⟨Upd.refl _ _⟩⟩
  case round =>
    clear h hbk
    obtain ⟨j, Lj, rfl, hj, HO, HM, HL, BK, HU⟩ := hrel
    by_cases hlt : j < l0.length
    · have HT := Aside0.mk (textsF_next (m := m) (at_ := at0) hlt)
      have HAT := Aside0.mk (textsF_at (m := m) hat (l0.take j) [])
      have HLN := Aside0.mk (textsF_len m at0 (l0.take j) [])
      obtain ⟨ad, eA, hx0⟩ := Kd.at_string (HR0.out _ HU.out) (j : Int) (by omega) (by omega)
      cases eA
      simp only [Int.toNat_natCast] at hx0
      have hs : (rdOf ByteArray.empty l0 (j : Int)).size ≤ 200 := by
        refine HSZ.out _ ?_
        simp [rdOf, List.getElem?_eq_getElem hlt]
      have HE := Aside0.mk (show Try.prog.underlying 68 = _ from Try.underlying68)
      generalize rdOf ByteArray.empty l0 (j : Int) = s at hx0 HT hs
      unfold textsF at HT HAT HLN HO HM BK
      generalize (l0.take j).foldl textStep (m, at0, []) = st at HT HAT HLN HO HM BK
      obtain ⟨mj, at_, caps⟩ := st
      simp only at HAT HLN HO HM BK
      have hs : s.size ≤ 1000 := by omega
      have W1 : wrap64 ((s.size : Int) + 1) = (s.size : Int) + 1 := by unfold wrap64; omega
      have W2 : IntKind.u64.wrap ((s.size : Int) + 1) = (s.size : Int) + 1 := by rw [IntKind.wrap_u64]; omega
      have W3 : wrap64 ((j : Int) + 1) = ((j + 1 : Nat) : Int) := by unfold wrap64; omega
      go_wp2
      refine start_ (n := 13) (S := fun w' => w'.cell? ⟨gl, 0, none⟩ = some (.pointer (some ⟨g, 0, none⟩)) ∧ w'.cell? ⟨gl, 1, none⟩ = some (.int .u64 at_)) (ds := []) #[false, false, false, false, false, false, false, false, false, false, false, false, false] (by kernel_rfl) rfl rfl ⟨(blk_cell BK.out 0).trans rfl, (blk_cell BK.out 1).trans rfl⟩ (fun hHeld => ?_)
      have BK1 := Aside0.mk (show wr.drew.heap[gl]? = _ from BK.out)
      have HM1 := Aside0.mk (HM.out.drewL)
      have HU1 := Aside0.mk (HU.out.then_ (Upd.drew (S := fun _ => False) wr) (fun _ hk => hk.elim))
      have HO1 := Aside0.mk (Kd.R_drew HO.out)
      generalize wr.drew = W1 at BK1 HM1 HU1 HO1 hHeld ⊢
      clear BK HM HU HO
      refine pure_ (i := 0) (N := some 19) (v := ?_) (a' := ?_) #[true, false, false, false, false, false, false, false, false, false, false, false, false] rfl rfl (by kernel_rfl) (fun _ _ _ h => h) (Or.inl ⟨by rfl, ?_⟩) ?_ ?_
      rotate_left
      · intro w'
        go_simp
        with_reducible rfl
      rotate_left
      · simp only [Act.put, List.setIfInBounds_toArray, List.set_cons_zero, List.set_cons_succ, i64_w, i32_w]
        rfl
      refine pure_ (i := 1) (N := some 20) (v := ?_) (a' := ?_) #[true, true, false, false, false, false, false, false, false, false, false, false, false] rfl rfl (by kernel_rfl) (fun _ _ _ h => h) (Or.inl ⟨by rfl, ?_⟩) ?_ ?_
      rotate_left
      · intro w'
        go_simp
        with_reducible rfl
      rotate_left
      · simp only [Act.put, List.setIfInBounds_toArray, List.set_cons_zero, List.set_cons_succ, i64_w, i32_w]
        rfl
      refine pure_ (i := 2) (N := some 21) (v := ?_) (a' := ?_) #[true, true, true, false, false, false, false, false, false, false, false, false, false] rfl rfl (by kernel_rfl) (fun _ _ _ h => h) (Or.inl ⟨by rfl, ?_⟩) ?_ ?_
      rotate_left
      · intro w'
        go_simp
        with_reducible rfl
      rotate_left
      · simp only [Act.put, List.setIfInBounds_toArray, List.set_cons_zero, List.set_cons_succ, i64_w, i32_w]
        rfl
      refine take_ (i := 3) (N := some 22) (v := ?_) (a' := ?_) #[true, true, true, true, false, false, false, false, false, false, false, false, false] rfl rfl (by kernel_rfl) (fun _ _ _ h => h) (Or.inl ⟨by rfl, ?_⟩) hHeld ?_ ?_
      rotate_left
      · rintro w' ⟨s0, s1⟩
        go_simp
        with_reducible rfl
      rotate_left
      · simp only [Act.put, List.setIfInBounds_toArray, List.set_cons_zero, List.set_cons_succ, i64_w, i32_w]
        rfl
      refine pure_ (i := 4) (N := some 23) (v := ?_) (a' := ?_) #[true, true, true, true, true, false, false, false, false, false, false, false, false] rfl rfl (by kernel_rfl) (fun _ _ _ h => h) (Or.inl ⟨by rfl, ?_⟩) ?_ ?_
      rotate_left
      · intro w'
        go_simp
        with_reducible rfl
      rotate_left
      · simp only [Act.put, List.setIfInBounds_toArray, List.set_cons_zero, List.set_cons_succ, i64_w, i32_w]
        rfl
      refine pure_ (i := 5) (N := some 24) (v := ?_) (a' := ?_) #[true, true, true, true, true, true, false, false, false, false, false, false, false] rfl rfl (by kernel_rfl) (fun _ _ _ h => h) (Or.inl ⟨by rfl, ?_⟩) ?_ ?_
      rotate_left
      · intro w'
        go_simp
        with_reducible rfl
      rotate_left
      · simp only [Act.put, List.setIfInBounds_toArray, List.set_cons_zero, List.set_cons_succ, i64_w, i32_w]
        rfl
      refine pure_ (i := 6) (N := some 25) (v := ?_) (a' := ?_) #[true, true, true, true, true, true, true, false, false, false, false, false, false] rfl rfl (by kernel_rfl) (fun _ _ _ h => h) (Or.inl ⟨by rfl, ?_⟩) ?_ ?_
      rotate_left
      · intro w'
        go_simp
        with_reducible rfl
      rotate_left
      · simp only [Act.put, List.setIfInBounds_toArray, List.set_cons_zero, List.set_cons_succ, i64_w, i32_w]
        rfl
      refine take_ (i := 7) (N := some 26) (v := ?_) (a' := ?_) #[true, true, true, true, true, true, true, true, false, false, false, false, false] rfl rfl (by kernel_rfl) (fun _ _ _ h => h) (Or.inl ⟨by rfl, ?_⟩) hHeld ?_ ?_
      rotate_left
      · rintro w' ⟨s0, s1⟩
        go_simp
        with_reducible rfl
      rotate_left
      · simp only [Act.put, List.setIfInBounds_toArray, List.set_cons_zero, List.set_cons_succ, i64_w, i32_w]
        rfl
      refine pure_ (i := 8) (N := some 27) (v := ?_) (a' := ?_) #[true, true, true, true, true, true, true, true, true, false, false, false, false] rfl rfl (by kernel_rfl) (fun _ _ _ h => h) (Or.inl ⟨by rfl, ?_⟩) ?_ ?_
      rotate_left
      · intro w'
        go_simp
        with_reducible rfl
      rotate_left
      · simp only [Act.put, List.setIfInBounds_toArray, List.set_cons_zero, List.set_cons_succ, i64_w, i32_w]
        rfl
      refine join_ (σ := Nat × Nat × Nat) 2 #[true, true, true, true, true, true, true, true, true, true, true, false, false] (fun s_ => [(28, .slice (some ⟨s_.1, 0, none⟩) s.size s_.2.2), (29, .slice (some ⟨s_.2.1, 0, none⟩) 1 1)]) (fun s_ w' => Two W1 s s_.1 s_.2.1 s_.2.2 w') ?_ ?_
      rotate_left
      · intro hCont
        refine two_ (i := 9) (j := 10) (Ni := some 28) (Nj := some 29) #[true, true, true, true, true, true, true, true, true, true, false, false, false] #[true, true, true, true, true, true, true, true, true, false, true, false, false] rfl rfl rfl rfl (by kernel_rfl) (by decide) (by decide) (fun K hK => ?_) (fun K hK => ?_)
        · refine value_ (w1 := Lib.bytesWorld W1 5 s) (v := .slice (some ⟨W1.heap.size, 0, none⟩) s.size (grownCap W1 s.size 0 5)) (by rfl) rfl ?_ ?_
          · have kb := print_bytes (P := Try.prog) 9 59 5 Try.underlying9 Try.underlying59 Try.underlying5 s W1
            go_simp
          refine hK.out _ _ ⟨(blk_cell (((bytes_below (Below.refl W1.heap.size W1) (Nat.le_refl _) 5 s).block _ (blk_lt BK1.out)).trans BK1.out) 0).trans rfl, (blk_cell (((bytes_below (Below.refl W1.heap.size W1) (Nat.le_refl _) 5 s).block _ (blk_lt BK1.out)).trans BK1.out) 1).trans rfl⟩ (fun hHeld => ?_)
          clear hK K
          refine norm_ (a' := ?_) ?_ ?_
          rotate_left
          · show Act.put _ (some 28) _ = _
            simp only [Act.put, List.setIfInBounds_toArray, List.set_cons_zero, List.set_cons_succ, i64_w, i32_w]
            rfl
          refine one_ (i := 10) (N := some 29) #[true, true, true, true, true, true, true, true, true, true, true, false, false] rfl rfl (by kernel_rfl) (by decide) (fun K hK => ?_)
          refine value_ (w1 := ?_) (v := ?_) (by rfl) rfl ?_ ?_
          rotate_left 2
          · go_simp
            constructor
            · rfl
            · rfl
          have T := Two.conv W1 s
          refine hK.out _ _ ⟨(blk_cell ((T.below.block _ (blk_lt BK1.out)).trans BK1.out) 0).trans rfl, (blk_cell ((T.below.block _ (blk_lt BK1.out)).trans BK1.out) 1).trans rfl⟩ (fun hHeld => ?_)
          clear hK K
          refine norm_ (a' := ?_) ?_ ?_
          rotate_left
          · show Act.put _ (some 29) _ = _
            simp only [Act.put, List.setIfInBounds_toArray, List.set_cons_zero, List.set_cons_succ, i64_w, i32_w]
            rfl
          exact norm_ (by simp only [putAll, Act.put, List.setIfInBounds_toArray, List.set_cons_zero, List.set_cons_succ]) (hCont (W1.heap.size, (Lib.bytesWorld W1 5 s).heap.size, grownCap W1 s.size 0 5) _ T)
        · refine value_ (w1 := ?_) (v := ?_) (by rfl) rfl ?_ ?_
          rotate_left 2
          · go_simp
            constructor
            · rfl
            · rfl
          refine hK.out _ _ ⟨(blk_cell (((below_alloc (Below.refl _ _) _ : Below W1.heap.size W1 (W1.alloc (.cells #[.int .u8 0] 5))).block _ (blk_lt BK1.out)).trans BK1.out) 0).trans rfl, (blk_cell (((below_alloc (Below.refl _ _) _ : Below W1.heap.size W1 (W1.alloc (.cells #[.int .u8 0] 5))).block _ (blk_lt BK1.out)).trans BK1.out) 1).trans rfl⟩ (fun hHeld => ?_)
          clear hK K
          refine norm_ (a' := ?_) ?_ ?_
          rotate_left
          · show Act.put _ (some 29) _ = _
            simp only [Act.put, List.setIfInBounds_toArray, List.set_cons_zero, List.set_cons_succ, i64_w, i32_w]
            rfl
          refine one_ (i := 9) (N := some 28) #[true, true, true, true, true, true, true, true, true, true, true, false, false] rfl rfl (by kernel_rfl) (by decide) (fun K hK => ?_)
          refine value_ (w1 := Lib.bytesWorld (W1.alloc (.cells #[.int .u8 0] 5)) 5 s) (v := .slice (some ⟨(W1.alloc (.cells #[.int .u8 0] 5)).heap.size, 0, none⟩) s.size (grownCap (W1.alloc (.cells #[.int .u8 0] 5)) s.size 0 5)) (by rfl) rfl ?_ ?_
          · have kb := print_bytes (P := Try.prog) 9 59 5 Try.underlying9 Try.underlying59 Try.underlying5 s (W1.alloc (.cells #[.int .u8 0] 5))
            go_simp
          have T := Two.lit W1 s
          refine hK.out _ _ ⟨(blk_cell ((T.below.block _ (blk_lt BK1.out)).trans BK1.out) 0).trans rfl, (blk_cell ((T.below.block _ (blk_lt BK1.out)).trans BK1.out) 1).trans rfl⟩ (fun hHeld => ?_)
          clear hK K
          refine norm_ (a' := ?_) ?_ ?_
          rotate_left
          · show Act.put _ (some 28) _ = _
            simp only [Act.put, List.setIfInBounds_toArray, List.set_cons_zero, List.set_cons_succ, i64_w, i32_w]
            rfl
          exact norm_ (by simp only [putAll, Act.put, List.setIfInBounds_toArray, List.set_cons_zero, List.set_cons_succ]) (hCont ((W1.alloc (.cells #[.int .u8 0] 5)).heap.size, W1.heap.size, grownCap (W1.alloc (.cells #[.int .u8 0] 5)) s.size 0 5) _ T)
      rintro ⟨g1, g2, cap⟩ W2 T
      have T2 := T.below
      obtain ⟨A, c, W3, hap, hrow, hA, hb3⟩ := run_append_zero hs T
      have BK3 := Aside0.mk ((hb3.block _ (blk_lt BK1.out)).trans BK1.out)
      have HM3 := Aside0.mk (HM1.out.below hb3)
      have HU3 := Aside0.mk (HU1.out.then_ (Upd.of_below hb3 (fun _ => False)) (fun _ hk => hk.elim))
      have HO3 := Aside0.mk (Kd.R_below HO1.out hb3)
      have HR3 := Aside0.mk hrow
      have HA3 := Aside0.mk (show ∀ ad, some A = some ad → ad.block ∉ Lj.map Lp.blk from fun ad e => by cases e; intro hk; obtain ⟨x, hx, e⟩ := List.mem_map.1 hk; have := blk_lt (HM1.out.blk x hx); omega)
      clear hrow hA hb3 T T2 BK1 HM1 HU1 HO1 hHeld
      refine norm_ (a' := ?_) ?_ ?_
      rotate_left
      · simp only [putAll, Act.put, List.setIfInBounds_toArray, List.set_cons_zero, List.set_cons_succ]
        rfl
      refine one_ (i := 11) (N := some 30) #[true, true, true, true, true, true, true, true, true, true, true, true, false] rfl rfl (by kernel_rfl) (by decide) (fun K hK => ?_)
      refine value_ (w1 := W3) (v := .slice (some A) (bytesOf s ++ [0]).length c) (by rfl) rfl ?_ ?_
      · unfold execOp
        simp [resolve, invoke, builtin, Act.eval, Sem.run_bind, Result.andThen, hap]
      refine hK.out _ _ ⟨(blk_cell BK3.out 0).trans rfl, (blk_cell BK3.out 1).trans rfl⟩ (fun hHeld => ?_)
      clear hap
      clear hK K
      refine norm_ (a' := ?_) ?_ ?_
      rotate_left
      · show Act.put _ (some 30) _ = _
        simp only [Act.put, List.setIfInBounds_toArray, List.set_cons_zero, List.set_cons_succ, i64_w, i32_w]
        rfl
      refine one_ (i := 12) (N := some 31) #[true, true, true, true, true, true, true, true, true, true, true, true, true] rfl rfl (by kernel_rfl) (by decide) (fun K hK => ?_)
      refine goes_ Try.func59 (by kernel_rfl) rfl #[.pointer (some ⟨g, 0, none⟩), .int .u64 at_, .slice (some A) (bytesOf s ++ [0]).length c] (by rfl) rfl rfl (by (try simp only [List.map_toArray, List.map_cons, List.map_nil]); first | done | rfl) ?_
      refine (Put_calls HM3.out at_ HAT.out.1 HAT.out.2 (some A) c (bytesOf s ++ [0]) HR3.out HA3.out).mono ?_
      rintro e W4 ⟨rfl, L4, hm4, hl4, hu4⟩
      refine ⟨_, rfl, ?_⟩
      have BK4 := Aside0.mk ((hu4.block _ (blk_lt BK3.out) (HGL.out Lj HL.out)).trans BK3.out)
      have HM4 := Aside0.mk hm4
      have HL4 := Aside0.mk (hl4.trans HL.out)
      have HU4 := Aside0.mk (HU3.out.then_ hu4 (fun k hk => .inl (.inl (inL_eq HL.out hk))))
      have HO4 := Aside0.mk (R_upd HO3.out hu4 (fun k hk => HLT.out k (inL_eq HL.out hk)))
      clear hm4 hl4 hu4 BK3 HM3 HU3 HO3 HR3 HA3 HL
      refine hK.out _ _ ⟨(blk_cell BK4.out 0).trans rfl, (blk_cell BK4.out 1).trans rfl⟩ (fun hHeld => ?_)
      clear hHeld
      clear hK K
      refine norm_ (a' := ?_) ?_ ?_
      rotate_left
      · show Act.put _ (some 31) _ = _
        simp only [Act.put, List.setIfInBounds_toArray, List.set_cons_zero, List.set_cons_succ, i64_w, i32_w]
        rfl
      refine done_ (by kernel_rfl) ?_
      have hc4 := (blk_cell BK4.out 1).trans rfl
      have HG4 := Aside0.mk HM4.out
      go_wp2_with (first | (go_at_call 33; refine (OF.out _ _ _).mono ?_; rintro e W5 ⟨rfl, hb⟩; have BK5 := Aside0.mk (blk_below BK4.out hb); have HM5 := Aside0.mk (HM4.out.below hb); have HU5 := Aside0.mk (HU4.out.then_ (Upd.of_below hb (fun _ => False)) (fun _ hk => hk.elim)); have HO5 := Aside0.mk (Kd.R_below HO4.out hb); clear hb BK4 HM4 HU4 HO4 hc4; generalize hcc : ofC at_ ((s.size : Int) + 1) 1 = cc; have HC := Aside0.mk hcc; clear hcc) | ((with_reducible refine gate_builtin (b := .append) (xs := #[.tmp 32, .tmp 39]) rfl ?_); at_builtin; go_loud (refine Kd.R_append k30 (w0 := W5) w.heap.size rfl (.tmp 32) (.tmp 39) 40 30 (.agg #[.int .u64 0, .int .u64 0, .int .u64 0, .int .i64 0, .int .i64 0, .bool false]) 48 rfl Try.underlying40 info30 rfl (by decide) (by omega) u5 caps cc [.int .u64 cc.f0, .int .u64 cc.f1, .int .u64 cc.f2, .int .i64 cc.f3, .int .i64 cc.f4, .bool cc.f5] (fun _ => True) (fun _ => False) rfl rfl (k30_mkM _ _ _ cc) (fun _ hk => hk.elim) (fun _ _ => trivial) HO5.out (Below.refl _ _) HU5.out.size (by rw [HLN.out]; simp; omega) ?_); intro v6 W6 ho hb hg hat; have HO6 := Aside0.mk ho; have HB6 := Aside0.mk hb; have BK6 := Aside0.mk ((hb.block gl HLG.out).trans BK5.out); have hc6 := (blk_cell BK6.out 1).trans rfl; have hf6 := blk_frozen BK6.out 1; clear ho hb hg hat) | fail)
      have e : textsF m at0 (l0.take (j + 1)) = textStep (mj, at_, caps) s := HT.out
      have HM6 := HM5.out.belowB HB6.out HGM.out.1 HGM.out.2 (fun x hx => HLT.out _ (inL_eq HL4.out (List.mem_map_of_mem hx)))
      have HU6 := HU5.out.then_ (Upd.of_belowB HB6.out) (fun k hk => .inr hk)
      have hset : ∀ u : Value, Upd W6 (W6.setCell ⟨gl, 1, none⟩ u) (· = gl) := fun u => Upd.setCell (S := fun k => k = gl) W6 (p := ⟨gl, 1, none⟩) rfl u
      refine ⟨⟨j + 1, L4, by simp, by omega, ⟨?_⟩, ⟨?_⟩, HL4, ⟨?_⟩, ⟨?_⟩⟩, by simp [intOf]; omega⟩
      · rw [e]
        unfold textStep
        simp only
        rw [HC.out]
        exact R_upd HO6.out (hset _) (fun k hk => by rw [hk]; exact HLG.out)
      · rw [e]
        exact HM6.upd (hset _) (fun e => blk_ne HM6.hd BK6.out (by decide) e) (fun e => by have h1 := HM6.mp; rw [e, BK6.out] at h1; cases h1) (fun x hx e => blk_ne (HM6.blk x hx) BK6.out (by decide) e)
      · rw [e]
        unfold textStep
        simp only
        exact blk_put BK6.out 1 _ rfl
      · exact HU6.then_ (hset _) (fun k hk => .inl (.inr hk))
    · obtain rfl : j = l0.length := by omega
      rw [List.take_length] at HO HM BK
      go_wp2
      go_ret
      exact ⟨_, rfl, HO.out, Lj, HM.out, HL.out, BK.out, HU.out⟩
end Go.Proofs.Ytccndffoljjadaa.P
