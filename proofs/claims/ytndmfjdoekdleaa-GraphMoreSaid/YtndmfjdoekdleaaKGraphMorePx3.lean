/- What functions of the program, and of its laws, give, each proved of its code by a walk; no condition. -/
import Derived.Test.YtndmfjdoekdleaaKGraphMorePx0
import Derived.Test.YtndmfjdoekdleaaKGraphMorePx1
import Derived.Test.YtndmfjdoekdleaaKGraphMorePx2
import Derived.Laws.EntriesVeiled
namespace Go.Proofs.Ytndmfjdoekdleaa.P
open Go.RowKit Go.Proofs.YtndmfjdoekdleaaW.PrintWords Go.Proofs.YtndmfjdoekdleaaW.PrintLast Go.Proofs.YtndmfjdoekdleaaW.PrintMore
attribute [local go_sem] max2_int min2_int max_two min_two max_three min_three max_four min_four   -- for this text's walks alone
set_option linter.unusedVariables false
set_option linter.unusedSimpArgs false

theorem goesC_ {P : Program} {ops : Array Oper} {Q : Exit → Act → World → Prop} {oi : Oper} {N : Option Tmp} {a : Act} {w : World} {K : Act → World → Prop} {f : FuncId} {fn : Func} {x : Operand} {as_ : Array Operand} {ts : Array TypeId} (cap : Array Value) (hf : P.funcs[f]? = some fn) (hname : (fn.name == "runtime.NumGoroutine") = false) (hb : fn.body.isSome = true) (args : Array Value)
    (hw : Region.wanted oi (yielded ops a.tmps) = true) (hN : oi.dst = N) (hop : oi.op = .call { callee := .value x, args := as_, argTypes := ts }) (hx : a.eval x = .func (.func f) #[] cap) (hargs : as_.map a.eval ++ cap = args)
    (h : Calls P f args w fun e w' => ∃ v, e = .returned v ∧ K (a.put N v) w') : if Region.wanted oi (yielded ops a.tmps) = true then Oper.wp P oi a w K Q else K (a.put N undef) w := by
  refine call_ f args hw hN ?_ h
  have he := enters_ hf hname hb args w
  unfold execOp
  simp [hop, resolve, hx, Deferred.ofValue, invoke, hargs, he]
theorem gen_wp {P : Program} {c : Code} {K : Exit → Act → World → Prop} {a : Act} {W : World} {Q : World → Prop} (h : Q W) (k : ∀ W, Q W → c.wp P K a W) : c.wp P K a W := k W h
/-- The two rows' boxes, and what else the closure captured. -/
def StC (B gm gr gl gb go : Nat) (A0 : Option Addr) (n0 c0 : Nat) (A1 : Option Addr) (n1 c1 : Nat) (m o : List Int) (W : World) : Prop :=
  ∃ vm vo, W.heap[gm]? = some (.cells #[vm] 27 (0, 0)) ∧ W.heap[go]? = some (.cells #[vo] 27 (0, 0)) ∧ W.heap[gr]? = some (.cells #[.slice A1 n1 c1] 27 (0, 0)) ∧ W.heap[gl]? = some (.cells #[.slice A0 n0 c0] 22 (0, 0)) ∧
    W.heap[gb]? = some (.cells #[.func (.func 25) #[] #[.pointer (some ⟨gm, 0, none⟩), .pointer (some ⟨gr, 0, none⟩), .pointer (some ⟨gl, 0, none⟩), .pointer (some ⟨gb, 0, none⟩), .pointer (some ⟨go, 0, none⟩)]] 46 (0, 0)) ∧
    (B ≤ gm ∧ B ≤ go) ∧ (gm ≠ go ∧ gm ≠ gr ∧ go ≠ gr) ∧ Rows2 B vm m vo o W
theorem StC.below {B gm gr gl gb go : Nat} {A0 : Option Addr} {n0 c0 : Nat} {A1 : Option Addr} {n1 c1 : Nat} {m o : List Int} {W W' : World} (h : StC B gm gr gl gb go A0 n0 c0 A1 n1 c1 m o W) (hb : Below W.heap.size W W') : StC B gm gr gl gb go A0 n0 c0 A1 n1 c1 m o W' := by
  obtain ⟨vm, vo, h1, h2, h3, h4, h5, h6, h7, h8⟩ := h
  exact ⟨vm, vo, blk_below h1 hb, blk_below h2 hb, blk_below h3 hb, blk_below h4 hb, blk_below h5 hb, h6, h7, h8.below hb⟩
theorem StC.drewN {B gm gr gl gb go : Nat} {A0 : Option Addr} {n0 c0 : Nat} {A1 : Option Addr} {n1 c1 : Nat} {m o : List Int} {W : World} (h : StC B gm gr gl gb go A0 n0 c0 A1 n1 c1 m o W) (n : Nat) : StC B gm gr gl gb go A0 n0 c0 A1 n1 c1 m o (W.drewN n) := h.below (pw_below_drewN (Below.refl _ _) n)
theorem sidx_go (l : List Int) (n : Int) (hl : l.length ≤ 9223372036854775807) : ∀ (d i k : Nat), i + d = l.length → d < k → ∃ r, slices_Index_int_int.l0 k l n l.length i = some r ∧ (decide (r ≥ 0) = hasI (l.drop i) n) := by
  intro d
  induction d with
  | zero =>
    intro i k hi hk
    obtain ⟨k, rfl⟩ : ∃ m, k = m + 1 := ⟨k - 1, by omega⟩
    refine ⟨-1, ?_, ?_⟩
    · rw [slices_Index_int_int.l0, if_neg (by omega)]
    · rw [List.drop_eq_nil_of_le (by omega)]; rfl
  | succ d ih =>
    intro i k hi hk
    obtain ⟨k, rfl⟩ : ∃ m, k = m + 1 := ⟨k - 1, by omega⟩
    have hlt : i < l.length := by omega
    have e : rd l (i : Int) = l[i] := by simp [rd, List.getD_eq_getElem?_getD, List.getElem?_eq_getElem hlt]
    rw [slices_Index_int_int.l0, if_pos (by omega), if_pos (by omega), if_pos (by omega), e, wrap_up (by omega) (by omega), List.drop_eq_getElem_cons hlt]
    unfold hasI
    rw [List.contains_cons]
    by_cases h : n = l[i]
    · rw [if_pos h]
      refine ⟨_, rfl, ?_⟩
      rw [h]; simp
    · rw [if_neg h, show ((i : Int) + 1) = ((i + 1 : Nat) : Int) by omega]
      obtain ⟨r, h1, h2⟩ := ih (i + 1) k (by omega) (by omega)
      refine ⟨r, h1, ?_⟩
      rw [h2, beq_eq_false_iff_ne.2 h, Bool.false_or]; rfl
theorem contains_is (l : List Int) (n : Int) (hl : l.length ≤ 9223372036854775807) (k : Nat) (hk : l.length < k) : slices_Contains_int_int.f k l n = some (hasI l n) := by
  obtain ⟨r, h1, h2⟩ := sidx_go l n hl l.length 0 k (by omega) hk
  have h1' : slices_Index_int_int.l0 k l n l.length 0 = some r := h1
  unfold slices_Contains_int_int.f slices_Index_int_int.f
  rw [h1']
  simp only [Option.bind_some, h2, List.drop_zero]
def BeginPost (w0 : World) (gm gr gl gb go : Nat) (A0 : Option Addr) (n0 c0 : Nat) (A1 : Option Addr) (n1 c1 : Nat) (m o : List Int) (e : Ending) (W' : World) : Prop := e = .returned (.tuple #[]) ∧ Below w0.heap.size w0 W' ∧ StC w0.heap.size gm gr gl gb go A0 n0 c0 A1 n1 c1 m o W'
set_option maxHeartbeats 4000000 in
set_option maxRecDepth 100000 in
theorem begin_calls : ∀ (k : Nat) (w0 : World) (A0 : Option Addr) (c0 : Nat) (l0 : List S29) (A1 : Option Addr) (c1 : Nat) (ord : List Int) (hr0 : Kd.C k29 w0 A0 l0.length l0) (hc0 : l0.length ≤ c0) (hr1 : Kd.C (Kd.int .i64) w0 A1 ord.length ord) (hc1 : ord.length ≤ c1) (gm gr gl gb go : Nat) (i : Int) (m o m' o' : List Int) (W : World) (hb : Below w0.heap.size w0 W) (hs : StC w0.heap.size gm gr gl gb go A0 l0.length c0 A1 ord.length c1 m o W) (h : vis k l0 ord i m o = some (m', o')),
    Calls Try.prog 25 #[.int .i64 i, .pointer (some ⟨gm, 0, none⟩), .pointer (some ⟨gr, 0, none⟩), .pointer (some ⟨gl, 0, none⟩), .pointer (some ⟨gb, 0, none⟩), .pointer (some ⟨go, 0, none⟩)] W (BeginPost w0 gm gr gl gb go A0 l0.length c0 A1 ord.length c1 m' o') := by
  intro k
  induction k with
  | zero => intro w0 A0 c0 l0 A1 c1 ord hr0 hc0 hr1 hc1 gm gr gl gb go i m o m' o' W hb hs h; cases h
  | succ k ih =>
    intro w0 A0 c0 l0 A1 c1 ord hr0 hc0 hr1 hc1 gm gr gl gb go i m o m' o' W hb hs h
    have IH := Aside0.mk ih
    clear ih
    have HR0 := Aside0.mk hr0
    have HC0 := Aside0.mk hc0
    have HR1 := Aside0.mk hr1
    have HC1 := Aside0.mk hc1
    have HB := Aside0.mk hb
    have hlen0 : l0.length ≤ 9223372036854775807 := hr0.2.1
    have hlen1 : ord.length ≤ 9223372036854775807 := hr1.2.1
    clear hr0 hc0 hr1 hc1 hb
    rw [vis] at h
    obtain ⟨vm, vo, hgm, hgo, hgr, hgl, hgb, hgB, hne, h2⟩ := hs
    obtain ⟨Am, cm, e1⟩ := Kd.R_slice h2.1
    subst e1
    obtain ⟨Ao, co, e1⟩ := Kd.R_slice h2.2
    subst e1
    have rm := Kd.R_reads' h2.1
    have HRM := Aside0.mk rm.2.2
    have HCM := Aside0.mk rm.2.1
    have hm0 := blk_cell hgm 0
    have ho0 := blk_cell hgo 0
    have hr0 := blk_cell hgr 0
    have hl0 := blk_cell hgl 0
    have hb0 := blk_cell hgb 0
    have hmf := blk_frozen hgm 0
    have hof := blk_frozen hgo 0
    have HGM := Aside0.mk hgm
    have HGO := Aside0.mk hgo
    have HGR := Aside0.mk hgr
    have HGL := Aside0.mk hgl
    have HGC := Aside0.mk hgb
    have H2 := Aside0.mk h2
    have HGB := Aside0.mk hgB
    have HNE := Aside0.mk hne
    clear hgm hgo hgr hgl hgb h2 rm hgB hne
    have EO := Aside0.mk (contains_is ord i hlen1 (ord.length + 1) (by omega))
    have hlenm : m.length ≤ 9223372036854775807 := HRM.out.2.1
    have EM := Aside0.mk (contains_is m i hlenm (m.length + 1) (by omega))
    have HSS := Aside0.mk (show StC w0.heap.size gm gr gl gb go A0 l0.length c0 A1 ord.length c1 m o W from ⟨_, _, HGM.out, HGO.out, HGR.out, HGL.out, HGC.out, HGB.out, HNE.out, H2.out⟩)
    by_cases h1 : i < 0
    · rw [if_pos h1] at h
      have h1b : decide (i < 0) = true := decide_eq_true h1
      obtain ⟨rfl, rfl⟩ := Prod.mk.inj (Option.some.inj h)
      clear h h1
      go_enter Try.func25, Try.ntmps25
      go_wp2
      go_end0
      exact ⟨rfl, HB.out, HSS.out⟩
    · rw [if_neg h1] at h
      have h1b : decide (i < 0) = false := decide_eq_false h1
      have p1 : 0 ≤ i := by omega
      clear h1
      cases h4 : hasI m i with
      | true =>
        have E2 := Aside0.mk (EM.out.trans (congrArg some h4))
        have hmo : m' = m ∧ o' = o := by
          rw [h4] at h
          cases h3 : hasI ord i with
          | true => rw [h3] at h; simp at h; exact ⟨h.1.symm, h.2.symm⟩
          | false => rw [h3] at h; simp at h; exact ⟨h.1.symm, h.2.symm⟩
        obtain ⟨rfl, rfl⟩ := hmo
        clear h h4 EM EO
        go_enter Try.func25, Try.ntmps25
        go_wp2_with (first | (go_at_call 24; (with_reducible refine (slices_Contains_int_int.calls (m'.length + 1) _ _ m' i _ _ ?side1 ?side2 E2.out).mono ?_); (case side1 => exact HRM.out); (case side2 => exact HCM.out); rintro e w' ⟨rfl, ⟨nd, rfl⟩⟩))
        go_end0
        exact ⟨rfl, by repeat (first | exact HB.out | apply pw_below_drewN), by repeat (first | exact HSS.out | apply StC.drewN)⟩
      | false =>
        have E2 := Aside0.mk (EM.out.trans (congrArg some h4))
        cases h3 : hasI ord i with
        | false =>
          have E1 := Aside0.mk (EO.out.trans (congrArg some h3))
          rw [if_pos h3] at h
          obtain ⟨rfl, rfl⟩ := Prod.mk.inj (Option.some.inj h)
          clear h h3 h4 EM EO
          go_enter Try.func25, Try.ntmps25
          go_wp2_with (first | (go_at_call 24; (with_reducible refine (slices_Contains_int_int.calls (m.length + 1) _ _ m i _ _ ?side1 ?side2 E2.out).mono ?_); (case side1 => exact HRM.out); (case side2 => exact HCM.out); rintro e w' ⟨rfl, ⟨nd, rfl⟩⟩) | (go_at_call 24; (with_reducible refine (slices_Contains_int_int.calls (ord.length + 1) _ _ ord i _ _ ?side1 ?side2 E1.out).mono ?_); (case side1 => exact Kd.C_drewN (Kd.C_below HR1.out HB.out) _); (case side2 => exact HC1.out); rintro e w' ⟨rfl, ⟨nd2, rfl⟩⟩))
          go_end0
          exact ⟨rfl, by repeat (first | exact HB.out | apply pw_below_drewN), by repeat (first | exact HSS.out | apply StC.drewN)⟩
        | true =>
          have E1 := Aside0.mk (EO.out.trans (congrArg some h3))
          rw [if_neg (by simp [h3]), if_neg (by simp [h4])] at h
          clear h3 h4 EM EO
          by_cases h5 : i < (l0.length : Int)
          · rw [if_pos h5] at h
            by_cases h6 : m.length < 17592186044416
            · rw [if_pos h6] at h
              obtain ⟨⟨m1, o1⟩, hf, h⟩ := Option.bind_eq_some_iff.1 h
              simp only at h
              by_cases h7 : o1.length < 17592186044416
              · rw [if_pos h7] at h
                obtain ⟨rfl, rfl⟩ := Prod.mk.inj (Option.some.inj h)
                have HF := Aside0.mk hf
                have H5 := Aside0.mk h5
                have H6 := Aside0.mk h6
                have H7 := Aside0.mk h7
                clear h hf h5 h6 h7 HSS
                go_enter Try.func25, Try.ntmps25
                go_upto_region 2 with (first | (go_at_call 24; (with_reducible refine (slices_Contains_int_int.calls (m.length + 1) _ _ m i _ _ ?side1 ?side2 E2.out).mono ?_); (case side1 => exact HRM.out); (case side2 => exact HCM.out); rintro e w' ⟨rfl, ⟨nd, rfl⟩⟩) | (go_at_call 24; (with_reducible refine (slices_Contains_int_int.calls (ord.length + 1) _ _ ord i _ _ ?side1 ?side2 E1.out).mono ?_); (case side1 => exact Kd.C_drewN (Kd.C_below HR1.out HB.out) _); (case side2 => exact HC1.out); rintro e w' ⟨rfl, ⟨nd2, rfl⟩⟩) | ((with_reducible refine gate_builtin (b := .append) (xs := #[.tmp 22, .tmp 24]) rfl ?_); at_builtin; refine Kd.R_append (Kd.int .i64) (w0 := w0) w0.heap.size rfl (.tmp 22) (.tmp 24) 27 3 (.int .i64 0) 8 rfl Try.underlying27 info3 rfl (by decide) (by omega) (.slice Am m.length cm) m i [.int .i64 i] (fun k => some k ≠ (Value.slice Ao o.length co).ownBlock) (fun _ => False) rfl rfl ?aP (fun _ hk => hk.elim) ?aF ?aO ?aB ?aS ?aL ?_; (case aP => exact rfl); (case aB => exact (by repeat (first | exact HB.out | apply pw_below_drewN))); (case aF => exact (H2.out.fresh)); (case aO => exact (by repeat (first | exact H2.out.1 | apply Kd.R_drewN))); (case aS => exact (below_size (by repeat (first | exact HB.out | apply pw_below_drewN)))); (case aL => have := H6.out; omega); intro v1 w1 ho hb1 hgg hat; obtain ⟨Am1, cm1, em1⟩ := Kd.R_slice ho; subst em1; have n0_ := Aside0.mk (blk_grown (g := gm) (o := .cells #[.slice Am m.length cm] 27 (0, 0)) (by repeat (first | exact HGM.out | refine blk_drewN ?_ _)) hgg (Kd.R_ne H2.out.1 HGM.out (by decide))); have n1_ := Aside0.mk (blk_grown (g := go) (o := .cells #[.slice Ao o.length co] 27 (0, 0)) (by repeat (first | exact HGO.out | refine blk_drewN ?_ _)) hgg (Kd.R_ne H2.out.1 HGO.out (by decide))); have n2_ := Aside0.mk (blk_grown (g := gr) (o := .cells #[.slice A1 ord.length c1] 27 (0, 0)) (by repeat (first | exact HGR.out | refine blk_drewN ?_ _)) hgg (Kd.R_ne H2.out.1 HGR.out (by decide))); have n3_ := Aside0.mk (blk_grown (g := gl) (by repeat (first | exact HGL.out | refine blk_drewN ?_ _)) hgg (Kd.R_ne H2.out.1 HGL.out (by decide))); have n4_ := Aside0.mk (blk_grown (g := gb) (by repeat (first | exact HGC.out | refine blk_drewN ?_ _)) hgg (Kd.R_ne H2.out.1 HGC.out (by decide))); have n5_ := Aside0.mk (Rows2.appended (by repeat (first | exact H2.out | refine Rows2.below ?_ (pw_below_drewN (Below.refl _ _) _))) ho hgg hat); clear HGM HGO HGR HGL HGC H2 HB hm0 ho0 hr0 hl0 hb0 hmf hof ho hgg hat HRM HCM E2; have HGM := n0_; have HGO := n1_; have HGR := n2_; have HGL := n3_; have HGC := n4_; have H2 := n5_; have HB := Aside0.mk hb1; clear n0_ n1_ n2_ n3_ n4_ n5_ hb1; have hm0 := blk_cell HGM.out 0; have ho0 := blk_cell HGO.out 0; have hr0 := blk_cell HGR.out 0; have hl0 := blk_cell HGL.out 0; have hb0 := blk_cell HGC.out 0; have hmf := blk_frozen HGM.out 0; have hof := blk_frozen HGO.out 0))
                have hll : (m ++ [i]).length = m.length + 1 := by simp
                have H2' := H2.out
                rw [hll] at H2'
                refine gen_wp (Q := fun Wq => StC w0.heap.size gm gr gl gb go A0 l0.length c0 A1 ord.length c1 (m ++ [i]) o Wq ∧ Below w0.heap.size w0 Wq)
                  ⟨⟨_, _, blk_put HGM.out 0 _ rfl, blk_far HGO.out (Ne.symm HNE.out.1) _, blk_far HGR.out (Ne.symm HNE.out.2.1) _, blk_far HGL.out (blk_ne HGL.out HGM.out (by decide)) _, blk_far HGC.out (blk_ne HGC.out HGM.out (by decide)) _, HGB.out, HNE.out, H2'.set HGM.out (by decide) 0 _⟩, below_set HB.out HGB.out.1⟩ ?_
                rintro wq ⟨hsq, hbq⟩
                clear hll H2' HGM HGO HGR HGL HGC H2 HB hm0 ho0 hr0 hl0 hb0 hmf hof
                have HS0 := Aside0.mk hsq
                have HB0 := Aside0.mk hbq
                obtain ⟨vm2, vo2, hgm, hgo, hgr, hgl, hgb, _, _, _⟩ := hsq
                have hl0 := blk_cell hgl 0
                clear hgm hgo hgr hgl hgb hbq
                obtain ⟨ad, A1_, c1_, A2_, c2_, A3_, c3_, A4_, c4_, A5_, c5_, A6_, c6_, eA, hx0, hx1, hx2, hx3, hx4, hx5, hx6, hl1, hi1, hl2, hi2, hl3, hi3, hl4, hi4, hl5, hi5, hl6, hi6⟩ := at_T29 HR0.out i p1 H5.out
                cases eA
                have hx1 := (HB0.out.cell (World.block_lt_of_cell? w0 _ hx1)).trans hx1
                generalize hxx : (rd_T29 l0 i).f1 = ned at *
                have HX := Aside0.mk hxx
                clear hxx hx0 hx2 hx3 hx4 hx5 hx6 hl2 hi2 hl3 hi3 hl4 hi4 hl5 hi5 hl6 hi6
                have q1 := H5.out
                have hnl : ned.length ≤ 9223372036854775807 := hi1.2.1
                have HI1 := Aside0.mk hi1
                clear hi1
                go_wp2
                clear hx1 hl0
                go_loopw [32] (fun v32 wr => ∃ (j : Nat) (mj oj : List Int), v32 = .int .i64 j ∧ j ≤ ned.length ∧ Aside0 ((ned.drop j).foldlM (fun (s : List Int × List Int) n => vis k l0 ord (firstAt (isNm n) l0) s.1 s.2) (mj, oj) = some (m1, o1)) ∧ Aside0 (StC w0.heap.size gm gr gl gb go (some ad) l0.length c0 A1 ord.length c1 mj oj wr) ∧ Aside0 (Below w0.heap.size w0 wr)) (fun v32 _ => ned.length - (intOf v32).toNat)
                case atStart => exact ⟨0, m ++ [i], o, rfl, Nat.zero_le _, HF, HS0, HB0⟩
                case round =>
                  clear HF HS0 HB0
                  obtain ⟨j, mj, oj, rfl, hj, HF, HS, HB⟩ := hrel
                  by_cases hlt : j < ned.length
                  · obtain ⟨ad2, eB, hy⟩ := Kd.at_string (Kd.C_below HI1.out HB.out) (j : Int) (by omega) (by omega)
                    cases eB
                    simp only [Int.toNat_natCast] at hy
                    have hf := HF.out
                    clear HF
                    rw [List.drop_eq_getElem_cons hlt, List.foldlM_cons] at hf
                    have ey : rdOf ByteArray.empty ned (j : Int) = ned[j] := by simp [rdOf, List.getD_eq_getElem?_getD, List.getElem?_eq_getElem hlt]
                    rw [ey] at hy
                    generalize hnj : ned[j] = nj at *
                    obtain ⟨⟨mj1, oj1⟩, hv, hf⟩ := Option.bind_eq_some_iff.1 hf
                    have HV := Aside0.mk hv
                    have HF := Aside0.mk hf
                    clear hv hf ey hnj
                    obtain ⟨vm2, vo2, hgm, hgo, hgr, hgl, hgb, _, _, _⟩ := HS.out
                    have hl0 := blk_cell hgl 0
                    have hb0 := blk_cell hgb 0
                    clear hgm hgo hgr hgl hgb
                    go_wp2
                    refine start_ (n := 5) (S := fun w' => w'.cell? ⟨gb, 0, none⟩ = some (.func (.func 25) #[] #[.pointer (some ⟨gm, 0, none⟩), .pointer (some ⟨gr, 0, none⟩), .pointer (some ⟨gl, 0, none⟩), .pointer (some ⟨gb, 0, none⟩), .pointer (some ⟨go, 0, none⟩)]) ∧ w'.cell? ⟨gl, 0, none⟩ = some (.slice (some ad) l0.length c0)) (ds := [4]) #[false, false, false, false, false] (by kernel_rfl) rfl rfl ⟨hb0, hl0⟩ (fun hHeld => ?_)
                    have HSd := Aside0.mk (HS.out.below (below_drew (Below.refl _ _)))
                    have HBd := Aside0.mk (below_drew HB.out)
                    clear HS HB hl0 hb0 hy
                    generalize wr.drew = wd at HSd HBd hHeld ⊢
                    refine take_ (i := 0) (N := some 36) (v := ?_) (a' := ?_) #[true, false, false, false, false] rfl rfl (by kernel_rfl) (fun _ _ _ h => h) (Or.inl ⟨by rfl, ?_⟩) hHeld ?_ ?_
                    rotate_left
                    · rintro w' ⟨s0, s1⟩
                      go_simp
                      with_reducible rfl
                    rotate_left
                    · simp only [Act.put, List.setIfInBounds_toArray, List.set_cons_zero, List.set_cons_succ, i64_w, i32_w]
                      rfl
                    refine take_ (i := 1) (N := some 37) (v := ?_) (a' := ?_) #[true, true, false, false, false] rfl rfl (by kernel_rfl) (fun _ _ _ h => h) (Or.inl ⟨by rfl, ?_⟩) hHeld ?_ ?_
                    rotate_left
                    · rintro w' ⟨s0, s1⟩
                      go_simp
                      with_reducible rfl
                    rotate_left
                    · simp only [Act.put, List.setIfInBounds_toArray, List.set_cons_zero, List.set_cons_succ, i64_w, i32_w]
                      rfl
                    refine pure_ (i := 2) (N := some 38) (v := ?_) (a' := ?_) #[true, true, true, false, false] rfl rfl (by kernel_rfl) (fun _ _ _ h => h) (Or.inl ⟨by rfl, ?_⟩) ?_ ?_
                    rotate_left
                    · intro w'
                      go_simp
                      with_reducible rfl
                    rotate_left
                    · simp only [Act.put, List.setIfInBounds_toArray, List.set_cons_zero, List.set_cons_succ, i64_w, i32_w]
                      rfl
                    refine one_ (i := 3) (N := some 39) #[true, true, true, true, false] rfl rfl (by kernel_rfl) (by decide) (fun K hK => ?_)
                    refine goes_ Try.func21 (by kernel_rfl) rfl #[.slice (some ad) l0.length c0, .string nj] (by rfl) rfl rfl (by (try simp only [List.map_toArray, List.map_cons, List.map_nil]); first | done | rfl) ?_
                    refine (graph_Find.calls (some ad) c0 l0 nj (firstAt (isNm nj) l0) _ (Kd.C_below HR0.out HBd.out) HC0.out rfl).mono ?_
                    rintro e w9 ⟨rfl, hb⟩
                    refine ⟨_, rfl, ?_⟩
                    have HS9 := Aside0.mk (HSd.out.below hb)
                    have HB9 := Aside0.mk (below_step HBd.out hb)
                    clear HSd HBd hHeld hb
                    have hK9 := HS9.out
                    obtain ⟨vm3, vo3, _, _, _, hgl, hgb, _, _, _⟩ := hK9
                    refine hK.out _ _ ⟨blk_cell hgb 0, blk_cell hgl 0⟩ (fun hHeld => ?_)
                    clear hK K hgl hgb
                    refine last_ (i := 4) (N := some 40) #[true, true, true, true, true] rfl rfl (by kernel_rfl) (by decide) (fun K hK => ?_)
                    refine goesC_ #[.pointer (some ⟨gm, 0, none⟩), .pointer (some ⟨gr, 0, none⟩), .pointer (some ⟨gl, 0, none⟩), .pointer (some ⟨gb, 0, none⟩), .pointer (some ⟨go, 0, none⟩)] Try.func25 (by kernel_rfl) rfl #[.int .i64 (firstAt (isNm nj) l0), .pointer (some ⟨gm, 0, none⟩), .pointer (some ⟨gr, 0, none⟩), .pointer (some ⟨gl, 0, none⟩), .pointer (some ⟨gb, 0, none⟩), .pointer (some ⟨go, 0, none⟩)] (by rfl) rfl rfl (by rfl) (by simp; rfl) ?_
                    refine (IH.out w0 (some ad) c0 l0 A1 c1 ord HR0.out HC0.out HR1.out HC1.out gm gr gl gb go (firstAt (isNm nj) l0) mj oj mj1 oj1 _ HB9.out HS9.out HV.out).mono ?_
                    rintro e w10 ⟨rfl, hb9, hs9⟩
                    refine ⟨_, rfl, ?_⟩
                    refine hK.out _ _ ?_
                    clear hK K
                    refine done_ (by kernel_rfl) ?_
                    go_wp2
                    go_roundw
                    case rel => exact ⟨j + 1, mj1, oj1, by go_num, by omega, HF, ⟨hs9⟩, ⟨hb9⟩⟩
                    case measure => simp [intOf]; omega
                  · have ej : ned.drop j = [] := List.drop_eq_nil_of_le (by omega)
                    have hf := HF.out
                    rw [ej] at hf
                    obtain ⟨rfl, rfl⟩ := Prod.mk.inj (Option.some.inj hf)
                    obtain ⟨vm2, vo2, hgm, hgo, hgr, hgl, hgb, hgB, hne, h2⟩ := HS.out
                    obtain ⟨Am2, cm2, e1⟩ := Kd.R_slice h2.1
                    subst e1
                    obtain ⟨Ao2, co2, e1⟩ := Kd.R_slice h2.2
                    subst e1
                    have ho0 := blk_cell hgo 0
                    have hof := blk_frozen hgo 0
                    have HGM := Aside0.mk hgm
                    have HGO := Aside0.mk hgo
                    have HGR := Aside0.mk hgr
                    have HGL := Aside0.mk hgl
                    have HGC := Aside0.mk hgb
                    have H2 := Aside0.mk h2
                    clear hgm hgo hgr hgl hgb h2 hf ej HF HS hgB hne
                    go_wp2_with (first | ((with_reducible refine gate_builtin (b := .append) (xs := #[.tmp 42, .tmp 44]) rfl ?_); at_builtin; refine Kd.R_append (Kd.int .i64) (w0 := w0) w0.heap.size rfl (.tmp 42) (.tmp 44) 27 3 (.int .i64 0) 8 rfl Try.underlying27 info3 rfl (by decide) (by omega) (.slice Ao2 oj.length co2) oj i [.int .i64 i] (fun k => some k ≠ (Value.slice Am2 mj.length cm2).ownBlock) (fun _ => False) rfl rfl ?aP (fun _ hk => hk.elim) ?aF ?aO ?aB ?aS ?aL ?_; (case aP => exact rfl); (case aB => exact HB.out); (case aF => exact (H2.out.flip.fresh)); (case aO => exact H2.out.2); (case aS => exact (below_size HB.out)); (case aL => have := H7.out; omega); intro v1 w1 ho hb1 hgg hat; obtain ⟨Am1, cm1, em1⟩ := Kd.R_slice ho; subst em1; have n0_ := Aside0.mk (blk_grown (g := gm) (o := .cells #[.slice Am2 mj.length cm2] 27 (0, 0)) HGM.out hgg (Kd.R_ne H2.out.2 HGM.out (by decide))); have n1_ := Aside0.mk (blk_grown (g := go) (o := .cells #[.slice Ao2 oj.length co2] 27 (0, 0)) HGO.out hgg (Kd.R_ne H2.out.2 HGO.out (by decide))); have n2_ := Aside0.mk (blk_grown (g := gr) (o := .cells #[.slice A1 ord.length c1] 27 (0, 0)) HGR.out hgg (Kd.R_ne H2.out.2 HGR.out (by decide))); have n3_ := Aside0.mk (blk_grown (g := gl) HGL.out hgg (Kd.R_ne H2.out.2 HGL.out (by decide))); have n4_ := Aside0.mk (blk_grown (g := gb) HGC.out hgg (Kd.R_ne H2.out.2 HGC.out (by decide))); have n5_ := Aside0.mk (Rows2.appended H2.out.flip ho hgg hat); clear HGM HGO HGR HGL HGC H2 HB ho0 hof ho hgg hat; have HGM := n0_; have HGO := n1_; have HGR := n2_; have HGL := n3_; have HGC := n4_; have H2 := n5_; have HB := Aside0.mk hb1; clear n0_ n1_ n2_ n3_ n4_ n5_ hb1; have ho0 := blk_cell HGO.out 0; have hof := blk_frozen HGO.out 0))
                    go_end0
                    have hll : (oj ++ [i]).length = oj.length + 1 := by simp
                    have H2' := H2.out
                    rw [hll] at H2'
                    exact ⟨rfl, below_set HB.out HGB.out.2, _, _, blk_far HGM.out HNE.out.1 _, blk_put HGO.out 0 _ rfl, blk_far HGR.out (Ne.symm HNE.out.2.2) _, blk_far HGL.out (blk_ne HGL.out HGO.out (by decide)) _, blk_far HGC.out (blk_ne HGC.out HGO.out (by decide)) _, HGB.out, HNE.out, (H2'.set HGO.out (by decide) 0 _).flip⟩
              · rw [if_neg h7] at h; cases h
            · rw [if_neg h6] at h; cases h
          · rw [if_neg h5] at h; cases h
def graph_Begin.f (l0 : List S29) (l1 : List Int) : Option (List Int) := begs l0 l1
set_option maxHeartbeats 2000000 in
set_option maxRecDepth 100000 in
theorem graph_Begin.calls (A0 : Option Addr) (c0 : Nat) (l0 : List S29) (A1 : Option Addr) (c1 : Nat) (l1 : List Int) (r : List Int) (w : World) (hr0 : Kd.C k29 w A0 l0.length l0) (hc0 : l0.length ≤ c0) (hr1 : Kd.C (Kd.int .i64) w A1 l1.length l1) (hc1 : l1.length ≤ c1) (h : graph_Begin.f l0 l1 = some r) :
    Calls Try.prog 11 #[.slice A0 l0.length c0, .slice A1 l1.length c1] w fun e w' => ∃ v0_ : Value, e = .returned (v0_) ∧ Kd.R (Kd.int .i64) 3 w' w.heap.size (fun _ => True) v0_ r ∧ Below w.heap.size w w' := by
  have HR0 := Aside0.mk hr0
  have HC0 := Aside0.mk hc0
  have HR1 := Aside0.mk hr1
  have HC1 := Aside0.mk hc1
  have hlen1 : l1.length ≤ 9223372036854775807 := hr1.2.1
  clear hr0 hc0 hr1 hc1
  obtain ⟨⟨mz, oz⟩, hf, h⟩ := Option.bind_eq_some_iff.1 h
  obtain rfl := Option.some.inj h
  have HF := Aside0.mk hf
  clear hf h
  have hmf : ∀ (fn : Fn) (first cap : Array Value) (w : World), (Instr.makeFunc fn first cap).run Try.prog w = .ok (.func fn first cap) w := fun _ _ _ _ => rfl
  go_enter Try.func11, Try.ntmps11
  go_upto_region 4 with (fail)
  have hsz : ∀ (W : World) (o : Obj), (W.alloc o).heap.size = W.heap.size + 1 := fun W o => by unfold World.alloc; exact Array.size_push _
  refine gen_wp (Q := fun Wq => StC w.heap.size (w.heap.size + 1 + 1 + 1) (w.heap.size + 1) w.heap.size (w.heap.size + 1 + 1 + 1 + 1) (w.heap.size + 1 + 1) A0 l0.length c0 A1 l1.length c1 [] [] Wq ∧ Below w.heap.size w Wq)
    ⟨⟨.slice none 0 0, .slice none 0 0, ?h1, ?h2, ?h3, ?h4, ?h5, ⟨by omega, by omega⟩, ⟨by omega, by omega, by omega⟩, Rows2.nil _ _⟩, ?h6⟩ ?_
  case h1 => exact blk_alloc (by have := blk_new (((w.alloc (.cells #[Value.slice A0 l0.length c0] 22)).alloc (.cells #[Value.slice A1 l1.length c1] 27)).alloc (.cells #[Value.slice none 0 0] 27)) (.cells #[Value.slice none 0 0] 27); simpa only [hsz] using this) _
  case h2 => exact blk_alloc (blk_alloc (by have := blk_new ((w.alloc (.cells #[Value.slice A0 l0.length c0] 22)).alloc (.cells #[Value.slice A1 l1.length c1] 27)) (.cells #[Value.slice none 0 0] 27); simpa only [hsz] using this) _) _
  case h3 => exact blk_alloc (blk_alloc (blk_alloc (by have := blk_new (w.alloc (.cells #[Value.slice A0 l0.length c0] 22)) (.cells #[Value.slice A1 l1.length c1] 27); simpa only [hsz] using this) _) _) _
  case h4 => exact blk_alloc (blk_alloc (blk_alloc (blk_alloc (blk_new w (.cells #[Value.slice A0 l0.length c0] 22)) _) _) _) _
  case h5 =>
    refine Eq.trans ?_ (blk_new ((((w.alloc (.cells #[Value.slice A0 l0.length c0] 22)).alloc (.cells #[Value.slice A1 l1.length c1] 27)).alloc (.cells #[Value.slice none 0 0] 27)).alloc (.cells #[Value.slice none 0 0] 27)) _)
    simp only [hsz]
  case h6 => exact below_alloc (below_alloc (below_alloc (below_alloc (below_alloc (Below.refl _ _) _) _) _) _) _
  rintro wq ⟨hsq, hbq⟩
  have HS0 := Aside0.mk hsq
  have HB0 := Aside0.mk hbq
  obtain ⟨_, _, _, _, hgr, _, _, _, _, _⟩ := hsq
  have hr0 := blk_cell hgr 0
  clear hgr hbq hsz
  generalize w.heap.size + 1 + 1 + 1 + 1 = gb at *
  generalize w.heap.size + 1 + 1 + 1 = gm at *
  generalize w.heap.size + 1 + 1 = go at *
  generalize w.heap.size + 1 = gr at *
  go_wp2
  clear hr0
  go_loopw [13] (fun v13 wr => ∃ (j : Nat) (mj oj : List Int), v13 = .int .i64 j ∧ j ≤ l1.length ∧ Aside0 ((l1.drop j).foldlM (fun (s : List Int × List Int) i => vis (l0.length + 2) l0 l1 i s.1 s.2) (mj, oj) = some (mz, oz)) ∧ Aside0 (StC w.heap.size gm gr w.heap.size gb go A0 l0.length c0 A1 l1.length c1 mj oj wr) ∧ Aside0 (Below w.heap.size w wr)) (fun v13 _ => l1.length - (intOf v13).toNat)
  case atStart => exact ⟨0, [], [], rfl, Nat.zero_le _, HF, HS0, HB0⟩
  case round =>
    clear HF HS0 HB0
    obtain ⟨j, mj, oj, rfl, hj, HF, HS, HB⟩ := hrel
    by_cases hlt : j < l1.length
    · obtain ⟨ad2, eB, hy⟩ := Kd.at_int (Kd.C_below HR1.out HB.out) (j : Int) (by omega) (by omega)
      cases eB
      simp only [Int.toNat_natCast] at hy
      have hf := HF.out
      clear HF
      rw [List.drop_eq_getElem_cons hlt, List.foldlM_cons] at hf
      have ey : rd l1 (j : Int) = l1[j] := by simp [rd, List.getD_eq_getElem?_getD, List.getElem?_eq_getElem hlt]
      rw [ey] at hy
      generalize hnj : l1[j] = nj at *
      obtain ⟨⟨mj1, oj1⟩, hv, hf⟩ := Option.bind_eq_some_iff.1 hf
      have HV := Aside0.mk hv
      have HF := Aside0.mk hf
      clear hv hf ey hnj
      have hs := HS.out
      obtain ⟨_, _, _, _, _, _, hgb, _, _, _⟩ := hs
      have hb0 := blk_cell hgb 0
      clear hgb
      go_wp2_with (go_at_call 25; refine (begin_calls (l0.length + 2) w A0 c0 l0 _ c1 l1 HR0.out HC0.out HR1.out HC1.out gm gr w.heap.size gb go nj mj oj mj1 oj1 _ HB.out HS.out HV.out).mono ?_; rintro e w' ⟨rfl, hb9, hs9⟩)
      go_roundw
      case rel => exact ⟨j + 1, mj1, oj1, by go_num, by omega, HF, ⟨hs9⟩, ⟨hb9⟩⟩
      case measure => simp [intOf]; omega
    · have ej : l1.drop j = [] := List.drop_eq_nil_of_le (by omega)
      have hf := HF.out
      rw [ej] at hf
      obtain ⟨rfl, rfl⟩ := Prod.mk.inj (Option.some.inj hf)
      obtain ⟨_, vo2, _, hgo, _, _, _, _, _, h2⟩ := HS.out
      have ho0 := blk_cell hgo 0
      have H2 := Aside0.mk h2
      clear hgo h2 hf ej HF HS
      go_wp2
      go_ret
      exact ⟨_, rfl, Kd.R_mono H2.out.2 (fun _ _ => trivial), HB.out⟩

end Go.Proofs.Ytndmfjdoekdleaa.P
