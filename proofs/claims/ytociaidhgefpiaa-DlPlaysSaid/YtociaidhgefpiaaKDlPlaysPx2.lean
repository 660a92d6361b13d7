/- What functions of the program, and of its laws, give, each proved of its code by a walk; no condition. -/
import Derived.Test.YtociaidhgefpiaaKDlPlaysPx0
import Derived.Test.YtociaidhgefpiaaKDlPlaysPx1
import Derived.Test.YtociaidhgefpiaaKDlPlaysSq
import Derived.Test.YtociaidhgefpiaaKDlPlaysUsh
namespace Go.Proofs.Ytociaidhgefpiaa.P
open Go.RowKit Go.Proofs.YtociaidhgefpiaaW.PrintWords Go.Proofs.YtociaidhgefpiaaW.PrintLast Go.Proofs.YtociaidhgefpiaaW.PrintMore
attribute [local go_sem] max2_int min2_int max_two min_two max_three min_three max_four min_four   -- for this text's walks alone
set_option linter.unusedVariables false
set_option linter.unusedSimpArgs false

def Rows2 (B : Nat) (vm : Value) (m : List Int) (vo : Value) (o : List Int) (W : World) : Prop :=
  Kd.R (Kd.int .i64) 3 W B (fun k => some k ≠ vo.ownBlock) vm m ∧ Kd.R (Kd.int .i64) 3 W B (fun k => some k ≠ vm.ownBlock) vo o
theorem Rows2.flip {B : Nat} {vm vo : Value} {m o : List Int} {W : World} (h : Rows2 B vm m vo o W) : Rows2 B vo o vm m W := ⟨h.2, h.1⟩
theorem Rows2.below {B : Nat} {vm vo : Value} {m o : List Int} {W W' : World} (h : Rows2 B vm m vo o W) (hb : Below W.heap.size W W') : Rows2 B vm m vo o W' := ⟨Kd.R_below h.1 hb, Kd.R_below h.2 hb⟩
theorem int_E (t : Nat) (ht : 3 ≠ t) : ∀ q, q ∈ 3 :: (Kd.int .i64).E → q ≠ t := by
  intro q hq
  rcases List.mem_cons.1 hq with e | e
  · rw [e]; exact ht
  · exact absurd e (by simp [Kd.int, Kd.scalar])
theorem Rows2.set {B : Nat} {vm vo : Value} {m o : List Int} {W : World} (h : Rows2 B vm m vo o W) {g t : Nat} {cells : Array Value} (hb : W.heap[g]? = some (.cells cells t (0, 0))) (ht : 3 ≠ t) (j : Nat) (u : Value) : Rows2 B vm m vo o (W.setCell ⟨g, j, none⟩ u) :=
  ⟨Kd.R_set h.1 hb (int_E t ht) j u, Kd.R_set h.2 hb (int_E t ht) j u⟩
theorem Rows2.nil (B : Nat) (W : World) : Rows2 B (.slice none 0 0) [] (.slice none 0 0) [] W := ⟨Kd.R_nil _ _ _ _ _, Kd.R_nil _ _ _ _ _⟩
theorem Rows2.fresh {B : Nat} {vm vo : Value} {m o : List Int} {W : World} (h : Rows2 B vm m vo o W) : ∀ k, W.heap.size ≤ k → some k ≠ vo.ownBlock := by
  intro k hk e
  obtain ⟨cells, hc⟩ := Kd.R_typed h.2 k e.symm
  have := blk_lt hc
  omega
theorem Rows2.appended {B : Nat} {vm vo v1 : Value} {m m1 o : List Int} {W w1 : World} (h : Rows2 B vm m vo o W) (ho : Kd.R (Kd.int .i64) 3 w1 B (fun k => some k ≠ vo.ownBlock) v1 m1) (hg : W.grownBy w1 vm.ownBlock) (hat : v1.ownBlock = vm.ownBlock ∨ ∃ b, v1.ownBlock = some b ∧ W.heap.size ≤ b) : Rows2 B v1 m1 vo o w1 := by
  refine ⟨ho, ?_⟩
  have h2 := Kd.R_grown (Kd.R_bound h.2) hg (fun k hk => hk.1)
  refine Kd.R_mono h2 (fun k hk => ?_)
  rcases hat with e | ⟨b, e, hb⟩
  · rw [e]; exact hk.1
  · rw [e]; intro e2
    have := Option.some.inj e2
    have := hk.2.2.1
    omega
/-- A state's block: what was met, and begun. -/
def StR (B g : Nat) (m o : List Int) (W : World) : Prop := ∃ vm vo, W.heap[g]? = some (.cells #[vm, vo] 76 (0, 0)) ∧ B ≤ g ∧ Rows2 B vm m vo o W
theorem StR.below {B g : Nat} {m o : List Int} {W W' : World} (h : StR B g m o W) (hb : Below W.heap.size W W') : StR B g m o W' := by
  obtain ⟨vm, vo, h1, h2, h3⟩ := h
  exact ⟨vm, vo, blk_below h1 hb, h2, h3.below hb⟩
def hasI (l : List Int) (n : Int) : Bool := l.contains n
def vis : Nat → List S38 → List Int → Int → List Int → List Int → Option (List Int × List Int)
  | 0, _, _, _, _, _ => none
  | k + 1, l, ord, i, m, o =>
    if i < 0 then some (m, o) else if hasI ord i = false then some (m, o) else if hasI m i = true then some (m, o) else
    if i < (l.length : Int) then
      if m.length < 17592186044416 then
        ((rd_T38 l i).f1.foldlM (fun (s : List Int × List Int) n => vis k l ord (firstAt (isNm n) l) s.1 s.2) (m ++ [i], o)).bind fun s =>
          if s.2.length < 17592186044416 then some (s.1, s.2 ++ [i]) else none
      else none
    else none

theorem wrap_up {i : Int} (h0 : 0 ≤ i) (h1 : i < 9223372036854775807) : wrap64 (i + 1) = i + 1 := by unfold wrap64; omega
theorem has_go (l : List Int) (n : Int) (hl : l.length ≤ 9223372036854775807) : ∀ (d i k : Nat), i + d = l.length → d < k → curtilageref13_Has.l0 k l n i = some (hasI (l.drop i) n) := by
  intro d
  induction d with
  | zero =>
    intro i k hi hk
    obtain ⟨k, rfl⟩ : ∃ m, k = m + 1 := ⟨k - 1, by omega⟩
    rw [curtilageref13_Has.l0, if_neg (by omega), List.drop_eq_nil_of_le (by omega)]; rfl
  | succ d ih =>
    intro i k hi hk
    obtain ⟨k, rfl⟩ : ∃ m, k = m + 1 := ⟨k - 1, by omega⟩
    have hlt : i < l.length := by omega
    have e : rd l (i : Int) = l[i] := by simp [rd, List.getD_eq_getElem?_getD, List.getElem?_eq_getElem hlt]
    rw [curtilageref13_Has.l0, if_pos (by omega), if_pos (by omega), e, wrap_up (by omega) (by omega), List.drop_eq_getElem_cons hlt]
    by_cases h : l[i] = n
    · rw [if_pos h]; simp [hasI, h]
    · rw [if_neg h, show ((i : Int) + 1) = ((i + 1 : Nat) : Int) by omega, ih (i + 1) k (by omega) (by omega)]
      have h' : (n == l[i]) = false := beq_eq_false_iff_ne.2 (fun e => h e.symm)
      unfold hasI
      rw [List.contains_cons, h', Bool.false_or]
theorem has_is (l : List Int) (n : Int) (hl : l.length ≤ 9223372036854775807) (k : Nat) (hk : l.length < k) : curtilageref13_Has.f k l n = some (hasI l n) := by
  have := has_go l n hl l.length 0 k (by omega) hk
  simpa [curtilageref13_Has.f] using this
theorem rfind_go (l : List S38) (nm : ByteArray) (hl : l.length ≤ 9223372036854775807) : ∀ (d i k : Nat), i + d = l.length → d < k → (∀ j, j < i → isNm nm (l.getD j z38) = false) → curtilageref13_Find.l0 k l nm i = some (firstAt (isNm nm) l) := by
  intro d
  induction d with
  | zero =>
    intro i k hi hk hb
    obtain ⟨k, rfl⟩ : ∃ m, k = m + 1 := ⟨k - 1, by omega⟩
    obtain rfl : i = l.length := by omega
    rw [curtilageref13_Find.l0, if_neg (by omega), firstAt_none hb]
  | succ d ih =>
    intro i k hi hk hb
    obtain ⟨k, rfl⟩ : ∃ m, k = m + 1 := ⟨k - 1, by omega⟩
    have hlt : i < l.length := by omega
    rw [curtilageref13_Find.l0, if_pos (by omega), if_pos (by omega), wrap_up (by omega) (by omega)]
    by_cases h : (rd_T38 l (i : Int)).f0.toList = nm.toList
    · rw [if_pos h, firstAt_here hlt hb (by unfold isNm; exact beq_iff_eq.2 h)]
    · rw [if_neg h, show ((i : Int) + 1) = ((i + 1 : Nat) : Int) by omega]
      refine ih (i + 1) k (by omega) (by omega) (fun j hj => ?_)
      rcases Nat.lt_succ_iff_lt_or_eq.1 hj with h' | h'
      · exact hb j h'
      · subst h'; unfold isNm; exact beq_eq_false_iff_ne.2 h
theorem rfind_is (l : List S38) (nm : ByteArray) (hl : l.length ≤ 9223372036854775807) (k : Nat) (hk : l.length < k) : curtilageref13_Find.f k l nm = some (firstAt (isNm nm) l) := by
  have := rfind_go l nm hl l.length 0 k (by omega) hk (fun j hj => by omega)
  simpa [curtilageref13_Find.f] using this

theorem StR.drewN {B g : Nat} {m o : List Int} {W : World} (h : StR B g m o W) (n : Nat) : StR B g m o (W.drewN n) := h.below (pw_below_drewN (Below.refl _ _) n)
def VisitPost (w0 : World) (g : Nat) (m o : List Int) (e : Ending) (W' : World) : Prop := e = .returned (.tuple #[]) ∧ Below w0.heap.size w0 W' ∧ StR w0.heap.size g m o W'
set_option maxHeartbeats 2000000 in
set_option maxRecDepth 100000 in
theorem visit_calls : ∀ (k : Nat) (w0 : World) (A0 : Option Addr) (c0 : Nat) (l0 : List S38) (A1 : Option Addr) (c1 : Nat) (ord : List Int) (hr0 : Kd.C k38 w0 A0 l0.length l0) (hc0 : l0.length ≤ c0) (hr1 : Kd.C (Kd.int .i64) w0 A1 ord.length ord) (hc1 : ord.length ≤ c1) (g : Nat) (i : Int) (m o m' o' : List Int) (W : World) (hb : Below w0.heap.size w0 W) (hs : StR w0.heap.size g m o W) (h : vis k l0 ord i m o = some (m', o')),
    Calls Try.prog 46 #[.pointer (some ⟨g, 0, none⟩), .slice A0 l0.length c0, .slice A1 ord.length c1, .int .i64 i] W (VisitPost w0 g m' o') := by
  intro k
  induction k with
  | zero => intro w0 A0 c0 l0 A1 c1 ord hr0 hc0 hr1 hc1 g i m o m' o' W hb hs h; cases h
  | succ k ih =>
    intro w0 A0 c0 l0 A1 c1 ord hr0 hc0 hr1 hc1 g i m o m' o' W hb hs h
    have IH := am ih
    clear ih
    have HR0 := am hr0
    have HC0 := am hc0
    have HR1 := am hr1
    have HC1 := am hc1
    have HB := am hb
    have hlen0 : l0.length ≤ 9223372036854775807 := hr0.2.1
    have hlen1 : ord.length ≤ 9223372036854775807 := hr1.2.1
    clear hr0 hc0 hr1 hc1 hb
    rw [vis] at h
    by_cases h1 : i < 0
    · rw [if_pos h1] at h
      obtain ⟨rfl, rfl⟩ := Prod.mk.inj (Option.some.inj h)
      have HS := am hs
      clear hs h
      go_enter Try.func46, Try.ntmps46
      go_wp2
      go_end0
      exact ⟨rfl, HB.out, HS.out⟩
    · rw [if_neg h1] at h
      have h1b : decide (i < 0) = false := decide_eq_false h1
      have p1 : 0 ≤ i := by omega
      obtain ⟨vm, vo, hg, hgB, h2⟩ := hs
      obtain ⟨Am, cm, rfl⟩ := Kd.R_slice h2.1
      obtain ⟨Ao, co, rfl⟩ := Kd.R_slice h2.2
      have rm := Kd.R_reads' h2.1
      have HRM := am rm.2.2
      have HCM := am rm.2.1
      have hg0 := blk_cell hg 0
      have hg1 := blk_cell hg 1
      have hf0 := blk_frozen hg 0
      have hf1 := blk_frozen hg 1
      have HG := am hg
      have H2 := am h2
      have HGB := am hgB
      clear hg h2 rm hgB
      have EO := am (has_is ord i hlen1 (ord.length + 1) (by omega))
      have hlenm : m.length ≤ 9223372036854775807 := HRM.out.2.1
      have EM := am (has_is m i hlenm (m.length + 1) (by omega))
      by_cases h3 : hasI ord i = false
      · rw [if_pos h3] at h
        obtain ⟨rfl, rfl⟩ := Prod.mk.inj (Option.some.inj h)
        have E1 := am (EO.out.trans (congrArg some h3))
        clear h h3 h1
        cases h4 : hasI m i
        all_goals
          have E2 := am (EM.out.trans (congrArg some h4))
          clear h4 EO EM
          go_enter Try.func46, Try.ntmps46
          go_wp2_with (first | (go_at_call 13; (with_reducible refine (curtilageref13_Has.calls (ord.length + 1) _ _ ord i false _ ?side1 ?side2 E1.out).mono ?_); (case side1 => exact Kd.C_below HR1.out HB.out); (case side2 => exact HC1.out); rintro e w' ⟨rfl, ⟨nd, rfl⟩⟩) | (go_at_call 13; (with_reducible refine (curtilageref13_Has.calls (m.length + 1) _ _ m i _ _ ?side1 ?side2 E2.out).mono ?_); (case side1 => exact Kd.C_drewN HRM.out _); (case side2 => exact HCM.out); rintro e w' ⟨rfl, ⟨nd2, rfl⟩⟩))
          go_end0
          exact ⟨rfl, by repeat (first | exact HB.out | apply pw_below_drewN), by repeat (first | exact ⟨_, _, HG.out, HGB.out, H2.out⟩ | apply StR.drewN)⟩
      · rw [if_neg h3] at h
        have h3 := eq_true_of_ne_false h3
        have E1 := am (EO.out.trans (congrArg some h3))
        clear h3 h1 EO
        by_cases h4 : hasI m i = true
        · rw [if_pos h4] at h
          obtain ⟨rfl, rfl⟩ := Prod.mk.inj (Option.some.inj h)
          have E2 := am (EM.out.trans (congrArg some h4))
          clear h h4 EM
          go_enter Try.func46, Try.ntmps46
          go_wp2_with (first | (go_at_call 13; (with_reducible refine (curtilageref13_Has.calls (ord.length + 1) _ _ ord i _ _ ?side1 ?side2 E1.out).mono ?_); (case side1 => exact Kd.C_below HR1.out HB.out); (case side2 => exact HC1.out); rintro e w' ⟨rfl, ⟨nd, rfl⟩⟩) | (go_at_call 13; (with_reducible refine (curtilageref13_Has.calls (m.length + 1) _ _ m i _ _ ?side1 ?side2 E2.out).mono ?_); (case side1 => exact Kd.C_drewN HRM.out _); (case side2 => exact HCM.out); rintro e w' ⟨rfl, ⟨nd2, rfl⟩⟩))
          go_end0
          exact ⟨rfl, by repeat (first | exact HB.out | apply pw_below_drewN), by repeat (first | exact ⟨_, _, HG.out, HGB.out, H2.out⟩ | apply StR.drewN)⟩
        · rw [if_neg h4] at h
          have h4 := eq_false_of_ne_true h4
          have E2 := am (EM.out.trans (congrArg some h4))
          clear h4 EM
          by_cases h5 : i < (l0.length : Int)
          · rw [if_pos h5] at h
            by_cases h6 : m.length < 17592186044416
            · rw [if_pos h6] at h
              obtain ⟨⟨m1, o1⟩, hf, h⟩ := Option.bind_eq_some_iff.1 h
              simp only at h
              by_cases h7 : o1.length < 17592186044416
              · rw [if_pos h7] at h
                obtain ⟨rfl, rfl⟩ := Prod.mk.inj (Option.some.inj h)
                have HF := am hf
                have H5 := am h5
                have H6 := am h6
                have H7 := am h7
                clear h hf h5 h6 h7
                go_enter Try.func46, Try.ntmps46
                go_wp2_with (first | (go_at_call 13; (with_reducible refine (curtilageref13_Has.calls (ord.length + 1) _ _ ord i _ _ ?side1 ?side2 E1.out).mono ?_); (case side1 => exact Kd.C_below HR1.out HB.out); (case side2 => exact HC1.out); rintro e w' ⟨rfl, ⟨nd, rfl⟩⟩) | (go_at_call 13; (with_reducible refine (curtilageref13_Has.calls (m.length + 1) _ _ m i _ _ ?side1 ?side2 E2.out).mono ?_); (case side1 => exact Kd.C_drewN HRM.out _); (case side2 => exact HCM.out); rintro e w' ⟨rfl, ⟨nd2, rfl⟩⟩) | ((with_reducible refine gate_builtin (b := .append) (xs := #[.tmp 31, .tmp 33]) rfl ?_); at_builtin; refine Kd.R_append (Kd.int .i64) (w0 := w0) w0.heap.size rfl (.tmp 31) (.tmp 33) 26 3 (.int .i64 0) 8 rfl Try.underlying26 info3 rfl (by decide) (by omega) (.slice Am m.length cm) m i [.int .i64 i] (fun k => some k ≠ (Value.slice Ao o.length co).ownBlock) (fun _ => False) rfl rfl ?aP (fun _ hk => hk.elim) ?aF ?aO ?aB ?aS ?aL ?_; (case aP => exact rfl); (case aB => exact (by repeat (first | exact HB.out | apply pw_below_drewN))); (case aF => exact (H2.out.fresh)); (case aO => exact (by repeat (first | exact H2.out.1 | apply Kd.R_drewN))); (case aS => exact (below_size (by repeat (first | exact HB.out | apply pw_below_drewN)))); (case aL => have := H6.out; omega); intro v1 w1 ho hb1 hgr hat; obtain ⟨Am1, cm1, em1⟩ := Kd.R_slice ho; subst em1; have n0_ := am (blk_grown (g := g) (o := .cells #[.slice Am m.length cm, .slice Ao o.length co] 76 (0, 0)) (by repeat (first | exact HG.out | refine blk_drewN ?_ _)) hgr (Kd.R_ne H2.out.1 HG.out (by decide))); have n1_ := am (Rows2.appended (by repeat (first | exact H2.out | refine Rows2.below ?_ (pw_below_drewN (Below.refl _ _) _))) ho hgr hat); clear HG H2 HB hg0 hg1 hf0 hf1 ho hgr hat HRM HCM E2; have HG := n0_; have H2 := n1_; have HB := am hb1; clear n0_ n1_ hb1; have hg0 := blk_cell HG.out 0; have hg1 := blk_cell HG.out 1; have hf0 := blk_frozen HG.out 0; have hf1 := blk_frozen HG.out 1))
                have q1 : i < l0.length := H5.out
                have HS0 := am (show StR w0.heap.size g (m ++ [i]) o (w1.setCell ⟨g, 0, none⟩ (.slice Am1 (m ++ [i]).length cm1)) from ⟨_, _, blk_put HG.out 0 _ rfl, HGB.out, H2.out.set HG.out (by decide) 0 _⟩)
                have HB0 := am (show Below w0.heap.size w0 (w1.setCell ⟨g, 0, none⟩ (.slice Am1 (m ++ [i]).length cm1)) from below_set HB.out HGB.out)
                have hll : (m ++ [i]).length = m.length + 1 := by simp
                rw [hll] at HS0 HB0
                clear hll HG H2 HB hg0 hg1 hf0 hf1
                generalize hx : (rd_T38 l0 i).f1 = ned at *
                have HX := am hx
                clear hx
                go_loopw [10] (fun v10 wr => ∃ (j : Nat) (mj oj : List Int), v10 = .int .i64 j ∧ j ≤ ned.length ∧ Aside0 ((ned.drop j).foldlM (fun (s : List Int × List Int) n => vis k l0 ord (firstAt (isNm n) l0) s.1 s.2) (mj, oj) = some (m1, o1)) ∧ Aside0 (StR w0.heap.size g mj oj wr) ∧ Aside0 (Below w0.heap.size w0 wr)) (fun v10 _ => ned.length - (intOf v10).toNat)
                case atStart => exact ⟨0, m ++ [i], o, rfl, Nat.zero_le _, HF, HS0, HB0⟩
                case round =>
                  clear HF HS0 HB0
                  obtain ⟨j, mj, oj, rfl, hj, HF, HS, HB⟩ := hrel
                  obtain ⟨ad, A1_, c1_, A2_, c2_, A3_, c3_, A4_, c4_, A5_, c5_, A6_, c6_, eA, hx0, hx1, hx2, hx3, hx4, hx5, hx6, hl1, hi1, hl2, hi2, hl3, hi3, hl4, hi4, hl5, hi5, hl6, hi6⟩ := at_T38 (Kd.C_below HR0.out HB.out) i p1 q1
                  cases eA
                  rw [HX.out] at hx1 hl1 hi1
                  clear hx0 hx2 hx3 hx4 hx5 hx6 hl2 hi2 hl3 hi3 hl4 hi4 hl5 hi5 hl6 hi6
                  have hnl : ned.length ≤ 9223372036854775807 := hi1.2.1
                  by_cases hlt : j < ned.length
                  · obtain ⟨ad2, eB, hy⟩ := Kd.at_string hi1 (j : Int) (by omega) (by omega)
                    cases eB
                    have HI1 := am hi1
                    clear hi1
                    simp only [Int.toNat_natCast] at hy
                    have hf := HF.out
                    clear HF
                    rw [List.drop_eq_getElem_cons hlt, List.foldlM_cons] at hf
                    have ey : rdOf ByteArray.empty ned (j : Int) = ned[j] := by simp [rdOf, List.getD_eq_getElem?_getD, List.getElem?_eq_getElem hlt]
                    rw [ey] at hy
                    generalize hnj : ned[j] = nj at *
                    obtain ⟨⟨mj1, oj1⟩, hv, hf⟩ := Option.bind_eq_some_iff.1 hf
                    have HV := am hv
                    have HF := am hf
                    have EF := am (rfind_is l0 nj hlen0 (l0.length + 1) (by omega))
                    clear hv hf ey hnj
                    go_wp2_with (first | (go_at_call 21; (with_reducible refine (curtilageref13_Find.calls (l0.length + 1) _ _ l0 nj _ _ ?side1 ?side2 EF.out).mono ?_); (case side1 => exact Kd.C_below HR0.out HB.out); (case side2 => exact HC0.out); rintro e w' ⟨rfl, ⟨nd3, rfl⟩⟩) | (go_at_call 46; refine (IH.out w0 _ c0 l0 A1 c1 ord HR0.out HC0.out HR1.out HC1.out g (firstAt (isNm nj) l0) mj oj mj1 oj1 _ (pw_below_drewN HB.out _) (StR.drewN HS.out _) HV.out).mono ?_; rintro e w' ⟨rfl, hb9, hs9⟩))
                    go_roundw
                    case rel => exact ⟨j + 1, mj1, oj1, by go_num, by omega, HF, ⟨hs9⟩, ⟨hb9⟩⟩
                    case measure => simp [intOf]; omega
                  · have ej : ned.drop j = [] := List.drop_eq_nil_of_le (by omega)
                    have hf := HF.out
                    rw [ej] at hf
                    obtain ⟨rfl, rfl⟩ := Prod.mk.inj (Option.some.inj hf)
                    obtain ⟨vm2, vo2, hg, hgB, h2⟩ := HS.out
                    obtain ⟨Am2, cm2, e1⟩ := Kd.R_slice h2.1
                    subst e1
                    obtain ⟨Ao2, co2, e1⟩ := Kd.R_slice h2.2
                    subst e1
                    have hg0 := blk_cell hg 0
                    have hg1 := blk_cell hg 1
                    have hf0 := blk_frozen hg 0
                    have hf1 := blk_frozen hg 1
                    have HG := am hg
                    have H2 := am h2
                    have hi1l := hi1.1
                    clear hg h2 hf ej HF HS hi1
                    go_wp2_with (first | ((with_reducible refine gate_builtin (b := .append) (xs := #[.tmp 65, .tmp 67]) rfl ?_); at_builtin; refine Kd.R_append (Kd.int .i64) (w0 := w0) w0.heap.size rfl (.tmp 65) (.tmp 67) 26 3 (.int .i64 0) 8 rfl Try.underlying26 info3 rfl (by decide) (by omega) (.slice Ao2 oj.length co2) oj i [.int .i64 i] (fun k => some k ≠ (Value.slice Am2 mj.length cm2).ownBlock) (fun _ => False) rfl rfl ?aP (fun _ hk => hk.elim) ?aF ?aO ?aB ?aS ?aL ?_; (case aP => exact rfl); (case aB => exact HB.out); (case aF => exact (H2.out.flip.fresh)); (case aO => exact H2.out.2); (case aS => exact (below_size HB.out)); (case aL => have := H7.out; omega); intro v1 w1 ho hb1 hgr hat; obtain ⟨Am1, cm1, em1⟩ := Kd.R_slice ho; subst em1; have n0_ := am (blk_grown (g := g) (o := .cells #[.slice Am2 mj.length cm2, .slice Ao2 oj.length co2] 76 (0, 0)) HG.out hgr (Kd.R_ne H2.out.2 HG.out (by decide))); have n1_ := am (Rows2.appended H2.out.flip ho hgr hat); clear HG H2 HB hg0 hg1 hf0 hf1 ho hgr hat; have HG := n0_; have H2 := n1_; have HB := am hb1; clear n0_ n1_ hb1; have hg0 := blk_cell HG.out 0; have hg1 := blk_cell HG.out 1; have hf0 := blk_frozen HG.out 0; have hf1 := blk_frozen HG.out 1))
                    go_end0
                    have hll : (oj ++ [i]).length = oj.length + 1 := by simp
                    have H2' := H2.out
                    rw [hll] at H2'
                    exact ⟨rfl, below_set HB.out HGB.out, _, _, blk_put HG.out 1 _ rfl, HGB.out, (H2'.set HG.out (by decide) 1 _).flip⟩
              · rw [if_neg h7] at h; cases h
            · rw [if_neg h6] at h; cases h
          · rw [if_neg h5] at h; cases h
def begs (l : List S38) (ord : List Int) : Option (List Int) := (ord.foldlM (fun (s : List Int × List Int) i => vis (l.length + 2) l ord i s.1 s.2) ([], [])).bind fun s => some s.2
def curtilageref13_Begin.f (l0 : List S38) (l1 : List Int) : Option (List Int) := begs l0 l1
set_option maxHeartbeats 2000000 in
set_option maxRecDepth 100000 in
theorem curtilageref13_Begin.calls (A0 : Option Addr) (c0 : Nat) (l0 : List S38) (A1 : Option Addr) (c1 : Nat) (l1 : List Int) (r : List Int) (w : World) (hr0 : Kd.C k38 w A0 l0.length l0) (hc0 : l0.length ≤ c0) (hr1 : Kd.C (Kd.int .i64) w A1 l1.length l1) (hc1 : l1.length ≤ c1) (h : curtilageref13_Begin.f l0 l1 = some r) :
  Calls Try.prog 38 #[.slice A0 l0.length c0, .slice A1 l1.length c1] w fun e w' => ∃ v0_ : Value, e = .returned (v0_) ∧ Kd.R (Kd.int .i64) 3 w' w.heap.size (fun _ => True) v0_ r ∧ Below w.heap.size w w' := by
 have hu50 := Try.underlying76
 have HR0 := am hr0
 have HC0 := am hc0
 have HR1 := am hr1
 have HC1 := am hc1
 have hlen1 : l1.length ≤ 9223372036854775807 := hr1.2.1
 clear hr0 hc0 hr1 hc1
 obtain ⟨⟨mz, oz⟩, hf, h⟩ := Option.bind_eq_some_iff.1 h
 obtain rfl := Option.some.inj h
 have HF := am hf
 clear hf h
 go_enter Try.func38, Try.ntmps38
 go_wp2
 have HS0 := am (show StR w.heap.size w.heap.size [] [] (w.alloc (.cells #[.slice none 0 0, .slice none 0 0] 76 (0, 0))) from ⟨_, _, blk_new _ _, Nat.le_refl _, Rows2.nil _ _⟩)
 have HB0 := am (below_alloc (Below.refl w.heap.size w) (.cells #[.slice none 0 0, .slice none 0 0] 76 (0, 0)))
 go_outline
 go_loopw [6] (fun v6 wr => ∃ (j : Nat) (mj oj : List Int), v6 = .int .i64 j ∧ j ≤ l1.length ∧ Aside0 ((l1.drop j).foldlM (fun (s : List Int × List Int) i => vis (l0.length + 2) l0 l1 i s.1 s.2) (mj, oj) = some (mz, oz)) ∧ Aside0 (StR w.heap.size w.heap.size mj oj wr) ∧ Aside0 (Below w.heap.size w wr)) (fun v6 _ => l1.length - (intOf v6).toNat)
 case atStart => exact ⟨0, [], [], rfl, Nat.zero_le _, HF, HS0, HB0⟩
 case round =>
  clear HF HS0 HB0
  obtain ⟨j, mj, oj, rfl, hj, HF, HS, HB⟩ := hrel
  by_cases hlt : j < l1.length
  ·obtain ⟨ad2, eB, hy⟩ := Kd.at_int (Kd.C_below HR1.out HB.out) (j : Int) (by omega) (by omega)
   cases eB
   simp only [Int.toNat_natCast] at hy
   have hf := HF.out
   clear HF
   rw [List.drop_eq_getElem_cons hlt, List.foldlM_cons] at hf
   have ey : rd l1 (j : Int) = l1[j] := by simp [rd, List.getD_eq_getElem?_getD, List.getElem?_eq_getElem hlt]
   rw [ey] at hy
   generalize hnj : l1[j] = nj at *
   obtain ⟨⟨mj1, oj1⟩, hv, hf⟩ := Option.bind_eq_some_iff.1 hf
   have HV := am hv
   have HF := am hf
   clear hv hf ey hnj
   go_wp2_with (go_at_call 46; refine (visit_calls (l0.length + 2) w A0 c0 l0 _ c1 l1 HR0.out HC0.out HR1.out HC1.out w.heap.size nj mj oj mj1 oj1 _ HB.out HS.out HV.out).mono ?_; rintro e w' ⟨rfl, hb9, hs9⟩)
   go_roundw
   case rel => exact ⟨j + 1, mj1, oj1, by go_num, by omega, HF, ⟨hs9⟩, ⟨hb9⟩⟩
   case measure => simp [intOf]; omega
  ·have ej : l1.drop j = [] := List.drop_eq_nil_of_le (by omega)
   have hf := HF.out
   rw [ej] at hf
   obtain ⟨rfl, rfl⟩ := Prod.mk.inj (Option.some.inj hf)
   obtain ⟨vm2, vo2, hg, hgB, h2⟩ := HS.out
   have hg0 := blk_cell hg 0
   have hg1 := blk_cell hg 1
   have HG := am hg
   have H2 := am h2
   clear hg h2 hf ej HF HS
   go_wp2
   go_ret
   exact ⟨_, rfl, Kd.R_mono H2.out.2 (fun _ _ => trivial), HB.out⟩

end Go.Proofs.Ytociaidhgefpiaa.P
