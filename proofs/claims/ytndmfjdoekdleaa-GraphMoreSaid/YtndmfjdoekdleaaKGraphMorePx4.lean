/- What functions of the program, and of its laws, give, each proved of its code by a walk; no condition. -/
import Derived.Test.YtndmfjdoekdleaaKGraphMorePx0
import Derived.Test.YtndmfjdoekdleaaKGraphMorePx1
import Derived.Test.YtndmfjdoekdleaaKGraphMorePx2
import Derived.Test.YtndmfjdoekdleaaKGraphMorePx3
namespace Go.Proofs.Ytndmfjdoekdleaa.P
open Go.RowKit Go.Proofs.YtndmfjdoekdleaaW.PrintWords Go.Proofs.YtndmfjdoekdleaaW.PrintLast Go.Proofs.YtndmfjdoekdleaaW.PrintMore
attribute [local go_sem] max2_int min2_int max_two min_two max_three min_three max_four min_four   -- for this text's walks alone
set_option linter.unusedVariables false
set_option linter.unusedSimpArgs false

theorem reps_all {α : Type} {R : α → List Value → Prop} {ps : List α} {cs : List Value} {f : α → Value} (hcs : cs = ps.map f) (h : ∀ p, p ∈ ps → R p [f p]) : Reps R 1 ps cs := by
  subst hcs
  refine ⟨by simp, fun j p hj => ?_⟩
  have hm := List.mem_of_getElem? hj
  have hl : j < ps.length := (List.getElem?_eq_some_iff.1 hj).1
  have e : ((ps.map f).drop (j * 1)).take 1 = [f p] := by
    rw [Nat.mul_one, List.take_one, List.head?_drop, List.getElem?_map, hj]; rfl
  rw [e]; exact h p hm
theorem reps_str {W : World} {base : Nat} {ok : Nat → Prop} {xs : List ByteArray} {inner : List Value} (h : Reps (Kd.string.M W base ok) 1 xs inner) : inner = xs.map Value.string := by
  refine List.ext_getElem? (fun j => ?_)
  rw [List.getElem?_map]
  rcases Nat.lt_or_ge j xs.length with hj | hj
  · have h2 := h.2 j _ (List.getElem?_eq_getElem hj)
    have h3 : ((inner.drop (j * 1)).take 1) = [Value.string xs[j]] := h2
    rw [Nat.mul_one, List.take_one, List.head?_drop] at h3
    rw [List.getElem?_eq_getElem hj]
    cases hi : inner[j]? with
    | none => rw [hi] at h3; simp at h3
    | some u => rw [hi] at h3; simp at h3; rw [h3]; rfl
  · rw [List.getElem?_eq_none (by have := h.1; omega), List.getElem?_eq_none hj]; rfl
theorem q_append_strs {P : Program} {W : World} (base : Nat) (t ty e : TypeId) (z : Value) (bytes : Nat) (ht : P.underlying t = some (.slice e)) (hinfo : (P.info? e).map (fun i => (i.zero, i.size, i.bytes)) = some (some z, 1, bytes)) (hz : z.cells.size = 1) (hb0 : 0 < bytes)
    (v : Value) (xs ys : List ByteArray) (A : Option Addr) (c : Nat) (ok : Nat → Prop) (HO : Kd.string.Q e W base ok v xs) (HR : Kd.string.C W A ys.length ys) (hfresh : ∀ k, W.heap.size ≤ k → ok k) (hbase : base ≤ W.heap.size) (hl : (xs.length + ys.length) * bytes ≤ 140737488355328) :
    ∃ v1 w1, (Builtin.append_ #[t, t] ty #[v, .slice A ys.length c]).run P W = .ok v1 w1 ∧ Kd.string.Q e w1 base ok v1 (xs ++ ys) ∧ W.grownBy w1 v.ownBlock ∧ (v1.ownBlock = v.ownBlock ∨ ∃ b, v1.ownBlock = some b ∧ W.heap.size ≤ b) := by
  obtain ⟨i0, hi, hzz⟩ := Option.map_eq_some_iff.1 hinfo
  simp only [Prod.mk.injEq] at hzz
  obtain ⟨hz0, hz1, hz2⟩ := hzz
  have hlen : xs.length + ys.length ≤ 140737488355328 := Nat.le_trans (Nat.le_mul_of_pos_right _ hb0) hl
  obtain ⟨hok, inner, hown, hr⟩ := HO
  have hown : QRow W base e 1 v xs.length inner := hown
  have hinner := reps_str hr
  by_cases hm : ys.length = 0
  · obtain rfl : ys = [] := List.eq_nil_of_length_eq_zero hm
    refine ⟨v, W, ?_, by rw [List.append_nil]; exact ⟨hok, inner, hown, hr⟩, World.grownBy.refl W _, .inl rfl⟩
    have hld : ∀ a, (loadCells a 0).run P W = .ok #[] W := fun a => rfl
    rcases hown.2 with ⟨hn, A', rfl, _⟩ | ⟨g, off, cap, cur, rfl, _, _, hnc, _⟩
    · cases A' <;> cases A <;> simp [Builtin.append_, run_underlying ht, sizeOf, typeInfo, hi, Builtin.lenOf, Builtin.firstCells, storeCells, hn, hld]
    · cases A <;> simp [Builtin.append_, run_underlying ht, sizeOf, typeInfo, hi, Builtin.lenOf, Builtin.firstCells, hnc, storeCells, hld]
  · obtain ⟨ad, rfl, hc⟩ := HR.2.2 (by omega)
    obtain ⟨v1, w1, hrun, hq1, hg1, hat⟩ := q_append (P := P) W base t ty e i0 z 1 bytes ht hi hz0 hz1 hz2 hz (by omega) v xs.length inner hown ad ys.length c (ys.map Value.string) (by simp)
      (fun j u hu => by
        rw [List.getElem?_map] at hu
        obtain ⟨p, hp, rfl⟩ := Option.map_eq_some_iff.1 hu
        obtain ⟨cs, hcl, hk, hcell⟩ := hc j p hp
        have hk : cs = [Value.string p] := hk
        subst hk
        have := hcell 0 _ rfl
        rw [show j * Kd.string.sz + 0 = j from by show j * 1 + 0 = j; omega] at this
        exact this)
      (fun u hu => by obtain ⟨p, _, rfl⟩ := List.mem_map.1 hu; rfl) (by omega) (by simp only [maxLen]; omega) hl hbase
    refine ⟨v1, w1, hrun, ⟨fun k hk => ?_, inner ++ ys.map Value.string, by rw [List.length_append]; exact hq1, ?_⟩, hg1, hat⟩
    · rcases hat with hat | ⟨b, hb, hle⟩
      · exact hok k (hat ▸ hk)
      · rw [hb] at hk
        have := Option.some.inj hk
        exact hfresh k (by omega)
    · rw [hinner, ← List.map_append]
      exact reps_all rfl (fun p _ => rfl)
theorem wp_q_append_strs {P : Program} {ops : Array Oper} {rest : List Oper} {o : Oper} {a : Act} {Q' : Exit → Act → World → Prop} {W : World} (base : Nat) (hgd : o.guard = none) (s x : Operand) (t e : TypeId) (z : Value) (bytes : Nat) (ho : o.op = .call { callee := .builtin .append, args := #[s, x], argTypes := #[t, t] })
    (ht : P.underlying t = some (.slice e)) (hinfo : (P.info? e).map (fun i => (i.zero, i.size, i.bytes)) = some (some z, 1, bytes)) (hz : z.cells.size = 1) (hb0 : 0 < bytes)
    (v : Value) (xs ys : List ByteArray) (A : Option Addr) (c : Nat) (ok : Nat → Prop) (hs : a.eval s = v) (hx : a.eval x = .slice A ys.length c) (HO : Kd.string.Q e W base ok v xs) (HR : Kd.string.C W A ys.length ys) (hfresh : ∀ k, W.heap.size ≤ k → ok k) (hbase : base ≤ W.heap.size) (hl : (xs.length + ys.length) * bytes ≤ 140737488355328)
    (h : ∀ v1 w1, Kd.string.Q e w1 base ok v1 (xs ++ ys) → W.grownBy w1 v.ownBlock → (v1.ownBlock = v.ownBlock ∨ ∃ b, v1.ownBlock = some b ∧ W.heap.size ≤ b) → wpList P ops Q' rest (a.put o.dst v1) w1) : wpList P ops Q' (o :: rest) a W := by
  obtain ⟨v1, w1, hr, h1, h3, h4⟩ := q_append_strs (P := P) base t o.type e z bytes ht hinfo hz hb0 v xs ys A c ok HO HR hfresh hbase hl
  refine wpList_plain hgd fun K hK => ?_
  unfold Oper.wp execOp
  simp only [ho, resolve, invoke, builtin, Sem.run_bind, Sem.run_pure, Result.andThen_ok, List.map_toArray, List.map_cons, List.map_nil, hs, hx, hr]
  exact hK _ _ (h v1 w1 h1 h3 h4)
theorem str_E (t : Nat) (ht : 9 ≠ t) : ∀ q, q ∈ 9 :: Kd.string.E → q ≠ t := by
  intro q hq
  rcases List.mem_cons.1 hq with e | e
  · rw [e]; exact ht
  · exact absurd e (by simp [Kd.string, Kd.scalar])
def clo : Nat → List S29 → List ByteArray → List Int → Option (List Int × ByteArray × Int)
  | 0, _, _, _ => none
  | k + 1, l, [], od => some (od, ⟨#[]⟩, 0)
  | k + 1, l, n :: ns, od =>
    if firstAt (isNm n) l < 0 then some ([], n, 130)
    else if hasI od (firstAt (isNm n) l) = true then clo k l ns od
    else if od.length < 17592186044416 then
      if ns.length + (rd_T29 l (firstAt (isNm n) l)).f1.length < 4398046511104 then clo k l (ns ++ (rd_T29 l (firstAt (isNm n) l)).f1) (od ++ [firstAt (isNm n) l])
      else none
    else none
def cloFuel (l : List S29) : Nat := (l.map fun o => o.f1.length).sum + 2
def graph_Closure.f (l0 : List S29) (a1 : ByteArray) : Option (List Int × ByteArray × Int) := clo (cloFuel l0) l0 [a1] []
theorem firstAt_range {α : Type} (p : α → Bool) (l : List α) : firstAt p l < l.length ∧ -1 ≤ firstAt p l := by
  unfold firstAt
  cases h : l.findIdx? p with
  | none => simp only; omega
  | some i =>
    have := (List.findIdx?_eq_some_iff_getElem.1 h).1
    simp only; omega
set_option maxHeartbeats 4000000 in
set_option maxRecDepth 100000 in
theorem graph_Closure.calls (A0 : Option Addr) (c0 : Nat) (l0 : List S29) (a1 : ByteArray) (r1 : List Int) (r2 : ByteArray) (r3 : Int) (w : World) (hr0 : Kd.C k29 w A0 l0.length l0) (hc0 : l0.length ≤ c0) (h : graph_Closure.f l0 a1 = some (r1, r2, r3)) :
    Calls Try.prog 10 #[.slice A0 l0.length c0, .string a1] w fun e w' => ∃ v0_ : Value, e = .returned (.tuple #[v0_, .string r2, .int .i64 r3]) ∧ Kd.R (Kd.int .i64) 3 w' w.heap.size (fun _ => True) v0_ r1 ∧ Below w.heap.size w w' := by
  have HR0 := Aside0.mk hr0
  have HC0 := Aside0.mk hc0
  have HF := Aside0.mk h
  have hlen0 : l0.length ≤ 9223372036854775807 := hr0.2.1
  clear hr0 hc0 h
  go_enter Try.func10, Try.ntmps10
  go_wp2
  have HQ0 := Aside0.mk (show Kd.Q Kd.string 9 (w.alloc (.cells #[.string a1] 9 (0, 0))) w.heap.size (fun _ => True) (.slice (some ⟨w.heap.size, 0, none⟩) 1 1) [a1] from Kd.Q_of_R ⟨fun _ _ => trivial, [.string a1], World.ownsRow_lit w #[.string a1] 1 (Nat.le_refl _) (by unfold maxLen; omega) rfl, reps_all rfl (fun p _ => rfl)⟩)
  have HR1 := Aside0.mk (Kd.R_nil (Kd.int .i64) 3 (w.alloc (.cells #[.string a1] 9 (0, 0))) w.heap.size (fun _ => True))
  have HB0 := Aside0.mk (below_alloc (Below.refl w.heap.size w) (.cells #[.string a1] 9 (0, 0)))
  go_loopg [4, 7] (cloFuel l0) (fun kq v4 v7 wr => ∃ (ns : List ByteArray) (od : List Int), Aside0 (clo kq l0 ns od = some (r1, r2, r3)) ∧ Aside0 (Kd.R (Kd.int .i64) 3 wr w.heap.size (fun _ => True) v4 od) ∧ Aside0 (Kd.Q Kd.string 9 wr w.heap.size (fun _ => True) v7 ns) ∧ Aside0 (Below w.heap.size w wr))
  case atStart => exact ⟨[a1], [], HF, HR1, HQ0, HB0⟩
  case round =>
    clear HF HQ0 HR1 HB0
    obtain ⟨ns, od, HF, HR1, HQ, HB⟩ := hrel
    cases gk with
    | zero => have := HF.out; cases this
    | succ k1 =>
      obtain ⟨A7, c7, e7, h7⟩ := Kd.Q_slice HQ.out
      subst e7
      obtain ⟨A4, c4, e4⟩ := Kd.R_slice HR1.out
      subst e4
      cases ns with
      | nil =>
        have hf := HF.out
        rw [clo] at hf
        simp only [Option.some.injEq, Prod.mk.injEq] at hf
        obtain ⟨rfl, rfl, rfl⟩ := hf
        clear HF h7
        go_wp2
        go_ret3
        exact ⟨_, rfl, HR1.out, HB.out⟩
      | cons n ns =>
        have hrd := Kd.Q_reads' HQ.out
        obtain ⟨ad, eA, hx⟩ := Kd.at_string hrd.2.2 0 (by omega) (by simp)
        subst eA
        have ex : rdOf ByteArray.empty (n :: ns) 0 = n := rfl
        rw [ex, show (0 : Int).toNat = 0 from rfl, Addr.add_zero'] at hx
        have HRD := Aside0.mk hrd
        clear hrd ex
        have hf := HF.out
        clear HF
        rw [clo] at hf
        have hrg := firstAt_range (isNm n) l0
        have HI := Aside0.mk (show graph_Find.f l0 n = some (firstAt (isNm n) l0) from rfl)
        generalize hi : firstAt (isNm n) l0 = i at *
        clear hi
        by_cases h1 : i < 0
        · rw [if_pos h1] at hf
          simp only [Option.some.injEq, Prod.mk.injEq] at hf
          obtain ⟨rfl, rfl, rfl⟩ := hf
          have h1b : decide (i < 0) = true := decide_eq_true h1
          clear h1 hrg
          go_wp2_with (go_at_call 21; refine (graph_Find.calls _ c0 l0 n i _ (Kd.C_below HR0.out HB.out) HC0.out HI.out).mono ?_; rintro e w' ⟨rfl, hb⟩; have HB2 := Aside0.mk (below_step HB.out hb); have HQ2 := Aside0.mk (Kd.Q_below HQ.out hb); clear hb)
          have hx2 := (Kd.at_string (Kd.Q_reads' HQ2.out).2.2 0 (by omega) (by simp))
          obtain ⟨ad2, eA, hx2⟩ := hx2
          cases eA
          rw [show rdOf ByteArray.empty (n :: ns) 0 = n from rfl, show (0 : Int).toNat = 0 from rfl, Addr.add_zero'] at hx2
          go_quiet (fail)
          go_wp2
          go_ret3
          exact ⟨_, rfl, Kd.R_nil _ _ _ _ _, by first | exact HB2.out | (apply pw_below_drewN; exact HB2.out)⟩
        · rw [if_neg h1] at hf
          have h1b : decide (i < 0) = false := decide_eq_false h1
          have p1 : 0 ≤ i := by omega
          have q1 : i < l0.length := hrg.1
          clear h1 hrg
          have hcq := Kd.Q_reads' HQ.out
          have hlod : od.length ≤ 9223372036854775807 := (Kd.R_reads' HR1.out).2.2.2.1
          have EC := Aside0.mk (contains_is od i hlod (od.length + 1) (by omega))
          obtain ⟨i0, hi0, _, hsz, _⟩ := info_parts info9
          have hcut := cut_from (P := Try.prog) 23 9 .i64 Try.underlying23 hi0 1 hsz (some ad) (ns.length + 1) c7 1 (by omega) (by omega)
          obtain ⟨A2, hA2⟩ : ∃ A1, A1 = (if c7 = (1 : Int).toNat then some ad else (some ad).map (·.add ((1 : Int).toNat * 1))) := ⟨_, rfl⟩
          have hqd := Kd.Q_drop (k := 1) HQ.out (by simp)
          have hqd : Kd.Q Kd.string 9 wr w.heap.size (fun _ => True) (.slice A2 ns.length (c7 - 1)) ns := by rw [hA2]; exact hqd
          rw [← hA2] at hcut
          have hcut : ∀ W : World, (Instr.slice 23 (.slice (some ad) (ns.length + 1) c7) (some (.int .i64 1)) none none).run Try.prog W = .ok (.slice A2 ns.length (c7 - 1)) W := by
            intro W
            have := hcut W
            simpa using this
          clear hi0 hsz hcq hA2 h7
          have HQ1 := Aside0.mk hqd
          clear hqd HQ
          by_cases h2 : hasI od i = true
          · rw [if_pos h2] at hf
            have HF := Aside0.mk hf
            have EC1 := Aside0.mk (EC.out.trans (congrArg some h2))
            clear hf h2 EC
            go_wp2_with (first | (go_at_call 21; (with_reducible refine (graph_Find.calls _ c0 l0 n i _ ?side1 ?side2 HI.out).mono ?_); (case side1 => exact Kd.C_below HR0.out HB.out); (case side2 => exact HC0.out); rintro e w' ⟨rfl, hb⟩; have HB2 := Aside0.mk (below_step HB.out hb); have HQ2 := Aside0.mk (Kd.Q_below HQ1.out hb); have HR2 := Aside0.mk (Kd.R_below HR1.out hb); clear hb) | (go_at_call 24; (with_reducible refine (slices_Contains_int_int.calls (od.length + 1) _ _ od i _ _ ?side1 ?side2 EC1.out).mono ?_); (case side1 => exact (Kd.R_reads' HR2.out).2.2); (case side2 => exact (Kd.R_reads' HR2.out).2.1); rintro e w' ⟨rfl, ⟨nd, rfl⟩⟩))
            go_roundg k1
            case rel => exact ⟨ns, od, HF, ⟨Kd.R_drewN HR2.out _⟩, ⟨Kd.Q_drewN HQ2.out _⟩, ⟨pw_below_drewN HB2.out _⟩⟩
            case measure => omega
          · rw [if_neg h2] at hf
            have h2 := eq_false_of_ne_true h2
            have EC1 := Aside0.mk (EC.out.trans (congrArg some h2))
            clear h2 EC
            by_cases h3 : od.length < 17592186044416
            · rw [if_pos h3] at hf
              by_cases h4 : ns.length + (rd_T29 l0 i).f1.length < 4398046511104
              · rw [if_pos h4] at hf
                have HF := Aside0.mk hf
                have H3 := Aside0.mk h3
                have H4 := Aside0.mk h4
                clear hf h3 h4
                obtain ⟨ad0, A1_, c1_, A2_, c2_, A3_, c3_, A4_, c4_, A5_, c5_, A6_, c6_, eA, hx0, hx1, hx2, hx3, hx4, hx5, hx6, hl1, hi1, hl2, hi2, hl3, hi3, hl4, hi4, hl5, hi5, hl6, hi6⟩ := at_T29 HR0.out i p1 q1
                cases eA
                generalize hxx : (rd_T29 l0 i).f1 = ned at *
                clear hxx hx0 hx2 hx3 hx4 hx5 hx6 hl2 hi2 hl3 hi3 hl4 hi4 hl5 hi5 hl6 hi6
                have HX1 := Aside0.mk hx1
                have HI1 := Aside0.mk hi1
                clear hx1 hi1
                go_wp2_with (first | (go_at_call 21; (with_reducible refine (graph_Find.calls _ c0 l0 n i _ ?side1 ?side2 HI.out).mono ?_); (case side1 => exact Kd.C_below HR0.out HB.out); (case side2 => exact HC0.out); rintro e w' ⟨rfl, hb⟩; have HB2 := Aside0.mk (below_step HB.out hb); have HQ2 := Aside0.mk (Kd.Q_below HQ1.out hb); have HR2 := Aside0.mk (Kd.R_below HR1.out hb); clear hb) | (go_at_call 24; (with_reducible refine (slices_Contains_int_int.calls (od.length + 1) _ _ od i _ _ ?side1 ?side2 EC1.out).mono ?_); (case side1 => exact (Kd.R_reads' HR2.out).2.2); (case side2 => exact (Kd.R_reads' HR2.out).2.1); rintro e w' ⟨rfl, ⟨nd, rfl⟩⟩) | ((with_reducible refine gate_builtin (b := .append) (xs := #[.tmp 30, .tmp 32]) rfl ?_); at_builtin; refine Kd.R_append (Kd.int .i64) (w0 := w) w.heap.size rfl (.tmp 30) (.tmp 32) 27 3 (.int .i64 0) 8 rfl Try.underlying27 info3 rfl (by decide) (by omega) (.slice A4 od.length c4) od i [.int .i64 i] (fun _ => True) (fun _ => False) rfl rfl ?aP (fun _ hk => hk.elim) ?aF ?aO ?aB ?aS ?aL ?_; (case aP => exact rfl); (case aB => exact pw_below_drewN HB2.out _); (case aF => exact (fun _ _ => trivial)); (case aO => exact Kd.R_drewN HR2.out _); (case aS => exact (below_size (pw_below_drewN HB2.out _))); (case aL => have := H3.out; omega); intro v1 w1 ho1 hb1 hg1 hat1; obtain ⟨A5, c5, e5⟩ := Kd.R_slice ho1; subst e5; have HQ3 := Aside0.mk (Kd.Q_over' (Kd.Q_drewN HQ2.out _) (Kd.R_typed (Kd.R_drewN HR2.out _)) (str_E 3 (by decide)) hg1); have HR3 := Aside0.mk ho1; have HB3 := Aside0.mk hb1; clear HQ2 HR2 HB2 ho1 hb1 hg1 hat1; have hx1 := (HB3.out.cell (World.block_lt_of_cell? w _ HX1.out)).trans HX1.out) | ((with_reducible refine gate_builtin (b := .append) (xs := #[.tmp 34, .tmp 39]) rfl ?_); at_builtin; refine wp_q_append_strs w.heap.size rfl (.tmp 34) (.tmp 39) 23 9 (.string ⟨#[]⟩) 16 rfl Try.underlying23 info9 rfl (by omega) (.slice A2 ns.length (c7 - 1)) ns ned A1_ c1_ (fun _ => True) rfl rfl HQ3.out ?aR (fun _ _ => trivial) ?aS ?aL ?_; (case aR => exact Kd.C_below HI1.out HB3.out); (case aS => exact (below_size HB3.out)); (case aL => have := H4.out; omega); intro v2 w2 hq2 hg2 hat2; obtain ⟨A6, c6, e6, _⟩ := Kd.Q_slice hq2; subst e6; have HR4 := Aside0.mk (Kd.R_mono (Kd.R_grown (Kd.R_apart' HR3.out (Kd.Q_typed HQ3.out) (int_E 9 (by decide))) hg2 (fun k hk => hk.2)) (fun _ hk => hk.1)); have HB4 := Aside0.mk (HB3.out.grown hg2 (below_size HB3.out) (Kd.Q_base HQ3.out)); have HQ4 := Aside0.mk hq2; clear HR3 HB3 HQ3 hg2 hat2 hq2))
                go_roundg k1
                case rel => exact ⟨ns ++ ned, od ++ [i], HF, ⟨by rw [show od.length + 1 = (od ++ [i]).length by simp]; exact HR4.out⟩, ⟨by rw [show ns.length + ned.length = (ns ++ ned).length by simp]; exact HQ4.out⟩, HB4⟩
                case measure => omega
              · rw [if_neg h4] at hf; cases hf
            · rw [if_neg h3] at hf; cases hf

end Go.Proofs.Ytndmfjdoekdleaa.P
