/- Words of the walks: lemmas about memory, cut down to what this proof uses. No condition. -/
import Derived.Test.YtkppgepljjgjhaaKTagmemEitherMc9
namespace Go.Proofs.Ytkppgepljjgjhaa.P
open Go.RowKit Go.Proofs.YtkppgepljjgjhaaW.PrintWords Go.Proofs.YtkppgepljjgjhaaW.PrintLast
set_option linter.unusedVariables false
set_option linter.unusedSimpArgs false
theorem ev_skip {P : Program} {ops : Array Oper} {Q : Exit → Act → World → Prop} {oi : Oper} {a : Act} {w w' : World} {K : Act → World → Prop} {N : Option Tmp} (hw : Region.wanted oi (yielded ops a.tmps) = true) (hN : oi.dst = N) (hrun : (execOp a.eval oi).run P w = .ok .skip w') (h : K (a.put N undef) w') :
    if Region.wanted oi (yielded ops a.tmps) = true then Oper.wp P oi a w K Q else K (a.put N undef) w := by
  rw [if_pos hw]; subst hN; unfold Oper.wp; rw [hrun]; exact h
theorem zero_u8 (w : World) : (zeroValue 5).run Try.prog w = .ok (.int .u8 0) w := by kernel_rfl
/-- Bytes of a page are cleared. -/
theorem run_clearPg {W : World} {b : Nat} {p : Pg} (hp : p.Ok) (hb : W.heap[b]? = some (.cells p.cells 72 (0, 0))) {i n : Nat} (hfit : i + n ≤ 256) (dc : Nat) (h0 : 0 < n) (ty : TypeId) :
    (Builtin.clear_ #[51] ty #[.slice (some ⟨b, i, none⟩) n dc]).run Try.prog W = .ok (.tuple #[]) (W.setRow b ({ p with bs := splice p.bs i (List.replicate n 0) } : Pg).cells) := by
  have hzc : (Builtin.zeroCells (Value.int .u8 0).cells n).toList = List.replicate n (Value.int .u8 0) := by
    show (Builtin.zeroCells #[Value.int .u8 0] n).toList = _
    simp [Builtin.zeroCells]
    apply List.ext_getElem
    · simp
    · intro i h1 h2
      simp [Nat.mod_one]
  have hst := run_storeCells_at Try.prog b i 72 (List.replicate n (Value.int .u8 0)) 0 p.cells W hb (by rw [List.length_replicate, Pg.size_cells hp]; omega) (fun v hv => by rw [List.eq_of_mem_replicate hv]; rfl)
  have hcs := cells_splice hp (i := i) (r := List.replicate n 0) (by rw [List.length_replicate]; exact hfit)
  rw [List.map_replicate] at hcs
  rw [Nat.add_zero, hcs] at hst
  obtain ⟨k, rfl⟩ : ∃ k, n = k + 1 := ⟨n - 1, by omega⟩
  simp [Builtin.clear_, run_underlying Try.underlying51, zero_u8, hzc, hst]
def Pg.spl (p : Pg) (i : Nat) (r : List Int) : Pg := { p with bs := splice p.bs i r }
theorem spl_ok {p : Pg} (hp : p.Ok) {i : Nat} {r : List Int} (h : i + r.length ≤ 256) : (p.spl i r).Ok := ⟨by show (splice p.bs i r).length = 256; rw [splice_length (by rw [hp.b]; exact h)]; exact hp.b, hp.t⟩
def Pg.capB (p : Pg) (i : Nat) (r1 r2 r3 : List Int) : Pg := (((p.spl i (List.replicate 32 0)).spl i r1).spl (i + 8) r2).spl (i + 16) r3
def Pg.cap (p : Pg) (i : Nat) (r1 r2 r3 : List Int) (pe ty : Int) (tag : Bool) : Pg := { p.capB i r1 r2 r3 with bs := ((p.capB i r1 r2 r3).bs.set (i + 24) pe).set (i + 25) ty, ts := p.ts.set (i / 32) tag }
def tagmem_Mem_StoreCap.f (k : Nat) (m : Mm) (a c0 c1 c2 c3 c4 : Int) (c5 : Bool) : Option (Mm × Int) := if a % 32 = 0 then (match m.page (a / 256) with | some p => (word_Little.f k c0 8).bind fun r1 => (word_Little.f k c1 8).bind fun r2 => (word_Little.f k c2 8).bind fun r3 => if r1.length = 8 ∧ r2.length = 8 ∧ r3.length = 8 then some (m.put (p.cap (a % 256).toNat r1 r2 r3 (IntKind.u8.wrap c3) (IntKind.u8.wrap c4) c5), 0) else none | none => some (m, 30)) else some (m, 31)
set_option maxHeartbeats 4000000 in
set_option maxRecDepth 100000 in
theorem StoreCap_calls (k : Nat) {w : World} {g gm : Nat} {L : List Lp} {clock : Nat} {m : Mm} (h : MemL w g gm L clock m) (a c0 c1 c2 c3 c4 : Int) (c5 : Bool) (h0 : 0 ≤ a) (h1 : a ≤ 18446744073709551615) (m' : Mm) (e : Int) (hf : tagmem_Mem_StoreCap.f k m a c0 c1 c2 c3 c4 c5 = some (m', e)) :
    Calls Try.prog 19 #[.pointer (some ⟨g, 0, none⟩), .int .u64 a, .agg #[.int .u64 c0, .int .u64 c1, .int .u64 c2, .int .i64 c3, .int .i64 c4, .bool c5]] w fun e' w' => e' = .returned (.int .i64 e) ∧ ∃ L', MemL w' g gm L' clock m' ∧ L'.map Lp.blk = L.map Lp.blk ∧ Upd w w' (inL L) := by
  have A := Aside0.mk (fun W (hb : Below w.heap.size w W) => granule.calls (h.below hb) a h0 h1)
  unfold tagmem_Mem_StoreCap.f at hf
  rw [h.page] at hf
  have hu := Try.underlying41
  have HB0 := Aside0.mk (Below.refl w.heap.size w)
  by_cases c : a % 32 = 0
  · rw [if_pos c] at hf
    cases hl : lookL (a / 256) L with
    | none =>
      rw [hl] at hf A
      rw [show granV a none = .tuple #[.pointer none, .int .i64 0, .int .i64 30] from by unfold granV; rw [if_pos c]] at A
      obtain ⟨rfl, rfl⟩ := pair_mm hf
      clear hf
      go_enter Try.func19, Try.ntmps19
      go_wp2_with (first | ((with_reducible refine gate_dst (N := 5) rfl ?_); refine box_event ?hg (N := 5) ?hd (cs := #[.int .u64 c0, .int .u64 c1, .int .u64 c2, .int .i64 c3, .int .i64 c4, .bool c5]) (t := 41) ?hr ?_; (case hd => rfl); (case hg => rfl); (case hr => first | (go_simp; done) | (go_simp; rfl)); intro gb hgb w5 hbox hb5; have HB := Aside0.mk (below_step HB0.out hb5); have BK := Aside0.mk hbox; have GB := Aside0.mk hgb; clear hgb hbox hb5 HB0) | (go_at_call 31; refine (A.out _ HB.out).mono ?_; rintro e w' ⟨rfl, rfl⟩) | fail)
      go_ret
      exact ⟨rfl, L, h.below HB.out, rfl, Upd.of_below HB.out _⟩
    | some x =>
      rw [hl] at hf A
      rw [show granV a (some x) = .tuple #[.pointer (some ⟨x.blk, 0, none⟩), .int .i64 (a % 256), .int .i64 0] from by unfold granV; rw [if_pos c]] at A
      have hx := (lookL_mem hl).1
      simp only [Option.map_some] at hf
      obtain ⟨r1, hf1, hg1⟩ := Option.bind_eq_some_iff.1 hf
      obtain ⟨r2, hf2, hg2⟩ := Option.bind_eq_some_iff.1 hg1
      obtain ⟨r3, hf3, hg3⟩ := Option.bind_eq_some_iff.1 hg2
      by_cases hlen : r1.length = 8 ∧ r2.length = 8 ∧ r3.length = 8
      case neg => rw [if_neg hlen] at hg3; cases hg3
      rw [if_pos hlen] at hg3
      obtain ⟨rfl, rfl⟩ := pair_mm hg3
      obtain ⟨l1, l2, l3⟩ := hlen
      have HF1 := Aside0.mk hf1
      have HF2 := Aside0.mk hf2
      have HF3 := Aside0.mk hf3
      clear hf hg1 hg2 hg3 hf1 hf2 hf3
      have i0 : 0 ≤ a % 256 := by omega
      have i1 : a % 256 + 32 ≤ 256 := by omega
      have hs := run_slicePg x.blk i0 (show a % 256 ≤ a % 256 + 32 by omega) i1 (by omega)
      rw [show (a % 256 + 32).toNat - (a % 256).toNat = 32 by omega] at hs
      have hok := h.ok x hx
      generalize hxp : x.pg = p at hok
      obtain ⟨i, hi⟩ : ∃ i : Nat, (a % 256).toNat = i := ⟨_, rfl⟩
      rw [hi] at hs
      have hin : i + 32 ≤ 256 := by omega
      have ok1 : (p.spl i (List.replicate 32 0)).Ok := spl_ok hok (by rw [List.length_replicate]; exact hin)
      have ok2 : ((p.spl i (List.replicate 32 0)).spl i r1).Ok := spl_ok ok1 (by omega)
      have ok3 : (((p.spl i (List.replicate 32 0)).spl i r1).spl (i + 8) r2).Ok := spl_ok ok2 (by omega)
      have ok4 : (p.capB i r1 r2 r3).Ok := spl_ok ok3 (by omega)
      go_enter Try.func19, Try.ntmps19
      go_wp2_with (first | ((with_reducible refine gate_dst (N := 5) rfl ?_); refine box_event ?hg (N := 5) ?hd (cs := #[.int .u64 c0, .int .u64 c1, .int .u64 c2, .int .i64 c3, .int .i64 c4, .bool c5]) (t := 41) ?hr ?_; (case hd => rfl); (case hg => rfl); (case hr => first | (go_simp; done) | (go_simp; rfl)); intro gb hgb w5 hbox hb5; have HB := Aside0.mk (below_step HB0.out hb5); have BK5 := Aside0.mk hbox; have GB := Aside0.mk hgb; clear hgb hbox hb5 HB0) | (go_at_call 31; refine (A.out _ HB.out).mono ?_; rintro e w' ⟨rfl, rfl⟩; have HM := Aside0.mk (h.below HB.out); have HX5 := Aside0.mk (hxp ▸ HM.out.blk x hx); have HNE := Aside0.mk (blk_ne BK5.out HX5.out (by decide)); have hclear := run_clearPg hok HX5.out (i := i) (n := 32) (by omega) (256 - i) (by omega) 0; have HX6 := Aside0.mk (row_same (cs := (p.spl i (List.replicate 32 0)).cells) HX5.out); have BK6 := Aside0.mk ((setRow_other w' x.blk gb (p.spl i (List.replicate 32 0)).cells HNE.out).trans BK5.out); have HU6 := Aside0.mk (row_upd w' (b := x.blk) (p.spl i (List.replicate 32 0)).cells (S := (· = x.blk)) rfl); generalize hW6 : w'.setRow x.blk (p.spl i (List.replicate 32 0)).cells = W6 at HX6 BK6 HU6; rw [show ({ p with bs := splice p.bs i (List.replicate 32 0) } : Pg) = p.spl i (List.replicate 32 0) from rfl, hW6] at hclear; clear hW6; have hc6 : W6.cell? ⟨gb, 0, none⟩ = some (.int .u64 c0) := (blk_cell BK6.out 0).trans rfl) | (go_at_call 32; refine (word_Little.calls k c0 8 r1 _ HF1.out).mono ?_; rintro e w7 ⟨v7, rfl, hr, hb⟩; obtain ⟨A1, co1, rfl⟩ := Kd.R_slice hr; have HR1 := Aside0.mk (Kd.R_reads' hr).2.2; have BK7 := Aside0.mk (blk_below BK6.out hb); have HX7 := Aside0.mk (blk_below HX6.out hb); have HU7 := Aside0.mk (HU6.out.then_ (Upd.of_below hb (· = x.blk)) (fun _ hk => .inl hk)); have hcopy := run_copyPg (co := co1) ok1 HX7.out HR1.out (i := i) (by omega) 32 (256 - i) (by omega) (by omega); clear hr hb HX6 BK6 HU6 hclear hc6; have HX8 := Aside0.mk (row_same (cs := ((p.spl i (List.replicate 32 0)).spl i r1).cells) HX7.out); have BK8 := Aside0.mk ((setRow_other w7 x.blk gb ((p.spl i (List.replicate 32 0)).spl i r1).cells HNE.out).trans BK7.out); have HU8 := Aside0.mk (HU7.out.then_ (row_upd w7 (b := x.blk) ((p.spl i (List.replicate 32 0)).spl i r1).cells (S := (· = x.blk)) rfl) (fun _ hk => .inl hk)); generalize hW8 : w7.setRow x.blk ((p.spl i (List.replicate 32 0)).spl i r1).cells = W8 at HX8 BK8 HU8; rw [show ({ (p.spl i (List.replicate 32 0)) with bs := splice (p.spl i (List.replicate 32 0)).bs i r1 } : Pg) = (p.spl i (List.replicate 32 0)).spl i r1 from rfl, hW8, l1] at hcopy; clear hW8 HX7 BK7 HU7) | fail)
      refine start_ (n := 6) (S := fun w' => w'.cell? ⟨gb, 1, none⟩ = some (.int .u64 c1)) (ds := []) #[false, false, false, false, false, false] (by kernel_rfl) rfl rfl ((blk_cell BK8.out 1).trans rfl) (fun hHeld => ?_)
      have HX9 := Aside0.mk (show W8.drew.heap[x.blk]? = _ from HX8.out)
      have BK9 := Aside0.mk (show W8.drew.heap[gb]? = _ from BK8.out)
      have HU9 := Aside0.mk (HU8.out.then_ (Upd.drew (S := (· = x.blk)) W8) (fun _ hk => .inl hk))
      generalize W8.drew = W9 at HX9 BK9 HU9 hHeld ⊢
      clear HX8 BK8 HU8
      refine pure_ (i := 0) (N := some 34) (v := ?_) (a' := ?_) #[true, false, false, false, false, false] rfl rfl (by kernel_rfl) (fun _ _ _ h => h) (Or.inl ⟨by rfl, ?_⟩) ?_ ?_
      rotate_left
      · intro w'
        go_simp
        with_reducible rfl
      rotate_left
      · simp only [Act.put, List.setIfInBounds_toArray, List.set_cons_zero, List.set_cons_succ, i64_w, i32_w]
        rfl
      refine pure_ (i := 1) (N := some 35) (v := ?_) (a' := ?_) #[true, true, false, false, false, false] rfl rfl (by kernel_rfl) (fun _ _ _ h => h) (Or.inl ⟨by rfl, ?_⟩) ?_ ?_
      rotate_left
      · intro w'
        go_simp
        with_reducible rfl
      rotate_left
      · simp only [Act.put, List.setIfInBounds_toArray, List.set_cons_zero, List.set_cons_succ, i64_w, i32_w]
        rfl
      refine pure_ (i := 2) (N := some 36) (v := ?_) (a' := ?_) #[true, true, true, false, false, false] rfl rfl (by kernel_rfl) (fun _ _ _ h => h) (Or.inl ⟨by rfl, ?_⟩) ?_ ?_
      rotate_left
      · intro w'
        go_simp
        with_reducible rfl
      rotate_left
      · simp only [Act.put, List.setIfInBounds_toArray, List.set_cons_zero, List.set_cons_succ, i64_w, i32_w]
        rfl
      refine take_ (i := 3) (N := some 37) (v := ?_) (a' := ?_) #[true, true, true, true, false, false] rfl rfl (by kernel_rfl) (fun _ _ _ h => h) (Or.inl ⟨by rfl, ?_⟩) hHeld ?_ ?_
      rotate_left
      · rintro w' s0
        go_simp
        with_reducible rfl
      rotate_left
      · simp only [Act.put, List.setIfInBounds_toArray, List.set_cons_zero, List.set_cons_succ, i64_w, i32_w]
        rfl
      refine one_ (i := 4) (N := some 38) #[true, true, true, true, true, false] rfl rfl (by kernel_rfl) (by decide) (fun K hK => ?_)
      refine goes_ Try.func32 (by kernel_rfl) rfl #[.int .u64 c1, .int .i64 8] (by rfl) rfl rfl (by (try simp only [List.map_toArray, List.map_cons, List.map_nil]); first | done | rfl) ?_
      refine (word_Little.calls k c1 8 r2 _ HF2.out).mono ?_
      rintro e w10 ⟨v10, rfl, hr, hb⟩
      refine ⟨_, rfl, ?_⟩
      obtain ⟨A2, co2, rfl⟩ := Kd.R_slice hr
      have HR2 := Aside0.mk (Kd.R_reads' hr).2.2
      have BK10 := Aside0.mk (blk_below BK9.out hb)
      have HX10 := Aside0.mk (blk_below HX9.out hb)
      have HU10 := Aside0.mk (HU9.out.then_ (Upd.of_below hb (· = x.blk)) (fun _ hk => .inl hk))
      clear hr hb HX9 BK9 HU9
      refine hK.out _ _ ((blk_cell BK10.out 1).trans rfl) (fun hHeld => ?_)
      clear hK K
      refine norm_ (a' := ?_) ?_ ?_
      rotate_left
      · show Act.put _ (some 38) _ = _
        simp only [Act.put, List.setIfInBounds_toArray, List.set_cons_zero, List.set_cons_succ, i64_w, i32_w]
        rfl
      refine one_ (i := 5) (N := some 39) #[true, true, true, true, true, true] rfl rfl (by kernel_rfl) (by decide) (fun K hK => ?_)
      have hcopy := run_copyPg (co := co2) ok2 HX10.out HR2.out (i := i + 8) (by omega) (32 - 8) (256 - i - 8) (by omega) (by omega)
      rw [l2] at hcopy
      have HX11 := Aside0.mk (row_same (cs := (((p.spl i (List.replicate 32 0)).spl i r1).spl (i + 8) r2).cells) HX10.out)
      have BK11 := Aside0.mk ((setRow_other w10 x.blk gb (((p.spl i (List.replicate 32 0)).spl i r1).spl (i + 8) r2).cells HNE.out).trans BK10.out)
      have HU11 := Aside0.mk (HU10.out.then_ (row_upd w10 (b := x.blk) (((p.spl i (List.replicate 32 0)).spl i r1).spl (i + 8) r2).cells (S := (· = x.blk)) rfl) (fun _ hk => .inl hk))
      generalize hW : w10.setRow x.blk (((p.spl i (List.replicate 32 0)).spl i r1).spl (i + 8) r2).cells = W11 at HX11 BK11 HU11
      rw [show ({ (p.spl i (List.replicate 32 0)).spl i r1 with bs := splice ((p.spl i (List.replicate 32 0)).spl i r1).bs (i + 8) r2 } : Pg) = ((p.spl i (List.replicate 32 0)).spl i r1).spl (i + 8) r2 from rfl, hW] at hcopy
      clear hW HX10 BK10 HU10
      refine ev_ (v := goInt 8) (w' := W11) (by rfl) rfl ?_ ?_
      · go_simp
        rw [if_neg (show ¬ (256 - i = 8) by omega), hcopy]
        rfl
      clear hcopy
      refine hK.out _ _ ((blk_cell BK11.out 1).trans rfl) (fun hHeld => ?_)
      clear hK K hHeld
      refine norm_ (a' := ?_) ?_ ?_
      rotate_left
      · show Act.put _ (some 39) _ = _
        simp only [Act.put, List.setIfInBounds_toArray, List.set_cons_zero, List.set_cons_succ, i64_w, i32_w]
        rfl
      refine done_ (by kernel_rfl) ?_
      go_wp2
      refine start_ (n := 6) (S := fun w' => w'.cell? ⟨gb, 2, none⟩ = some (.int .u64 c2)) (ds := []) #[false, false, false, false, false, false] (by kernel_rfl) rfl rfl ((blk_cell BK11.out 2).trans rfl) (fun hHeld => ?_)
      have HX12 := Aside0.mk (show W11.drew.heap[x.blk]? = _ from HX11.out)
      have BK12 := Aside0.mk (show W11.drew.heap[gb]? = _ from BK11.out)
      have HU12 := Aside0.mk (HU11.out.then_ (Upd.drew (S := (· = x.blk)) W11) (fun _ hk => .inl hk))
      generalize W11.drew = W12 at HX12 BK12 HU12 hHeld ⊢
      clear HX11 BK11 HU11
      refine pure_ (i := 0) (N := some 40) (v := ?_) (a' := ?_) #[true, false, false, false, false, false] rfl rfl (by kernel_rfl) (fun _ _ _ h => h) (Or.inl ⟨by rfl, ?_⟩) ?_ ?_
      rotate_left
      · intro w'
        go_simp
        with_reducible rfl
      rotate_left
      · simp only [Act.put, List.setIfInBounds_toArray, List.set_cons_zero, List.set_cons_succ, i64_w, i32_w]
        rfl
      refine pure_ (i := 1) (N := some 41) (v := ?_) (a' := ?_) #[true, true, false, false, false, false] rfl rfl (by kernel_rfl) (fun _ _ _ h => h) (Or.inl ⟨by rfl, ?_⟩) ?_ ?_
      rotate_left
      · intro w'
        go_simp
        with_reducible rfl
      rotate_left
      · simp only [Act.put, List.setIfInBounds_toArray, List.set_cons_zero, List.set_cons_succ, i64_w, i32_w]
        rfl
      refine pure_ (i := 2) (N := some 42) (v := ?_) (a' := ?_) #[true, true, true, false, false, false] rfl rfl (by kernel_rfl) (fun _ _ _ h => h) (Or.inl ⟨by rfl, ?_⟩) ?_ ?_
      rotate_left
      · intro w'
        go_simp
        with_reducible rfl
      rotate_left
      · simp only [Act.put, List.setIfInBounds_toArray, List.set_cons_zero, List.set_cons_succ, i64_w, i32_w]
        rfl
      refine take_ (i := 3) (N := some 43) (v := ?_) (a' := ?_) #[true, true, true, true, false, false] rfl rfl (by kernel_rfl) (fun _ _ _ h => h) (Or.inl ⟨by rfl, ?_⟩) hHeld ?_ ?_
      rotate_left
      · rintro w' s0
        go_simp
        with_reducible rfl
      rotate_left
      · simp only [Act.put, List.setIfInBounds_toArray, List.set_cons_zero, List.set_cons_succ, i64_w, i32_w]
        rfl
      refine one_ (i := 4) (N := some 44) #[true, true, true, true, true, false] rfl rfl (by kernel_rfl) (by decide) (fun K hK => ?_)
      refine goes_ Try.func32 (by kernel_rfl) rfl #[.int .u64 c2, .int .i64 8] (by rfl) rfl rfl (by (try simp only [List.map_toArray, List.map_cons, List.map_nil]); first | done | rfl) ?_
      refine (word_Little.calls k c2 8 r3 _ HF3.out).mono ?_
      rintro e w13 ⟨v13, rfl, hr, hb⟩
      refine ⟨_, rfl, ?_⟩
      obtain ⟨A3, co3, rfl⟩ := Kd.R_slice hr
      have HR3 := Aside0.mk (Kd.R_reads' hr).2.2
      have BK13 := Aside0.mk (blk_below BK12.out hb)
      have HX13 := Aside0.mk (blk_below HX12.out hb)
      have HU13 := Aside0.mk (HU12.out.then_ (Upd.of_below hb (· = x.blk)) (fun _ hk => .inl hk))
      clear hr hb HX12 BK12 HU12
      refine hK.out _ _ ((blk_cell BK13.out 2).trans rfl) (fun hHeld => ?_)
      clear hK K
      refine norm_ (a' := ?_) ?_ ?_
      rotate_left
      · show Act.put _ (some 44) _ = _
        simp only [Act.put, List.setIfInBounds_toArray, List.set_cons_zero, List.set_cons_succ, i64_w, i32_w]
        rfl
      refine one_ (i := 5) (N := some 45) #[true, true, true, true, true, true] rfl rfl (by kernel_rfl) (by decide) (fun K hK => ?_)
      have hcopy := run_copyPg (co := co3) ok3 HX13.out HR3.out (i := i + 16) (by omega) (32 - 16) (256 - i - 16) (by omega) (by omega)
      rw [l3] at hcopy
      have HX14 := Aside0.mk (row_same (cs := (p.capB i r1 r2 r3).cells) HX13.out)
      have BK14 := Aside0.mk ((setRow_other w13 x.blk gb (p.capB i r1 r2 r3).cells HNE.out).trans BK13.out)
      have HU14 := Aside0.mk (HU13.out.then_ (row_upd w13 (b := x.blk) (p.capB i r1 r2 r3).cells (S := (· = x.blk)) rfl) (fun _ hk => .inl hk))
      generalize hW : w13.setRow x.blk (p.capB i r1 r2 r3).cells = W14 at HX14 BK14 HU14
      rw [show ({ ((p.spl i (List.replicate 32 0)).spl i r1).spl (i + 8) r2 with bs := splice (((p.spl i (List.replicate 32 0)).spl i r1).spl (i + 8) r2).bs (i + 16) r3 } : Pg) = p.capB i r1 r2 r3 from rfl, hW] at hcopy
      clear hW HX13 BK13 HU13
      refine ev_ (v := goInt 8) (w' := W14) (by rfl) rfl ?_ ?_
      · go_simp
        rw [if_neg (show ¬ (256 - i = 16) by omega), hcopy]
        rfl
      clear hcopy
      refine hK.out _ _ ((blk_cell BK14.out 2).trans rfl) (fun hHeld => ?_)
      clear hK K hHeld
      refine norm_ (a' := ?_) ?_ ?_
      rotate_left
      · show Act.put _ (some 45) _ = _
        simp only [Act.put, List.setIfInBounds_toArray, List.set_cons_zero, List.set_cons_succ, i64_w, i32_w]
        rfl
      refine done_ (by kernel_rfl) ?_
      go_wp2
      refine start_ (n := 12) (S := fun w' => w'.cell? ⟨gb, 3, none⟩ = some (.int .i64 c3) ∧ w'.cell? ⟨gb, 4, none⟩ = some (.int .i64 c4)) (ds := []) #[false, false, false, false, false, false, false, false, false, false, false, false] (by kernel_rfl) rfl rfl ⟨(blk_cell BK14.out 3).trans rfl, (blk_cell BK14.out 4).trans rfl⟩ (fun hHeld => ?_)
      have HX15 := Aside0.mk (show W14.drew.heap[x.blk]? = _ from HX14.out)
      have BK15 := Aside0.mk (show W14.drew.heap[gb]? = _ from BK14.out)
      have HU15 := Aside0.mk (HU14.out.then_ (Upd.drew (S := (· = x.blk)) W14) (fun _ hk => .inl hk))
      generalize W14.drew = W15 at HX15 BK15 HU15 hHeld ⊢
      clear HX14 BK14 HU14
      refine pure_ (i := 0) (N := some 46) (v := ?_) (a' := ?_) #[true, false, false, false, false, false, false, false, false, false, false, false] rfl rfl (by kernel_rfl) (fun _ _ _ h => h) (Or.inl ⟨by rfl, ?_⟩) ?_ ?_
      rotate_left
      · intro w'
        go_simp
        with_reducible rfl
      rotate_left
      · simp only [Act.put, List.setIfInBounds_toArray, List.set_cons_zero, List.set_cons_succ, i64_w, i32_w]
        rfl
      refine pure_ (i := 1) (N := some 47) (v := ?_) (a' := ?_) #[true, true, false, false, false, false, false, false, false, false, false, false] rfl rfl (by kernel_rfl) (fun _ _ _ h => h) (Or.inl ⟨by rfl, ?_⟩) ?_ ?_
      rotate_left
      · intro w'
        go_simp
        with_reducible rfl
      rotate_left
      · simp only [Act.put, List.setIfInBounds_toArray, List.set_cons_zero, List.set_cons_succ, i64_w, i32_w]
        rfl
      refine pure_ (i := 2) (N := some 48) (v := ?_) (a' := ?_) #[true, true, true, false, false, false, false, false, false, false, false, false] rfl rfl (by kernel_rfl) (fun _ _ _ h => h) (Or.inl ⟨by rfl, ?_⟩) ?_ ?_
      rotate_left
      · intro w'
        go_simp
        with_reducible rfl
      rotate_left
      · simp only [Act.put, List.setIfInBounds_toArray, List.set_cons_zero, List.set_cons_succ, i64_w, i32_w]
        rfl
      refine take_ (i := 3) (N := some 49) (v := ?_) (a' := ?_) #[true, true, true, true, false, false, false, false, false, false, false, false] rfl rfl (by kernel_rfl) (fun _ _ _ h => h) (Or.inl ⟨by rfl, ?_⟩) hHeld ?_ ?_
      rotate_left
      · rintro w' ⟨s0, s1⟩
        go_simp
        with_reducible rfl
      rotate_left
      · simp only [Act.put, List.setIfInBounds_toArray, List.set_cons_zero, List.set_cons_succ, i64_w, i32_w]
        rfl
      refine pure_ (i := 4) (N := some 50) (v := ?_) (a' := ?_) #[true, true, true, true, true, false, false, false, false, false, false, false] rfl rfl (by kernel_rfl) (fun _ _ _ h => h) (Or.inl ⟨by rfl, ?_⟩) ?_ ?_
      rotate_left
      · intro w'
        go_simp
        with_reducible rfl
      rotate_left
      · simp only [Act.put, List.setIfInBounds_toArray, List.set_cons_zero, List.set_cons_succ, i64_w, i32_w]
        rfl
      refine pure_ (i := 5) (N := some 51) (v := ?_) (a' := ?_) #[true, true, true, true, true, true, false, false, false, false, false, false] rfl rfl (by kernel_rfl) (fun _ _ _ h => h) (Or.inl ⟨by rfl, ?_⟩) ?_ ?_
      rotate_left
      · intro w'
        go_simp
        with_reducible rfl
      rotate_left
      · simp only [Act.put, List.setIfInBounds_toArray, List.set_cons_zero, List.set_cons_succ, i64_w, i32_w]
        rfl
      refine take_ (i := 6) (N := some 52) (v := ?_) (a' := ?_) #[true, true, true, true, true, true, true, false, false, false, false, false] rfl rfl (by kernel_rfl) (fun _ _ _ h => h) (Or.inl ⟨by rfl, ?_⟩) hHeld ?_ ?_
      rotate_left
      · rintro w' ⟨s0, s1⟩
        go_simp
        with_reducible rfl
      rotate_left
      · simp only [Act.put, List.setIfInBounds_toArray, List.set_cons_zero, List.set_cons_succ, i64_w, i32_w]
        rfl
      refine pure_ (i := 7) (N := some 53) (v := ?_) (a' := ?_) #[true, true, true, true, true, true, true, true, false, false, false, false] rfl rfl (by kernel_rfl) (fun _ _ _ h => h) (Or.inl ⟨by rfl, ?_⟩) ?_ ?_
      rotate_left
      · intro w'
        go_simp
        with_reducible rfl
      rotate_left
      · simp only [Act.put, List.setIfInBounds_toArray, List.set_cons_zero, List.set_cons_succ, i64_w, i32_w]
        rfl
      refine pure_ (i := 8) (N := some 54) (v := ?_) (a' := ?_) #[true, true, true, true, true, true, true, true, true, false, false, false] rfl rfl (by kernel_rfl) (fun _ _ _ h => h) (Or.inl ⟨by rfl, ?_⟩) ?_ ?_
      rotate_left
      · intro w'
        go_simp
        with_reducible rfl
      rotate_left
      · simp only [Act.put, List.setIfInBounds_toArray, List.set_cons_zero, List.set_cons_succ, i64_w, i32_w]
        rfl
      have ok5 : ({ p.capB i r1 r2 r3 with bs := (p.capB i r1 r2 r3).bs.set (i + 24) (IntKind.u8.wrap c3) } : Pg).Ok := ⟨by simp [ok4.b], ok4.t⟩
      refine one_ (i := 9) (N := none) #[true, true, true, true, true, true, true, true, true, true, false, false] rfl rfl (by kernel_rfl) (by decide) (fun K hK => ?_)
      have hc1 := (blk_cell HX15.out (i + 24)).trans (cells_at ok4 (by omega))
      have hc2 := blk_frozen HX15.out (i + 24)
      have hX := blk_set HX15.out (i + 24) (.int .u8 (IntKind.u8.wrap c3))
      rw [cells_byte ok4 (by omega)] at hX
      have HX16 := Aside0.mk hX
      have BK16 := Aside0.mk (blk_far BK15.out (p := ⟨x.blk, i + 24, none⟩) HNE.out (.int .u8 (IntKind.u8.wrap c3)))
      have HU16 := Aside0.mk (HU15.out.then_ (Upd.setCell W15 (p := ⟨x.blk, i + 24, none⟩) (S := (· = x.blk)) rfl (.int .u8 (IntKind.u8.wrap c3))) (fun _ hk => .inl hk))
      refine ev_skip (w' := W15.setCell ⟨x.blk, i + 24, none⟩ (.int .u8 (IntKind.u8.wrap c3))) (by rfl) rfl ?_ ?_
      · go_simp
      clear hc1 hc2 hX HX15 BK15 HU15
      generalize W15.setCell ⟨x.blk, i + 24, none⟩ (.int .u8 (IntKind.u8.wrap c3)) = W16 at HX16 BK16 HU16 ⊢
      refine hK.out _ _ ⟨(blk_cell BK16.out 3).trans rfl, (blk_cell BK16.out 4).trans rfl⟩ (fun hHeld => ?_)
      clear hK K
      refine norm_ (a' := ?_) ?_ ?_
      rotate_left
      · show Act.put _ none _ = _
        rfl
      refine pure_ (i := 10) (N := some 55) (v := ?_) (a' := ?_) #[true, true, true, true, true, true, true, true, true, true, true, false] rfl rfl (by kernel_rfl) (fun _ _ _ h => h) (Or.inl ⟨by rfl, ?_⟩) ?_ ?_
      rotate_left
      · intro w'
        go_simp
        with_reducible rfl
      rotate_left
      · simp only [Act.put, List.setIfInBounds_toArray, List.set_cons_zero, List.set_cons_succ, i64_w, i32_w]
        rfl
      refine one_ (i := 11) (N := none) #[true, true, true, true, true, true, true, true, true, true, true, true] rfl rfl (by kernel_rfl) (by decide) (fun K hK => ?_)
      have hc1 := (blk_cell HX16.out (i + 25)).trans (cells_at ok5 (by omega))
      have hc2 := blk_frozen HX16.out (i + 25)
      have hX := blk_set HX16.out (i + 25) (.int .u8 (IntKind.u8.wrap c4))
      rw [cells_byte ok5 (by omega)] at hX
      have HX17 := Aside0.mk hX
      have BK17 := Aside0.mk (blk_far BK16.out (p := ⟨x.blk, i + 25, none⟩) HNE.out (.int .u8 (IntKind.u8.wrap c4)))
      have HU17 := Aside0.mk (HU16.out.then_ (Upd.setCell W16 (p := ⟨x.blk, i + 25, none⟩) (S := (· = x.blk)) rfl (.int .u8 (IntKind.u8.wrap c4))) (fun _ hk => .inl hk))
      refine ev_skip (w' := W16.setCell ⟨x.blk, i + 25, none⟩ (.int .u8 (IntKind.u8.wrap c4))) (by rfl) rfl ?_ ?_
      · go_simp
      clear hc1 hc2 hX HX16 BK16 HU16
      generalize W16.setCell ⟨x.blk, i + 25, none⟩ (.int .u8 (IntKind.u8.wrap c4)) = W17 at HX17 BK17 HU17 ⊢
      refine hK.out _ _ ⟨(blk_cell BK17.out 3).trans rfl, (blk_cell BK17.out 4).trans rfl⟩ (fun hHeld => ?_)
      clear hK K
      refine norm_ (a' := ?_) ?_ ?_
      rotate_left
      · show Act.put _ none _ = _
        rfl
      refine done_ (by kernel_rfl) ?_
      go_wp2
      obtain ⟨j, hj⟩ : ∃ j : Nat, j = i / 32 := ⟨_, rfl⟩
      have hj8 : j < 8 := by omega
      have hq : wrap64 ((a % 256).tdiv 32) = (j : Int) := by rw [Int.tdiv_eq_ediv_of_nonneg i0]; unfold wrap64; omega
      have HJ := Aside0.mk hj
      clear hj
      have ok6 : ({ p.capB i r1 r2 r3 with bs := ((p.capB i r1 r2 r3).bs.set (i + 24) (IntKind.u8.wrap c3)).set (i + 25) (IntKind.u8.wrap c4) } : Pg).Ok := ⟨by simp [ok4.b], ok4.t⟩
      refine start_ (n := 9) (S := fun w' => w'.cell? ⟨gb, 5, none⟩ = some (.bool c5)) (ds := []) #[false, false, false, false, false, false, false, false, false] (by kernel_rfl) rfl rfl ((blk_cell BK17.out 5).trans rfl) (fun hHeld => ?_)
      have HX18 := Aside0.mk (show W17.drew.heap[x.blk]? = _ from HX17.out)
      have BK18 := Aside0.mk (show W17.drew.heap[gb]? = _ from BK17.out)
      have HU18 := Aside0.mk (HU17.out.then_ (Upd.drew (S := (· = x.blk)) W17) (fun _ hk => .inl hk))
      generalize W17.drew = W18 at HX18 BK18 HU18 hHeld ⊢
      clear HX17 BK17 HU17
      refine pure_ (i := 0) (N := some 56) (v := ?_) (a' := ?_) #[true, false, false, false, false, false, false, false, false] rfl rfl (by kernel_rfl) (fun _ _ _ h => h) (Or.inl ⟨by rfl, ?_⟩) ?_ ?_
      rotate_left
      · intro w'
        go_simp
        with_reducible rfl
      rotate_left
      · simp only [Act.put, List.setIfInBounds_toArray, List.set_cons_zero, List.set_cons_succ, i64_w, i32_w]
        rfl
      refine pure_ (i := 1) (N := some 57) (v := ?_) (a' := ?_) #[true, true, false, false, false, false, false, false, false] rfl rfl (by kernel_rfl) (fun _ _ _ h => h) (Or.inl ⟨by rfl, ?_⟩) ?_ ?_
      rotate_left
      · intro w'
        go_simp
        with_reducible rfl
      rotate_left
      · simp only [Act.put, List.setIfInBounds_toArray, List.set_cons_zero, List.set_cons_succ, i64_w, i32_w]
        rfl
      refine pure_ (i := 2) (N := some 58) (v := ?_) (a' := ?_) #[true, true, true, false, false, false, false, false, false] rfl rfl (by kernel_rfl) (fun _ _ _ h => h) (Or.inl ⟨by rfl, ?_⟩) ?_ ?_
      rotate_left
      · intro w'
        go_simp
        rw [(i64_w _).trans hq]
      rotate_left
      · simp only [Act.put, List.setIfInBounds_toArray, List.set_cons_zero, List.set_cons_succ, i64_w, i32_w]
        rfl
      refine pure_ (i := 3) (N := some 59) (v := ?_) (a' := ?_) #[true, true, true, true, false, false, false, false, false] rfl rfl (by kernel_rfl) (fun _ _ _ h => h) (Or.inl ⟨by rfl, ?_⟩) ?_ ?_
      rotate_left
      · intro w'
        go_simp
        with_reducible rfl
      rotate_left
      · simp only [Act.put, List.setIfInBounds_toArray, List.set_cons_zero, List.set_cons_succ, i64_w, i32_w]
        rfl
      refine take_ (i := 4) (N := some 60) (v := ?_) (a' := ?_) #[true, true, true, true, true, false, false, false, false] rfl rfl (by kernel_rfl) (fun _ _ _ h => h) (Or.inl ⟨by rfl, ?_⟩) hHeld ?_ ?_
      rotate_left
      · rintro w' s0
        go_simp
        with_reducible rfl
      rotate_left
      · simp only [Act.put, List.setIfInBounds_toArray, List.set_cons_zero, List.set_cons_succ, i64_w, i32_w]
        rfl
      refine pure_ (i := 5) (N := some 61) (v := ?_) (a' := ?_) #[true, true, true, true, true, true, false, false, false] rfl rfl (by kernel_rfl) (fun _ _ _ h => h) (Or.inl ⟨by rfl, ?_⟩) ?_ ?_
      rotate_left
      · intro w'
        go_simp
        with_reducible rfl
      rotate_left
      · simp only [Act.put, List.setIfInBounds_toArray, List.set_cons_zero, List.set_cons_succ, i64_w, i32_w]
        rfl
      refine pure_ (i := 6) (N := some 62) (v := ?_) (a' := ?_) #[true, true, true, true, true, true, true, false, false] rfl rfl (by kernel_rfl) (fun _ _ _ h => h) (Or.inl ⟨by rfl, ?_⟩) ?_ ?_
      rotate_left
      · intro w'
        go_simp
        with_reducible rfl
      rotate_left
      · simp only [Act.put, List.setIfInBounds_toArray, List.set_cons_zero, List.set_cons_succ, i64_w, i32_w]
        rfl
      refine pure_ (i := 7) (N := some 63) (v := ?_) (a' := ?_) #[true, true, true, true, true, true, true, true, false] rfl rfl (by kernel_rfl) (fun _ _ _ h => h) (Or.inl ⟨by rfl, ?_⟩) ?_ ?_
      rotate_left
      · intro w'
        go_simp
        rw [if_pos (show (j : Int) < 8 by omega)]
      rotate_left
      · simp only [Act.put, List.setIfInBounds_toArray, List.set_cons_zero, List.set_cons_succ, i64_w, i32_w]
        rfl
      refine one_ (i := 8) (N := none) #[true, true, true, true, true, true, true, true, true] rfl rfl (by kernel_rfl) (by decide) (fun K hK => ?_)
      have hc1 := (blk_cell HX18.out (256 + j)).trans (cells_tag_at ok6 (by omega))
      have hc2 := blk_frozen HX18.out (256 + j)
      have hX := blk_set HX18.out (256 + j) (.bool c5)
      rw [cells_tag ok6] at hX
      have HU19 := HU18.out.then_ (Upd.setCell W18 (p := ⟨x.blk, 256 + j, none⟩) (S := (· = x.blk)) rfl (.bool c5)) (fun _ hk => .inl hk)
      refine ev_skip (w' := W18.setCell ⟨x.blk, 256 + j, none⟩ (.bool c5)) (by rfl) rfl ?_ ?_
      · go_simp
      obtain ⟨L', hm5, hl5⟩ := HM.out.write' hx (p := p.cap i r1 r2 r3 (IntKind.u8.wrap c3) (IntKind.u8.wrap c4) c5) (by rw [hxp]; rfl) ⟨ok6.b, by simp [Pg.cap, hok.t]⟩ (by rw [hX, HJ.out]; rfl) HU19
      have hinL : inL L x.blk := List.mem_map_of_mem (f := Lp.blk) hx
      have HUF := Aside0.mk ((Upd.of_below HB.out (inL L)).then_ (HU19.mono (S' := inL L) (fun k hk => by rw [hk]; exact hinL)) (fun _ hk => .inl hk))
      have HMF := Aside0.mk hm5
      have HLF := Aside0.mk hl5
      have BK19 := Aside0.mk (blk_far BK18.out (p := ⟨x.blk, 256 + j, none⟩) HNE.out (.bool c5))
      clear hc1 hc2 hX HX18 BK18 HU18 HU19 hm5 hl5
      generalize W18.setCell ⟨x.blk, 256 + j, none⟩ (.bool c5) = W19 at BK19 HUF HMF ⊢
      refine hK.out _ _ ((blk_cell BK19.out 5).trans rfl) (fun hHeld => ?_)
      clear hK K
      refine norm_ (a' := ?_) ?_ ?_
      rotate_left
      · show Act.put _ none _ = _
        rfl
      refine done_ (by kernel_rfl) ?_
      go_wp2
      go_ret
      exact ⟨rfl, L', HMF.out, HLF.out, HUF.out⟩
  · rw [if_neg c] at hf
    rw [show granV a (lookL (a / 256) L) = .tuple #[.pointer none, .int .i64 0, .int .i64 31] from by unfold granV; rw [if_neg c]] at A
    obtain ⟨rfl, rfl⟩ := pair_mm hf
    clear hf
    go_enter Try.func19, Try.ntmps19
    go_wp2_with (first | ((with_reducible refine gate_dst (N := 5) rfl ?_); refine box_event ?hg (N := 5) ?hd (cs := #[.int .u64 c0, .int .u64 c1, .int .u64 c2, .int .i64 c3, .int .i64 c4, .bool c5]) (t := 41) ?hr ?_; (case hd => rfl); (case hg => rfl); (case hr => first | (go_simp; done) | (go_simp; rfl)); intro gb hgb w5 hbox hb5; have HB := Aside0.mk (below_step HB0.out hb5); have BK := Aside0.mk hbox; have GB := Aside0.mk hgb; clear hgb hbox hb5 HB0) | (go_at_call 31; refine (A.out _ HB.out).mono ?_; rintro e w' ⟨rfl, rfl⟩) | fail)
    go_ret
    exact ⟨rfl, L, h.below HB.out, rfl, Upd.of_below HB.out _⟩
end Go.Proofs.Ytkppgepljjgjhaa.P
