/- The document's memory: Unmap. No condition. -/
import Derived.Test.YtkppgepljjgjhaaKTagmemEitherRa8
namespace Go.Proofs.Ytkppgepljjgjhaa.P
open Go.RowKit Go.Proofs.YtkppgepljjgjhaaW.PrintWords Go.Proofs.YtkppgepljjgjhaaW.PrintLast Go.Proofs.YtkppgepljjgjhaaW.PrintMore
set_option linter.unusedVariables false
set_option linter.unusedSimpArgs false
def pgCells (l : List S89) (q : Int) (n : Nat) : List S89 := (l.take n).filter fun c => decide (c.f0 / 256 ≠ q)
def pgMarks (l : List Int) (q : Int) (n : Nat) : List Int := (l.take n).filter fun x => decide (x / 256 ≠ q)
theorem pgCells_hit {l : List S89} {q : Int} {j : Nat} (h : j < l.length) (he : ¬ (rd_T89 l (j : Int)).f0 / 256 = q) : pgCells l q (j + 1) = pgCells l q j ++ [rd_T89 l (j : Int)] := by
  unfold pgCells
  rw [take_T89 h, List.filter_append, List.filter_cons_of_pos (by simpa using he)]
  rfl
theorem pgCells_miss {l : List S89} {q : Int} {j : Nat} (h : j < l.length) (he : (rd_T89 l (j : Int)).f0 / 256 = q) : pgCells l q (j + 1) = pgCells l q j := by
  unfold pgCells
  rw [take_T89 h, List.filter_append, List.filter_cons_of_neg (by simpa using he), List.filter_nil, List.append_nil]
theorem pgCells_length (l : List S89) (q : Int) (n : Nat) : (pgCells l q n).length ≤ l.length := by
  unfold pgCells
  exact Nat.le_trans (List.length_filter_le _ _) (by rw [List.length_take]; omega)
theorem pgMarks_hit {l : List Int} {q : Int} {j : Nat} (h : j < l.length) (he : ¬ rd l (j : Int) / 256 = q) : pgMarks l q (j + 1) = pgMarks l q j ++ [rd l (j : Int)] := by
  unfold pgMarks
  rw [take_next h, List.filter_append, List.filter_cons_of_pos (by simpa using he)]
  rfl
theorem pgMarks_miss {l : List Int} {q : Int} {j : Nat} (h : j < l.length) (he : rd l (j : Int) / 256 = q) : pgMarks l q (j + 1) = pgMarks l q j := by
  unfold pgMarks
  rw [take_next h, List.filter_append, List.filter_cons_of_neg (by simpa using he), List.filter_nil, List.append_nil]
theorem pgMarks_length (l : List Int) (q : Int) (n : Nat) : (pgMarks l q n).length ≤ l.length := by
  unfold pgMarks
  exact Nat.le_trans (List.length_filter_le _ _) (by rw [List.length_take]; omega)
def Rm.delPage (r : Rm) (q : Int) : Rm := { r with mapped := r.mapped.filter (fun x => decide (x ≠ q)), cells := r.cells.filter (fun c => decide (c.f0 / 256 ≠ q)), marks := r.marks.filter (fun x => decide (x / 256 ≠ q)) }
def Rm.delPages (r : Rm) (p : Int) : Nat → Rm
  | 0 => r
  | j + 1 => (r.delPages p j).delPage (p + j)
/-- Addresses are words. -/
structure Rm.Rg (r : Rm) : Prop where
  c : ∀ x ∈ r.cells, 0 ≤ x.f0 ∧ x.f0 ≤ 18446744073709551615
  k : ∀ x ∈ r.marks, 0 ≤ x ∧ x ≤ 18446744073709551615
theorem delPage_ok {r : Rm} (h : r.Ok) (hr : r.Rg) (q : Int) : (r.delPage q).Ok ∧ (r.delPage q).Rg :=
  ⟨⟨Nat.le_trans (List.length_filter_le _ _) h.m, Nat.le_trans (List.length_filter_le _ _) h.c, Nat.le_trans (List.length_filter_le _ _) h.k⟩, ⟨fun x hx => hr.c x ((List.mem_filter.1 hx).1), fun x hx => hr.k x ((List.mem_filter.1 hx).1)⟩⟩
theorem delPages_ok {r : Rm} (h : r.Ok) (hr : r.Rg) (p : Int) : ∀ j, (r.delPages p j).Ok ∧ (r.delPages p j).Rg
  | 0 => ⟨h, hr⟩
  | j + 1 => delPage_ok (delPages_ok h hr p j).1 (delPages_ok h hr p j).2 _
theorem rd_mem {l : List Int} {j : Nat} (h : j < l.length) : rd l (j : Int) ∈ l := by
  simp [rd, List.getD_eq_getElem?_getD, List.getElem?_eq_getElem h]
theorem rdT_mem {l : List S89} {j : Nat} (h : j < l.length) : rd_T89 l (j : Int) ∈ l := by
  rw [rdT89_get h]; exact List.getElem_mem h
def Rm.unmap (r : Rm) (p n : Int) : Rm × Int := if someB p n = false then (r, 1) else if r.allIn p n.toNat = false then (r, 30) else (r.delPages p n.toNat, 0)
section
variable {w : World} {g : Nat} {K KA : Nat → Prop} {r : Rm}
set_option maxHeartbeats 16000000 in
set_option maxRecDepth 100000 in
theorem refUnmap_calls (h : RefL w g K r) (ho : r.Ok) (hrg : r.Rg) (p n : Int) (h0 : 0 ≤ p) (h1 : p ≤ 18446744073709551615) :
    Calls Try.prog 40 #[.pointer (some ⟨g, 0, none⟩), .int .u64 p, .int .i64 n] w fun e w' => e = .returned (.int .i64 (r.unmap p n).2) ∧ ∃ K', RefL w' g K' (r.unmap p n).1 ∧ (∀ k, K' k → K k ∨ w.heap.size ≤ k) ∧ Upd w w' (· = g) := by
  have hml := ho.m
  have hu37 := Try.underlying37
  have hu89 := Try.underlying89
  have HGE : Aside0 (∀ k, w.heap.size ≤ k → k ≠ g) := ⟨fun k hk => by have := h.glt; omega⟩
  have WG := curtilageref03_wrong.calls p n (!someB p n) w (wrong_is h0 h1)
  unfold Rm.unmap
  cases hs : someB p n with
  | false =>
    rw [if_pos rfl]
    rw [hs] at WG
    replace WG := Aside0.mk WG
    clear hs
    go_enter Try.func40, Try.ntmps40
    go_wp2_with (first | (go_at_call 49; refine WG.out.mono ?_; rintro e W1 ⟨rfl, hd⟩; have HB1 := Aside0.mk hd.below; clear hd) | fail)
    go_ret
    exact ⟨rfl, K, h.below HB1.out, fun k hk => .inl hk, Upd.of_below HB1.out _⟩
  | true =>
    rw [if_neg (by simp)]
    rw [hs] at WG
    replace WG := Aside0.mk WG
    unfold someB at hs
    rw [decide_eq_true_eq] at hs
    obtain ⟨q1, q2, q3, q4⟩ := hs
    obtain ⟨m, rfl⟩ := Int.eq_ofNat_of_zero_le (show 0 ≤ n by omega)
    rw [Int.toNat_natCast]
    obtain ⟨R, hR⟩ : ∃ R, R = (if r.allIn p m = false then (r, (30 : Int)) else (r.delPages p m, 0)) := ⟨_, rfl⟩
    rw [← hR]
    replace hR := Aside0.mk hR
    go_enter Try.func40, Try.ntmps40
    go_wp2_with (first | (go_at_call 49; refine WG.out.mono ?_; rintro e W1 ⟨rfl, hd⟩; have HB1 := Aside0.mk hd.below; clear hd) | fail)
    go_loopw [8] (fun v8 wr => ∃ (j : Nat), v8 = .int .i64 j ∧ j ≤ m ∧ Aside0 (∀ i : Nat, i < j → r.mapped.contains (p + i) = true) ∧ Aside0 (Below w.heap.size w wr)) (fun v8 _ => m - (intOf v8).toNat)
    case atStart => exact ⟨0, rfl, by omega, ⟨fun i hi => by omega⟩, HB1⟩
    case round =>
      obtain ⟨j, rfl, hj, HA, HB⟩ := hrel
      obtain ⟨A0x, c0x, A1x, c1x, A2x, c2x, ⟨z0, z1, z2, z3⟩, -, ⟨l0, -, -⟩, ⟨C0, -, -⟩⟩ := (h.below HB.out).cells_
      replace C0 := Aside0.mk C0
      replace l0 := Aside0.mk l0
      by_cases hlt : j < m
      · have W1 : IntKind.u64.wrap (j : Int) = j := u64w (by omega) (by omega)
        have W2 : IntKind.u64.wrap (p + (j : Int)) = p + j := u64w (by omega) (by omega)
        have W3 := next64 hlt (by omega)
        have HS := has_calls A0x c0x r.mapped (p + j) C0.out l0.out (by omega)
        obtain ⟨b, hb2⟩ : ∃ b, b = r.mapped.contains (p + j) := ⟨_, rfl⟩
        rw [← hb2] at HS
        replace HS := Aside0.mk HS
        replace hb2 := Aside0.mk hb2
        cases b with
        | false =>
          go_wp2_with (first | (go_at_call 50; with_reducible refine HS.out.mono ?_; rintro e W2 ⟨rfl, hb⟩; have HB2 := Aside0.mk (below_step HB.out hb); clear hb) | fail)
          go_ret
          have E : R = (r, 30) := by
            rw [hR.out, if_pos]
            exact List.all_eq_false.2 ⟨j, List.mem_range.2 hlt, by simpa using hb2.out.symm⟩
          rw [E]
          exact ⟨rfl, K, h.below HB2.out, fun k hk => .inl hk, Upd.of_below HB2.out _⟩
        | true =>
          go_wp2_with (first | (go_at_call 50; with_reducible refine HS.out.mono ?_; rintro e W2 ⟨rfl, hb⟩; have HB2 := Aside0.mk (below_step HB.out hb); clear hb) | fail)
          refine ⟨⟨j + 1, by first | rfl | rw [W3], hlt, ⟨fun i hi => ?_⟩, HB2⟩, by first | exact round_meas hlt | (rw [W3]; exact round_meas hlt)⟩
          rcases Nat.lt_succ_iff_lt_or_eq.1 hi with hi | rfl
          · exact HA.out i hi
          · exact hb2.out.symm
      · obtain rfl : j = m := by omega
        have E0 : r.allIn p j = true := List.all_eq_true.2 fun i hi => HA.out i (List.mem_range.1 hi)
        have E1 : R = (r.delPages p j, 0) := by rw [hR.out, E0, if_neg (by simp)]
        replace E1 := Aside0.mk E1
        clear E0 z0 z1 z2 z3 C0 l0 HA hR hlt
        go_wp2
        go_loopw [10] (fun v10 wr2 => ∃ (i : Nat) (Kj : Nat → Prop), v10 = .int .i64 i ∧ i ≤ j ∧ Aside0 (RefL wr2 g Kj (r.delPages p i)) ∧ Aside0 (∀ k, Kj k → K k ∨ w.heap.size ≤ k) ∧ Aside0 (Upd w wr2 (· = g))) (fun v10 _ => j - (intOf v10).toNat)
        case atStart => exact ⟨0, K, rfl, by omega, ⟨h.below HB.out⟩, ⟨fun k hk => .inl hk⟩, ⟨Upd.of_below HB.out _⟩⟩
        case round =>
          clear HB
          obtain ⟨i, Kj, rfl, hi, HR, HK, HU⟩ := hrel
          by_cases hlt2 : i < j
          · have W1 : IntKind.u64.wrap (i : Int) = i := u64w (by omega) (by omega)
            have W2 : IntKind.u64.wrap (p + (i : Int)) = p + i := u64w (by omega) (by omega)
            have W3' := next64 hlt2 (by omega)
            obtain ⟨ok1, rg1⟩ := delPages_ok ho hrg p i
            have HE := Aside0.mk (show r.delPages p (i + 1) = (r.delPages p i).delPage (p + i) from rfl)
            generalize r.delPages p i = rj at HR HE ok1 rg1
            have HW2 := W2
            generalize hq : p + (i : Int) = q at W2 HE
            replace HW2 : IntKind.u64.wrap (p + (i : Int)) = q := by rw [HW2, hq]
            clear W2 hq
            obtain ⟨A0x, c0x, A1x, c1x, A2x, c2x, ⟨z0, z1, z2, z3⟩, ⟨f0, f1, f2⟩, ⟨l0, l1, l2⟩, ⟨C0, C1, C2⟩⟩ := HR.out.cells_
            replace C0 := Aside0.mk C0
            replace C1 := Aside0.mk C1
            replace C2 := Aside0.mk C2
            replace l0 := Aside0.mk l0
            replace l1 := Aside0.mk l1
            replace l2 := Aside0.mk l2
            have TK := Aside0.mk (take_calls A0x c0x rj.mapped q C0.out l0.out (by have := ok1.m; omega))
            obtain ⟨r4, hr4⟩ : ∃ r4, r4 = { rj with mapped := rj.mapped.filter (fun x => decide (x ≠ q)) } := ⟨_, rfl⟩
            have E4 := Aside0.mk hr4
            have ok4 : r4.cells.length ≤ 1000000 := by rw [hr4]; exact ok1.c
            have rg4 : ∀ x ∈ r4.cells, 0 ≤ x.f0 ∧ x.f0 ≤ 18446744073709551615 := by rw [hr4]; exact rg1.c
            replace rg4 := Aside0.mk rg4
            clear hr4
            go_wp2_with (first | (go_at_call 52; with_reducible refine TK.out.mono ?_; rintro e W3 ⟨A5, c5, rfl, hl5, hF5, hb5⟩; have HL5 := Aside0.mk hl5; have HF5 := Aside0.mk hF5; have HR3 := Aside0.mk (HR.out.below hb5); have HU3 := Aside0.mk (HU.out.then_ (Upd.of_below hb5 (· = g)) (fun _ hk => .inl hk)); clear hl5 hF5 hb5; clear z0 z1 z2 z3 f0 f1 f2 l0 l1 l2 C0 C1 C2; obtain ⟨A0x, c0x, A1x, c1x, A2x, c2x, ⟨z0, z1, z2, z3⟩, ⟨f0, f1, f2⟩, ⟨l0, l1, l2⟩, ⟨C0, C1, C2⟩⟩ := HR3.out.cells_; replace C0 := Aside0.mk C0; replace C1 := Aside0.mk C1; replace C2 := Aside0.mk C2; replace l0 := Aside0.mk l0; replace l1 := Aside0.mk l1; replace l2 := Aside0.mk l2) | ((with_reducible refine gate_store (t := 32) (p := 53) rfl ?_); refine store_event (t := 32) (p := 53) (v := ?voa) (w1 := W3.setCell ⟨g, 0, none⟩ (.slice A5 (rj.mapped.filter (fun x => decide (x ≠ q))).length c5)) ?hg ?ho ?hn ?hr ?_; (case ho => rfl); (case hg => rfl); (case hn => rfl); (case hr => first | (go_simp; done) | (go_simp; rfl)); intro W4 hw; obtain ⟨K4, hR, hK⟩ : ∃ K4 : Nat → Prop, RefL (W3.setCell ⟨g, 0, none⟩ (.slice A5 (rj.mapped.filter (fun x => decide (x ≠ q))).length c5)) g K4 { rj with mapped := rj.mapped.filter (fun x => decide (x ≠ q)) } ∧ ∀ k, K4 k → K k ∨ w.heap.size ≤ k := ⟨_, HR3.out.set0 (A := A5) (c := c5) (l := rj.mapped.filter (fun x => decide (x ≠ q))) HL5.out HF5.out (fun k hk => ⟨HGE.out k (Nat.le_trans HU.out.size hk.1), hk.2⟩), fun k hk => by rcases hk with h1 | h1; exact HK.out k h1; exact .inr (Nat.le_trans HU.out.size h1.1)⟩; have hU := HU3.out.then_ (Upd.setCell W3 (p := ⟨g, 0, none⟩) (S := (· = g)) rfl (.slice A5 (rj.mapped.filter (fun x => decide (x ≠ q))).length c5)) (fun _ hk => .inl hk); rw [← hw] at hR hU; rw [← E4.out] at hR; have HR4 := Aside0.mk hR; have HK4 := Aside0.mk hK; have HU4 := Aside0.mk hU; clear hw hR hK hU; clear z0 z1 z2 z3 f0 f1 f2 l0 l1 l2 C0 C1 C2) | fail)
            replace W3' := Aside0.mk W3'
            clear W1 HW2
            go_loopw [12, 13] (fun v12 v13 wa => ∃ (i2 : Nat), v13 = .int .i64 i2 ∧ i2 ≤ r4.cells.length ∧ Aside0 (Kd.R k89 89 wa W4.heap.size (fun _ => True) v12 (pgCells r4.cells q i2)) ∧ Aside0 (Below W4.heap.size W4 wa)) (fun _ v13 _ => r4.cells.length - (intOf v13).toNat)
            case atStart => exact ⟨0, rfl, by omega, ⟨Kd.R_nil _ _ _ _ _⟩, ⟨Below.refl _ _⟩⟩
            case round =>
              obtain ⟨i2, rfl, hi2, HO, HBa⟩ := hrel
              have HRa := Aside0.mk (HR4.out.below HBa.out)
              obtain ⟨A0x, c0x, A1x, c1x, A2x, c2x, ⟨z0, z1, z2, z3⟩, ⟨f0, f1, f2⟩, ⟨l0, l1, l2⟩, ⟨C0, C1, C2⟩⟩ := HRa.out.cells_
              replace C0 := Aside0.mk C0
              replace C1 := Aside0.mk C1
              replace C2 := Aside0.mk C2
              replace l0 := Aside0.mk l0
              replace l1 := Aside0.mk l1
              replace l2 := Aside0.mk l2
              by_cases hlt3 : i2 < r4.cells.length
              · obtain ⟨ad, eA, hx0, hx1⟩ := at_T89 C1.out (i2 : Int) (by omega) (by omega)
                cases eA
                rw [Int.toNat_natCast] at hx0 hx1
                have W5' := next64 hlt3 (by omega)
                have LN := pgCells_length r4.cells q i2
                obtain ⟨x0, x1⟩ := rg4.out _ (rdT_mem hlt3)
                have hmiss := pgCells_miss (q := q) hlt3
                have hhit := pgCells_hit (q := q) hlt3
                generalize rd_T89 r4.cells (i2 : Int) = ce at hx0 hx1 x0 x1 hmiss hhit
                obtain ⟨y0, y1⟩ := ce
                simp only at hx0 hx1 x0 x1 hmiss hhit
                by_cases he : y0 / 256 = q
                · have hb := Aside0.mk (hmiss he)
                  have d1 : (y0 / 256 != q) = false := bne_eq_false_iff_eq.2 he
                  clear hmiss hhit
                  replace he := Aside0.mk he
                  go_wp2
                  exact ⟨⟨i2 + 1, by first | rfl | rw [W5'], hlt3, ⟨by rw [hb.out]; exact HO.out⟩, HBa⟩, by first | exact round_meas hlt3 | (rw [W5']; exact round_meas hlt3)⟩
                · have Ny := Aside0.mk (hhit he)
                  have d1 : (y0 / 256 != q) = true := bne_iff_ne.2 he
                  clear hmiss hhit
                  replace he := Aside0.mk he
                  go_wp2_with (first | ((with_reducible refine gate_builtin (b := .append) (xs := #[.tmp 74, .tmp 82]) rfl ?_); at_builtin; refine Kd.R_append (k89) (w0 := W4) W4.heap.size rfl (.tmp 74) (.tmp 82) 35 89 (.agg #[.int .u64 0, .int .u8 0]) 16 rfl Try.underlying35 info89 rfl (by decide) (by omega) u12 (pgCells r4.cells q i2) (⟨y0, y1⟩ : S89) [.int .u64 y0, .int .u8 y1] (fun _ => True) (fun _ => False) rfl rfl (k89_mkM _ _ _ _) (fun _ hk => hk.elim) (fun _ _ => trivial) HO.out HBa.out HBa.out.size ?aL ?_; (case aL => show ((pgCells r4.cells q i2).length + 1) * 16 ≤ 140737488355328; omega); intro v2 W5 ho2 hb2 hg2 hat2; rw [← Ny.out] at ho2; have HO2 := Aside0.mk ho2; have HB2 := Aside0.mk hb2; clear ho2 hb2 hg2 hat2) | fail)
                  exact ⟨⟨i2 + 1, by first | rfl | rw [W5'], hlt3, HO2, HB2⟩, by first | exact round_meas hlt3 | (rw [W5']; exact round_meas hlt3)⟩
              · obtain rfl : i2 = r4.cells.length := by omega
                obtain ⟨r6, hr6⟩ : ∃ r6, r6 = { r4 with cells := pgCells r4.cells q r4.cells.length } := ⟨_, rfl⟩
                have E6 := Aside0.mk hr6
                have em : r6.marks = rj.marks := by rw [hr6, E4.out]
                have ok6 : r6.marks.length ≤ 1000000 := by rw [em]; exact ok1.k
                have rg6 : ∀ x ∈ r6.marks, 0 ≤ x ∧ x ≤ 18446744073709551615 := by rw [em]; exact rg1.k
                replace rg6 := Aside0.mk rg6
                clear hr6 em
                obtain ⟨A', c', rfl, hle, hF⟩ := R_own_F HO.out
                have HL1 := Aside0.mk hle
                have HF1 := Aside0.mk hF
                have HUa := Aside0.mk (HU4.out.then_ (Upd.of_below HBa.out (· = g)) (fun _ hk => .inl hk))
                clear hle hF
                go_wp2_with (first | ((with_reducible refine gate_store (t := 35) (p := 87) rfl ?_); refine store_event (t := 35) (p := 87) (v := ?vob) (w1 := wr.setCell ⟨g, 1, none⟩ (.slice A' (pgCells r4.cells q r4.cells.length).length c')) ?hg ?ho ?hn ?hr ?_; (case ho => rfl); (case hg => rfl); (case hn => rfl); (case hr => first | (go_simp; done) | (go_simp; rfl)); intro W6 hw; obtain ⟨K6, hR, hK⟩ : ∃ K6 : Nat → Prop, RefL (wr.setCell ⟨g, 1, none⟩ (.slice A' (pgCells r4.cells q r4.cells.length).length c')) g K6 { r4 with cells := pgCells r4.cells q r4.cells.length } ∧ ∀ k, K6 k → K k ∨ w.heap.size ≤ k := ⟨_, HRa.out.set1 (A := A') (c := c') (l := pgCells r4.cells q r4.cells.length) HL1.out HF1.out (fun k hk => ⟨HGE.out k (Nat.le_trans HU4.out.size hk.1), hk.2⟩), fun k hk => by rcases hk with h1 | h1; exact HK4.out k h1; exact .inr (Nat.le_trans HU4.out.size h1.1)⟩; have hU := HUa.out.then_ (Upd.setCell wr (p := ⟨g, 1, none⟩) (S := (· = g)) rfl (.slice A' (pgCells r4.cells q r4.cells.length).length c')) (fun _ hk => .inl hk); rw [← hw] at hR hU; rw [← E6.out] at hR; have HR6 := Aside0.mk hR; have HK6 := Aside0.mk hK; have HU6 := Aside0.mk hU; clear hw hR hK hU; clear z0 z1 z2 z3 f0 f1 f2 l0 l1 l2 C0 C1 C2) | fail)
                clear HO HBa HL1 HF1 HUa HRa
                go_loopw [14, 15] (fun v14 v15 wb => ∃ (i3 : Nat), v15 = .int .i64 i3 ∧ i3 ≤ r6.marks.length ∧ Aside0 (Kd.R (Kd.int .u64) 39 wb W6.heap.size (fun _ => True) v14 (pgMarks r6.marks q i3)) ∧ Aside0 (Below W6.heap.size W6 wb)) (fun _ v15 _ => r6.marks.length - (intOf v15).toNat)
                case atStart => exact ⟨0, rfl, by omega, ⟨Kd.R_nil _ _ _ _ _⟩, ⟨Below.refl _ _⟩⟩
                case round =>
                  obtain ⟨i3, rfl, hi3, HO, HBa⟩ := hrel
                  have HRb := Aside0.mk (HR6.out.below HBa.out)
                  obtain ⟨A0x, c0x, A1x, c1x, A2x, c2x, ⟨z0, z1, z2, z3⟩, ⟨f0, f1, f2⟩, ⟨l0, l1, l2⟩, ⟨C0, C1, C2⟩⟩ := HRb.out.cells_
                  replace C0 := Aside0.mk C0
                  replace C1 := Aside0.mk C1
                  replace C2 := Aside0.mk C2
                  replace l0 := Aside0.mk l0
                  replace l1 := Aside0.mk l1
                  replace l2 := Aside0.mk l2
                  by_cases hlt4 : i3 < r6.marks.length
                  · obtain ⟨ad, eA, hx0⟩ := Kd.at_int C2.out (i3 : Int) (by omega) (by omega)
                    cases eA
                    rw [Int.toNat_natCast] at hx0
                    have W5' := next64 hlt4 (by omega)
                    have LN := pgMarks_length r6.marks q i3
                    obtain ⟨x0, x1⟩ := rg6.out _ (rd_mem hlt4)
                    have hmiss := pgMarks_miss (q := q) hlt4
                    have hhit := pgMarks_hit (q := q) hlt4
                    generalize rd r6.marks (i3 : Int) = y0 at hx0 x0 x1 hmiss hhit
                    by_cases he : y0 / 256 = q
                    · have hb := Aside0.mk (hmiss he)
                      have d1 : (y0 / 256 != q) = false := bne_eq_false_iff_eq.2 he
                      clear hmiss hhit
                      replace he := Aside0.mk he
                      go_wp2
                      exact ⟨⟨i3 + 1, by first | rfl | rw [W5'], hlt4, ⟨by rw [hb.out]; exact HO.out⟩, HBa⟩, by first | exact round_meas hlt4 | (rw [W5']; exact round_meas hlt4)⟩
                    · have Ny := Aside0.mk (hhit he)
                      have d1 : (y0 / 256 != q) = true := bne_iff_ne.2 he
                      clear hmiss hhit
                      replace he := Aside0.mk he
                      go_wp2_with (first | ((with_reducible refine gate_builtin (b := .append) (xs := #[.tmp 107, .tmp 115]) rfl ?_); at_builtin; refine Kd.R_append (Kd.int .u64) (w0 := W6) W6.heap.size rfl (.tmp 107) (.tmp 115) 32 39 (.int .u64 0) 8 rfl Try.underlying32 info39 rfl (by decide) (by omega) u14 (pgMarks r6.marks q i3) (y0) [.int .u64 y0] (fun _ => True) (fun _ => False) rfl rfl rfl (fun _ hk => hk.elim) (fun _ _ => trivial) HO.out HBa.out HBa.out.size ?aL ?_; (case aL => show ((pgMarks r6.marks q i3).length + 1) * 8 ≤ 140737488355328; omega); intro v2 W7 ho2 hb2 hg2 hat2; rw [← Ny.out] at ho2; have HO2 := Aside0.mk ho2; have HB2 := Aside0.mk hb2; clear ho2 hb2 hg2 hat2) | fail)
                      exact ⟨⟨i3 + 1, by first | rfl | rw [W5'], hlt4, HO2, HB2⟩, by first | exact round_meas hlt4 | (rw [W5']; exact round_meas hlt4)⟩
                  · obtain rfl : i3 = r6.marks.length := by omega
                    obtain ⟨r8, hr8⟩ : ∃ r8, r8 = { r6 with marks := pgMarks r6.marks q r6.marks.length } := ⟨_, rfl⟩
                    have E8 := Aside0.mk hr8
                    clear hr8
                    obtain ⟨A', c', rfl, hle, hF⟩ := R_own_F HO.out
                    have HL1 := Aside0.mk hle
                    have HF1 := Aside0.mk hF
                    have HUb := Aside0.mk (HU6.out.then_ (Upd.of_below HBa.out (· = g)) (fun _ hk => .inl hk))
                    clear hle hF
                    go_wp2_with (first | ((with_reducible refine gate_store (t := 32) (p := 120) rfl ?_); refine store_event (t := 32) (p := 120) (v := ?voc) (w1 := wr.setCell ⟨g, 2, none⟩ (.slice A' (pgMarks r6.marks q r6.marks.length).length c')) ?hg ?ho ?hn ?hr ?_; (case ho => rfl); (case hg => rfl); (case hn => rfl); (case hr => first | (go_simp; done) | (go_simp; rfl)); intro W8 hw; obtain ⟨K8, hR, hK⟩ : ∃ K8 : Nat → Prop, RefL (wr.setCell ⟨g, 2, none⟩ (.slice A' (pgMarks r6.marks q r6.marks.length).length c')) g K8 { r6 with marks := pgMarks r6.marks q r6.marks.length } ∧ ∀ k, K8 k → K k ∨ w.heap.size ≤ k := ⟨_, HRb.out.set2 (A := A') (c := c') (l := pgMarks r6.marks q r6.marks.length) HL1.out HF1.out (fun k hk => ⟨HGE.out k (Nat.le_trans HU6.out.size hk.1), hk.2⟩), fun k hk => by rcases hk with h1 | h1; exact HK6.out k h1; exact .inr (Nat.le_trans HU6.out.size h1.1)⟩; have hU := HUb.out.then_ (Upd.setCell wr (p := ⟨g, 2, none⟩) (S := (· = g)) rfl (.slice A' (pgMarks r6.marks q r6.marks.length).length c')) (fun _ hk => .inl hk); rw [← hw] at hR hU; rw [← E8.out] at hR; have HR8 := Aside0.mk hR; have HK8 := Aside0.mk hK; have HU8 := Aside0.mk hU; clear hw hR hK hU; clear z0 z1 z2 z3 f0 f1 f2 l0 l1 l2 C0 C1 C2) | fail)
                    have EF : r8 = r.delPages p (i + 1) := by
                      rw [HE.out, E8.out, E6.out, E4.out]
                      unfold Rm.delPage pgCells pgMarks
                      simp only [List.take_length]
                    exact ⟨⟨i + 1, K8, by first | rfl | rw [W3'.out], hlt2, ⟨by rw [← EF]; exact HR8.out⟩, HK8, HU8⟩, by first | exact round_meas hlt2 | (rw [W3'.out]; exact round_meas hlt2)⟩
          · obtain rfl : i = j := by omega
            go_wp2
            go_ret
            rw [E1.out]
            exact ⟨rfl, Kj, HR.out, HK.out, HU.out⟩
end
end Go.Proofs.Ytkppgepljjgjhaa.P
