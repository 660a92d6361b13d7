/- The document's memory: Map. No condition. -/
import Derived.Test.YtkppgepljjgjhaaKTagmemEitherRa7
namespace Go.Proofs.Ytkppgepljjgjhaa.P
open Go.RowKit Go.Proofs.YtkppgepljjgjhaaW.PrintWords Go.Proofs.YtkppgepljjgjhaaW.PrintLast Go.Proofs.YtkppgepljjgjhaaW.PrintMore
set_option linter.unusedVariables false
set_option linter.unusedSimpArgs false
theorem wrong_is {p n : Int} (h0 : 0 ≤ p) (h1 : p ≤ 18446744073709551615) : curtilageref03_wrong.f p n = some (!someB p n) := by
  unfold curtilageref03_wrong.f someB
  by_cases c1 : n < 1
  · rw [if_pos c1, decide_eq_false (by omega)]; rfl
  rw [if_neg c1]
  by_cases c2 : n > 65536
  · rw [if_pos c2, decide_eq_false (by omega)]; rfl
  rw [if_neg c2]
  by_cases c3 : p > 65535
  · rw [if_pos c3, decide_eq_false (by omega)]; rfl
  rw [if_neg c3, u64w (x := n) (by omega) (by omega), u64w (x := p + n) (by omega) (by omega)]
  congr 1
  by_cases c4 : p + n > 65536
  · rw [decide_eq_true c4, decide_eq_false (by omega)]; rfl
  · rw [decide_eq_false c4, decide_eq_true (by omega)]; rfl
def Rm.anyIn (r : Rm) (p : Int) (n : Nat) : Bool := (List.range n).any fun i : Nat => r.mapped.contains (p + i)
def Rm.allIn (r : Rm) (p : Int) (n : Nat) : Bool := (List.range n).all fun i : Nat => r.mapped.contains (p + i)
def Rm.putPages (r : Rm) (p : Int) : Nat → Rm
  | 0 => r
  | j + 1 => { r.putPages p j with mapped := putF (p + j) (r.putPages p j).mapped }
theorem putPages_size (r : Rm) (p : Int) : ∀ j, (r.putPages p j).mapped.length = r.mapped.length + j ∧ (r.putPages p j).cells = r.cells ∧ (r.putPages p j).marks = r.marks ∧ (r.putPages p j).budget = r.budget
  | 0 => ⟨rfl, rfl, rfl, rfl⟩
  | j + 1 => by
    obtain ⟨h1, h2, h3, h4⟩ := putPages_size r p j
    exact ⟨(putF_length _ _).trans (by rw [h1]; rfl), h2, h3, h4⟩
def Rm.map (r : Rm) (p n : Int) : Rm × Int := if someB p n = false then (r, 1) else if r.anyIn p n.toNat = true then (r, 32) else if (r.mapped.length : Int) + n > r.budget then (r, 33) else (r.putPages p n.toNat, 0)
section
variable {w : World} {g : Nat} {K KA : Nat → Prop} {r : Rm}
set_option maxHeartbeats 8000000 in
set_option maxRecDepth 100000 in
theorem refMap_calls (h : RefL w g K r) (ho : r.Ok) (hb : r.budget ≤ 1000) (p n : Int) (h0 : 0 ≤ p) (h1 : p ≤ 18446744073709551615) :
    Calls Try.prog 39 #[.pointer (some ⟨g, 0, none⟩), .int .u64 p, .int .i64 n] w fun e w' => e = .returned (.int .i64 (r.map p n).2) ∧ ∃ K', RefL w' g K' (r.map p n).1 ∧ (∀ k, K' k → K k ∨ w.heap.size ≤ k) ∧ Upd w w' (· = g) := by
  have hml := ho.m
  have WG := curtilageref03_wrong.calls p n (!someB p n) w (wrong_is h0 h1)
  unfold Rm.map
  cases hs : someB p n with
  | false =>
    rw [if_pos rfl]
    rw [hs] at WG
    replace WG := Aside0.mk WG
    clear hs
    go_enter Try.func39, Try.ntmps39
    go_wp2_with (first | (go_at_call 49; refine WG.out.mono ?_; rintro e W1 ⟨rfl, hd⟩; have HB1 := Aside0.mk hd.below; clear hd) | fail)
    go_ret
    exact ⟨rfl, K, h.below HB1.out, fun k hk => .inl hk, Upd.of_below HB1.out _⟩
  | true =>
    rw [if_neg (by simp)]
    rw [hs] at WG
    replace WG := Aside0.mk WG
    unfold someB at hs
    rw [decide_eq_true_eq] at hs
    obtain ⟨q1, q2, q3, q4⟩ := hs
    obtain ⟨m, rfl⟩ := Int.eq_ofNat_of_zero_le (show 0 ≤ n by omega)
    rw [Int.toNat_natCast]
    obtain ⟨R, hR⟩ : ∃ R, R = (if r.anyIn p m = true then (r, (32 : Int)) else if (r.mapped.length : Int) + (m : Int) > r.budget then (r, 33) else (r.putPages p m, 0)) := ⟨_, rfl⟩
    rw [← hR]
    replace hR := Aside0.mk hR
    go_enter Try.func39, Try.ntmps39
    go_wp2_with (first | (go_at_call 49; refine WG.out.mono ?_; rintro e W1 ⟨rfl, hd⟩; have HB1 := Aside0.mk hd.below; clear hd) | fail)
    go_loopw [8] (fun v8 wr => ∃ (j : Nat), v8 = .int .i64 j ∧ j ≤ m ∧ Aside0 (∀ i : Nat, i < j → r.mapped.contains (p + i) = false) ∧ Aside0 (Below w.heap.size w wr)) (fun v8 _ => m - (intOf v8).toNat)
    case atStart => exact ⟨0, rfl, by omega, ⟨fun i hi => by omega⟩, HB1⟩
    case round =>
      obtain ⟨j, rfl, hj, HA, HB⟩ := hrel
      obtain ⟨A0x, c0x, A1x, c1x, A2x, c2x, ⟨z0, z1, z2, z3⟩, -, ⟨l0, -, -⟩, ⟨C0, -, -⟩⟩ := (h.below HB.out).cells_
      replace C0 := Aside0.mk C0
      replace l0 := Aside0.mk l0
      by_cases hlt : j < m
      · have W1 : IntKind.u64.wrap (j : Int) = j := u64w (by omega) (by omega)
        have W2 : IntKind.u64.wrap (p + (j : Int)) = p + j := u64w (by omega) (by omega)
        have W3 := next64 hlt (by omega)
        have HS := has_calls A0x c0x r.mapped (p + j) C0.out l0.out (by omega)
        obtain ⟨b, hb2⟩ : ∃ b, b = r.mapped.contains (p + j) := ⟨_, rfl⟩
        rw [← hb2] at HS
        replace HS := Aside0.mk HS
        replace hb2 := Aside0.mk hb2
        cases b with
        | true =>
          go_wp2_with (first | (go_at_call 50; refine HS.out.mono ?_; rintro e W2 ⟨rfl, hb⟩; have HB2 := Aside0.mk (below_step HB.out hb); clear hb) | fail)
          go_ret
          have E : R = (r, 32) := by
            rw [hR.out, if_pos]
            exact List.any_eq_true.2 ⟨j, List.mem_range.2 hlt, hb2.out.symm⟩
          rw [E]
          exact ⟨rfl, K, h.below HB2.out, fun k hk => .inl hk, Upd.of_below HB2.out _⟩
        | false =>
          go_wp2_with (first | (go_at_call 50; refine HS.out.mono ?_; rintro e W2 ⟨rfl, hb⟩; have HB2 := Aside0.mk (below_step HB.out hb); clear hb) | fail)
          refine ⟨⟨j + 1, by first | rfl | rw [W3], hlt, ⟨fun i hi => ?_⟩, HB2⟩, by first | exact round_meas hlt | (rw [W3]; exact round_meas hlt)⟩
          rcases Nat.lt_succ_iff_lt_or_eq.1 hi with hi | rfl
          · exact HA.out i hi
          · exact hb2.out.symm
      · obtain rfl : j = m := by omega
        have E0 : r.anyIn p j = false := List.any_eq_false.2 fun i hi => by simpa using HA.out i (List.mem_range.1 hi)
        have E1 : R = if (r.mapped.length : Int) + (j : Int) > r.budget then (r, 33) else (r.putPages p j, 0) := by rw [hR.out, E0, if_neg (by simp)]
        replace E1 := Aside0.mk E1
        clear E0
        have V1 : wrap64 ((r.mapped.length : Int) + (j : Int)) = (r.mapped.length : Int) + (j : Int) := i64w (by omega) (by omega)
        go_wp2
        refine start_ (n := 12) (S := fun W => (W.cell? ⟨g, 0, none⟩ = some (.slice A0x r.mapped.length c0x) ∧ W.cell? ⟨g, 3, none⟩ = some (.int .i64 r.budget))) (ds := []) #[false, false, false, false, false, false, false, false, false, false, false, false] (by kernel_rfl) rfl rfl ⟨z0, z3⟩ (fun hHeld => ?_)
        refine pure_ (i := 0) (N := some 30) (v := ?_) (a' := ?_) #[true, false, false, false, false, false, false, false, false, false, false, false] rfl rfl (by kernel_rfl) (fun _ _ _ h => h) (Or.inl ⟨by rfl, ?_⟩) ?_ ?_
        rotate_left
        · intro w'
          go_simp
          with_reducible rfl
        rotate_left
        · simp only [Act.put, List.setIfInBounds_toArray, List.set_cons_zero, List.set_cons_succ, i64_w, i32_w]
          rfl
        refine pure_ (i := 1) (N := some 31) (v := ?_) (a' := ?_) #[true, true, false, false, false, false, false, false, false, false, false, false] rfl rfl (by kernel_rfl) (fun _ _ _ h => h) (Or.inl ⟨by rfl, ?_⟩) ?_ ?_
        rotate_left
        · intro w'
          go_simp
          with_reducible rfl
        rotate_left
        · simp only [Act.put, List.setIfInBounds_toArray, List.set_cons_zero, List.set_cons_succ, i64_w, i32_w]
          rfl
        refine pure_ (i := 2) (N := some 32) (v := ?_) (a' := ?_) #[true, true, true, false, false, false, false, false, false, false, false, false] rfl rfl (by kernel_rfl) (fun _ _ _ h => h) (Or.inl ⟨by rfl, ?_⟩) ?_ ?_
        rotate_left
        · intro w'
          go_simp
          with_reducible rfl
        rotate_left
        · simp only [Act.put, List.setIfInBounds_toArray, List.set_cons_zero, List.set_cons_succ, i64_w, i32_w]
          rfl
        refine take_ (i := 3) (N := some 33) (v := ?_) (a' := ?_) #[true, true, true, true, false, false, false, false, false, false, false, false] rfl rfl (by kernel_rfl) (fun _ _ _ h => h) (Or.inl ⟨by rfl, ?_⟩) hHeld ?_ ?_
        rotate_left
        · rintro w' ⟨s0, s1⟩
          go_simp
          with_reducible rfl
        rotate_left
        · simp only [Act.put, List.setIfInBounds_toArray, List.set_cons_zero, List.set_cons_succ, i64_w, i32_w]
          rfl
        refine pure_ (i := 4) (N := some 34) (v := ?_) (a' := ?_) #[true, true, true, true, true, false, false, false, false, false, false, false] rfl rfl (by kernel_rfl) (fun _ _ _ h => h) (Or.inl ⟨by rfl, ?_⟩) ?_ ?_
        rotate_left
        · intro w'
          go_simp
          with_reducible rfl
        rotate_left
        · simp only [Act.put, List.setIfInBounds_toArray, List.set_cons_zero, List.set_cons_succ, i64_w, i32_w]
          rfl
        refine pure_ (i := 5) (N := some 35) (v := ?_) (a' := ?_) #[true, true, true, true, true, true, false, false, false, false, false, false] rfl rfl (by kernel_rfl) (fun _ _ _ h => h) (Or.inl ⟨by rfl, ?_⟩) ?_ ?_
        rotate_left
        · intro w'
          go_simp
          with_reducible rfl
        rotate_left
        · simp only [Act.put, List.setIfInBounds_toArray, List.set_cons_zero, List.set_cons_succ, i64_w, i32_w]
          rfl
        refine pure_ (i := 6) (N := some 36) (v := ?_) (a' := ?_) #[true, true, true, true, true, true, true, false, false, false, false, false] rfl rfl (by kernel_rfl) (fun _ _ _ h => h) (Or.inl ⟨by rfl, ?_⟩) ?_ ?_
        rotate_left
        · intro w'
          go_simp
          with_reducible rfl
        rotate_left
        · simp only [Act.put, List.setIfInBounds_toArray, List.set_cons_zero, List.set_cons_succ, i64_w, i32_w]
          rfl
        refine pure_ (i := 7) (N := some 37) (v := ?_) (a' := ?_) #[true, true, true, true, true, true, true, true, false, false, false, false] rfl rfl (by kernel_rfl) (fun _ _ _ h => h) (Or.inl ⟨by rfl, ?_⟩) ?_ ?_
        rotate_left
        · intro w'
          go_simp
          with_reducible rfl
        rotate_left
        · simp only [Act.put, List.setIfInBounds_toArray, List.set_cons_zero, List.set_cons_succ, i64_w, i32_w]
          rfl
        refine pure_ (i := 8) (N := some 38) (v := ?_) (a' := ?_) #[true, true, true, true, true, true, true, true, true, false, false, false] rfl rfl (by kernel_rfl) (fun _ _ _ h => h) (Or.inl ⟨by rfl, ?_⟩) ?_ ?_
        rotate_left
        · intro w'
          go_simp
          with_reducible rfl
        rotate_left
        · simp only [Act.put, List.setIfInBounds_toArray, List.set_cons_zero, List.set_cons_succ, i64_w, i32_w]
          rfl
        refine pure_ (i := 9) (N := some 39) (v := ?_) (a' := ?_) #[true, true, true, true, true, true, true, true, true, true, false, false] rfl rfl (by kernel_rfl) (fun _ _ _ h => h) (Or.inl ⟨by rfl, ?_⟩) ?_ ?_
        rotate_left
        · intro w'
          go_simp
          with_reducible rfl
        rotate_left
        · simp only [Act.put, List.setIfInBounds_toArray, List.set_cons_zero, List.set_cons_succ, i64_w, i32_w]
          rfl
        refine take_ (i := 10) (N := some 40) (v := ?_) (a' := ?_) #[true, true, true, true, true, true, true, true, true, true, true, false] rfl rfl (by kernel_rfl) (fun _ _ _ h => h) (Or.inl ⟨by rfl, ?_⟩) hHeld ?_ ?_
        rotate_left
        · rintro w' ⟨s0, s1⟩
          go_simp
          with_reducible rfl
        rotate_left
        · simp only [Act.put, List.setIfInBounds_toArray, List.set_cons_zero, List.set_cons_succ, i64_w, i32_w]
          rfl
        refine pure_ (i := 11) (N := some 41) (v := ?_) (a' := ?_) #[true, true, true, true, true, true, true, true, true, true, true, true] rfl rfl (by kernel_rfl) (fun _ _ _ h => h) (Or.inl ⟨by rfl, ?_⟩) ?_ ?_
        rotate_left
        · intro w'
          go_simp
          with_reducible rfl
        rotate_left
        · simp only [Act.put, List.setIfInBounds_toArray, List.set_cons_zero, List.set_cons_succ, i64_w, i32_w]
          rfl
        refine done_ (by kernel_rfl) ?_
        clear hHeld
        by_cases c : r.budget < (r.mapped.length : Int) + (j : Int)
        · have d3 : decide (r.budget < (r.mapped.length : Int) + (j : Int)) = true := decide_eq_true c
          have E2 : R = (r, 33) := by rw [E1.out, if_pos c]
          replace E2 := Aside0.mk E2
          go_wp2
          go_ret
          rw [E2.out]
          exact ⟨rfl, K, h.below (below_drew HB.out), fun k hk => .inl hk, Upd.of_below (below_drew HB.out) _⟩
        · have d3 : decide (r.budget < (r.mapped.length : Int) + (j : Int)) = false := decide_eq_false c
          have E2 : R = (r.putPages p j, 0) := by rw [E1.out, if_neg c]
          replace E2 := Aside0.mk E2
          have HBd := Aside0.mk (below_drew HB.out)
          clear E1 z0 z1 z2 z3 C0 l0 HB HA
          generalize wr.drew = wd at HBd ⊢
          go_wp2
          go_loopw [10] (fun v10 wr => ∃ (i : Nat) (Kj : Nat → Prop), v10 = .int .i64 i ∧ i ≤ j ∧ Aside0 (RefL wr g Kj (r.putPages p i)) ∧ Aside0 (∀ k, Kj k → K k ∨ w.heap.size ≤ k) ∧ Aside0 (Upd w wr (· = g))) (fun v10 _ => j - (intOf v10).toNat)
          case atStart => exact ⟨0, K, rfl, by omega, ⟨h.below HBd.out⟩, ⟨fun k hk => .inl hk⟩, ⟨Upd.of_below HBd.out _⟩⟩
          case round =>
            obtain ⟨i, Kj, rfl, hi, HR, HK, HU⟩ := hrel
            by_cases hlt2 : i < j
            · have W1 : IntKind.u64.wrap (i : Int) = i := u64w (by omega) (by omega)
              have W2 : IntKind.u64.wrap (p + (i : Int)) = p + i := u64w (by omega) (by omega)
              have W3 := next64 hlt2 (by omega)
              obtain ⟨s1, -, -, -⟩ := putPages_size r p i
              have HE := Aside0.mk (show r.putPages p (i + 1) = { r.putPages p i with mapped := putF (p + i) (r.putPages p i).mapped } from rfl)
              generalize r.putPages p i = rj at HR HE s1
              have hm2 : rj.mapped.length ≤ 1000000 := by omega
              clear s1
              obtain ⟨A0x, c0x, A1x, c1x, A2x, c2x, ⟨z0, z1, z2, z3⟩, ⟨f0, f1, f2⟩, ⟨l0, l1, l2⟩, ⟨C0, C1, C2⟩⟩ := HR.out.cells_
              replace C0 := Aside0.mk C0
              replace C1 := Aside0.mk C1
              replace C2 := Aside0.mk C2
              replace l0 := Aside0.mk l0
              replace l1 := Aside0.mk l1
              replace l2 := Aside0.mk l2
              have PT := Aside0.mk (put_calls A0x c0x rj.mapped (p + i) C0.out l0.out (by omega))
              clear hm2
              go_wp2_with (first | (go_at_call 51; with_reducible refine PT.out.mono ?_; rintro e W3 ⟨A5, c5, rfl, hl5, hF5, hb5⟩; have HL5 := Aside0.mk hl5; have HF5 := Aside0.mk hF5; have HR3 := Aside0.mk (HR.out.below hb5); have HU3 := Aside0.mk (HU.out.then_ (Upd.of_below hb5 (· = g)) (fun _ hk => .inl hk)); clear hl5 hF5 hb5; clear z0 z1 z2 z3 f0 f1 f2 l0 l1 l2 C0 C1 C2; obtain ⟨A0x, c0x, A1x, c1x, A2x, c2x, ⟨z0, z1, z2, z3⟩, ⟨f0, f1, f2⟩, ⟨l0, l1, l2⟩, ⟨C0, C1, C2⟩⟩ := HR3.out.cells_; replace C0 := Aside0.mk C0; replace C1 := Aside0.mk C1; replace C2 := Aside0.mk C2; replace l0 := Aside0.mk l0; replace l1 := Aside0.mk l1; replace l2 := Aside0.mk l2) | ((with_reducible refine gate_store (t := 32) (p := 58) rfl ?_); refine store_event (t := 32) (p := 58) (v := ?voq) (w1 := W3.setCell ⟨g, 0, none⟩ (.slice A5 (putF (p + (i : Int)) rj.mapped).length c5)) ?hg ?ho ?hn ?hr ?_; (case ho => rfl); (case hg => rfl); (case hn => rfl); (case hr => first | (go_simp; done) | (go_simp; rfl)); intro W4 hw; have HR4 := Aside0.mk (HR3.out.set0 (A := A5) (c := c5) (l := putF (p + (i : Int)) rj.mapped) HL5.out HF5.out (fun k hk => ⟨by have := h.glt; have := HU.out.size; omega, hk.2⟩)); have HU4 := Aside0.mk (HU3.out.then_ (Upd.setCell W3 (p := ⟨g, 0, none⟩) (S := (· = g)) rfl (.slice A5 (putF (p + (i : Int)) rj.mapped).length c5)) (fun _ hk => .inl hk)); have HK4 : Aside0 (∀ k, (Kj k ∨ (wr.heap.size ≤ k ∧ k < W3.heap.size)) → K k ∨ w.heap.size ≤ k) := ⟨fun k hk => by rcases hk with h1 | h1; exact HK.out k h1; exact .inr (Nat.le_trans HU.out.size h1.1)⟩; rw [← hw] at HR4 HU4; clear hw; clear z0 z1 z2 z3 f0 f1 f2 l0 l1 l2 C0 C1 C2) | fail)
              exact ⟨⟨i + 1, _, by first | rfl | rw [W3], hlt2, ⟨by rw [HE.out]; exact HR4.out⟩, HK4, HU4⟩, by first | exact round_meas hlt2 | (rw [W3]; exact round_meas hlt2)⟩
            · obtain rfl : i = j := by omega
              go_wp2
              go_ret
              rw [E2.out]
              exact ⟨rfl, Kj, HR.out, HK.out, HU.out⟩
end
end Go.Proofs.Ytkppgepljjgjhaa.P
