/- Words of the walks: lemmas about memory, cut down to what this proof uses. No condition. -/
import Derived.Test.YtkppgepljjgjhaaKTagmemEitherMc6
namespace Go.Proofs.Ytkppgepljjgjhaa.P
open Go.RowKit Go.Proofs.YtkppgepljjgjhaaW.PrintWords Go.Proofs.YtkppgepljjgjhaaW.PrintLast
open Go.ChangeMaps (setBlock)
set_option linter.unusedVariables false
set_option linter.unusedSimpArgs false
def someB (p n : Int) : Bool := decide (1 ≤ n ∧ n ≤ 65536 ∧ p < 65536 ∧ p + n ≤ 65536)
theorem some_is {p n : Int} (h0 : 0 ≤ p) (h1 : p ≤ 18446744073709551615) : tagmem_some.f p n = some (someB p n) := by
  unfold tagmem_some.f someB
  by_cases c1 : n ≥ 1
  · rw [if_pos c1]
    by_cases c2 : n ≤ 65536
    · rw [if_pos c2]
      by_cases c3 : p < 65536
      · rw [if_pos c3, show IntKind.u64.wrap n = n by rw [IntKind.wrap_u64]; omega, show IntKind.u64.wrap (p + n) = p + n by rw [IntKind.wrap_u64]; omega]
        congr 1
        apply decide_eq_decide.2
        omega
      · rw [if_neg c3]; congr 1; symm; apply decide_eq_false; omega
    · rw [if_neg c2]; congr 1; symm; apply decide_eq_false; omega
  · rw [if_neg c1]; congr 1; symm; apply decide_eq_false; omega
def Mm.adds (m : Mm) (p : Int) : Nat → Mm
  | 0 => m
  | j + 1 => (m.adds p j).add (p + j)
theorem page_add {m : Mm} {p q : Int} (h : m.page q = none) (hne : q ≠ p) : (m.add p).page q = none := by
  unfold Mm.page Mm.add at *
  rw [List.find?_append, h, Option.none_or]
  refine List.find?_eq_none.2 fun x hx => ?_
  rw [List.mem_singleton] at hx
  subst hx
  exact fun e => hne (beq_iff_eq.1 e)
theorem page_adds {m : Mm} {p q : Int} (h : m.page q = none) : ∀ j : Nat, (∀ i : Nat, i < j → q ≠ p + i) → (m.adds p j).page q = none
  | 0, _ => h
  | j + 1, hj => page_add (page_adds h j fun i hi => hj i (by omega)) (hj j (by omega))
def tagmem_Mem_Map.f (m : Mm) (p n : Int) : Mm × Int := if someB p n = false then (m, 1) else if alld m p n false = false then (m, 32) else if wrap64 ((m.pages.length : Int) + n) > m.budget then (m, 33) else (m.adds p n.toNat, 0)
theorem MemL.draw {w W : World} {g gm : Nat} {L : List Lp} {clock : Nat} {m : Mm} (h : MemL w g gm L clock m) (hd : Drawn0 w W) : MemL W g gm L clock m := by
  obtain ⟨k, rfl⟩ := hd
  exact h.step rfl rfl (fun _ _ => rfl)
theorem MemL.drewL {w : World} {g gm : Nat} {L : List Lp} {clock : Nat} {m : Mm} (h : MemL w g gm L clock m) : MemL w.drew g gm L clock m := h.step rfl rfl (fun _ _ => rfl)
theorem zero_cells (n : Int) : (Pg.zero n).cells = Try.zeroCells72 := by kernel_rfl
set_option maxHeartbeats 4000000 in
set_option maxRecDepth 100000 in
theorem Map_calls {w : World} {g gm : Nat} {L : List Lp} {clock : Nat} {m : Mm} (h : MemL w g gm L clock m) (p n : Int) (h0 : 0 ≤ p) (h1 : p ≤ 18446744073709551615) :
    Calls Try.prog 24 #[.pointer (some ⟨g, 0, none⟩), .int .u64 p, .int .i64 n] w fun e w' => e = .returned (.int .i64 (tagmem_Mem_Map.f m p n).2) ∧ ∃ L' clock', MemL w' g gm L' clock' (tagmem_Mem_Map.f m p n).1 ∧ (∀ x ∈ L', inL L x.blk ∨ w.heap.size ≤ x.blk) ∧ Upd w w' (· = gm) := by
  have hM := Aside0.mk h
  have hu := Try.underlying66
  cases hs : someB p n with
  | false =>
    have E : tagmem_Mem_Map.f m p n = (m, 1) := by unfold tagmem_Mem_Map.f; rw [if_pos hs]
    rw [E]
    have S := Aside0.mk (tagmem_some.calls p n false w ((some_is h0 h1).trans (by rw [hs])))
    clear hs E
    go_enter Try.func24, Try.ntmps24
    go_wp2_with (first | (go_at_call 37; refine S.out.mono ?_; rintro e w1 ⟨rfl, hd⟩; have HD := Aside0.mk hd; clear hd) | fail)
    go_ret
    obtain ⟨k, rfl⟩ := HD.out
    exact ⟨rfl, L, clock, hM.out.step rfl rfl (fun _ _ => rfl), fun x hx => .inl (List.mem_map_of_mem (f := Lp.blk) hx), ⟨rfl, rfl, rfl, Nat.le_refl _, fun _ _ _ => rfl⟩⟩
  | true =>
    have S := Aside0.mk (tagmem_some.calls p n true w ((some_is h0 h1).trans (by rw [hs])))
    have E0 : tagmem_Mem_Map.f m p n = if alld m p n false = false then (m, 32) else if wrap64 ((m.pages.length : Int) + n) > m.budget then (m, 33) else (m.adds p n.toNat, 0) := by unfold tagmem_Mem_Map.f; rw [hs]; rfl
    unfold someB at hs
    rw [decide_eq_true_eq] at hs
    obtain ⟨n0, n1, p1, pn⟩ := hs
    have AL := Aside0.mk (fun W (hd : Drawn0 w W) => all_calls (h.draw hd) p n false h0 (by omega) pn)
    cases ha : alld m p n false with
    | false =>
      have E1 : tagmem_Mem_Map.f m p n = (m, 32) := by rw [E0, ha, if_pos rfl]
      rw [E1]
      rw [ha] at AL
      clear E0 E1
      go_enter Try.func24, Try.ntmps24
      go_wp2_with (first | (go_at_call 37; refine S.out.mono ?_; rintro e w1 ⟨rfl, hd⟩; have HD := Aside0.mk hd; clear hd) | (go_at_call 38; refine (AL.out _ HD.out).mono ?_; rintro e w2 ⟨rfl, rfl⟩) | fail)
      go_ret
      obtain ⟨k, rfl⟩ := HD.out
      exact ⟨rfl, L, clock, hM.out.step rfl rfl (fun _ _ => rfl), fun x hx => .inl (List.mem_map_of_mem (f := Lp.blk) hx), ⟨rfl, rfl, rfl, Nat.le_refl _, fun _ _ _ => rfl⟩⟩
    | true =>
      by_cases c : m.budget < wrap64 ((L.length : Int) + n)
      · have c3 : decide (m.budget < wrap64 ((L.length : Int) + n)) = true := decide_eq_true c
        have E1 : tagmem_Mem_Map.f m p n = (m, 33) := by rw [E0, ha, if_neg (by simp), if_pos (by rw [h.pgs, List.length_map]; exact c)]
        rw [E1]
        clear E0 E1
        rw [ha] at AL
        go_enter Try.func24, Try.ntmps24
        go_wp2_with (first | (go_at_call 37; refine S.out.mono ?_; rintro e w1 ⟨rfl, hd⟩; have HD := Aside0.mk hd; clear hd) | (go_at_call 38; refine (AL.out _ HD.out).mono ?_; rintro e w2 ⟨rfl, rfl⟩) | fail)
        have HM2 := Aside0.mk (h.draw HD.out)
        have hd0 := blk_cell HM2.out.hd 0
        have hd1 := blk_cell HM2.out.hd 1
        have hd5 := HM2.out.mp
        refine start_ (n := 13) (S := fun w' => w'.heap[gm]? = some (.map (L.map Lp.ent).toArray clock) ∧ w'.cell? ⟨g, 0, none⟩ = some (.map (some gm)) ∧ w'.cell? ⟨g, 1, none⟩ = some (.int .i64 m.budget)) (ds := []) #[false, false, false, false, false, false, false, false, false, false, false, false, false] (by kernel_rfl) rfl rfl ⟨hd5, hd0.trans rfl, hd1.trans rfl⟩ (fun hHeld => ?_)
        have HM3 := Aside0.mk (HM2.out.drewL)
        have HD3 := Aside0.mk (show Drawn0 w w2.drew from HD.out.step 1)
        generalize w2.drew = w3 at HM3 HD3 hHeld ⊢
        clear hd0 hd1 hd5
        refine pure_ (i := 0) (N := some 20) (v := ?_) (a' := ?_) #[true, false, false, false, false, false, false, false, false, false, false, false, false] rfl rfl (by kernel_rfl) (fun _ _ _ h => h) (Or.inl ⟨by rfl, ?_⟩) ?_ ?_
        rotate_left
        · intro w'
          go_simp
          with_reducible rfl
        rotate_left
        · simp only [Act.put, List.setIfInBounds_toArray, List.set_cons_zero, List.set_cons_succ, i64_w, i32_w]
          rfl
        refine pure_ (i := 1) (N := some 21) (v := ?_) (a' := ?_) #[true, true, false, false, false, false, false, false, false, false, false, false, false] rfl rfl (by kernel_rfl) (fun _ _ _ h => h) (Or.inl ⟨by rfl, ?_⟩) ?_ ?_
        rotate_left
        · intro w'
          go_simp
          with_reducible rfl
        rotate_left
        · simp only [Act.put, List.setIfInBounds_toArray, List.set_cons_zero, List.set_cons_succ, i64_w, i32_w]
          rfl
        refine pure_ (i := 2) (N := some 22) (v := ?_) (a' := ?_) #[true, true, true, false, false, false, false, false, false, false, false, false, false] rfl rfl (by kernel_rfl) (fun _ _ _ h => h) (Or.inl ⟨by rfl, ?_⟩) ?_ ?_
        rotate_left
        · intro w'
          go_simp
          with_reducible rfl
        rotate_left
        · simp only [Act.put, List.setIfInBounds_toArray, List.set_cons_zero, List.set_cons_succ, i64_w, i32_w]
          rfl
        refine take_ (i := 3) (N := some 23) (v := ?_) (a' := ?_) #[true, true, true, true, false, false, false, false, false, false, false, false, false] rfl rfl (by kernel_rfl) (fun _ _ _ h => h) (Or.inl ⟨by rfl, ?_⟩) hHeld ?_ ?_
        rotate_left
        · rintro w' ⟨s0, s1, s2⟩
          go_simp
          with_reducible rfl
        rotate_left
        · simp only [Act.put, List.setIfInBounds_toArray, List.set_cons_zero, List.set_cons_succ, i64_w, i32_w]
          rfl
        refine take_ (i := 4) (N := some 24) (v := ?_) (a' := ?_) #[true, true, true, true, true, false, false, false, false, false, false, false, false] rfl rfl (by kernel_rfl) (fun _ _ _ h => h) (Or.inl ⟨by rfl, ?_⟩) hHeld ?_ ?_
        rotate_left
        · rintro w' ⟨s0, s1, s2⟩
          have hq := run_lenm (P := Try.prog) map_t Try.underlying39 s0 3
          go_simp
          with_reducible rfl
        rotate_left
        · simp only [Act.put, List.setIfInBounds_toArray, List.set_cons_zero, List.set_cons_succ, i64_w, i32_w]
          rfl
        refine pure_ (i := 5) (N := some 25) (v := ?_) (a' := ?_) #[true, true, true, true, true, true, false, false, false, false, false, false, false] rfl rfl (by kernel_rfl) (fun _ _ _ h => h) (Or.inl ⟨by rfl, ?_⟩) ?_ ?_
        rotate_left
        · intro w'
          go_simp
          with_reducible rfl
        rotate_left
        · simp only [Act.put, List.setIfInBounds_toArray, List.set_cons_zero, List.set_cons_succ, i64_w, i32_w]
          rfl
        refine pure_ (i := 6) (N := some 26) (v := ?_) (a' := ?_) #[true, true, true, true, true, true, true, false, false, false, false, false, false] rfl rfl (by kernel_rfl) (fun _ _ _ h => h) (Or.inl ⟨by rfl, ?_⟩) ?_ ?_
        rotate_left
        · intro w'
          go_simp
          with_reducible rfl
        rotate_left
        · simp only [Act.put, List.setIfInBounds_toArray, List.set_cons_zero, List.set_cons_succ, i64_w, i32_w]
          rfl
        refine pure_ (i := 7) (N := some 27) (v := ?_) (a' := ?_) #[true, true, true, true, true, true, true, true, false, false, false, false, false] rfl rfl (by kernel_rfl) (fun _ _ _ h => h) (Or.inl ⟨by rfl, ?_⟩) ?_ ?_
        rotate_left
        · intro w'
          go_simp
          with_reducible rfl
        rotate_left
        · simp only [Act.put, List.setIfInBounds_toArray, List.set_cons_zero, List.set_cons_succ, i64_w, i32_w]
          rfl
        refine pure_ (i := 8) (N := some 28) (v := ?_) (a' := ?_) #[true, true, true, true, true, true, true, true, true, false, false, false, false] rfl rfl (by kernel_rfl) (fun _ _ _ h => h) (Or.inl ⟨by rfl, ?_⟩) ?_ ?_
        rotate_left
        · intro w'
          go_simp
          with_reducible rfl
        rotate_left
        · simp only [Act.put, List.setIfInBounds_toArray, List.set_cons_zero, List.set_cons_succ, i64_w, i32_w]
          rfl
        refine pure_ (i := 9) (N := some 29) (v := ?_) (a' := ?_) #[true, true, true, true, true, true, true, true, true, true, false, false, false] rfl rfl (by kernel_rfl) (fun _ _ _ h => h) (Or.inl ⟨by rfl, ?_⟩) ?_ ?_
        rotate_left
        · intro w'
          go_simp
          with_reducible rfl
        rotate_left
        · simp only [Act.put, List.setIfInBounds_toArray, List.set_cons_zero, List.set_cons_succ, i64_w, i32_w]
          rfl
        refine take_ (i := 10) (N := some 30) (v := ?_) (a' := ?_) #[true, true, true, true, true, true, true, true, true, true, true, false, false] rfl rfl (by kernel_rfl) (fun _ _ _ h => h) (Or.inl ⟨by rfl, ?_⟩) hHeld ?_ ?_
        rotate_left
        · rintro w' ⟨s0, s1, s2⟩
          go_simp
          with_reducible rfl
        rotate_left
        · simp only [Act.put, List.setIfInBounds_toArray, List.set_cons_zero, List.set_cons_succ, i64_w, i32_w]
          rfl
        refine pure_ (i := 11) (N := some 31) (v := ?_) (a' := ?_) #[true, true, true, true, true, true, true, true, true, true, true, true, false] rfl rfl (by kernel_rfl) (fun _ _ _ h => h) (Or.inl ⟨by rfl, ?_⟩) ?_ ?_
        rotate_left
        · intro w'
          go_simp
          first | rw [c3]; done | (rw [c3]; with_reducible rfl) | (with_reducible rfl)
        rotate_left
        · simp only [Act.put, List.setIfInBounds_toArray, List.set_cons_zero, List.set_cons_succ, i64_w, i32_w]
          rfl
        refine pure_ (i := 12) (N := some 19) (v := ?_) (a' := ?_) #[true, true, true, true, true, true, true, true, true, true, true, true, true] rfl rfl (by kernel_rfl) (fun _ _ _ h => h) (Or.inl ⟨by rfl, ?_⟩) ?_ ?_
        rotate_left
        · intro w'
          go_simp
          with_reducible rfl
        rotate_left
        · simp only [Act.put, List.setIfInBounds_toArray, List.set_cons_zero, List.set_cons_succ, i64_w, i32_w]
          rfl
        refine done_ (by kernel_rfl) ?_
        go_wp2
        go_ret
        obtain ⟨k, rfl⟩ := HD3.out
        exact ⟨rfl, L, clock, hM.out.step rfl rfl (fun _ _ => rfl), fun x hx => .inl (List.mem_map_of_mem (f := Lp.blk) hx), ⟨rfl, rfl, rfl, Nat.le_refl _, fun _ _ _ => rfl⟩⟩
      · have c3 : decide (m.budget < wrap64 ((L.length : Int) + n)) = false := decide_eq_false c
        have E1 : tagmem_Mem_Map.f m p n = (m.adds p n.toNat, 0) := by rw [E0, ha, if_neg (by simp), if_neg (by rw [h.pgs, List.length_map]; exact c)]
        rw [E1]
        clear E0 E1
        rw [ha] at AL
        go_enter Try.func24, Try.ntmps24
        go_wp2_with (first | (go_at_call 37; refine S.out.mono ?_; rintro e w1 ⟨rfl, hd⟩; have HD := Aside0.mk hd; clear hd) | (go_at_call 38; refine (AL.out _ HD.out).mono ?_; rintro e w2 ⟨rfl, rfl⟩) | fail)
        have HM2 := Aside0.mk (h.draw HD.out)
        have hd0 := blk_cell HM2.out.hd 0
        have hd1 := blk_cell HM2.out.hd 1
        have hd5 := HM2.out.mp
        refine start_ (n := 13) (S := fun w' => w'.heap[gm]? = some (.map (L.map Lp.ent).toArray clock) ∧ w'.cell? ⟨g, 0, none⟩ = some (.map (some gm)) ∧ w'.cell? ⟨g, 1, none⟩ = some (.int .i64 m.budget)) (ds := []) #[false, false, false, false, false, false, false, false, false, false, false, false, false] (by kernel_rfl) rfl rfl ⟨hd5, hd0.trans rfl, hd1.trans rfl⟩ (fun hHeld => ?_)
        have HM3 := Aside0.mk (HM2.out.drewL)
        have HD3 := Aside0.mk (show Drawn0 w w2.drew from HD.out.step 1)
        generalize w2.drew = w3 at HM3 HD3 hHeld ⊢
        clear hd0 hd1 hd5
        refine pure_ (i := 0) (N := some 20) (v := ?_) (a' := ?_) #[true, false, false, false, false, false, false, false, false, false, false, false, false] rfl rfl (by kernel_rfl) (fun _ _ _ h => h) (Or.inl ⟨by rfl, ?_⟩) ?_ ?_
        rotate_left
        · intro w'
          go_simp
          with_reducible rfl
        rotate_left
        · simp only [Act.put, List.setIfInBounds_toArray, List.set_cons_zero, List.set_cons_succ, i64_w, i32_w]
          rfl
        refine pure_ (i := 1) (N := some 21) (v := ?_) (a' := ?_) #[true, true, false, false, false, false, false, false, false, false, false, false, false] rfl rfl (by kernel_rfl) (fun _ _ _ h => h) (Or.inl ⟨by rfl, ?_⟩) ?_ ?_
        rotate_left
        · intro w'
          go_simp
          with_reducible rfl
        rotate_left
        · simp only [Act.put, List.setIfInBounds_toArray, List.set_cons_zero, List.set_cons_succ, i64_w, i32_w]
          rfl
        refine pure_ (i := 2) (N := some 22) (v := ?_) (a' := ?_) #[true, true, true, false, false, false, false, false, false, false, false, false, false] rfl rfl (by kernel_rfl) (fun _ _ _ h => h) (Or.inl ⟨by rfl, ?_⟩) ?_ ?_
        rotate_left
        · intro w'
          go_simp
          with_reducible rfl
        rotate_left
        · simp only [Act.put, List.setIfInBounds_toArray, List.set_cons_zero, List.set_cons_succ, i64_w, i32_w]
          rfl
        refine take_ (i := 3) (N := some 23) (v := ?_) (a' := ?_) #[true, true, true, true, false, false, false, false, false, false, false, false, false] rfl rfl (by kernel_rfl) (fun _ _ _ h => h) (Or.inl ⟨by rfl, ?_⟩) hHeld ?_ ?_
        rotate_left
        · rintro w' ⟨s0, s1, s2⟩
          go_simp
          with_reducible rfl
        rotate_left
        · simp only [Act.put, List.setIfInBounds_toArray, List.set_cons_zero, List.set_cons_succ, i64_w, i32_w]
          rfl
        refine take_ (i := 4) (N := some 24) (v := ?_) (a' := ?_) #[true, true, true, true, true, false, false, false, false, false, false, false, false] rfl rfl (by kernel_rfl) (fun _ _ _ h => h) (Or.inl ⟨by rfl, ?_⟩) hHeld ?_ ?_
        rotate_left
        · rintro w' ⟨s0, s1, s2⟩
          have hq := run_lenm (P := Try.prog) map_t Try.underlying39 s0 3
          go_simp
          with_reducible rfl
        rotate_left
        · simp only [Act.put, List.setIfInBounds_toArray, List.set_cons_zero, List.set_cons_succ, i64_w, i32_w]
          rfl
        refine pure_ (i := 5) (N := some 25) (v := ?_) (a' := ?_) #[true, true, true, true, true, true, false, false, false, false, false, false, false] rfl rfl (by kernel_rfl) (fun _ _ _ h => h) (Or.inl ⟨by rfl, ?_⟩) ?_ ?_
        rotate_left
        · intro w'
          go_simp
          with_reducible rfl
        rotate_left
        · simp only [Act.put, List.setIfInBounds_toArray, List.set_cons_zero, List.set_cons_succ, i64_w, i32_w]
          rfl
        refine pure_ (i := 6) (N := some 26) (v := ?_) (a' := ?_) #[true, true, true, true, true, true, true, false, false, false, false, false, false] rfl rfl (by kernel_rfl) (fun _ _ _ h => h) (Or.inl ⟨by rfl, ?_⟩) ?_ ?_
        rotate_left
        · intro w'
          go_simp
          with_reducible rfl
        rotate_left
        · simp only [Act.put, List.setIfInBounds_toArray, List.set_cons_zero, List.set_cons_succ, i64_w, i32_w]
          rfl
        refine pure_ (i := 7) (N := some 27) (v := ?_) (a' := ?_) #[true, true, true, true, true, true, true, true, false, false, false, false, false] rfl rfl (by kernel_rfl) (fun _ _ _ h => h) (Or.inl ⟨by rfl, ?_⟩) ?_ ?_
        rotate_left
        · intro w'
          go_simp
          with_reducible rfl
        rotate_left
        · simp only [Act.put, List.setIfInBounds_toArray, List.set_cons_zero, List.set_cons_succ, i64_w, i32_w]
          rfl
        refine pure_ (i := 8) (N := some 28) (v := ?_) (a' := ?_) #[true, true, true, true, true, true, true, true, true, false, false, false, false] rfl rfl (by kernel_rfl) (fun _ _ _ h => h) (Or.inl ⟨by rfl, ?_⟩) ?_ ?_
        rotate_left
        · intro w'
          go_simp
          with_reducible rfl
        rotate_left
        · simp only [Act.put, List.setIfInBounds_toArray, List.set_cons_zero, List.set_cons_succ, i64_w, i32_w]
          rfl
        refine pure_ (i := 9) (N := some 29) (v := ?_) (a' := ?_) #[true, true, true, true, true, true, true, true, true, true, false, false, false] rfl rfl (by kernel_rfl) (fun _ _ _ h => h) (Or.inl ⟨by rfl, ?_⟩) ?_ ?_
        rotate_left
        · intro w'
          go_simp
          with_reducible rfl
        rotate_left
        · simp only [Act.put, List.setIfInBounds_toArray, List.set_cons_zero, List.set_cons_succ, i64_w, i32_w]
          rfl
        refine take_ (i := 10) (N := some 30) (v := ?_) (a' := ?_) #[true, true, true, true, true, true, true, true, true, true, true, false, false] rfl rfl (by kernel_rfl) (fun _ _ _ h => h) (Or.inl ⟨by rfl, ?_⟩) hHeld ?_ ?_
        rotate_left
        · rintro w' ⟨s0, s1, s2⟩
          go_simp
          with_reducible rfl
        rotate_left
        · simp only [Act.put, List.setIfInBounds_toArray, List.set_cons_zero, List.set_cons_succ, i64_w, i32_w]
          rfl
        refine pure_ (i := 11) (N := some 31) (v := ?_) (a' := ?_) #[true, true, true, true, true, true, true, true, true, true, true, true, false] rfl rfl (by kernel_rfl) (fun _ _ _ h => h) (Or.inl ⟨by rfl, ?_⟩) ?_ ?_
        rotate_left
        · intro w'
          go_simp
          first | rw [c3]; done | (rw [c3]; with_reducible rfl) | (with_reducible rfl)
        rotate_left
        · simp only [Act.put, List.setIfInBounds_toArray, List.set_cons_zero, List.set_cons_succ, i64_w, i32_w]
          rfl
        refine pure_ (i := 12) (N := some 19) (v := ?_) (a' := ?_) #[true, true, true, true, true, true, true, true, true, true, true, true, true] rfl rfl (by kernel_rfl) (fun _ _ _ h => h) (Or.inl ⟨by rfl, ?_⟩) ?_ ?_
        rotate_left
        · intro w'
          go_simp
          with_reducible rfl
        rotate_left
        · simp only [Act.put, List.setIfInBounds_toArray, List.set_cons_zero, List.set_cons_succ, i64_w, i32_w]
          rfl
        refine done_ (by kernel_rfl) ?_
        clear hHeld HM2 HD S AL
        go_wp2
        go_loopw [33] (fun v33 wr => ∃ (j : Nat) (Lj : List Lp) (cj : Nat), v33 = .int .i64 j ∧ j ≤ n.toNat ∧ Aside0 (MemL wr g gm Lj cj (m.adds p j)) ∧ Aside0 (∀ x ∈ Lj, inL L x.blk ∨ w.heap.size ≤ x.blk) ∧ Aside0 (Upd w wr (· = gm))) (fun v33 _ => n.toNat - (intOf v33).toNat)
        case atStart => exact ⟨0, L, clock, rfl, by omega, HM3, ⟨fun x hx => .inl (List.mem_map_of_mem (f := Lp.blk) hx)⟩, ⟨Upd.of_below HD3.out.below _⟩⟩
        case round =>
          obtain ⟨j, Lj, cj, rfl, hj, HM, HL, HU⟩ := hrel
          by_cases hlt : j < n.toNat
          · have d3 : decide ((j : Int) < n) = true := decide_eq_true (by omega)
            have W1 : IntKind.u64.wrap (j : Int) = j := by rw [IntKind.wrap_u64]; omega
            have W2 : IntKind.u64.wrap (p + (j : Int)) = p + j := by rw [IntKind.wrap_u64]; omega
            have W3 : wrap64 ((j : Int) + 1) = ((j + 1 : Nat) : Int) := by unfold wrap64; omega
            have hpg : (m.adds p j).page (p + (j : Int)) = none := page_adds (by
              have h1 := (List.all_eq_true.1 ha) j (by simpa using hlt)
              simpa using h1) j (fun i hi => by omega)
            rw [HM.out.page] at hpg
            have hno : lookL (p + (j : Int)) Lj = none := by simpa using hpg
            have HMa := Aside0.mk (HM.out.below (below_alloc (Below.refl _ _) (.cells (Pg.zero (p + (j : Int))).cells 72 (0, 0))))
            have hb0 := blk_cell HM.out.hd 0
            have hadd := run_add map_t Try.underlying39 HMa.out.mp (u := .pointer (some ⟨wr.heap.size, 0, none⟩)) hno
            have HP := Aside0.mk (HMa.out.add hno (b := wr.heap.size) (blk_new wr _) (fun x hx e => by have := blk_lt (HM.out.blk x hx); omega))
            have hu1 : Upd w (setBlock (wr.alloc (.cells (Pg.zero (p + (j : Int))).cells 72 (0, 0))) gm (.map ((Lj.map Lp.ent).toArray.push { key := .int .u64 (p + (j : Int)), val := .pointer (some ⟨wr.heap.size, 0, none⟩), born := cj }) (cj + 1))) (· = gm) :=
              (HU.out.then_ (Upd.alloc wr _) (fun _ hk => .inl hk)).then_ (Upd.setBlock (S := (· = gm)) HMa.out.mp rfl _) (fun _ hk => .inl hk)
            have HU1 := Aside0.mk hu1
            have hsz := HU.out.size
            clear hu1 HMa HM HU HM3 HD3 hpg hno
            rw [zero_cells] at hadd HP HU1
            rw [List.push_toArray] at hadd HP HU1
            go_wp2
            refine ⟨⟨j + 1, _, _, by simp, by omega, HP, ⟨fun x hx => ?_⟩, HU1⟩, by simp [intOf]; omega⟩
            rcases List.mem_append.1 hx with hx | hx
            · exact HL.out x hx
            · rw [List.mem_singleton] at hx; subst hx; exact .inr hsz
          · have d3 : decide ((j : Int) < n) = false := decide_eq_false (by omega)
            obtain rfl : j = n.toNat := by omega
            go_wp2
            go_ret
            exact ⟨rfl, Lj, cj, HM.out, HL.out, HU.out⟩
end Go.Proofs.Ytkppgepljjgjhaa.P
