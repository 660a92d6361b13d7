/- Words of the walks: lemmas about memory, cut down to what this proof uses. No condition. -/
import Derived.Test.YtkppgepljjgjhaaKTagmemEitherMc7
namespace Go.Proofs.Ytkppgepljjgjhaa.P
open Go.RowKit Go.Proofs.YtkppgepljjgjhaaW.PrintWords Go.Proofs.YtkppgepljjgjhaaW.PrintLast
open Go.ChangeMaps (setBlock)
set_option linter.unusedVariables false
set_option linter.unusedSimpArgs false
theorem size_alloc (w : World) (o : Obj) : (w.alloc o).heap.size = w.heap.size + 1 := by simp
set_option maxHeartbeats 4000000 in
set_option maxRecDepth 100000 in
theorem New_none (b : Int) (w : World) (h : b < 0 ∨ b > 256) : Calls Try.prog 11 #[.int .i64 b] w fun e w' => e = .returned (.tuple #[.pointer none, .int .i64 1]) ∧ w' = w := by
  by_cases c : b < 0
  · have c1 : decide (b < 0) = true := decide_eq_true c
    go_enter Try.func11, Try.ntmps11
    go_wp2
    go_ret2
    exact ⟨rfl, rfl⟩
  · have c1 : decide (b < 0) = false := decide_eq_false c
    have c2 : decide (256 < b) = true := decide_eq_true (by omega)
    go_enter Try.func11, Try.ntmps11
    go_wp2
    go_ret2
    exact ⟨rfl, rfl⟩
set_option maxHeartbeats 4000000 in
set_option maxRecDepth 100000 in
theorem New_some (b : Int) (w : World) (h0 : 0 ≤ b) (h1 : b ≤ 256) : Calls Try.prog 11 #[.int .i64 b] w fun e w' => ∃ g gm, e = .returned (.tuple #[.pointer (some ⟨g, 0, none⟩), .int .i64 0]) ∧ MemL w' g gm [] 0 ⟨b, []⟩ ∧ w.heap.size ≤ g ∧ w.heap.size ≤ gm ∧ Below w.heap.size w w' := by
  have c1 : decide (b < 0) = false := decide_eq_false (by omega)
  have c2 : decide (256 < b) = false := decide_eq_false (by omega)
  have hu := Try.underlying66
  have hmk := fun w => run_makeMap (P := Try.prog) 64 w
  go_enter Try.func11, Try.ntmps11
  go_wp2
  go_ret2
  have h2 := blk_new (w.alloc (.map #[] 0)) (.cells #[.map (some w.heap.size), .int .i64 b] 66 (0, 0))
  rw [size_alloc] at h2
  refine ⟨_, _, rfl, MemL.new (gm := w.heap.size) (blk_alloc (blk_new _ _) _) h2, by omega, Nat.le_refl _, below_alloc (below_alloc (Below.refl _ _) _) _⟩
def Mm.dels (m : Mm) (p : Int) : Nat → Mm
  | 0 => m
  | j + 1 => (m.dels p j).del (p + j)
def tagmem_Mem_Unmap.f (m : Mm) (p n : Int) : Mm × Int := if someB p n = false then (m, 1) else if alld m p n true = false then (m, 30) else (m.dels p n.toNat, 0)
theorem find_erase {α : Type} (A B : α → Bool) (h : ∀ x, A x = true → B x = false) : ∀ l : List α, (l.eraseIdx (l.findIdx A)).find? B = l.find? B
  | [] => rfl
  | x :: r => by
    rw [List.findIdx_cons]
    cases hx : A x with
    | true => simp [h x hx]
    | false =>
      simp only [cond_false, List.eraseIdx_cons_succ, List.find?_cons, find_erase A B h r]
theorem page_del {m : Mm} {p q : Int} (hne : q ≠ p) : (m.del p).page q = m.page q := by
  unfold Mm.page Mm.del
  refine find_erase _ _ (fun x hx => ?_) _
  have := beq_iff_eq.1 hx
  subst this
  exact beq_eq_false_iff_ne.2 hne
theorem page_dels {m : Mm} {p q : Int} : ∀ j : Nat, (∀ i : Nat, i < j → q ≠ p + i) → (m.dels p j).page q = m.page q
  | 0, _ => rfl
  | j + 1, hj => (page_del (hj j (by omega))).trans (page_dels j fun i hi => hj i (by omega))
theorem idx_of_look {n : Int} {L : List Lp} (h : (lookL n L).isSome = true) : ∃ j, (L.findIdx? fun x => n == x.pg.no) = some j := by
  cases hf : (L.findIdx? fun x => n == x.pg.no) with
  | some j => exact ⟨j, rfl⟩
  | none => rw [← find_idx, hf] at h; simp at h
set_option maxHeartbeats 4000000 in
set_option maxRecDepth 100000 in
theorem Unmap_calls {w : World} {g gm : Nat} {L : List Lp} {clock : Nat} {m : Mm} (h : MemL w g gm L clock m) (p n : Int) (h0 : 0 ≤ p) (h1 : p ≤ 18446744073709551615) :
    Calls Try.prog 25 #[.pointer (some ⟨g, 0, none⟩), .int .u64 p, .int .i64 n] w fun e w' => e = .returned (.int .i64 (tagmem_Mem_Unmap.f m p n).2) ∧ ∃ L', MemL w' g gm L' clock (tagmem_Mem_Unmap.f m p n).1 ∧ (∀ x ∈ L', inL L x.blk) ∧ Upd w w' (· = gm) := by
  have hM := Aside0.mk h
  have hu := Try.underlying66
  cases hs : someB p n with
  | false =>
    have E : tagmem_Mem_Unmap.f m p n = (m, 1) := by unfold tagmem_Mem_Unmap.f; rw [if_pos hs]
    rw [E]
    have S := Aside0.mk (tagmem_some.calls p n false w ((some_is h0 h1).trans (by rw [hs])))
    clear hs E
    go_enter Try.func25, Try.ntmps25
    go_wp2_with (first | (go_at_call 37; refine S.out.mono ?_; rintro e w1 ⟨rfl, hd⟩; have HD := Aside0.mk hd; clear hd) | fail)
    go_ret
    exact ⟨rfl, L, hM.out.draw HD.out, fun x hx => List.mem_map_of_mem (f := Lp.blk) hx, Upd.of_below HD.out.below _⟩
  | true =>
    have S := Aside0.mk (tagmem_some.calls p n true w ((some_is h0 h1).trans (by rw [hs])))
    have E0 : tagmem_Mem_Unmap.f m p n = if alld m p n true = false then (m, 30) else (m.dels p n.toNat, 0) := by unfold tagmem_Mem_Unmap.f; rw [hs]; rfl
    unfold someB at hs
    rw [decide_eq_true_eq] at hs
    obtain ⟨n0, n1, p1, pn⟩ := hs
    have AL := Aside0.mk (fun W (hd : Drawn0 w W) => all_calls (h.draw hd) p n true h0 (by omega) pn)
    cases ha : alld m p n true with
    | false =>
      have E1 : tagmem_Mem_Unmap.f m p n = (m, 30) := by rw [E0, ha, if_pos rfl]
      rw [E1]
      rw [ha] at AL
      clear E0 E1
      go_enter Try.func25, Try.ntmps25
      go_wp2_with (first | (go_at_call 37; refine S.out.mono ?_; rintro e w1 ⟨rfl, hd⟩; have HD := Aside0.mk hd; clear hd) | (go_at_call 38; refine (AL.out _ HD.out).mono ?_; rintro e w2 ⟨rfl, rfl⟩) | fail)
      go_ret
      exact ⟨rfl, L, hM.out.draw HD.out, fun x hx => List.mem_map_of_mem (f := Lp.blk) hx, Upd.of_below HD.out.below _⟩
    | true =>
      have E1 : tagmem_Mem_Unmap.f m p n = (m.dels p n.toNat, 0) := by rw [E0, ha, if_neg (by simp)]
      rw [E1]
      rw [ha] at AL
      clear E0 E1
      go_enter Try.func25, Try.ntmps25
      go_wp2_with (first | (go_at_call 37; refine S.out.mono ?_; rintro e w1 ⟨rfl, hd⟩; have HD := Aside0.mk hd; clear hd) | (go_at_call 38; refine (AL.out _ HD.out).mono ?_; rintro e w2 ⟨rfl, rfl⟩) | fail)
      have HM3 := Aside0.mk (hM.out.draw HD.out)
      clear S AL
      go_loopw [20] (fun v20 wr => ∃ (j : Nat) (Lj : List Lp), v20 = .int .i64 j ∧ j ≤ n.toNat ∧ Aside0 (MemL wr g gm Lj clock (m.dels p j)) ∧ Aside0 (∀ x ∈ Lj, x ∈ L) ∧ Aside0 (Upd w wr (· = gm))) (fun v20 _ => n.toNat - (intOf v20).toNat)
      case atStart => exact ⟨0, L, rfl, by omega, HM3, ⟨fun x hx => hx⟩, ⟨Upd.of_below HD.out.below _⟩⟩
      case round =>
        obtain ⟨j, Lj, rfl, hj, HM, HL, HU⟩ := hrel
        by_cases hlt : j < n.toNat
        · have d3 : decide ((j : Int) < n) = true := decide_eq_true (by omega)
          have W1 : IntKind.u64.wrap (j : Int) = j := by rw [IntKind.wrap_u64]; omega
          have W2 : IntKind.u64.wrap (p + (j : Int)) = p + j := by rw [IntKind.wrap_u64]; omega
          have W3 : wrap64 ((j : Int) + 1) = ((j + 1 : Nat) : Int) := by unfold wrap64; omega
          have hpg : ((m.dels p j).page (p + (j : Int))).isSome = true := by
            rw [page_dels j (fun i hi => by omega)]
            have h1 := (List.all_eq_true.1 ha) j (by simpa using hlt)
            simpa using h1
          rw [HM.out.page, Option.isSome_map] at hpg
          obtain ⟨i, hi⟩ := idx_of_look hpg
          have hb0 := blk_cell HM.out.hd 0
          have hdel := run_del map_t Try.underlying39 HM.out.mp hi 0
          have HP := Aside0.mk (HM.out.del hi)
          have HU1 := Aside0.mk (HU.out.then_ (Upd.setBlock (S := (· = gm)) HM.out.mp rfl (.map ((Lj.map Lp.ent).toArray.eraseIdxIfInBounds i) clock)) (fun _ hk => .inl hk))
          clear HM HU HM3 hpg hi
          generalize (Lj.map Lp.ent).toArray.eraseIdxIfInBounds i = ar at hdel HP HU1
          go_wp2
          exact ⟨⟨j + 1, _, by simp, by omega, HP, ⟨fun x hx => HL.out x ((List.eraseIdx_sublist Lj i).subset hx)⟩, HU1⟩, by simp [intOf]; omega⟩
        · have d3 : decide ((j : Int) < n) = false := decide_eq_false (by omega)
          obtain rfl : j = n.toNat := by omega
          go_wp2
          go_ret
          exact ⟨rfl, Lj, HM.out, fun x hx => List.mem_map_of_mem (f := Lp.blk) (HL.out x hx), HU.out⟩
end Go.Proofs.Ytkppgepljjgjhaa.P
