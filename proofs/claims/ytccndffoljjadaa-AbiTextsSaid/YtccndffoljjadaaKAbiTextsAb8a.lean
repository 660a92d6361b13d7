/- Words of the walks: lemmas about memory, cut down to what this proof uses. No condition. -/
import Derived.Test.YtccndffoljjadaaKAbiTextsAb7
namespace Go.Proofs.Ytccndffoljjadaa.P
open Go.RowKit Go.Proofs.YtccndffoljjadaaW.PrintWords Go.Proofs.YtccndffoljjadaaW.PrintLast
set_option linter.unusedVariables false
set_option linter.unusedSimpArgs false
def by8 (c : Int) : List Int := [(shr .u64 c 0) % 256, (shr .u64 c 8) % 256, (shr .u64 c 16) % 256, (shr .u64 c 24) % 256, (shr .u64 c 32) % 256, (shr .u64 c 40) % 256, (shr .u64 c 48) % 256, (shr .u64 c 56) % 256]
theorem little_is (c : Int) : word_Little.f 20 c 8 = some (by8 c) := by
  have w : ∀ n : Int, 0 ≤ n → n ≤ 1000 → wrap64 n = n := fun n h0 h1 => by unfold wrap64; omega
  simp [word_Little.f, word_Little.j0, word_Little.l0, w, by8]
/-- A capability is laid. -/
def capStep (st : Mm × Int) (x : S30) : Mm × Int := ((match tagmem_Mem_StoreCap.f 20 st.1 st.2 x.f0 x.f1 x.f2 x.f3 x.f4 x.f5 with | some r => r.1 | none => st.1), IntKind.u64.wrap (st.2 + 32))
theorem storeCap_tot (m : Mm) (a c0 c1 c2 c3 c4 : Int) (c5 : Bool) : ∃ m' e, tagmem_Mem_StoreCap.f 20 m a c0 c1 c2 c3 c4 c5 = some (m', e) := by
  unfold tagmem_Mem_StoreCap.f
  rw [little_is, little_is, little_is]
  split
  · split
    · simp only [Option.bind_some]
      rw [if_pos ⟨rfl, rfl, rfl⟩]
      exact ⟨_, _, rfl⟩
    · exact ⟨_, _, rfl⟩
  · exact ⟨_, _, rfl⟩
theorem capStep_is {m m' : Mm} {a e : Int} {x : S30} (h : tagmem_Mem_StoreCap.f 20 m a x.f0 x.f1 x.f2 x.f3 x.f4 x.f5 = some (m', e)) : capStep (m, a) x = (m', IntKind.u64.wrap (a + 32)) := by
  unfold capStep
  simp only [h]
def capsF (m : Mm) (a : Int) (l : List S30) : Mm × Int := l.foldl capStep (m, a)
theorem capsF_next {m : Mm} {a : Int} {l : List S30} {j : Nat} (h : j < l.length) : capsF m a (l.take (j + 1)) = capStep (capsF m a (l.take j)) (rd_T30 l (j : Int)) := by
  unfold capsF
  rw [List.take_succ_eq_append_getElem h, List.foldl_append]
  simp [rd_T30, List.getElem?_eq_getElem h]
theorem capsF_at {m : Mm} {a : Int} (h : 0 ≤ a ∧ a ≤ 18446744073709551615) : ∀ (l : List S30), 0 ≤ (l.foldl capStep (m, a)).2 ∧ (l.foldl capStep (m, a)).2 ≤ 18446744073709551615 := by
  intro l
  induction l generalizing m a with
  | nil => exact h
  | cons s r ih =>
    simp only [List.foldl_cons]
    refine ih ?_
    rw [IntKind.wrap_u64]; omega
def nullC : S30 := ⟨0, 0, 0, 0, -1, false⟩
theorem null_calls (w : World) : Calls Try.prog 61 #[] w fun e w' => e = .returned (.agg #[.int .u64 0, .int .u64 0, .int .u64 0, .int .i64 0, .int .i64 (-1), .bool false]) ∧ Below w.heap.size w w' := cap_Null.calls 0 0 0 0 (-1) false w rfl
/-- A capability in a box. -/
def put6 (w : World) (g : Nat) (x : S30) : World := (((((w.setCell ⟨g, 0, none⟩ (.int .u64 x.f0)).setCell ⟨g, 1, none⟩ (.int .u64 x.f1)).setCell ⟨g, 2, none⟩ (.int .u64 x.f2)).setCell ⟨g, 3, none⟩ (.int .i64 x.f3)).setCell ⟨g, 4, none⟩ (.int .i64 x.f4)).setCell ⟨g, 5, none⟩ (.bool x.f5)
theorem put6_blk {w : World} {g : Nat} {y0 y1 y2 y3 y4 y5 : Value} {t : TypeId} (h : w.heap[g]? = some (.cells #[y0, y1, y2, y3, y4, y5] t (0, 0))) (x : S30) : (put6 w g x).heap[g]? = some (.cells #[.int .u64 x.f0, .int .u64 x.f1, .int .u64 x.f2, .int .i64 x.f3, .int .i64 x.f4, .bool x.f5] t (0, 0)) := by
  unfold put6
  exact blk_put (blk_put (blk_put (blk_put (blk_put (blk_put h 0 _ rfl) 1 _ rfl) 2 _ rfl) 3 _ rfl) 4 _ rfl) 5 _ rfl
theorem put6_upd (w : World) (g : Nat) (x : S30) : Upd w (put6 w g x) (fun k => k = g) := by
  unfold put6
  have S : ∀ (w : World) (i : Nat) (u : Value), Upd w (w.setCell ⟨g, i, none⟩ u) (fun k => k = g) := fun w i u => Upd.setCell (S := fun k => k = g) w (p := ⟨g, i, none⟩) rfl u
  exact ((((((S _ _ _).then_ (S _ _ _) fun k hk => .inl hk).then_ (S _ _ _) fun k hk => .inl hk).then_ (S _ _ _) fun k hk => .inl hk).then_ (S _ _ _) fun k hk => .inl hk).then_ (S _ _ _) fun k hk => .inl hk)
end Go.Proofs.Ytccndffoljjadaa.P
