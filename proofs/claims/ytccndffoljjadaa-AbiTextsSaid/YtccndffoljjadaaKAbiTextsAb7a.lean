/- Words of the walks: lemmas about memory, cut down to what this proof uses. No condition. -/
import Derived.Test.YtccndffoljjadaaKAbiTextsAb6
namespace Go.Proofs.Ytccndffoljjadaa.P
open Go.RowKit Go.Proofs.YtccndffoljjadaaW.PrintWords Go.Proofs.YtccndffoljjadaaW.PrintLast
set_option linter.unusedVariables false
set_option linter.unusedSimpArgs false
theorem bind_tot {α β : Type} {o : Option α} {f : α → Option β} (h : ∃ x, o = some x) (hf : ∀ x, ∃ y, f x = some y) : ∃ y, o.bind f = some y := by
  obtain ⟨x, rfl⟩ := h
  exact hf x
theorem open_tot (a b c d e : Int) (t : Bool) : ∃ r, cap_open.f a b c d e t = some r := by
  unfold cap_open.f
  split
  · exact bind_tot ⟨_, rfl⟩ (fun _ => ⟨_, rfl⟩)
  · exact ⟨_, rfl⟩
theorem fits_tot (a b c d e : Int) (t : Bool) (n : Int) : ∃ r, cap_fits.f a b c d e t n = some r := by
  unfold cap_fits.f
  split
  · split
    · exact ⟨_, rfl⟩
    · exact ⟨_, rfl⟩
  · exact ⟨_, rfl⟩
theorem bound_tot (a b c d e : Int) (t : Bool) (n : Int) : ∃ r, cap_Bound.f a b c d e t n = some r := by
  unfold cap_Bound.f
  refine bind_tot (open_tot _ _ _ _ _ _) (fun x => ?_)
  split
  · exact bind_tot ⟨_, rfl⟩ (fun _ => ⟨_, rfl⟩)
  · split
    · refine bind_tot (fits_tot _ _ _ _ _ _ _) (fun y => ?_)
      split
      · exact ⟨_, rfl⟩
      · exact bind_tot ⟨_, rfl⟩ (fun _ => ⟨_, rfl⟩)
    · exact bind_tot ⟨_, rfl⟩ (fun _ => ⟨_, rfl⟩)
theorem of_tot (a n p : Int) : ∃ r1 r2 r3 r4 r5 r6, abi_of.f a n p = some (r1, r2, r3, r4, r5, r6) := by
  have h : ∃ r, abi_of.f a n p = some r := by
    unfold abi_of.f
    refine bind_tot ⟨_, rfl⟩ (fun x => bind_tot ?_ (fun y => bind_tot (bound_tot _ _ _ _ _ _ _) (fun z => bind_tot ?_ (fun u => ⟨_, rfl⟩))))
    · unfold cap_Move.f; exact bind_tot (open_tot _ _ _ _ _ _) (fun _ => ⟨_, rfl⟩)
    · unfold cap_And.f; exact bind_tot (open_tot _ _ _ _ _ _) (fun _ => ⟨_, rfl⟩)
  obtain ⟨⟨r1, r2, r3, r4, r5, r6⟩, h⟩ := h
  exact ⟨r1, r2, r3, r4, r5, r6, h⟩
def ofC (a n p : Int) : S30 := match abi_of.f a n p with | some (r1, r2, r3, r4, r5, r6) => ⟨r1, r2, r3, r4, r5, r6⟩ | none => z30
theorem of_is {a n p : Int} (h0 : 0 ≤ a) (h1 : 0 ≤ n) (h2 : a + n ≤ 16777216) : ofC a n p = ⟨a, a + n, a, Go.bits .and .i64 255 p, -1, true⟩ := by
  have e1 : cap_Root.f 16777216 = some (0, 16777216, 0, 255, -1, true) := rfl
  have e2 : cap_Move.f 0 16777216 0 255 (-1) true a = some (0, 16777216, a, 255, -1, true) := rfl
  have W : IntKind.u64.wrap (a + n) = a + n := by rw [IntKind.wrap_u64]; omega
  have e3 : cap_fits.f 0 16777216 a 255 (-1) true n = some true := by
    unfold cap_fits.f
    rw [W, if_pos (by omega), if_pos (by omega), decide_eq_true (by omega)]
  have e4 : cap_open.f 0 16777216 a 255 (-1) true = some (0, 16777216, a, 255, -1, true) := rfl
  have e5 : cap_Bound.f 0 16777216 a 255 (-1) true n = some (a, a + n, a, 255, -1, true) := by
    unfold cap_Bound.f
    rw [e4, Option.bind_some, e3, W]
    simp
  have e6 : cap_And.f a (a + n) a 255 (-1) true p = some (a, a + n, a, Go.bits .and .i64 255 p, -1, true) := rfl
  unfold ofC abi_of.f
  rw [e1, Option.bind_some, e2, Option.bind_some, e5, Option.bind_some, e6]
  rfl
theorem of_calls (a n p : Int) (w : World) : Calls Try.prog 33 #[.int .u64 a, .int .u64 n, .int .i64 p] w fun e w' => e = .returned (.agg #[.int .u64 (ofC a n p).f0, .int .u64 (ofC a n p).f1, .int .u64 (ofC a n p).f2, .int .i64 (ofC a n p).f3, .int .i64 (ofC a n p).f4, .bool (ofC a n p).f5]) ∧ Below w.heap.size w w' := by
  obtain ⟨r1, r2, r3, r4, r5, r6, h⟩ := of_tot a n p
  have e : ofC a n p = ⟨r1, r2, r3, r4, r5, r6⟩ := by unfold ofC; rw [h]
  rw [e]
  exact abi_of.calls a n p r1 r2 r3 r4 r5 r6 w h
theorem R_upd {α : Type} {d : Kd α} {e base : Nat} {ok : Nat → Prop} {v : Value} {xs : List α} {w W : World} {S : Nat → Prop} (h : Kd.R d e w base ok v xs) (hu : Upd w W S) (hs : ∀ k, S k → k < base) : Kd.R d e W base ok v xs :=
  Kd.R_mono (Kd.R_step (Kd.R_bound h) (fun k hk hlt => hu.block k hlt (fun hS => by have := hs k hS; have := hk.2.1; omega))) (fun k hk => hk.1)
theorem inL_eq {L L' : List Lp} (h : L'.map Lp.blk = L.map Lp.blk) {k : Nat} (hk : inL L' k) : inL L k := by unfold inL at hk ⊢; rw [← h]; exact hk
/-- A text is laid. -/
def textStep (st : Mm × Int × List S30) (s : ByteArray) : Mm × Int × List S30 := ((tagmem_Mem_Put.f st.1 st.2.1 (bytesOf s ++ [0])).1, IntKind.u64.wrap (st.2.1 + ((s.size : Int) + 1)), st.2.2 ++ [ofC st.2.1 ((s.size : Int) + 1) 1])
def textsF (m : Mm) (at_ : Int) (l : List ByteArray) : Mm × Int × List S30 := l.foldl textStep (m, at_, [])
theorem textsF_next {m : Mm} {at_ : Int} {l : List ByteArray} {j : Nat} (h : j < l.length) : textsF m at_ (l.take (j + 1)) = textStep (textsF m at_ (l.take j)) (rdOf ByteArray.empty l (j : Int)) := by
  unfold textsF
  rw [List.take_succ_eq_append_getElem h, List.foldl_append]
  simp [rdOf, List.getElem?_eq_getElem h]
theorem textsF_at {m : Mm} {at_ : Int} (h : 0 ≤ at_ ∧ at_ ≤ 18446744073709551615) : ∀ (l : List ByteArray) (c : List S30), 0 ≤ (l.foldl textStep (m, at_, c)).2.1 ∧ (l.foldl textStep (m, at_, c)).2.1 ≤ 18446744073709551615 := by
  intro l
  induction l generalizing m at_ with
  | nil => exact fun _ => h
  | cons s r ih =>
    intro c
    simp only [List.foldl_cons]
    refine ih ?_ _
    rw [IntKind.wrap_u64]; omega
theorem textsF_len (m : Mm) (at_ : Int) : ∀ (l : List ByteArray) (c : List S30), (l.foldl textStep (m, at_, c)).2.2.length = c.length + l.length := by
  intro l
  induction l generalizing m at_ with
  | nil => intro c; rfl
  | cons s r ih => intro c; simp only [List.foldl_cons]; refine (ih _ _ _).trans ?_; simp; omega
theorem Upd.of_belowB {w W : World} {B : Nat} (h : Below B w W) : Upd w W (fun k => B ≤ k) := ⟨h.os, h.tape, h.output, h.size, fun k _ hn => h.block k (by omega)⟩
theorem MemL.belowB {w W : World} {g gm : Nat} {L : List Lp} {clock : Nat} {m : Mm} {B : Nat} (h : MemL w g gm L clock m) (hb : Below B w W) (h1 : g < B) (h2 : gm < B) (h3 : ∀ x ∈ L, x.blk < B) : MemL W g gm L clock m :=
  h.step (hb.block _ h1) (hb.block _ h2) (fun x hx => hb.block _ (h3 x hx))
theorem MemL.upd {w W : World} {g gm : Nat} {L : List Lp} {clock : Nat} {m : Mm} {S : Nat → Prop} (h : MemL w g gm L clock m) (hu : Upd w W S) (h1 : ¬ S g) (h2 : ¬ S gm) (h3 : ∀ x ∈ L, ¬ S x.blk) : MemL W g gm L clock m :=
  h.step (hu.block _ (blk_lt h.hd) h1) (hu.block _ (blk_lt h.mp) h2) (fun x hx => hu.block _ (blk_lt (h.blk x hx)) (h3 x hx))
end Go.Proofs.Ytccndffoljjadaa.P
