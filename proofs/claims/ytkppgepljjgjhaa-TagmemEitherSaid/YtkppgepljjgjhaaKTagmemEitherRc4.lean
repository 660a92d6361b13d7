/- Texts of one proof, one behind the other. No condition. -/
import Derived.Test.YtkppgepljjgjhaaKTagmemEitherSa0
import Derived.Test.YtkppgepljjgjhaaKTagmemEitherSc2
namespace Go.Proofs.Ytkppgepljjgjhaa.P
open Go.RowKit Go.Proofs.YtkppgepljjgjhaaW.PrintWords Go.Proofs.YtkppgepljjgjhaaW.PrintLast Go.Proofs.YtkppgepljjgjhaaW.PrintMore
set_option linter.unusedVariables false
set_option linter.unusedSimpArgs false
/-- The memory lies in w, above all below B. -/
structure Sol (B : Nat) (w : World) (g gm : Nat) (L : List Lp) (c : Nat) (m : Mm) : Prop where
  M : MemL w g gm L c m
  b1 : B ≤ g ∧ B ≤ gm
  b3 : ∀ k, inL L k → B ≤ k
/-- What a step of the memory leaves. -/
def Step (B : Nat) (w0 w : World) (g gm : Nat) (L : List Lp) (m' : Mm) (w' : World) : Prop := (∃ L' c', Sol B w' g gm L' c' m' ∧ ∀ k, inL L' k → inL L k ∨ w.heap.size ≤ k) ∧ Below B w0 w' ∧ Upd w w' (fun k => k = gm ∨ inL L k)
section
variable {B : Nat} {w W w0 : World} {g gm : Nat} {L L' : List Lp} {c c' : Nat} {m m' : Mm} {q : Int}
theorem Sol.below (h : Sol B w g gm L c m) (hb : Below w.heap.size w W) : Sol B W g gm L c m := ⟨h.M.below hb, h.b1, h.b3⟩
theorem Sol.step (h : Sol B w g gm L c m) (hM : MemL W g gm L' c' m') (hL : ∀ k, inL L' k → inL L k ∨ w.heap.size ≤ k) {S : Nat → Prop} (hu : Upd w W S) (hS : ∀ k, S k → k = gm ∨ inL L k) (hw : Below B w0 w) (hB : B ≤ w.heap.size) : Step B w0 w g gm L m' W := by
  refine ⟨⟨L', c', ⟨hM, h.b1, fun k hk => ?_⟩, hL⟩, hu.below hw hB (fun k hk => ?_), hu.mono hS⟩
  · rcases hL k hk with e | e
    · exact h.b3 k e
    · omega
  · rcases hS k hk with rfl | e
    · exact h.b1.2
    · exact h.b3 k e
theorem sMap (S : Sol B w g gm L c m) (hw : Below B w0 w) (hB : B ≤ w.heap.size) (p n : Int) (h0 : 0 ≤ p) (h1 : p ≤ 18446744073709551615) (hq : tagmem_Mem_Map.f m p n = (m', q)) :
    Calls Try.prog 24 #[.pointer (some ⟨g, 0, none⟩), .int .u64 p, .int .i64 n] w fun e w' => e = .returned (.int .i64 q) ∧ Step B w0 w g gm L m' w' := by
  refine (Map_calls S.M p n h0 h1).mono ?_
  rw [hq]
  rintro e w' ⟨rfl, L', c', hM, hL, hu⟩
  exact ⟨rfl, S.step hM (fun k hk => by obtain ⟨x, hx, rfl⟩ := List.mem_map.1 hk; exact hL x hx) hu (fun k hk => .inl hk) hw hB⟩
theorem sStore (S : Sol B w g gm L c m) (hw : Below B w0 w) (hB : B ≤ w.heap.size) (a n u : Int) (h0 : 0 ≤ a) (h1 : a ≤ 18446744073709551615) (hq : tagmem_Mem_Store.f 20 m a n u = some (m', q)) :
    Calls Try.prog 21 #[.pointer (some ⟨g, 0, none⟩), .int .u64 a, .int .i64 n, .int .u64 u] w fun e w' => e = .returned (.int .i64 q) ∧ Step B w0 w g gm L m' w' := by
  refine (Store_calls 20 S.M a n u h0 h1 m' q hq).mono ?_
  rintro e w' ⟨rfl, L', hM, hL, hu⟩
  exact ⟨rfl, S.step hM (inL_map hL) hu (fun k hk => .inr hk) hw hB⟩
theorem sStoreCap (S : Sol B w g gm L c m) (hw : Below B w0 w) (hB : B ≤ w.heap.size) (a c0 c1 c2 c3 c4 : Int) (c5 : Bool) (h0 : 0 ≤ a) (h1 : a ≤ 18446744073709551615) (hq : tagmem_Mem_StoreCap.f 20 m a c0 c1 c2 c3 c4 c5 = some (m', q)) :
    Calls Try.prog 19 #[.pointer (some ⟨g, 0, none⟩), .int .u64 a, .agg #[.int .u64 c0, .int .u64 c1, .int .u64 c2, .int .i64 c3, .int .i64 c4, .bool c5]] w fun e w' => e = .returned (.int .i64 q) ∧ Step B w0 w g gm L m' w' := by
  refine (StoreCap_calls 20 S.M a c0 c1 c2 c3 c4 c5 h0 h1 m' q hq).mono ?_
  rintro e w' ⟨rfl, L', hM, hL, hu⟩
  exact ⟨rfl, S.step hM (inL_map hL) hu (fun k hk => .inr hk) hw hB⟩
theorem sPages (S : Sol B w g gm L c m) (hm : MOk m) :
    Calls Try.prog 14 #[.pointer (some ⟨g, 0, none⟩)] w fun e w' => ∃ v : Value, e = .returned v ∧ Kd.R (Kd.int .u64) 39 w' w.heap.size (fun _ => True) v (tagmem_Mem_Pages.f m) ∧ Below w.heap.size w w' :=
  Pages_calls S.M (by have h1 := hm.len; have h2 := hm.b; rw [S.M.pgs, List.length_map] at h1; omega)
theorem sTags (S : Sol B w g gm L c m) (hm : MOk m) :
    Calls Try.prog 15 #[.pointer (some ⟨g, 0, none⟩)] w fun e w' => ∃ v : Value, e = .returned v ∧ Kd.R (Kd.int .u64) 39 w' w.heap.size (fun _ => True) v (tagmem_Mem_Tags.f m) ∧ Below w.heap.size w w' :=
  Tags_calls S.M (by have h1 := hm.len; have h2 := hm.b; rw [S.M.pgs, List.length_map] at h1; omega) hm.wf.no
end
theorem sNew (b : Int) (w : World) (h0 : 0 ≤ b) (h1 : b ≤ 256) : Calls Try.prog 11 #[.int .i64 b] w fun e w' => ∃ g gm, e = .returned (.tuple #[.pointer (some ⟨g, 0, none⟩), .int .i64 0]) ∧ Sol w.heap.size w' g gm [] 0 ⟨b, []⟩ ∧ Below w.heap.size w w' := by
  refine (New_some b w h0 h1).mono ?_
  rintro e w' ⟨g, gm, rfl, hm, hg, hgm, hb⟩
  exact ⟨g, gm, rfl, ⟨hm, ⟨hg, hgm⟩, fun k hk => by simp [inL] at hk⟩, hb⟩
end Go.Proofs.Ytkppgepljjgjhaa.P

namespace Go.Proofs.Ytkppgepljjgjhaa.P
open Go.RowKit Go.Proofs.YtkppgepljjgjhaaW.PrintWords Go.Proofs.YtkppgepljjgjhaaW.PrintLast Go.Proofs.YtkppgepljjgjhaaW.PrintMore
set_option linter.unusedVariables false
set_option linter.unusedSimpArgs false
/-- A row of the walk's own, apart from the memory. -/
def Keeps {α : Type} (d : Kd α) (w : World) (gm : Nat) (L : List Lp) (A : Option Addr) (l : List α) : Prop := ∃ K0 : Nat → Prop, Kd.F d w K0 A l.length l ∧ ∀ j, K0 j → j < w.heap.size ∧ j ≠ gm ∧ ¬ inL L j
section
variable {α : Type} {d : Kd α} {B : Nat} {w W w0 : World} {g gm : Nat} {L L' : List Lp} {c c' : Nat} {m m' : Mm} {A : Option Addr} {l : List α}
theorem Keeps.now (h : Keeps d w gm L A l) : d.C w A l.length l := by
  obtain ⟨K0, hF, _⟩ := h
  exact Kd.F_now hF
theorem Keeps.below (h : Keeps d w gm L A l) (hb : Below w.heap.size w W) : Keeps d W gm L A l := by
  obtain ⟨K0, hF, hK⟩ := h
  exact ⟨K0, Kd.F_below hF hb, fun j hj => ⟨Nat.lt_of_lt_of_le (hK j hj).1 hb.size, (hK j hj).2⟩⟩
theorem Keeps.step (h : Keeps d w gm L A l) (hL : ∀ k, inL L' k → inL L k ∨ w.heap.size ≤ k) (hu : Upd w W (fun k => k = gm ∨ inL L k)) : Keeps d W gm L' A l := by
  obtain ⟨K0, hF, hK⟩ := h
  refine ⟨K0, Kd.F_step hF (fun k hk hl => hu.block k hl (fun e => by rcases e with e | e; exact (hK k hk).2.1 e; exact (hK k hk).2.2 e)), fun j hj => ⟨Nat.lt_of_lt_of_le (hK j hj).1 hu.size, (hK j hj).2.1, fun e => ?_⟩⟩
  rcases hL j e with e | e
  · exact (hK j hj).2.2 e
  · have := (hK j hj).1; omega
theorem Keeps.new (S : Sol B w g gm L c m) {e : Nat} {ok : Nat → Prop} {v : Value} (hR : d.R e W w.heap.size ok v l) (hb : Below w.heap.size w W) : ∃ A c, v = .slice A l.length c ∧ l.length ≤ c ∧ Keeps d W gm L A l := by
  obtain ⟨A, c, e, hl, hF⟩ := R_own_F hR
  have hlt := S.M.lt_g
  exact ⟨A, c, e, hl, _, hF, fun j hj => ⟨hj.2, by have := hlt.2.1; have := hj.1; omega, fun e => by have := inL_lt S.M e; have := hj.1; omega⟩⟩
end
theorem sameU_l (a b : List Int) (h : a.length = b.length) (hl : a.length ≤ 4611686018427387904) : ∀ d i : Nat, d + i = a.length → (∀ j : Nat, j < i → rd a (j : Int) = rd b (j : Int)) → ∃ k, curtilageref03_Same.l0 k a b (i : Int) = some (decide (a = b))
  | 0, i, hi, hp => ⟨1, by
    unfold curtilageref03_Same.l0
    rw [if_neg (by omega), decide_eq_true (rd_eq_all h (fun j hj => hp j (by omega)))]⟩
  | d + 1, i, hi, hp => by
    by_cases c : rd a (i : Int) = rd b (i : Int)
    · obtain ⟨k, hk⟩ := sameU_l a b h hl d (i + 1) (by omega) (fun j hj => by
        rcases Nat.lt_succ_iff_lt_or_eq.1 hj with hj | rfl
        · exact hp j hj
        · exact c)
      refine ⟨k + 1, ?_⟩
      unfold curtilageref03_Same.l0
      rw [if_pos (by omega), if_pos (by omega), if_pos (by omega), if_pos c, next64 (show i < a.length by omega) hl, hk]
    · refine ⟨1, ?_⟩
      unfold curtilageref03_Same.l0
      rw [if_pos (by omega), if_pos (by omega), if_pos (by omega), if_neg c, decide_eq_false (fun e => c (by rw [e]))]
theorem sameU_calls {w : World} (A1 : Option Addr) (k1 : Nat) (a : List Int) (A2 : Option Addr) (k2 : Nat) (b : List Int) (h1 : Kd.C (Kd.int .u64) w A1 a.length a) (l1 : a.length ≤ k1) (h2 : Kd.C (Kd.int .u64) w A2 b.length b) (l2 : b.length ≤ k2) (hl : a.length ≤ 4611686018427387904) :
    Calls Try.prog 16 #[.slice A1 a.length k1, .slice A2 b.length k2] w fun e w' => e = .returned (.bool (decide (a = b))) ∧ Below w.heap.size w w' := by
  have : ∃ k, curtilageref03_Same.f k a b = some (decide (a = b)) := by
    unfold curtilageref03_Same.f
    by_cases c : (a.length : Int) = (b.length : Int)
    · obtain ⟨k, hk⟩ := sameU_l a b (by omega) hl a.length 0 rfl (fun j hj => by omega)
      exact ⟨k, by rw [if_pos c]; exact hk⟩
    · exact ⟨0, by rw [if_neg c, decide_eq_false (fun e => c (by rw [e]))]⟩
  obtain ⟨k, hk⟩ := this
  exact (curtilageref03_Same.calls k A1 k1 a A2 k2 b _ w h1 l1 h2 l2 hk).mono (fun e w' h => ⟨h.1, h.2.below⟩)
theorem awake_plain : ∃ m1 m2 m3 m4 : Mm, tagmem_Mem_Map.f ⟨2, []⟩ 1 1 = (m1, 0) ∧ tagmem_Mem_Store.f 20 m1 256 4 258 = some (m2, 0) ∧ tagmem_Mem_Load.f 20 m2 256 2 = some (258, 0) ∧ tagmem_Mem_Load.f 20 m2 257 2 = some (0, 31) ∧ tagmem_Mem_Load.f 20 m2 0 1 = some (0, 30) ∧ tagmem_Mem_StoreCap.f 20 m2 288 0 9 0 255 (-1) true = some (m3, 0) ∧ tagmem_Mem_Tags.f m3 = [288] ∧ tagmem_Mem_Store.f 20 m3 300 1 0 = some (m4, 0) ∧ tagmem_Mem_Tags.f m4 = [] ∧ tagmem_Mem_Map.f m4 1 1 = (m4, 32) ∧ tagmem_Mem_Map.f m4 2 2 = (m4, 33) := by
  refine ⟨(tagmem_Mem_Map.f ⟨2, []⟩ 1 1).1, ((tagmem_Mem_Store.f 20 (tagmem_Mem_Map.f ⟨2, []⟩ 1 1).1 256 4 258).getD (⟨0, []⟩, 0)).1, ((tagmem_Mem_StoreCap.f 20 ((tagmem_Mem_Store.f 20 (tagmem_Mem_Map.f ⟨2, []⟩ 1 1).1 256 4 258).getD (⟨0, []⟩, 0)).1 288 0 9 0 255 (-1) true).getD (⟨0, []⟩, 0)).1, ((tagmem_Mem_Store.f 20 ((tagmem_Mem_StoreCap.f 20 ((tagmem_Mem_Store.f 20 (tagmem_Mem_Map.f ⟨2, []⟩ 1 1).1 256 4 258).getD (⟨0, []⟩, 0)).1 288 0 9 0 255 (-1) true).getD (⟨0, []⟩, 0)).1 300 1 0).getD (⟨0, []⟩, 0)).1, ?_, ?_, ?_, ?_, ?_, ?_, ?_, ?_, ?_, ?_, ?_⟩
  all_goals kernel_rfl
theorem MOk_store' {m m' : Mm} {q : Int} (h : MOk m) {a n u : Int} (u0 : 0 ≤ u) (u1 : u ≤ 18446744073709551615) (hq : tagmem_Mem_Store.f 20 m a n u = some (m', q)) : MOk m' := by
  have := MOk_store (a := a) (n := n) h u0 u1
  rw [hq] at this
  exact this
theorem MOk_storeCap' {m m' : Mm} {q : Int} (h : MOk m) {a c0 c1 c2 c3 c4 : Int} {c5 : Bool} (hq : tagmem_Mem_StoreCap.f 20 m a c0 c1 c2 c3 c4 c5 = some (m', q)) : MOk m' := by
  have := MOk_storeCap h a c0 c1 c2 c3 c4 c5
  rw [hq] at this
  exact this
theorem MOk_map' {m m' : Mm} {q : Int} (h : MOk m) {p n : Int} (h0 : 0 ≤ p) (hq : tagmem_Mem_Map.f m p n = (m', q)) : MOk m' := by
  have := MOk_map (n := n) h h0
  rw [hq] at this
  exact this
theorem lit_F39 (W : World) (xs : List Int) (hm : xs.length ≤ 1000) : Kd.C (Kd.int .u64) (W.alloc (.cells (nums .u64 xs).toArray 39)) (some ⟨W.heap.size, 0, none⟩) xs.length xs :=
  Kd.F_now (Kd.R_F (Kd.R_of_own (enc := Value.int .u64) (h1 := fun _ => rfl) (ok := fun k => k = W.heap.size) (own_lit_of (enc := Value.int .u64) W 0 39 xs (Nat.zero_le _) (by omega)) (fun k hk => by simpa [Value.ownBlock] using hk.symm)))
set_option maxHeartbeats 16000000 in
set_option maxRecDepth 100000 in
theorem awake.calls (w : World) : Calls Try.prog 10 #[] w fun e w' => e = .returned (.bool true) ∧ Below w.heap.size w w' := by
  obtain ⟨m1, m2, m3, m4, p1, p2, p3, p4, p5, p6, p7, p8, p9, pa, pb⟩ := awake_plain
  have k0 : MOk ⟨2, []⟩ := ⟨Mm.Wf.new 2, by decide, by decide⟩
  have k1 := MOk_map' k0 (by decide) p1
  have k2 := MOk_store' k1 (by decide) (by decide) p2
  have k3 := Aside0.mk (MOk_storeCap' k2 p6)
  have k4 := Aside0.mk (MOk_store' k3.out (by decide) (by decide) p8)
  have N1 := Aside0.mk (sNew 2 w (by decide) (by decide))
  have N2 := Aside0.mk (fun W => New_none (-1) W (.inl (by decide)))
  have RT := Aside0.mk (fun W => cap_Root.calls 9 0 9 0 255 (-1) true W rfl)
  have P1 := Aside0.mk p1
  have P2 := Aside0.mk p2
  have P3 := Aside0.mk p3
  have P4 := Aside0.mk p4
  have P5 := Aside0.mk p5
  have P6 := Aside0.mk p6
  have P7 := Aside0.mk p7
  have P8 := Aside0.mk p8
  have P9 := Aside0.mk p9
  have PA := Aside0.mk pa
  have PB := Aside0.mk pb
  clear p1 p2 p3 p4 p5 p6 p7 p8 p9 pa pb k0 k1 k2
  go_enter Try.func10, Try.ntmps10
  go_wp2_with (first | (go_at_call 11; (with_reducible refine N1.out.mono ?_); rintro e W1 ⟨g, gm, rfl, hs, hb⟩; have S1 := Aside0.mk hs; have HB1 := Aside0.mk hb; clear hs hb N1) | (go_at_call 11; (with_reducible refine (N2.out W1).mono ?_); rintro e W1x ⟨rfl, rfl⟩) | (go_at_call 24; (with_reducible refine (sMap S1.out HB1.out HB1.out.size 1 1 (by decide) (by decide) P1.out).mono ?_); rintro e W2 ⟨rfl, ⟨L2, cl2, hs, hL⟩, hb, hu⟩; have S2 := Aside0.mk hs; have HB2 := Aside0.mk hb; clear hs hL hb hu S1 HB1) | (go_at_call 21; (with_reducible refine (sStore S2.out HB2.out HB2.out.size 256 4 258 (by decide) (by decide) P2.out).mono ?_); rintro e W3 ⟨rfl, ⟨L3, cl3, hs, hL⟩, hb, hu⟩; have S3 := Aside0.mk hs; have HB3 := Aside0.mk hb; clear hs hL hb hu S2 HB2) | (go_at_call 22; (with_reducible refine (tagmem_Mem_Load.calls 20 S3.out.M 256 2 (by decide) (by decide) 258 0 P3.out).mono ?_); rintro e W4 ⟨rfl, hb⟩; have S4 := Aside0.mk (S3.out.below hb); have HB4 := Aside0.mk (below_then HB3.out HB3.out.size hb); clear hb S3 HB3) | (go_at_call 22; (with_reducible refine (tagmem_Mem_Load.calls 20 S4.out.M 257 2 (by decide) (by decide) 0 31 P4.out).mono ?_); rintro e W5 ⟨rfl, hb⟩; have S5 := Aside0.mk (S4.out.below hb); have HB5 := Aside0.mk (below_then HB4.out HB4.out.size hb); clear hb S4 HB4) | (go_at_call 22; (with_reducible refine (tagmem_Mem_Load.calls 20 S5.out.M 0 1 (by decide) (by decide) 0 30 P5.out).mono ?_); rintro e W6 ⟨rfl, hb⟩; have S6 := Aside0.mk (S5.out.below hb); have HB6 := Aside0.mk (below_then HB5.out HB5.out.size hb); clear hb S5 HB5) | (go_at_call 28; (with_reducible refine (RT.out W6).mono ?_); rintro e W7 ⟨rfl, hb⟩; have S7 := Aside0.mk (S6.out.below hb); have HB7 := Aside0.mk (below_then HB6.out HB6.out.size hb); clear hb S6 HB6) | (go_at_call 19; (with_reducible refine (sStoreCap S7.out HB7.out HB7.out.size 288 0 9 0 255 (-1) true (by decide) (by decide) P6.out).mono ?_); rintro e W8 ⟨rfl, ⟨L8, cl8, hs, hL⟩, hb, hu⟩; have S8 := Aside0.mk hs; have HB8 := Aside0.mk hb; clear hs hL hb hu S7 HB7) | (go_at_call 15; (with_reducible refine (sTags S8.out k3.out).mono ?_); rintro e W9 ⟨v, rfl, hR, hb⟩; rw [P7.out] at hR; obtain ⟨A1, d1, rfl, hle, hK⟩ := Keeps.new S8.out hR hb; have RX9 := Aside0.mk hK; have HLA1 := Aside0.mk hle; have S9 := Aside0.mk (S8.out.below hb); have HB9 := Aside0.mk (below_then HB8.out HB8.out.size hb); clear hR hb hle hK S8 HB8) | (go_at_call 21; (with_reducible refine (sStore S9.out HB9.out HB9.out.size 300 1 0 (by decide) (by decide) P8.out).mono ?_); rintro e W10 ⟨rfl, ⟨L10, cl10, hs, hL⟩, hb, hu⟩; have S10 := Aside0.mk hs; have HB10 := Aside0.mk hb; have RX10 := Aside0.mk (RX9.out.step hL hu); clear hs hL hb hu S9 HB9 RX9) | (go_at_call 15; (with_reducible refine (sTags S10.out k4.out).mono ?_); rintro e W11 ⟨v, rfl, hR, hb⟩; rw [P9.out] at hR; obtain ⟨A2, d2, rfl, hle, hK⟩ := Keeps.new S10.out hR hb; have RY11 := Aside0.mk hK; have HLA2 := Aside0.mk hle; have S11 := Aside0.mk (S10.out.below hb); have HB11 := Aside0.mk (below_then HB10.out HB10.out.size hb); have RX11 := Aside0.mk (RX10.out.below hb); clear hR hb hle hK S10 HB10 RX10) | (go_at_call 24; (with_reducible refine (sMap S11.out HB11.out HB11.out.size 1 1 (by decide) (by decide) PA.out).mono ?_); rintro e W12 ⟨rfl, ⟨L12, cl12, hs, hL⟩, hb, hu⟩; have S12 := Aside0.mk hs; have HB12 := Aside0.mk hb; have RX12 := Aside0.mk (RX11.out.step hL hu); clear hs hL hb hu S11 HB11 RX11) | (go_at_call 24; (with_reducible refine (sMap S12.out HB12.out HB12.out.size 2 2 (by decide) (by decide) PB.out).mono ?_); rintro e W13 ⟨rfl, ⟨L13, cl13, hs, hL⟩, hb, hu⟩; have S13 := Aside0.mk hs; have HB13 := Aside0.mk hb; have RX13 := Aside0.mk (RX12.out.step hL hu); clear hs hL hb hu S12 HB12 RX12) | (go_at_call 16; refine (sameU_calls A1 d1 [288] (some ⟨W13.heap.size, 0, none⟩) 1 [288] (Kd.C_below RX13.out.now (below_alloc (Below.refl _ _) _)) HLA1.out (lit_F39 W13 [288] (by decide)) (by decide) (by decide)).mono ?_; rintro e WE ⟨rfl, hb⟩; have HBE := Aside0.mk (below_then (HB13.out.alloc HB13.out.size _) (Nat.le_trans HB13.out.size (by simp [size_alloc])) hb); clear hb) | fail)
  go_ret
  exact ⟨rfl, HBE.out⟩
end Go.Proofs.Ytkppgepljjgjhaa.P
