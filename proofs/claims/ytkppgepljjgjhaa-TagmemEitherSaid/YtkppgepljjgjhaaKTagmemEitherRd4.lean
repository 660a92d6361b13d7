/- The law TagmemEither, walked. No condition. -/
import Derived.Test.YtkppgepljjgjhaaKTagmemEitherRe1
namespace Go.Proofs.Ytkppgepljjgjhaa.P
open Go.RowKit Go.Proofs.YtkppgepljjgjhaaW.PrintWords Go.Proofs.YtkppgepljjgjhaaW.PrintLast Go.Proofs.YtkppgepljjgjhaaW.PrintMore
set_option linter.unusedVariables false
set_option linter.unusedSimpArgs false

/-- What the law asks of a memory, in plain words. -/
def EitherHyp (M : Mm) (x y v u : Int) : Prop := ∃ A1 A2 B1 B2 e f, tagmem_Mem_Store.f 20 M x 8 v = some (A1, e) ∧ tagmem_Mem_Store.f 20 A1 y 8 u = some (A2, f) ∧ tagmem_Mem_Store.f 20 M y 8 u = some (B1, f) ∧ tagmem_Mem_Store.f 20 B1 x 8 v = some (B2, e) ∧ MOk A2 ∧ MOk B2 ∧
  tagmem_Mem_Bytes.f A2 x 8 = tagmem_Mem_Bytes.f B2 x 8 ∧ tagmem_Mem_Bytes.f A2 y 8 = tagmem_Mem_Bytes.f B2 y 8 ∧ tagmem_Mem_Tags.f A2 = tagmem_Mem_Tags.f B2
/-- Two memories in one world, apart. -/
structure Duo (B : Nat) (w : World) (g gm : Nat) (L : List Lp) (c : Nat) (m : Mm) (g' gm' : Nat) (L' : List Lp) (c' : Nat) (m' : Mm) : Prop where
  a : Sol B w g gm L c m
  b : Sol B w g' gm' L' c' m'
  d1 : g ≠ gm' ∧ ¬ inL L' g ∧ gm ≠ gm' ∧ ¬ inL L' gm
  d2 : g' ≠ gm ∧ ¬ inL L g' ∧ ¬ inL L gm'
  d3 : ∀ k, inL L k → ¬ inL L' k
section
variable {B : Nat} {w W w0 : World} {g gm g' gm' : Nat} {L L' L2 : List Lp} {c c' c2 : Nat} {m m' m2 : Mm}
theorem Duo.below (h : Duo B w g gm L c m g' gm' L' c' m') (hb : Below w.heap.size w W) : Duo B W g gm L c m g' gm' L' c' m' := ⟨h.a.below hb, h.b.below hb, h.d1, h.d2, h.d3⟩
theorem Sol.other (h : Sol B w g gm L c m) (hu : Upd w W (fun k => k = gm' ∨ inL L' k)) (h1 : g ≠ gm' ∧ ¬ inL L' g ∧ gm ≠ gm' ∧ ¬ inL L' gm) (h2 : ∀ k, inL L k → k ≠ gm' ∧ ¬ inL L' k) : Sol B W g gm L c m := by
  have hl := h.M.lt_g
  have hn : ∀ k, k ≠ gm' → ¬ inL L' k → ¬ (k = gm' ∨ inL L' k) := fun k a b e => e.elim a b
  exact ⟨h.M.step (hu.block g hl.1 (hn g h1.1 h1.2.1)) (hu.block gm hl.2.1 (hn gm h1.2.2.1 h1.2.2.2)) (fun x hx => hu.block x.blk (hl.2.2 x hx) (hn _ (h2 _ (List.mem_map_of_mem (f := Lp.blk) hx)).1 (h2 _ (List.mem_map_of_mem (f := Lp.blk) hx)).2)), h.b1, h.b3⟩
theorem Duo.left (h : Duo B w g gm L c m g' gm' L' c' m') (hs : Sol B W g gm L2 c2 m2) (hL : ∀ k, inL L2 k → inL L k ∨ w.heap.size ≤ k) (hu : Upd w W (fun k => k = gm ∨ inL L k)) : Duo B W g gm L2 c2 m2 g' gm' L' c' m' := by
  have hl := h.b.M.lt_g
  have hk : ∀ k, k < w.heap.size → ¬ inL L k → ¬ inL L2 k := fun k a b e => by
    rcases hL k e with e | e
    · exact b e
    · omega
  refine ⟨hs, h.b.other hu ⟨h.d2.1, h.d2.2.1, fun e => h.d1.2.2.1 e.symm, h.d2.2.2⟩ (fun k e => ⟨fun e2 => h.d1.2.2.2 (e2 ▸ e), fun e2 => h.d3 k e2 e⟩), h.d1, ⟨h.d2.1, hk _ hl.1 h.d2.2.1, hk _ hl.2.1 h.d2.2.2⟩, fun k e e2 => ?_⟩
  rcases hL k e with e3 | e3
  · exact h.d3 k e3 e2
  · have := inL_lt h.b.M e2; omega
theorem Duo.right (h : Duo B w g gm L c m g' gm' L' c' m') (hs : Sol B W g' gm' L2 c2 m2) (hL : ∀ k, inL L2 k → inL L' k ∨ w.heap.size ≤ k) (hu : Upd w W (fun k => k = gm' ∨ inL L' k)) : Duo B W g gm L c m g' gm' L2 c2 m2 := by
  have hl := h.a.M.lt_g
  have hk : ∀ k, k < w.heap.size → ¬ inL L' k → ¬ inL L2 k := fun k a b e => by
    rcases hL k e with e | e
    · exact b e
    · omega
  refine ⟨h.a.other hu h.d1 (fun k e => ⟨fun e2 => h.d2.2.2 (e2 ▸ e), h.d3 k e⟩), hs, ⟨h.d1.1, hk _ hl.1 h.d1.2.1, h.d1.2.2.1, hk _ hl.2.1 h.d1.2.2.2⟩, h.d2, fun k e e2 => ?_⟩
  rcases hL k e2 with e3 | e3
  · exact h.d3 k e e3
  · have := inL_lt h.a.M e; omega
theorem Duo.new {w3 w4 : World} (h : Sol B w3 g gm L c m) (h' : Sol w3.heap.size w4 g' gm' L' c' m') (hb : Below w3.heap.size w3 w4) (hB : B ≤ w3.heap.size) : Duo B w4 g gm L c m g' gm' L' c' m' := by
  have hl := h.M.lt_g
  have h1 := h'.b1
  refine ⟨h.below hb, ⟨h'.M, ⟨by omega, by omega⟩, fun k e => by have := h'.b3 k e; omega⟩, ⟨by omega, fun e => by have := h'.b3 _ e; omega, by omega, fun e => by have := h'.b3 _ e; omega⟩, ⟨by omega, fun e => by have := inL_lt h.M e; omega, fun e => by have := inL_lt h.M e; omega⟩, fun k e e2 => by have := inL_lt h.M e; have := h'.b3 _ e2; omega⟩
end
set_option maxHeartbeats 16000000 in
set_option maxRecDepth 100000 in
theorem curtilagelaw03_TagmemEither.calls (y0 : Int) (A1 : Option Addr) (c1 : Nat) (y1 : List S53) (x0 y_0 v u : Int) (w : World) (hr1 : Kd.C k53 w A1 y1.length y1) (hx : ∀ x ∈ y1, OpOk2 x) (a0 : 0 ≤ x0) (a1 : x0 ≤ 18446744073709551615) (b0 : 0 ≤ y_0) (b1 : y_0 ≤ 18446744073709551615) (hf : ∀ M, madeP y0 y1 = some M → x0 - x0 % 8 ≠ y_0 - y_0 % 8 → EitherHyp M (x0 - x0 % 8) (y_0 - y_0 % 8) v u) :
    Calls Try.prog 9 #[.int .i64 y0, .slice A1 y1.length c1, .int .u64 x0, .int .u64 y_0, .int .u64 v, .int .u64 u] w fun e w' => e = .returned (.bool true) ∧ Below w.heap.size w w' := by
  have AW := Aside0.mk awake.calls
  have MD := Aside0.mk (fun W (hb : Below w.heap.size w W) => made_calls W y0 A1 c1 y1 hx (Kd.C_below hr1 hb))
  clear hr1 hx
  cases hn : madeP y0 y1 with
  | none =>
    have HN := Aside0.mk hn
    clear hn hf
    go_enter Try.func9, Try.ntmps9
    go_wp2_with (first | (go_at_call 10; refine (AW.out w).mono ?_; rintro e W2 ⟨rfl, hb⟩; have HB2 := Aside0.mk hb; clear hb) | (go_at_call 17; (with_reducible refine (MD.out W2 HB2.out).mono ?_); rintro e W3 ⟨hv, hb⟩; rw [HN.out] at hv; have hv2 : e = .returned (.pointer none) := hv; subst hv2; have HB3 := Aside0.mk (below_step HB2.out hb); clear hb hv) | (go_at_call 17; (with_reducible refine (MD.out W3 HB3.out).mono ?_); rintro e W4 ⟨hv, hb⟩; rw [HN.out] at hv; have hv2 : e = .returned (.pointer none) := hv; subst hv2; have HB4 := Aside0.mk (below_step HB3.out hb); clear hb hv) | fail)
    go_ret
    exact ⟨rfl, HB4.out⟩
  | some M =>
    have HN := Aside0.mk hn
    have hf := hf M hn
    clear hn
    obtain ⟨x, hxq⟩ : ∃ x, x = x0 - x0 % 8 := ⟨_, rfl⟩
    obtain ⟨y, hyq⟩ : ∃ y, y = y_0 - y_0 % 8 := ⟨_, rfl⟩
    have x1 : 0 ≤ x := by omega
    have x2 : x ≤ 18446744073709551615 := by omega
    have y1' : 0 ≤ y := by omega
    have y2 : y ≤ 18446744073709551615 := by omega
    have V1 : IntKind.u64.wrap (x0 - x0 % 8) = x := by rw [hxq]; exact u64w (by omega) (by omega)
    have V2 : IntKind.u64.wrap (y_0 - y_0 % 8) = y := by rw [hyq]; exact u64w (by omega) (by omega)
    have V3 : x0 - x0 % 8 = x := hxq.symm
    have V4 : y_0 - y_0 % 8 = y := hyq.symm
    rw [← hxq, ← hyq] at hf
    clear hxq hyq
    by_cases hxy : x = y
    · have d1 : (x == y) = true := beq_iff_eq.2 hxy
      clear hf
      replace hxy := Aside0.mk hxy
      go_enter Try.func9, Try.ntmps9
      go_wp2_with (first | (go_at_call 10; refine (AW.out w).mono ?_; rintro e W2 ⟨rfl, hb⟩; have HB2 := Aside0.mk hb; clear hb) | (go_at_call 17; (with_reducible refine (MD.out W2 HB2.out).mono ?_); rintro e W3 ⟨hv, hb⟩; rw [HN.out] at hv; obtain ⟨g, gm, L3, cl3, he, hM, q1, q2, q3⟩ := hv; subst he; have S3 := Aside0.mk (solo hM q1 q2 q3); have HB3 := Aside0.mk hb; clear hM q1 q2 q3 hb) | (go_at_call 17; (with_reducible refine (MD.out W3 (below_then HB2.out HB2.out.size HB3.out)).mono ?_); rintro e W4 ⟨hv, hb⟩; rw [HN.out] at hv; obtain ⟨g', gm', L4, cl4, he, hM, q1, q2, q3⟩ := hv; subst he; have D4 := Aside0.mk (Duo.new S3.out (solo hM q1 q2 q3) hb HB3.out.size); have HB4 := Aside0.mk (below_then HB3.out HB3.out.size hb); clear hM q1 q2 q3 hb S3) | fail)
      go_ret
      exact ⟨rfl, below_then HB2.out HB2.out.size HB4.out⟩
    · have d1 : (x == y) = false := beq_eq_false_iff_ne.2 hxy
      obtain ⟨A1', A2', B1', B2', e, f, h1, h2, h3, h4, h5, h6, h7, h8, h9⟩ := hf hxy
      have P1 := Aside0.mk h1
      have P2 := Aside0.mk h2
      have P3 := Aside0.mk h3
      have P4 := Aside0.mk h4
      have KA := Aside0.mk h5
      have KB := Aside0.mk h6
      obtain ⟨l1, hl1⟩ : ∃ l, l = tagmem_Mem_Bytes.f B2' x 8 := ⟨_, rfl⟩
      obtain ⟨l2, hl2⟩ : ∃ l, l = tagmem_Mem_Bytes.f B2' y 8 := ⟨_, rfl⟩
      obtain ⟨l3, hl3⟩ : ∃ l, l = tagmem_Mem_Tags.f B2' := ⟨_, rfl⟩
      rw [← hl1] at h7
      rw [← hl2] at h8
      rw [← hl3] at h9
      have s1 := Aside0.mk (show l1.length ≤ 4611686018427387904 by rw [hl1]; exact bytes_small _ _ _)
      have s2 := Aside0.mk (show l2.length ≤ 4611686018427387904 by rw [hl2]; exact bytes_small _ _ _)
      have s3 := Aside0.mk (show l3.length ≤ 4611686018427387904 by rw [hl3]; have := tags_len h6; omega)
      have E1 := Aside0.mk h7
      have E2 := Aside0.mk h8
      have E3 := Aside0.mk h9
      have E4 := Aside0.mk hl1.symm
      have E5 := Aside0.mk hl2.symm
      have E6 := Aside0.mk hl3.symm
      clear h1 h2 h3 h4 h5 h6 h7 h8 h9 hl1 hl2 hl3 hxy
      go_enter Try.func9, Try.ntmps9
      go_wp2_with (first | (go_at_call 10; refine (AW.out w).mono ?_; rintro e W2 ⟨rfl, hb⟩; have HB2 := Aside0.mk hb; clear hb) | (go_at_call 17; (with_reducible refine (MD.out W2 HB2.out).mono ?_); rintro e W3 ⟨hv, hb⟩; rw [HN.out] at hv; obtain ⟨g, gm, L3, cl3, he, hM, q1, q2, q3⟩ := hv; subst he; have S3 := Aside0.mk (solo hM q1 q2 q3); have HB3 := Aside0.mk hb; clear hM q1 q2 q3 hb) | (go_at_call 17; (with_reducible refine (MD.out W3 (below_then HB2.out HB2.out.size HB3.out)).mono ?_); rintro e W4 ⟨hv, hb⟩; rw [HN.out] at hv; obtain ⟨g', gm', L4, cl4, he, hM, q1, q2, q3⟩ := hv; subst he; have D4 := Aside0.mk (Duo.new S3.out (solo hM q1 q2 q3) hb HB3.out.size); have HB4 := Aside0.mk (below_then HB3.out HB3.out.size hb); clear hM q1 q2 q3 hb S3) | (go_at_call 21; (with_reducible refine (sStore D4.out.a HB4.out HB4.out.size x 8 v x1 x2 P1.out).mono ?_); rintro e W5 ⟨rfl, ⟨Lx, cx, hs, hL⟩, hb, hu⟩; have D5 := Aside0.mk (D4.out.left hs hL hu); have HB5 := Aside0.mk hb; clear hs hL hb hu D4 HB4) | (go_at_call 21; (with_reducible refine (sStore D5.out.a HB5.out HB5.out.size y 8 u y1' y2 P2.out).mono ?_); rintro e W6 ⟨rfl, ⟨Lx, cx, hs, hL⟩, hb, hu⟩; have D6 := Aside0.mk (D5.out.left hs hL hu); have HB6 := Aside0.mk hb; clear hs hL hb hu D5 HB5) | (go_at_call 21; (with_reducible refine (sStore D6.out.b HB6.out HB6.out.size y 8 u y1' y2 P3.out).mono ?_); rintro e W7 ⟨rfl, ⟨Lx, cx, hs, hL⟩, hb, hu⟩; have D7 := Aside0.mk (D6.out.right hs hL hu); have HB7 := Aside0.mk hb; clear hs hL hb hu D6 HB6) | (go_at_call 21; (with_reducible refine (sStore D7.out.b HB7.out HB7.out.size x 8 v x1 x2 P4.out).mono ?_); rintro e W8 ⟨rfl, ⟨Lx, cx, hs, hL⟩, hb, hu⟩; have D8 := Aside0.mk (D7.out.right hs hL hu); have HB8 := Aside0.mk hb; clear hs hL hb hu D7 HB7) | (go_at_call 23; (with_reducible refine (sBytes D8.out.a x 8 x1 x2).mono ?_); rintro e W9 ⟨v, rfl, hR, hb⟩; rw [E1.out] at hR; obtain ⟨AX, kx, rfl, hle, hC⟩ := Kd.R_reads hR; have RX9 := Aside0.mk hC; have HLAX := Aside0.mk hle; have D9 := Aside0.mk (D8.out.below hb); have HB9 := Aside0.mk (below_then HB8.out HB8.out.size hb); clear hR hb hle hC D8 HB8) | (go_at_call 23; (with_reducible refine (sBytes D9.out.b x 8 x1 x2).mono ?_); rintro e W10 ⟨v, rfl, hR, hb⟩; rw [E4.out] at hR; obtain ⟨AY, ky, rfl, hle, hC⟩ := Kd.R_reads hR; have RY10 := Aside0.mk hC; have HLAY := Aside0.mk hle; have D10 := Aside0.mk (D9.out.below hb); have HB10 := Aside0.mk (below_then HB9.out HB9.out.size hb); have RX10 := Aside0.mk (Kd.C_below RX9.out hb); clear hR hb hle hC D9 HB9 RX9) | (go_at_call 23; (with_reducible refine (sBytes D10.out.a y 8 y1' y2).mono ?_); rintro e W11 ⟨v, rfl, hR, hb⟩; rw [E2.out] at hR; obtain ⟨AP, kp, rfl, hle, hC⟩ := Kd.R_reads hR; have RP11 := Aside0.mk hC; have HLAP := Aside0.mk hle; have D11 := Aside0.mk (D10.out.below hb); have HB11 := Aside0.mk (below_then HB10.out HB10.out.size hb); have RX11 := Aside0.mk (Kd.C_below RX10.out hb); have RY11 := Aside0.mk (Kd.C_below RY10.out hb); clear hR hb hle hC D10 HB10 RX10 RY10) | (go_at_call 23; (with_reducible refine (sBytes D11.out.b y 8 y1' y2).mono ?_); rintro e W12 ⟨v, rfl, hR, hb⟩; rw [E5.out] at hR; obtain ⟨AQ, kq, rfl, hle, hC⟩ := Kd.R_reads hR; have RQ12 := Aside0.mk hC; have HLAQ := Aside0.mk hle; have D12 := Aside0.mk (D11.out.below hb); have HB12 := Aside0.mk (below_then HB11.out HB11.out.size hb); have RX12 := Aside0.mk (Kd.C_below RX11.out hb); have RY12 := Aside0.mk (Kd.C_below RY11.out hb); have RP12 := Aside0.mk (Kd.C_below RP11.out hb); clear hR hb hle hC D11 HB11 RX11 RY11 RP11) | (go_at_call 15; (with_reducible refine (sTags D12.out.a KA.out).mono ?_); rintro e W13 ⟨v, rfl, hR, hb⟩; rw [E3.out] at hR; obtain ⟨AS, ks, rfl, hle, hC⟩ := Kd.R_reads hR; have RS13 := Aside0.mk hC; have HLAS := Aside0.mk hle; have D13 := Aside0.mk (D12.out.below hb); have HB13 := Aside0.mk (below_then HB12.out HB12.out.size hb); have RX13 := Aside0.mk (Kd.C_below RX12.out hb); have RY13 := Aside0.mk (Kd.C_below RY12.out hb); have RP13 := Aside0.mk (Kd.C_below RP12.out hb); have RQ13 := Aside0.mk (Kd.C_below RQ12.out hb); clear hR hb hle hC D12 HB12 RX12 RY12 RP12 RQ12) | (go_at_call 15; (with_reducible refine (sTags D13.out.b KB.out).mono ?_); rintro e W14 ⟨v, rfl, hR, hb⟩; rw [E6.out] at hR; obtain ⟨AT, kt, rfl, hle, hC⟩ := Kd.R_reads hR; have RT14 := Aside0.mk hC; have HLAT := Aside0.mk hle; have D14 := Aside0.mk (D13.out.below hb); have HB14 := Aside0.mk (below_then HB13.out HB13.out.size hb); have RX14 := Aside0.mk (Kd.C_below RX13.out hb); have RY14 := Aside0.mk (Kd.C_below RY13.out hb); have RP14 := Aside0.mk (Kd.C_below RP13.out hb); have RQ14 := Aside0.mk (Kd.C_below RQ13.out hb); have RS14 := Aside0.mk (Kd.C_below RS13.out hb); clear hR hb hle hC D13 HB13 RX13 RY13 RP13 RQ13 RS13) | (go_at_call 27; refine (same_calls AX kx l1 AY ky l1 RX14.out HLAX.out RY14.out HLAY.out s1.out).mono ?_; rintro e W15 ⟨rfl, hd⟩; have hb : Below W14.heap.size W14 W15 := hd.below; have HB15 := Aside0.mk (below_then HB14.out HB14.out.size hb); have RX15 := Aside0.mk (Kd.C_below RX14.out hb); have RY15 := Aside0.mk (Kd.C_below RY14.out hb); have RP15 := Aside0.mk (Kd.C_below RP14.out hb); have RQ15 := Aside0.mk (Kd.C_below RQ14.out hb); have RS15 := Aside0.mk (Kd.C_below RS14.out hb); have RT15 := Aside0.mk (Kd.C_below RT14.out hb); clear hd hb HB14 RX14 RY14 RP14 RQ14 RS14 RT14) | (go_at_call 27; refine (same_calls AP kp l2 AQ kq l2 RP15.out HLAP.out RQ15.out HLAQ.out s2.out).mono ?_; rintro e W16 ⟨rfl, hd⟩; have hb : Below W15.heap.size W15 W16 := hd.below; have HB16 := Aside0.mk (below_then HB15.out HB15.out.size hb); have RX16 := Aside0.mk (Kd.C_below RX15.out hb); have RY16 := Aside0.mk (Kd.C_below RY15.out hb); have RP16 := Aside0.mk (Kd.C_below RP15.out hb); have RQ16 := Aside0.mk (Kd.C_below RQ15.out hb); have RS16 := Aside0.mk (Kd.C_below RS15.out hb); have RT16 := Aside0.mk (Kd.C_below RT15.out hb); clear hd hb HB15 RX15 RY15 RP15 RQ15 RS15 RT15) | (go_at_call 16; refine (sameU_calls AS ks l3 AT kt l3 RS16.out HLAS.out RT16.out HLAT.out s3.out).mono ?_; rintro e WE ⟨rfl, hb⟩; have HBE := Aside0.mk (below_then HB16.out HB16.out.size hb); clear hb) | fail)
      go_ret
      exact ⟨rfl, below_then HB2.out HB2.out.size HBE.out⟩
end Go.Proofs.Ytkppgepljjgjhaa.P
