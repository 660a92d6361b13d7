/- The law TagmemSpared, walked. No condition. -/
import Derived.Test.YtkppgepljjgjhaaKTagmemSparedRe1
namespace Go.Proofs.Ytkppgepljjgjhaa.P
open Go.RowKit Go.Proofs.YtkppgepljjgjhaaW.PrintWords Go.Proofs.YtkppgepljjgjhaaW.PrintLast Go.Proofs.YtkppgepljjgjhaaW.PrintMore
set_option linter.unusedVariables false
set_option linter.unusedSimpArgs false

def BKeepT (t : TypeId) (w : World) (gm : Nat) (L : List Lp) (b : Nat) (cs : Array Value) : Prop := w.heap[b]? = some (.cells cs t (0, 0)) ∧ b ≠ gm ∧ ¬ inL L b
theorem BKeepT.below {t : TypeId} {w W : World} {gm : Nat} {L : List Lp} {b : Nat} {cs : Array Value} (h : BKeepT t w gm L b cs) (hb : Below w.heap.size w W) : BKeepT t W gm L b cs := ⟨blk_below h.1 hb, h.2⟩
theorem BKeepT.old {t : TypeId} {w w0 : World} {g gm : Nat} {L : List Lp} {c : Nat} {m : Mm} {b : Nat} {cs : Array Value} (S : Sol w0.heap.size w g gm L c m) (h : w0.heap[b]? = some (.cells cs t (0, 0))) (hb : Below w0.heap.size w0 w) : BKeepT t w gm L b cs := by
  have hlt := blk_lt h
  exact ⟨blk_below h hb, by have := S.b1.2; omega, fun e => by have := S.b3 _ e; omega⟩
/-- The pages' bytes, one behind the other. -/
def catB (M : Mm) (P : List Int) (j : Nat) : List Int := (P.take j).flatMap fun n => tagmem_Mem_Bytes.f M (n * 256) 256
theorem catB_next (M : Mm) {P : List Int} {j : Nat} (h : j < P.length) : catB M P (j + 1) = catB M P j ++ tagmem_Mem_Bytes.f M (rd P (j : Int) * 256) 256 := by
  unfold catB
  rw [take_next h, List.flatMap_append]
  simp
theorem bytes_256 (M : Mm) (a : Int) : (tagmem_Mem_Bytes.f M a 256).length ≤ 256 := by
  unfold tagmem_Mem_Bytes.f
  split
  · simp
  · rw [bytes_len]; decide
theorem catB_len (M : Mm) (P : List Int) (j : Nat) : (catB M P j).length ≤ 256 * P.length := by
  unfold catB
  have : ∀ l : List Int, (l.flatMap fun n => tagmem_Mem_Bytes.f M (n * 256) 256).length ≤ 256 * l.length := fun l => by
    induction l with
    | nil => simp
    | cons x l ih =>
      rw [List.flatMap_cons, List.length_append, List.length_cons]
      have := bytes_256 M (x * 256)
      omega
  have h1 := this (P.take j)
  rw [List.length_take] at h1
  omega
/-- What the law asks of a memory, in plain words: with an error it is the same. -/
structure SparedHyp (M : Mm) (at_ n u z0 z1 z2 z3 z4 : Int) (z5 : Bool) (bs : List Int) : Prop where
  ok : MOk M
  o1 : ∃ M1 q, tagmem_Mem_Map.f M at_ n = (M1, q) ∧ (q ≠ 0 → M1 = M)
  o2 : ∃ M1 q, tagmem_Mem_Unmap.f M at_ n = (M1, q) ∧ (q ≠ 0 → M1 = M)
  o3 : ∃ M1 q, tagmem_Mem_Store.f 20 M at_ n u = some (M1, q) ∧ (q ≠ 0 → M1 = M)
  o4 : ∃ M1 q, tagmem_Mem_StoreCap.f 20 M at_ z0 z1 z2 z3 z4 z5 = some (M1, q) ∧ (q ≠ 0 → M1 = M)
  o5 : ∃ M1 q, tagmem_Mem_Put.f M at_ bs = (M1, q) ∧ (q ≠ 0 → M1 = M)
set_option maxHeartbeats 64000000 in
set_option maxRecDepth 100000 in
theorem curtilagelaw03_TagmemSpared.calls (y0 : Int) (A1 : Option Addr) (c1 : Nat) (y1 : List S53) (d at_ n u z0 z1 z2 z3 z4 : Int) (z5 : Bool) (AB0 : Option Addr) (cb0 : Nat) (bs : List Int) (w : World) (hr1 : Kd.C k53 w A1 y1.length y1) (hr5 : Kd.C (Kd.int .u8) w AB0 bs.length bs) (hx : ∀ x ∈ y1, OpOk2 x) (a0 : 0 ≤ at_) (a1 : at_ ≤ 18446744073709551615) (hf : ∀ M, madeP y0 y1 = some M → SparedHyp M at_ n u z0 z1 z2 z3 z4 z5 bs) :
    Calls Try.prog 5 #[.int .i64 y0, .slice A1 y1.length c1, .agg #[.int .i64 d, .int .u64 at_, .int .i64 n, .int .u64 u, .int .u64 z0, .int .u64 z1, .int .u64 z2, .int .i64 z3, .int .i64 z4, .bool z5, .slice AB0 bs.length cb0]] w fun e w' => e = .returned (.bool true) ∧ Below w.heap.size w w' := by
  have hu41 := Try.underlying41
  have hu53 := Try.underlying53
  have AW := Aside0.mk awake.calls
  have MD := Aside0.mk (fun W (hb : Below w.heap.size w W) => made_calls W y0 A1 c1 y1 hx (Kd.C_below hr1 hb))
  have RG := Aside0.mk (fun W => curtilageref02_Right.calls z0 z1 z2 z3 z4 z5 _ W (capR_is ⟨z0, z1, z2, z3, z4, z5⟩))
  have HR5 := Aside0.mk (fun W (hb : Below w.heap.size w W) => Kd.C_below hr5 hb)
  have hl0 : bs.length ≤ 9223372036854775807 := hr5.2.1
  clear hr1 hr5 hx
  cases hn : madeP y0 y1 with
  | none =>
    have HN := Aside0.mk hn
    clear hn hf
    generalize capR ⟨z0, z1, z2, z3, z4, z5⟩ = b at RG
    go_enter Try.func5, Try.ntmps5
    go_wp2_with (first | ((with_reducible refine gate_dst (N := 5) rfl ?_); refine box_event ?hg (N := 5) ?hd (cs := #[.int .i64 d, .int .u64 at_, .int .i64 n, .int .u64 u, .int .u64 z0, .int .u64 z1, .int .u64 z2, .int .i64 z3, .int .i64 z4, .bool z5, .slice AB0 bs.length cb0]) (t := 53) ?hr ?_; (case hd => rfl); (case hg => rfl); (case hr => first | (go_simp; done) | (go_simp; rfl)); intro g5 hgb W1 hbox hb; have HB1 := Aside0.mk hb; have B1 := Aside0.mk hbox; clear hb hbox hgb) | (go_at_call 10; refine (AW.out W1).mono ?_; rintro e W2 ⟨rfl, hb⟩; have HB2 := Aside0.mk (below_step HB1.out hb); have B2 := Aside0.mk (blk_below B1.out hb); clear hb HB1 B1) | (go_at_call 17; (with_reducible refine (MD.out W2 HB2.out).mono ?_); rintro e W3 ⟨hv, hb⟩; rw [HN.out] at hv; have hv2 : e = .returned (.pointer none) := hv; subst hv2; have HB3 := Aside0.mk (below_step HB2.out hb); have B3 := Aside0.mk (blk_below B2.out hb); clear hb hv HB2 B2; have hc0 : W3.cell? ⟨g5, 0, none⟩ = some (.int .i64 d) := (blk_cell B3.out 0).trans rfl; have hc1 : W3.cell? ⟨g5, 1, none⟩ = some (.int .u64 at_) := (blk_cell B3.out 1).trans rfl; have hc2 : W3.cell? ⟨g5, 2, none⟩ = some (.int .i64 n) := (blk_cell B3.out 2).trans rfl; have hc3 : W3.cell? ⟨g5, 3, none⟩ = some (.int .u64 u) := (blk_cell B3.out 3).trans rfl; have hc4 : W3.cell? ⟨g5, 4, none⟩ = some (.int .u64 z0) := (blk_cell B3.out 4).trans rfl; have hc5 : W3.cell? ⟨g5, 5, none⟩ = some (.int .u64 z1) := (blk_cell B3.out 5).trans rfl; have hc6 : W3.cell? ⟨g5, 6, none⟩ = some (.int .u64 z2) := (blk_cell B3.out 6).trans rfl; have hc7 : W3.cell? ⟨g5, 7, none⟩ = some (.int .i64 z3) := (blk_cell B3.out 7).trans rfl; have hc8 : W3.cell? ⟨g5, 8, none⟩ = some (.int .i64 z4) := (blk_cell B3.out 8).trans rfl; have hc9 : W3.cell? ⟨g5, 9, none⟩ = some (.bool z5) := (blk_cell B3.out 9).trans rfl; have hc10 : W3.cell? ⟨g5, 10, none⟩ = some (.slice AB0 bs.length cb0) := (blk_cell B3.out 10).trans rfl) | (go_at_call 18; (with_reducible refine (RG.out W3).mono ?_); rintro e W4 ⟨rfl, hb⟩; have HB4 := Aside0.mk (below_step HB3.out hb); clear hb) | fail)
    go_ret
    exact ⟨rfl, HB4.out⟩
  | some M =>
    have HN := Aside0.mk hn
    obtain ⟨hok, hf1, hf2, hf3, hf4, hf5⟩ := hf M hn
    clear hn hf
    cases hb : capR ⟨z0, z1, z2, z3, z4, z5⟩ with
    | false =>
      rw [hb] at RG
      clear hf1 hf2 hf3 hf4 hf5 hb hok
      go_enter Try.func5, Try.ntmps5
      go_wp2_with (first | ((with_reducible refine gate_dst (N := 5) rfl ?_); refine box_event ?hg (N := 5) ?hd (cs := #[.int .i64 d, .int .u64 at_, .int .i64 n, .int .u64 u, .int .u64 z0, .int .u64 z1, .int .u64 z2, .int .i64 z3, .int .i64 z4, .bool z5, .slice AB0 bs.length cb0]) (t := 53) ?hr ?_; (case hd => rfl); (case hg => rfl); (case hr => first | (go_simp; done) | (go_simp; rfl)); intro g5 hgb W1 hbox hb; have HB1 := Aside0.mk hb; have B1 := Aside0.mk hbox; clear hb hbox hgb) | (go_at_call 10; refine (AW.out W1).mono ?_; rintro e W2 ⟨rfl, hb⟩; have HB2 := Aside0.mk (below_step HB1.out hb); have B2 := Aside0.mk (blk_below B1.out hb); clear hb HB1 B1) | (go_at_call 17; (with_reducible refine (MD.out W2 HB2.out).mono ?_); rintro e W3 ⟨hv, hb⟩; rw [HN.out] at hv; obtain ⟨g, gm, L3, cl3, he, hM, q1, q2, q3⟩ := hv; subst he; have S3 := Aside0.mk (solo hM q1 q2 q3); have HB3 := Aside0.mk hb; have KB3 := Aside0.mk (BKeepT.old (solo hM q1 q2 q3) B2.out hb); clear hM q1 q2 q3 hb B2; have hc0 : W3.cell? ⟨g5, 0, none⟩ = some (.int .i64 d) := (blk_cell KB3.out.1 0).trans rfl; have hc1 : W3.cell? ⟨g5, 1, none⟩ = some (.int .u64 at_) := (blk_cell KB3.out.1 1).trans rfl; have hc2 : W3.cell? ⟨g5, 2, none⟩ = some (.int .i64 n) := (blk_cell KB3.out.1 2).trans rfl; have hc3 : W3.cell? ⟨g5, 3, none⟩ = some (.int .u64 u) := (blk_cell KB3.out.1 3).trans rfl; have hc4 : W3.cell? ⟨g5, 4, none⟩ = some (.int .u64 z0) := (blk_cell KB3.out.1 4).trans rfl; have hc5 : W3.cell? ⟨g5, 5, none⟩ = some (.int .u64 z1) := (blk_cell KB3.out.1 5).trans rfl; have hc6 : W3.cell? ⟨g5, 6, none⟩ = some (.int .u64 z2) := (blk_cell KB3.out.1 6).trans rfl; have hc7 : W3.cell? ⟨g5, 7, none⟩ = some (.int .i64 z3) := (blk_cell KB3.out.1 7).trans rfl; have hc8 : W3.cell? ⟨g5, 8, none⟩ = some (.int .i64 z4) := (blk_cell KB3.out.1 8).trans rfl; have hc9 : W3.cell? ⟨g5, 9, none⟩ = some (.bool z5) := (blk_cell KB3.out.1 9).trans rfl; have hc10 : W3.cell? ⟨g5, 10, none⟩ = some (.slice AB0 bs.length cb0) := (blk_cell KB3.out.1 10).trans rfl) | (go_at_call 18; (with_reducible refine (RG.out W3).mono ?_); rintro e W4 ⟨rfl, hb⟩; have S4 := Aside0.mk (S3.out.below hb); have HB4 := Aside0.mk (below_then HB3.out HB3.out.size hb); have KB4 := Aside0.mk (KB3.out.below hb); clear hb S3 HB3 KB3; clear hc0 hc1 hc2 hc3 hc4 hc5 hc6 hc7 hc8 hc9 hc10; have hc0 : W4.cell? ⟨g5, 0, none⟩ = some (.int .i64 d) := (blk_cell KB4.out.1 0).trans rfl; have hc1 : W4.cell? ⟨g5, 1, none⟩ = some (.int .u64 at_) := (blk_cell KB4.out.1 1).trans rfl; have hc2 : W4.cell? ⟨g5, 2, none⟩ = some (.int .i64 n) := (blk_cell KB4.out.1 2).trans rfl; have hc3 : W4.cell? ⟨g5, 3, none⟩ = some (.int .u64 u) := (blk_cell KB4.out.1 3).trans rfl; have hc4 : W4.cell? ⟨g5, 4, none⟩ = some (.int .u64 z0) := (blk_cell KB4.out.1 4).trans rfl; have hc5 : W4.cell? ⟨g5, 5, none⟩ = some (.int .u64 z1) := (blk_cell KB4.out.1 5).trans rfl; have hc6 : W4.cell? ⟨g5, 6, none⟩ = some (.int .u64 z2) := (blk_cell KB4.out.1 6).trans rfl; have hc7 : W4.cell? ⟨g5, 7, none⟩ = some (.int .i64 z3) := (blk_cell KB4.out.1 7).trans rfl; have hc8 : W4.cell? ⟨g5, 8, none⟩ = some (.int .i64 z4) := (blk_cell KB4.out.1 8).trans rfl; have hc9 : W4.cell? ⟨g5, 9, none⟩ = some (.bool z5) := (blk_cell KB4.out.1 9).trans rfl; have hc10 : W4.cell? ⟨g5, 10, none⟩ = some (.slice AB0 bs.length cb0) := (blk_cell KB4.out.1 10).trans rfl) | fail)
      go_ret
      exact ⟨rfl, below_then HB2.out HB2.out.size HB4.out⟩
    | true =>
    rw [hb] at RG
    clear hb
    by_cases kl : 600 < bs.length
    · have dl : decide (600 < (bs.length : Int)) = true := decide_eq_true (by omega)
      clear hf1 hf2 hf3 hf4 hf5 hok
      go_enter Try.func5, Try.ntmps5
      go_wp2_with (first | ((with_reducible refine gate_dst (N := 5) rfl ?_); refine box_event ?hg (N := 5) ?hd (cs := #[.int .i64 d, .int .u64 at_, .int .i64 n, .int .u64 u, .int .u64 z0, .int .u64 z1, .int .u64 z2, .int .i64 z3, .int .i64 z4, .bool z5, .slice AB0 bs.length cb0]) (t := 53) ?hr ?_; (case hd => rfl); (case hg => rfl); (case hr => first | (go_simp; done) | (go_simp; rfl)); intro g5 hgb W1 hbox hb; have HB1 := Aside0.mk hb; have B1 := Aside0.mk hbox; clear hb hbox hgb) | (go_at_call 10; refine (AW.out W1).mono ?_; rintro e W2 ⟨rfl, hb⟩; have HB2 := Aside0.mk (below_step HB1.out hb); have B2 := Aside0.mk (blk_below B1.out hb); clear hb HB1 B1) | (go_at_call 17; (with_reducible refine (MD.out W2 HB2.out).mono ?_); rintro e W3 ⟨hv, hb⟩; rw [HN.out] at hv; obtain ⟨g, gm, L3, cl3, he, hM, q1, q2, q3⟩ := hv; subst he; have S3 := Aside0.mk (solo hM q1 q2 q3); have HB3 := Aside0.mk hb; have KB3 := Aside0.mk (BKeepT.old (solo hM q1 q2 q3) B2.out hb); clear hM q1 q2 q3 hb B2; have hc0 : W3.cell? ⟨g5, 0, none⟩ = some (.int .i64 d) := (blk_cell KB3.out.1 0).trans rfl; have hc1 : W3.cell? ⟨g5, 1, none⟩ = some (.int .u64 at_) := (blk_cell KB3.out.1 1).trans rfl; have hc2 : W3.cell? ⟨g5, 2, none⟩ = some (.int .i64 n) := (blk_cell KB3.out.1 2).trans rfl; have hc3 : W3.cell? ⟨g5, 3, none⟩ = some (.int .u64 u) := (blk_cell KB3.out.1 3).trans rfl; have hc4 : W3.cell? ⟨g5, 4, none⟩ = some (.int .u64 z0) := (blk_cell KB3.out.1 4).trans rfl; have hc5 : W3.cell? ⟨g5, 5, none⟩ = some (.int .u64 z1) := (blk_cell KB3.out.1 5).trans rfl; have hc6 : W3.cell? ⟨g5, 6, none⟩ = some (.int .u64 z2) := (blk_cell KB3.out.1 6).trans rfl; have hc7 : W3.cell? ⟨g5, 7, none⟩ = some (.int .i64 z3) := (blk_cell KB3.out.1 7).trans rfl; have hc8 : W3.cell? ⟨g5, 8, none⟩ = some (.int .i64 z4) := (blk_cell KB3.out.1 8).trans rfl; have hc9 : W3.cell? ⟨g5, 9, none⟩ = some (.bool z5) := (blk_cell KB3.out.1 9).trans rfl; have hc10 : W3.cell? ⟨g5, 10, none⟩ = some (.slice AB0 bs.length cb0) := (blk_cell KB3.out.1 10).trans rfl) | (go_at_call 18; (with_reducible refine (RG.out W3).mono ?_); rintro e W4 ⟨rfl, hb⟩; have S4 := Aside0.mk (S3.out.below hb); have HB4 := Aside0.mk (below_then HB3.out HB3.out.size hb); have KB4 := Aside0.mk (KB3.out.below hb); clear hb S3 HB3 KB3; clear hc0 hc1 hc2 hc3 hc4 hc5 hc6 hc7 hc8 hc9 hc10; have hc0 : W4.cell? ⟨g5, 0, none⟩ = some (.int .i64 d) := (blk_cell KB4.out.1 0).trans rfl; have hc1 : W4.cell? ⟨g5, 1, none⟩ = some (.int .u64 at_) := (blk_cell KB4.out.1 1).trans rfl; have hc2 : W4.cell? ⟨g5, 2, none⟩ = some (.int .i64 n) := (blk_cell KB4.out.1 2).trans rfl; have hc3 : W4.cell? ⟨g5, 3, none⟩ = some (.int .u64 u) := (blk_cell KB4.out.1 3).trans rfl; have hc4 : W4.cell? ⟨g5, 4, none⟩ = some (.int .u64 z0) := (blk_cell KB4.out.1 4).trans rfl; have hc5 : W4.cell? ⟨g5, 5, none⟩ = some (.int .u64 z1) := (blk_cell KB4.out.1 5).trans rfl; have hc6 : W4.cell? ⟨g5, 6, none⟩ = some (.int .u64 z2) := (blk_cell KB4.out.1 6).trans rfl; have hc7 : W4.cell? ⟨g5, 7, none⟩ = some (.int .i64 z3) := (blk_cell KB4.out.1 7).trans rfl; have hc8 : W4.cell? ⟨g5, 8, none⟩ = some (.int .i64 z4) := (blk_cell KB4.out.1 8).trans rfl; have hc9 : W4.cell? ⟨g5, 9, none⟩ = some (.bool z5) := (blk_cell KB4.out.1 9).trans rfl; have hc10 : W4.cell? ⟨g5, 10, none⟩ = some (.slice AB0 bs.length cb0) := (blk_cell KB4.out.1 10).trans rfl) | fail)
      go_ret
      exact ⟨rfl, below_then HB2.out HB2.out.size HB4.out⟩
    have dl : decide (600 < (bs.length : Int)) = false := decide_eq_false (by omega)
    clear kl
    obtain ⟨P, hP⟩ : ∃ P, P = tagmem_Mem_Pages.f M := ⟨_, rfl⟩
    obtain ⟨Tg, hT⟩ : ∃ Tg, Tg = tagmem_Mem_Tags.f M := ⟨_, rfl⟩
    have HP : Aside0 (∀ x ∈ P, 0 ≤ x ∧ x < 65536) := ⟨fun x hx => by
      rw [hP] at hx
      have := (pages_iff hok.wf).1 hx
      cases hp : M.page x with
      | none => rw [hp] at this; cases this
      | some q => obtain ⟨h1, rfl⟩ := page_mem hp; exact hok.wf.no q h1⟩
    have hpl : P.length ≤ 256 := by
      rw [hP]
      unfold tagmem_Mem_Pages.f sortI
      rw [List.length_mergeSort, List.length_map]
      have := hok.len
      have := hok.b
      omega
    have SZ1 := Aside0.mk (show P.length ≤ 4611686018427387904 by omega)
    have SZ2 := Aside0.mk (show Tg.length ≤ 4611686018427387904 by rw [hT]; have := tags_len hok; omega)
    have SZ3 := Aside0.mk (show (catB M P P.length).length ≤ 4611686018427387904 by have := catB_len M P P.length; omega)
    have EP := Aside0.mk hP
    have ET := Aside0.mk hT
    have OK := Aside0.mk hok
    clear hP hT hok
    by_cases k1 : d = 1
    · subst k1
      obtain ⟨M1, q, ho, he⟩ := hf1
      by_cases hq : q = 0
      · subst hq
        have PO := Aside0.mk ho
        clear ho he
        go_enter Try.func5, Try.ntmps5
        go_wp2_with (first | ((with_reducible refine gate_dst (N := 5) rfl ?_); refine box_event ?hg (N := 5) ?hd (cs := #[.int .i64 1, .int .u64 at_, .int .i64 n, .int .u64 u, .int .u64 z0, .int .u64 z1, .int .u64 z2, .int .i64 z3, .int .i64 z4, .bool z5, .slice AB0 bs.length cb0]) (t := 53) ?hr ?_; (case hd => rfl); (case hg => rfl); (case hr => first | (go_simp; done) | (go_simp; rfl)); intro g5 hgb W1 hbox hb; have HB1 := Aside0.mk hb; have B1 := Aside0.mk hbox; clear hb hbox hgb) | (go_at_call 10; refine (AW.out W1).mono ?_; rintro e W2 ⟨rfl, hb⟩; have HB2 := Aside0.mk (below_step HB1.out hb); have B2 := Aside0.mk (blk_below B1.out hb); clear hb HB1 B1) | (go_at_call 17; (with_reducible refine (MD.out W2 HB2.out).mono ?_); rintro e W3 ⟨hv, hb⟩; rw [HN.out] at hv; obtain ⟨g, gm, L3, cl3, he, hM, q1, q2, q3⟩ := hv; subst he; have S3 := Aside0.mk (solo hM q1 q2 q3); have HB3 := Aside0.mk hb; have KB3 := Aside0.mk (BKeepT.old (solo hM q1 q2 q3) B2.out hb); clear hM q1 q2 q3 hb B2; have hc0 : W3.cell? ⟨g5, 0, none⟩ = some (.int .i64 1) := (blk_cell KB3.out.1 0).trans rfl; have hc1 : W3.cell? ⟨g5, 1, none⟩ = some (.int .u64 at_) := (blk_cell KB3.out.1 1).trans rfl; have hc2 : W3.cell? ⟨g5, 2, none⟩ = some (.int .i64 n) := (blk_cell KB3.out.1 2).trans rfl; have hc3 : W3.cell? ⟨g5, 3, none⟩ = some (.int .u64 u) := (blk_cell KB3.out.1 3).trans rfl; have hc4 : W3.cell? ⟨g5, 4, none⟩ = some (.int .u64 z0) := (blk_cell KB3.out.1 4).trans rfl; have hc5 : W3.cell? ⟨g5, 5, none⟩ = some (.int .u64 z1) := (blk_cell KB3.out.1 5).trans rfl; have hc6 : W3.cell? ⟨g5, 6, none⟩ = some (.int .u64 z2) := (blk_cell KB3.out.1 6).trans rfl; have hc7 : W3.cell? ⟨g5, 7, none⟩ = some (.int .i64 z3) := (blk_cell KB3.out.1 7).trans rfl; have hc8 : W3.cell? ⟨g5, 8, none⟩ = some (.int .i64 z4) := (blk_cell KB3.out.1 8).trans rfl; have hc9 : W3.cell? ⟨g5, 9, none⟩ = some (.bool z5) := (blk_cell KB3.out.1 9).trans rfl; have hc10 : W3.cell? ⟨g5, 10, none⟩ = some (.slice AB0 bs.length cb0) := (blk_cell KB3.out.1 10).trans rfl) | (go_at_call 18; (with_reducible refine (RG.out W3).mono ?_); rintro e W4 ⟨rfl, hb⟩; have S4 := Aside0.mk (S3.out.below hb); have HB4 := Aside0.mk (below_then HB3.out HB3.out.size hb); have KB4 := Aside0.mk (KB3.out.below hb); clear hb S3 HB3 KB3; clear hc0 hc1 hc2 hc3 hc4 hc5 hc6 hc7 hc8 hc9 hc10; have hc0 : W4.cell? ⟨g5, 0, none⟩ = some (.int .i64 1) := (blk_cell KB4.out.1 0).trans rfl; have hc1 : W4.cell? ⟨g5, 1, none⟩ = some (.int .u64 at_) := (blk_cell KB4.out.1 1).trans rfl; have hc2 : W4.cell? ⟨g5, 2, none⟩ = some (.int .i64 n) := (blk_cell KB4.out.1 2).trans rfl; have hc3 : W4.cell? ⟨g5, 3, none⟩ = some (.int .u64 u) := (blk_cell KB4.out.1 3).trans rfl; have hc4 : W4.cell? ⟨g5, 4, none⟩ = some (.int .u64 z0) := (blk_cell KB4.out.1 4).trans rfl; have hc5 : W4.cell? ⟨g5, 5, none⟩ = some (.int .u64 z1) := (blk_cell KB4.out.1 5).trans rfl; have hc6 : W4.cell? ⟨g5, 6, none⟩ = some (.int .u64 z2) := (blk_cell KB4.out.1 6).trans rfl; have hc7 : W4.cell? ⟨g5, 7, none⟩ = some (.int .i64 z3) := (blk_cell KB4.out.1 7).trans rfl; have hc8 : W4.cell? ⟨g5, 8, none⟩ = some (.int .i64 z4) := (blk_cell KB4.out.1 8).trans rfl; have hc9 : W4.cell? ⟨g5, 9, none⟩ = some (.bool z5) := (blk_cell KB4.out.1 9).trans rfl; have hc10 : W4.cell? ⟨g5, 10, none⟩ = some (.slice AB0 bs.length cb0) := (blk_cell KB4.out.1 10).trans rfl) | (go_at_call 14; (with_reducible refine (sPages S4.out OK.out).mono ?_); rintro e W5 ⟨v, rfl, hR, hb⟩; rw [← EP.out] at hR; obtain ⟨AP, kp, rfl, hle, hK⟩ := Keeps.new S4.out hR hb; have RP5 := Aside0.mk hK; have HLAP := Aside0.mk hle; have S5 := Aside0.mk (S4.out.below hb); have HB5 := Aside0.mk (below_then HB4.out HB4.out.size hb); have KB5 := Aside0.mk (KB4.out.below hb); clear hR hb hle hK S4 HB4 KB4) | (go_at_call 15; (with_reducible refine (sTags S5.out OK.out).mono ?_); rintro e W6 ⟨v, rfl, hR, hb⟩; rw [← ET.out] at hR; obtain ⟨AT, kt, rfl, hle, hK⟩ := Keeps.new S5.out hR hb; have RT6 := Aside0.mk hK; have HLAT := Aside0.mk hle; have S6 := Aside0.mk (S5.out.below hb); have HB6 := Aside0.mk (below_then HB5.out HB5.out.size hb); have RP6 := Aside0.mk (RP5.out.below hb); have KB6 := Aside0.mk (KB5.out.below hb); clear hR hb hle hK S5 HB5 RP5 KB5) | fail)
        obtain ⟨WB, hWB⟩ : ∃ WB, WB = W6 := ⟨_, rfl⟩
        subst hWB
        go_loopw [12, 13] (fun va vb wr => ∃ (j : Nat), vb = .int .i64 j ∧ j ≤ P.length ∧ Aside0 (Kd.R (Kd.int .u8) 5 wr WB.heap.size (fun _ => True) va (catB M P j)) ∧ Aside0 (Below WB.heap.size WB wr)) (fun _ vb _ => P.length - (intOf vb).toNat)
        case atStart => exact ⟨0, rfl, by omega, ⟨Kd.R_nil _ _ _ _ _⟩, ⟨Below.refl _ _⟩⟩
        case round =>
          obtain ⟨j, rfl, hj, HO, HBl⟩ := hrel
          by_cases hlt : j < P.length
          · have W3' := next64 hlt (by omega)
            obtain ⟨ad, eA, hx0⟩ := Kd.at_int (RP6.out.below HBl.out).now (j : Int) (by omega) (by omega)
            cases eA
            rw [Int.toNat_natCast] at hx0
            obtain ⟨b0, b1⟩ := HP.out _ (rd_mem hlt)
            have EC := Aside0.mk (catB_next M hlt)
            have LX := Aside0.mk (And.intro (catB_len M P j) (bytes_256 M (rd P (j : Int) * 256)))
            have SL := Aside0.mk (S6.out.below HBl.out)
            generalize rd P (j : Int) = p at hx0 b0 b1 EC LX
            obtain ⟨bx, hbx⟩ : ∃ bx, bx = tagmem_Mem_Bytes.f M (p * 256) 256 := ⟨_, rfl⟩
            rw [← hbx] at EC LX
            have EX := Aside0.mk hbx
            have V1 : IntKind.u64.wrap (p * 256) = p * 256 := u64w (by omega) (by omega)
            have p0 : 0 ≤ p * 256 := by omega
            have p1 : p * 256 ≤ 18446744073709551615 := by omega
            generalize catB M P j = l at HO EC LX
            clear hbx
            go_wp2_with (first | (go_at_call 23; (with_reducible refine (sBytes SL.out (p * 256) 256 p0 p1).mono ?_); rintro e W8 ⟨v, rfl, hR, hb⟩; rw [← EX.out] at hR; obtain ⟨Ax, kx, rfl, hle, hC⟩ := Kd.R_reads hR; have HRx := Aside0.mk hC; have HOa := Aside0.mk (Kd.R_below HO.out hb); have HBa := Aside0.mk (below_step HBl.out hb); clear hR hb hle hC) | ((with_reducible refine gate_builtin (b := .append) (xs := #[.tmp 49, .tmp 56]) rfl ?_); at_builtin; refine Kd.R_append_rows (Kd.int .u8) (Rr := (Kd.int .u8).K W8) (w0 := WB) WB.heap.size rfl (.tmp 49) (.tmp 56) 51 5 (.int .u8 0) 1 rfl Try.underlying51 info5 rfl (by decide) (by omega) u12 l bx Ax bx.length kx (fun _ => True) (fun _ => False) rfl rfl HOa.out HRx.out (fun _ _ h => h) (fun _ hk => hk.elim) (fun _ _ => trivial) HBa.out HBa.out.size (by have := LX.out; omega) ?_; intro v3 w3 ho hb hg hat; rw [← EC.out] at ho; have HO3 := Aside0.mk ho; have HB3' := Aside0.mk hb; clear ho hb hg hat) | fail)
            exact ⟨⟨j + 1, by first | rfl | rw [W3'], hlt, HO3, HB3'⟩, by first | exact round_meas hlt | (rw [W3']; exact round_meas hlt)⟩
          · obtain rfl : j = P.length := by omega
            obtain ⟨ABy, kb, rfl, hleB, hKB⟩ := Keeps.new S6.out HO.out HBl.out
            have RB7 := Aside0.mk hKB
            have HLB := Aside0.mk hleB
            have S7 := Aside0.mk (S6.out.below HBl.out)
            have HB7 := Aside0.mk (below_then HB6.out HB6.out.size HBl.out)
            have RP7 := Aside0.mk (RP6.out.below HBl.out)
            have RT7 := Aside0.mk (RT6.out.below HBl.out)
            have KB7 := Aside0.mk (KB6.out.below HBl.out)
            clear hKB hleB HO hc0 hc1 hc2 hc3 hc4 hc5 hc6 hc7 hc8 hc9 hc10
            obtain ⟨W7, hW7⟩ : ∃ W7, W7 = wr := ⟨_, rfl⟩
            subst hW7
            have hc0 : W7.cell? ⟨g5, 0, none⟩ = some (.int .i64 1) := (blk_cell KB7.out.1 0).trans rfl; have hc1 : W7.cell? ⟨g5, 1, none⟩ = some (.int .u64 at_) := (blk_cell KB7.out.1 1).trans rfl; have hc2 : W7.cell? ⟨g5, 2, none⟩ = some (.int .i64 n) := (blk_cell KB7.out.1 2).trans rfl; have hc3 : W7.cell? ⟨g5, 3, none⟩ = some (.int .u64 u) := (blk_cell KB7.out.1 3).trans rfl; have hc4 : W7.cell? ⟨g5, 4, none⟩ = some (.int .u64 z0) := (blk_cell KB7.out.1 4).trans rfl; have hc5 : W7.cell? ⟨g5, 5, none⟩ = some (.int .u64 z1) := (blk_cell KB7.out.1 5).trans rfl; have hc6 : W7.cell? ⟨g5, 6, none⟩ = some (.int .u64 z2) := (blk_cell KB7.out.1 6).trans rfl; have hc7 : W7.cell? ⟨g5, 7, none⟩ = some (.int .i64 z3) := (blk_cell KB7.out.1 7).trans rfl; have hc8 : W7.cell? ⟨g5, 8, none⟩ = some (.int .i64 z4) := (blk_cell KB7.out.1 8).trans rfl; have hc9 : W7.cell? ⟨g5, 9, none⟩ = some (.bool z5) := (blk_cell KB7.out.1 9).trans rfl; have hc10 : W7.cell? ⟨g5, 10, none⟩ = some (.slice AB0 bs.length cb0) := (blk_cell KB7.out.1 10).trans rfl
            go_wp2_with (first | (go_at_call 24; (with_reducible refine (sMap S7.out HB7.out HB7.out.size at_ n a0 a1 PO.out).mono ?_); rintro e W8 ⟨rfl, ⟨L8, cl8, hs, hL⟩, hb, hu⟩; have S8 := Aside0.mk hs; have HB8 := Aside0.mk hb; have RP8 := Aside0.mk (RP7.out.step hL hu); have RT8 := Aside0.mk (RT7.out.step hL hu); have RB8 := Aside0.mk (RB7.out.step hL hu); clear hs hL hb hu S7 HB7 RP7 RT7 RB7) | fail)
            go_ret
            exact ⟨rfl, below_then HB2.out HB2.out.size HB8.out⟩
      · obtain rfl : M1 = M := he hq
        have PO := Aside0.mk ho
        have dq : (q == 0) = false := beq_eq_false_iff_ne.2 hq
        clear ho he hq
        go_enter Try.func5, Try.ntmps5
        go_wp2_with (first | ((with_reducible refine gate_dst (N := 5) rfl ?_); refine box_event ?hg (N := 5) ?hd (cs := #[.int .i64 1, .int .u64 at_, .int .i64 n, .int .u64 u, .int .u64 z0, .int .u64 z1, .int .u64 z2, .int .i64 z3, .int .i64 z4, .bool z5, .slice AB0 bs.length cb0]) (t := 53) ?hr ?_; (case hd => rfl); (case hg => rfl); (case hr => first | (go_simp; done) | (go_simp; rfl)); intro g5 hgb W1 hbox hb; have HB1 := Aside0.mk hb; have B1 := Aside0.mk hbox; clear hb hbox hgb) | (go_at_call 10; refine (AW.out W1).mono ?_; rintro e W2 ⟨rfl, hb⟩; have HB2 := Aside0.mk (below_step HB1.out hb); have B2 := Aside0.mk (blk_below B1.out hb); clear hb HB1 B1) | (go_at_call 17; (with_reducible refine (MD.out W2 HB2.out).mono ?_); rintro e W3 ⟨hv, hb⟩; rw [HN.out] at hv; obtain ⟨g, gm, L3, cl3, he, hM, q1, q2, q3⟩ := hv; subst he; have S3 := Aside0.mk (solo hM q1 q2 q3); have HB3 := Aside0.mk hb; have KB3 := Aside0.mk (BKeepT.old (solo hM q1 q2 q3) B2.out hb); clear hM q1 q2 q3 hb B2; have hc0 : W3.cell? ⟨g5, 0, none⟩ = some (.int .i64 1) := (blk_cell KB3.out.1 0).trans rfl; have hc1 : W3.cell? ⟨g5, 1, none⟩ = some (.int .u64 at_) := (blk_cell KB3.out.1 1).trans rfl; have hc2 : W3.cell? ⟨g5, 2, none⟩ = some (.int .i64 n) := (blk_cell KB3.out.1 2).trans rfl; have hc3 : W3.cell? ⟨g5, 3, none⟩ = some (.int .u64 u) := (blk_cell KB3.out.1 3).trans rfl; have hc4 : W3.cell? ⟨g5, 4, none⟩ = some (.int .u64 z0) := (blk_cell KB3.out.1 4).trans rfl; have hc5 : W3.cell? ⟨g5, 5, none⟩ = some (.int .u64 z1) := (blk_cell KB3.out.1 5).trans rfl; have hc6 : W3.cell? ⟨g5, 6, none⟩ = some (.int .u64 z2) := (blk_cell KB3.out.1 6).trans rfl; have hc7 : W3.cell? ⟨g5, 7, none⟩ = some (.int .i64 z3) := (blk_cell KB3.out.1 7).trans rfl; have hc8 : W3.cell? ⟨g5, 8, none⟩ = some (.int .i64 z4) := (blk_cell KB3.out.1 8).trans rfl; have hc9 : W3.cell? ⟨g5, 9, none⟩ = some (.bool z5) := (blk_cell KB3.out.1 9).trans rfl; have hc10 : W3.cell? ⟨g5, 10, none⟩ = some (.slice AB0 bs.length cb0) := (blk_cell KB3.out.1 10).trans rfl) | (go_at_call 18; (with_reducible refine (RG.out W3).mono ?_); rintro e W4 ⟨rfl, hb⟩; have S4 := Aside0.mk (S3.out.below hb); have HB4 := Aside0.mk (below_then HB3.out HB3.out.size hb); have KB4 := Aside0.mk (KB3.out.below hb); clear hb S3 HB3 KB3; clear hc0 hc1 hc2 hc3 hc4 hc5 hc6 hc7 hc8 hc9 hc10; have hc0 : W4.cell? ⟨g5, 0, none⟩ = some (.int .i64 1) := (blk_cell KB4.out.1 0).trans rfl; have hc1 : W4.cell? ⟨g5, 1, none⟩ = some (.int .u64 at_) := (blk_cell KB4.out.1 1).trans rfl; have hc2 : W4.cell? ⟨g5, 2, none⟩ = some (.int .i64 n) := (blk_cell KB4.out.1 2).trans rfl; have hc3 : W4.cell? ⟨g5, 3, none⟩ = some (.int .u64 u) := (blk_cell KB4.out.1 3).trans rfl; have hc4 : W4.cell? ⟨g5, 4, none⟩ = some (.int .u64 z0) := (blk_cell KB4.out.1 4).trans rfl; have hc5 : W4.cell? ⟨g5, 5, none⟩ = some (.int .u64 z1) := (blk_cell KB4.out.1 5).trans rfl; have hc6 : W4.cell? ⟨g5, 6, none⟩ = some (.int .u64 z2) := (blk_cell KB4.out.1 6).trans rfl; have hc7 : W4.cell? ⟨g5, 7, none⟩ = some (.int .i64 z3) := (blk_cell KB4.out.1 7).trans rfl; have hc8 : W4.cell? ⟨g5, 8, none⟩ = some (.int .i64 z4) := (blk_cell KB4.out.1 8).trans rfl; have hc9 : W4.cell? ⟨g5, 9, none⟩ = some (.bool z5) := (blk_cell KB4.out.1 9).trans rfl; have hc10 : W4.cell? ⟨g5, 10, none⟩ = some (.slice AB0 bs.length cb0) := (blk_cell KB4.out.1 10).trans rfl) | (go_at_call 14; (with_reducible refine (sPages S4.out OK.out).mono ?_); rintro e W5 ⟨v, rfl, hR, hb⟩; rw [← EP.out] at hR; obtain ⟨AP, kp, rfl, hle, hK⟩ := Keeps.new S4.out hR hb; have RP5 := Aside0.mk hK; have HLAP := Aside0.mk hle; have S5 := Aside0.mk (S4.out.below hb); have HB5 := Aside0.mk (below_then HB4.out HB4.out.size hb); have KB5 := Aside0.mk (KB4.out.below hb); clear hR hb hle hK S4 HB4 KB4) | (go_at_call 15; (with_reducible refine (sTags S5.out OK.out).mono ?_); rintro e W6 ⟨v, rfl, hR, hb⟩; rw [← ET.out] at hR; obtain ⟨AT, kt, rfl, hle, hK⟩ := Keeps.new S5.out hR hb; have RT6 := Aside0.mk hK; have HLAT := Aside0.mk hle; have S6 := Aside0.mk (S5.out.below hb); have HB6 := Aside0.mk (below_then HB5.out HB5.out.size hb); have RP6 := Aside0.mk (RP5.out.below hb); have KB6 := Aside0.mk (KB5.out.below hb); clear hR hb hle hK S5 HB5 RP5 KB5) | fail)
        obtain ⟨WB, hWB⟩ : ∃ WB, WB = W6 := ⟨_, rfl⟩
        subst hWB
        go_loopw [12, 13] (fun va vb wr => ∃ (j : Nat), vb = .int .i64 j ∧ j ≤ P.length ∧ Aside0 (Kd.R (Kd.int .u8) 5 wr WB.heap.size (fun _ => True) va (catB M1 P j)) ∧ Aside0 (Below WB.heap.size WB wr)) (fun _ vb _ => P.length - (intOf vb).toNat)
        case atStart => exact ⟨0, rfl, by omega, ⟨Kd.R_nil _ _ _ _ _⟩, ⟨Below.refl _ _⟩⟩
        case round =>
          obtain ⟨j, rfl, hj, HO, HBl⟩ := hrel
          by_cases hlt : j < P.length
          · have W3' := next64 hlt (by omega)
            obtain ⟨ad, eA, hx0⟩ := Kd.at_int (RP6.out.below HBl.out).now (j : Int) (by omega) (by omega)
            cases eA
            rw [Int.toNat_natCast] at hx0
            obtain ⟨b0, b1⟩ := HP.out _ (rd_mem hlt)
            have EC := Aside0.mk (catB_next M1 hlt)
            have LX := Aside0.mk (And.intro (catB_len M1 P j) (bytes_256 M1 (rd P (j : Int) * 256)))
            have SL := Aside0.mk (S6.out.below HBl.out)
            generalize rd P (j : Int) = p at hx0 b0 b1 EC LX
            obtain ⟨bx, hbx⟩ : ∃ bx, bx = tagmem_Mem_Bytes.f M1 (p * 256) 256 := ⟨_, rfl⟩
            rw [← hbx] at EC LX
            have EX := Aside0.mk hbx
            have V1 : IntKind.u64.wrap (p * 256) = p * 256 := u64w (by omega) (by omega)
            have p0 : 0 ≤ p * 256 := by omega
            have p1 : p * 256 ≤ 18446744073709551615 := by omega
            generalize catB M1 P j = l at HO EC LX
            clear hbx
            go_wp2_with (first | (go_at_call 23; (with_reducible refine (sBytes SL.out (p * 256) 256 p0 p1).mono ?_); rintro e W8 ⟨v, rfl, hR, hb⟩; rw [← EX.out] at hR; obtain ⟨Ax, kx, rfl, hle, hC⟩ := Kd.R_reads hR; have HRx := Aside0.mk hC; have HOa := Aside0.mk (Kd.R_below HO.out hb); have HBa := Aside0.mk (below_step HBl.out hb); clear hR hb hle hC) | ((with_reducible refine gate_builtin (b := .append) (xs := #[.tmp 49, .tmp 56]) rfl ?_); at_builtin; refine Kd.R_append_rows (Kd.int .u8) (Rr := (Kd.int .u8).K W8) (w0 := WB) WB.heap.size rfl (.tmp 49) (.tmp 56) 51 5 (.int .u8 0) 1 rfl Try.underlying51 info5 rfl (by decide) (by omega) u12 l bx Ax bx.length kx (fun _ => True) (fun _ => False) rfl rfl HOa.out HRx.out (fun _ _ h => h) (fun _ hk => hk.elim) (fun _ _ => trivial) HBa.out HBa.out.size (by have := LX.out; omega) ?_; intro v3 w3 ho hb hg hat; rw [← EC.out] at ho; have HO3 := Aside0.mk ho; have HB3' := Aside0.mk hb; clear ho hb hg hat) | fail)
            exact ⟨⟨j + 1, by first | rfl | rw [W3'], hlt, HO3, HB3'⟩, by first | exact round_meas hlt | (rw [W3']; exact round_meas hlt)⟩
          · obtain rfl : j = P.length := by omega
            obtain ⟨ABy, kb, rfl, hleB, hKB⟩ := Keeps.new S6.out HO.out HBl.out
            have RB7 := Aside0.mk hKB
            have HLB := Aside0.mk hleB
            have S7 := Aside0.mk (S6.out.below HBl.out)
            have HB7 := Aside0.mk (below_then HB6.out HB6.out.size HBl.out)
            have RP7 := Aside0.mk (RP6.out.below HBl.out)
            have RT7 := Aside0.mk (RT6.out.below HBl.out)
            have KB7 := Aside0.mk (KB6.out.below HBl.out)
            clear hKB hleB HO hc0 hc1 hc2 hc3 hc4 hc5 hc6 hc7 hc8 hc9 hc10
            obtain ⟨W7, hW7⟩ : ∃ W7, W7 = wr := ⟨_, rfl⟩
            subst hW7
            have hc0 : W7.cell? ⟨g5, 0, none⟩ = some (.int .i64 1) := (blk_cell KB7.out.1 0).trans rfl; have hc1 : W7.cell? ⟨g5, 1, none⟩ = some (.int .u64 at_) := (blk_cell KB7.out.1 1).trans rfl; have hc2 : W7.cell? ⟨g5, 2, none⟩ = some (.int .i64 n) := (blk_cell KB7.out.1 2).trans rfl; have hc3 : W7.cell? ⟨g5, 3, none⟩ = some (.int .u64 u) := (blk_cell KB7.out.1 3).trans rfl; have hc4 : W7.cell? ⟨g5, 4, none⟩ = some (.int .u64 z0) := (blk_cell KB7.out.1 4).trans rfl; have hc5 : W7.cell? ⟨g5, 5, none⟩ = some (.int .u64 z1) := (blk_cell KB7.out.1 5).trans rfl; have hc6 : W7.cell? ⟨g5, 6, none⟩ = some (.int .u64 z2) := (blk_cell KB7.out.1 6).trans rfl; have hc7 : W7.cell? ⟨g5, 7, none⟩ = some (.int .i64 z3) := (blk_cell KB7.out.1 7).trans rfl; have hc8 : W7.cell? ⟨g5, 8, none⟩ = some (.int .i64 z4) := (blk_cell KB7.out.1 8).trans rfl; have hc9 : W7.cell? ⟨g5, 9, none⟩ = some (.bool z5) := (blk_cell KB7.out.1 9).trans rfl; have hc10 : W7.cell? ⟨g5, 10, none⟩ = some (.slice AB0 bs.length cb0) := (blk_cell KB7.out.1 10).trans rfl
            go_wp2_with (first | (go_at_call 24; (with_reducible refine (sMap S7.out HB7.out HB7.out.size at_ n a0 a1 PO.out).mono ?_); rintro e W8 ⟨rfl, ⟨L8, cl8, hs, hL⟩, hb, hu⟩; have S8 := Aside0.mk hs; have HB8 := Aside0.mk hb; have RP8 := Aside0.mk (RP7.out.step hL hu); have RT8 := Aside0.mk (RT7.out.step hL hu); have RB8 := Aside0.mk (RB7.out.step hL hu); clear hs hL hb hu S7 HB7 RP7 RT7 RB7) | (go_at_call 14; (with_reducible refine (sPages S8.out OK.out).mono ?_); rintro e W9 ⟨v, rfl, hR, hb⟩; rw [← EP.out] at hR; obtain ⟨AU, ku, rfl, hle, hK⟩ := Keeps.new S8.out hR hb; have RU9 := Aside0.mk hK; have HLAU := Aside0.mk hle; have S9 := Aside0.mk (S8.out.below hb); have HB9 := Aside0.mk (below_then HB8.out HB8.out.size hb); have RP9 := Aside0.mk (RP8.out.below hb); have RT9 := Aside0.mk (RT8.out.below hb); have RB9 := Aside0.mk (RB8.out.below hb); clear hR hb hle hK S8 HB8 RP8 RT8 RB8) | (go_at_call 15; (with_reducible refine (sTags S9.out OK.out).mono ?_); rintro e W10 ⟨v, rfl, hR, hb⟩; rw [← ET.out] at hR; obtain ⟨AV, kv, rfl, hle, hK⟩ := Keeps.new S9.out hR hb; have RV10 := Aside0.mk hK; have HLAV := Aside0.mk hle; have S10 := Aside0.mk (S9.out.below hb); have HB10 := Aside0.mk (below_then HB9.out HB9.out.size hb); have RP10 := Aside0.mk (RP9.out.below hb); have RT10 := Aside0.mk (RT9.out.below hb); have RB10 := Aside0.mk (RB9.out.below hb); have RU10 := Aside0.mk (RU9.out.below hb); clear hR hb hle hK S9 HB9 RP9 RT9 RB9 RU9) | fail)
            clear HBl
            obtain ⟨WB, hWB⟩ : ∃ WB, WB = W10 := ⟨_, rfl⟩
            subst hWB
            go_loopw [17, 18] (fun va vb wr => ∃ (j : Nat), vb = .int .i64 j ∧ j ≤ P.length ∧ Aside0 (Kd.R (Kd.int .u8) 5 wr WB.heap.size (fun _ => True) va (catB M1 P j)) ∧ Aside0 (Below WB.heap.size WB wr)) (fun _ vb _ => P.length - (intOf vb).toNat)
            case atStart => exact ⟨0, rfl, by omega, ⟨Kd.R_nil _ _ _ _ _⟩, ⟨Below.refl _ _⟩⟩
            case round =>
              obtain ⟨j, rfl, hj, HO, HBl⟩ := hrel
              by_cases hlt : j < P.length
              · have W3' := next64 hlt (by omega)
                obtain ⟨ad, eA, hx0⟩ := Kd.at_int (RU10.out.below HBl.out).now (j : Int) (by omega) (by omega)
                cases eA
                rw [Int.toNat_natCast] at hx0
                obtain ⟨b0, b1⟩ := HP.out _ (rd_mem hlt)
                have EC := Aside0.mk (catB_next M1 hlt)
                have LX := Aside0.mk (And.intro (catB_len M1 P j) (bytes_256 M1 (rd P (j : Int) * 256)))
                have SL := Aside0.mk (S10.out.below HBl.out)
                generalize rd P (j : Int) = p at hx0 b0 b1 EC LX
                obtain ⟨bx, hbx⟩ : ∃ bx, bx = tagmem_Mem_Bytes.f M1 (p * 256) 256 := ⟨_, rfl⟩
                rw [← hbx] at EC LX
                have EX := Aside0.mk hbx
                have V1 : IntKind.u64.wrap (p * 256) = p * 256 := u64w (by omega) (by omega)
                have p0 : 0 ≤ p * 256 := by omega
                have p1 : p * 256 ≤ 18446744073709551615 := by omega
                generalize catB M1 P j = l at HO EC LX
                clear hbx
                go_wp2_with (first | (go_at_call 23; (with_reducible refine (sBytes SL.out (p * 256) 256 p0 p1).mono ?_); rintro e W8 ⟨v, rfl, hR, hb⟩; rw [← EX.out] at hR; obtain ⟨Ax, kx, rfl, hle, hC⟩ := Kd.R_reads hR; have HRx := Aside0.mk hC; have HOa := Aside0.mk (Kd.R_below HO.out hb); have HBa := Aside0.mk (below_step HBl.out hb); clear hR hb hle hC) | ((with_reducible refine gate_builtin (b := .append) (xs := #[.tmp 116, .tmp 123]) rfl ?_); at_builtin; refine Kd.R_append_rows (Kd.int .u8) (Rr := (Kd.int .u8).K W8) (w0 := WB) WB.heap.size rfl (.tmp 116) (.tmp 123) 51 5 (.int .u8 0) 1 rfl Try.underlying51 info5 rfl (by decide) (by omega) u17 l bx Ax bx.length kx (fun _ => True) (fun _ => False) rfl rfl HOa.out HRx.out (fun _ _ h => h) (fun _ hk => hk.elim) (fun _ _ => trivial) HBa.out HBa.out.size (by have := LX.out; omega) ?_; intro v3 w3 ho hb hg hat; rw [← EC.out] at ho; have HO3 := Aside0.mk ho; have HB3' := Aside0.mk hb; clear ho hb hg hat) | fail)
                exact ⟨⟨j + 1, by first | rfl | rw [W3'], hlt, HO3, HB3'⟩, by first | exact round_meas hlt | (rw [W3']; exact round_meas hlt)⟩
              · obtain rfl : j = P.length := by omega
                obtain ⟨ACy, kc, rfl, hleC, hKC⟩ := Keeps.new S10.out HO.out HBl.out
                have CC11 := Aside0.mk hKC.now
                have HLC := Aside0.mk hleC
                have HB11 := Aside0.mk (below_then HB10.out HB10.out.size HBl.out)
                have CP11 := Aside0.mk (RP10.out.below HBl.out).now
                have CT11 := Aside0.mk (RT10.out.below HBl.out).now
                have CB11 := Aside0.mk (RB10.out.below HBl.out).now
                have CU11 := Aside0.mk (RU10.out.below HBl.out).now
                have CV11 := Aside0.mk (RV10.out.below HBl.out).now
                clear hKC hleC HO HBl
                obtain ⟨W11, hW11⟩ : ∃ W11, W11 = wr := ⟨_, rfl⟩
                subst hW11
                go_wp2_with (first | (go_at_call 16; refine (sameU_calls AP kp P AU ku P CP11.out HLAP.out CU11.out HLAU.out SZ1.out).mono ?_; rintro e W12 ⟨rfl, hd⟩; have hb : Below W11.heap.size W11 W12 := hd; have HB12 := Aside0.mk (below_then HB11.out HB11.out.size hb); have CP12 := Aside0.mk (Kd.C_below CP11.out hb); have CT12 := Aside0.mk (Kd.C_below CT11.out hb); have CB12 := Aside0.mk (Kd.C_below CB11.out hb); have CU12 := Aside0.mk (Kd.C_below CU11.out hb); have CV12 := Aside0.mk (Kd.C_below CV11.out hb); have CC12 := Aside0.mk (Kd.C_below CC11.out hb); clear hd hb HB11 CP11 CT11 CB11 CU11 CV11 CC11) | (go_at_call 16; refine (sameU_calls AT kt Tg AV kv Tg CT12.out HLAT.out CV12.out HLAV.out SZ2.out).mono ?_; rintro e W13 ⟨rfl, hd⟩; have hb : Below W12.heap.size W12 W13 := hd; have HB13 := Aside0.mk (below_then HB12.out HB12.out.size hb); have CB13 := Aside0.mk (Kd.C_below CB12.out hb); have CC13 := Aside0.mk (Kd.C_below CC12.out hb); clear hd hb HB12 CB12 CC12) | (go_at_call 27; refine (same_calls ABy kb (catB M1 P P.length) ACy kc (catB M1 P P.length) CB13.out HLB.out CC13.out HLC.out SZ3.out).mono ?_; rintro e W14 ⟨rfl, hd⟩; have HB14 := Aside0.mk (below_then HB13.out HB13.out.size hd.below); clear hd) | fail)
                go_ret
                exact ⟨rfl, below_then HB2.out HB2.out.size HB14.out⟩
    by_cases k2 : d = 2
    · subst k2
      obtain ⟨M1, q, ho, he⟩ := hf2
      by_cases hq : q = 0
      · subst hq
        have PO := Aside0.mk ho
        clear ho he
        go_enter Try.func5, Try.ntmps5
        go_wp2_with (first | ((with_reducible refine gate_dst (N := 5) rfl ?_); refine box_event ?hg (N := 5) ?hd (cs := #[.int .i64 2, .int .u64 at_, .int .i64 n, .int .u64 u, .int .u64 z0, .int .u64 z1, .int .u64 z2, .int .i64 z3, .int .i64 z4, .bool z5, .slice AB0 bs.length cb0]) (t := 53) ?hr ?_; (case hd => rfl); (case hg => rfl); (case hr => first | (go_simp; done) | (go_simp; rfl)); intro g5 hgb W1 hbox hb; have HB1 := Aside0.mk hb; have B1 := Aside0.mk hbox; clear hb hbox hgb) | (go_at_call 10; refine (AW.out W1).mono ?_; rintro e W2 ⟨rfl, hb⟩; have HB2 := Aside0.mk (below_step HB1.out hb); have B2 := Aside0.mk (blk_below B1.out hb); clear hb HB1 B1) | (go_at_call 17; (with_reducible refine (MD.out W2 HB2.out).mono ?_); rintro e W3 ⟨hv, hb⟩; rw [HN.out] at hv; obtain ⟨g, gm, L3, cl3, he, hM, q1, q2, q3⟩ := hv; subst he; have S3 := Aside0.mk (solo hM q1 q2 q3); have HB3 := Aside0.mk hb; have KB3 := Aside0.mk (BKeepT.old (solo hM q1 q2 q3) B2.out hb); clear hM q1 q2 q3 hb B2; have hc0 : W3.cell? ⟨g5, 0, none⟩ = some (.int .i64 2) := (blk_cell KB3.out.1 0).trans rfl; have hc1 : W3.cell? ⟨g5, 1, none⟩ = some (.int .u64 at_) := (blk_cell KB3.out.1 1).trans rfl; have hc2 : W3.cell? ⟨g5, 2, none⟩ = some (.int .i64 n) := (blk_cell KB3.out.1 2).trans rfl; have hc3 : W3.cell? ⟨g5, 3, none⟩ = some (.int .u64 u) := (blk_cell KB3.out.1 3).trans rfl; have hc4 : W3.cell? ⟨g5, 4, none⟩ = some (.int .u64 z0) := (blk_cell KB3.out.1 4).trans rfl; have hc5 : W3.cell? ⟨g5, 5, none⟩ = some (.int .u64 z1) := (blk_cell KB3.out.1 5).trans rfl; have hc6 : W3.cell? ⟨g5, 6, none⟩ = some (.int .u64 z2) := (blk_cell KB3.out.1 6).trans rfl; have hc7 : W3.cell? ⟨g5, 7, none⟩ = some (.int .i64 z3) := (blk_cell KB3.out.1 7).trans rfl; have hc8 : W3.cell? ⟨g5, 8, none⟩ = some (.int .i64 z4) := (blk_cell KB3.out.1 8).trans rfl; have hc9 : W3.cell? ⟨g5, 9, none⟩ = some (.bool z5) := (blk_cell KB3.out.1 9).trans rfl; have hc10 : W3.cell? ⟨g5, 10, none⟩ = some (.slice AB0 bs.length cb0) := (blk_cell KB3.out.1 10).trans rfl) | (go_at_call 18; (with_reducible refine (RG.out W3).mono ?_); rintro e W4 ⟨rfl, hb⟩; have S4 := Aside0.mk (S3.out.below hb); have HB4 := Aside0.mk (below_then HB3.out HB3.out.size hb); have KB4 := Aside0.mk (KB3.out.below hb); clear hb S3 HB3 KB3; clear hc0 hc1 hc2 hc3 hc4 hc5 hc6 hc7 hc8 hc9 hc10; have hc0 : W4.cell? ⟨g5, 0, none⟩ = some (.int .i64 2) := (blk_cell KB4.out.1 0).trans rfl; have hc1 : W4.cell? ⟨g5, 1, none⟩ = some (.int .u64 at_) := (blk_cell KB4.out.1 1).trans rfl; have hc2 : W4.cell? ⟨g5, 2, none⟩ = some (.int .i64 n) := (blk_cell KB4.out.1 2).trans rfl; have hc3 : W4.cell? ⟨g5, 3, none⟩ = some (.int .u64 u) := (blk_cell KB4.out.1 3).trans rfl; have hc4 : W4.cell? ⟨g5, 4, none⟩ = some (.int .u64 z0) := (blk_cell KB4.out.1 4).trans rfl; have hc5 : W4.cell? ⟨g5, 5, none⟩ = some (.int .u64 z1) := (blk_cell KB4.out.1 5).trans rfl; have hc6 : W4.cell? ⟨g5, 6, none⟩ = some (.int .u64 z2) := (blk_cell KB4.out.1 6).trans rfl; have hc7 : W4.cell? ⟨g5, 7, none⟩ = some (.int .i64 z3) := (blk_cell KB4.out.1 7).trans rfl; have hc8 : W4.cell? ⟨g5, 8, none⟩ = some (.int .i64 z4) := (blk_cell KB4.out.1 8).trans rfl; have hc9 : W4.cell? ⟨g5, 9, none⟩ = some (.bool z5) := (blk_cell KB4.out.1 9).trans rfl; have hc10 : W4.cell? ⟨g5, 10, none⟩ = some (.slice AB0 bs.length cb0) := (blk_cell KB4.out.1 10).trans rfl) | (go_at_call 14; (with_reducible refine (sPages S4.out OK.out).mono ?_); rintro e W5 ⟨v, rfl, hR, hb⟩; rw [← EP.out] at hR; obtain ⟨AP, kp, rfl, hle, hK⟩ := Keeps.new S4.out hR hb; have RP5 := Aside0.mk hK; have HLAP := Aside0.mk hle; have S5 := Aside0.mk (S4.out.below hb); have HB5 := Aside0.mk (below_then HB4.out HB4.out.size hb); have KB5 := Aside0.mk (KB4.out.below hb); clear hR hb hle hK S4 HB4 KB4) | (go_at_call 15; (with_reducible refine (sTags S5.out OK.out).mono ?_); rintro e W6 ⟨v, rfl, hR, hb⟩; rw [← ET.out] at hR; obtain ⟨AT, kt, rfl, hle, hK⟩ := Keeps.new S5.out hR hb; have RT6 := Aside0.mk hK; have HLAT := Aside0.mk hle; have S6 := Aside0.mk (S5.out.below hb); have HB6 := Aside0.mk (below_then HB5.out HB5.out.size hb); have RP6 := Aside0.mk (RP5.out.below hb); have KB6 := Aside0.mk (KB5.out.below hb); clear hR hb hle hK S5 HB5 RP5 KB5) | fail)
        obtain ⟨WB, hWB⟩ : ∃ WB, WB = W6 := ⟨_, rfl⟩
        subst hWB
        go_loopw [12, 13] (fun va vb wr => ∃ (j : Nat), vb = .int .i64 j ∧ j ≤ P.length ∧ Aside0 (Kd.R (Kd.int .u8) 5 wr WB.heap.size (fun _ => True) va (catB M P j)) ∧ Aside0 (Below WB.heap.size WB wr)) (fun _ vb _ => P.length - (intOf vb).toNat)
        case atStart => exact ⟨0, rfl, by omega, ⟨Kd.R_nil _ _ _ _ _⟩, ⟨Below.refl _ _⟩⟩
        case round =>
          obtain ⟨j, rfl, hj, HO, HBl⟩ := hrel
          by_cases hlt : j < P.length
          · have W3' := next64 hlt (by omega)
            obtain ⟨ad, eA, hx0⟩ := Kd.at_int (RP6.out.below HBl.out).now (j : Int) (by omega) (by omega)
            cases eA
            rw [Int.toNat_natCast] at hx0
            obtain ⟨b0, b1⟩ := HP.out _ (rd_mem hlt)
            have EC := Aside0.mk (catB_next M hlt)
            have LX := Aside0.mk (And.intro (catB_len M P j) (bytes_256 M (rd P (j : Int) * 256)))
            have SL := Aside0.mk (S6.out.below HBl.out)
            generalize rd P (j : Int) = p at hx0 b0 b1 EC LX
            obtain ⟨bx, hbx⟩ : ∃ bx, bx = tagmem_Mem_Bytes.f M (p * 256) 256 := ⟨_, rfl⟩
            rw [← hbx] at EC LX
            have EX := Aside0.mk hbx
            have V1 : IntKind.u64.wrap (p * 256) = p * 256 := u64w (by omega) (by omega)
            have p0 : 0 ≤ p * 256 := by omega
            have p1 : p * 256 ≤ 18446744073709551615 := by omega
            generalize catB M P j = l at HO EC LX
            clear hbx
            go_wp2_with (first | (go_at_call 23; (with_reducible refine (sBytes SL.out (p * 256) 256 p0 p1).mono ?_); rintro e W8 ⟨v, rfl, hR, hb⟩; rw [← EX.out] at hR; obtain ⟨Ax, kx, rfl, hle, hC⟩ := Kd.R_reads hR; have HRx := Aside0.mk hC; have HOa := Aside0.mk (Kd.R_below HO.out hb); have HBa := Aside0.mk (below_step HBl.out hb); clear hR hb hle hC) | ((with_reducible refine gate_builtin (b := .append) (xs := #[.tmp 49, .tmp 56]) rfl ?_); at_builtin; refine Kd.R_append_rows (Kd.int .u8) (Rr := (Kd.int .u8).K W8) (w0 := WB) WB.heap.size rfl (.tmp 49) (.tmp 56) 51 5 (.int .u8 0) 1 rfl Try.underlying51 info5 rfl (by decide) (by omega) u12 l bx Ax bx.length kx (fun _ => True) (fun _ => False) rfl rfl HOa.out HRx.out (fun _ _ h => h) (fun _ hk => hk.elim) (fun _ _ => trivial) HBa.out HBa.out.size (by have := LX.out; omega) ?_; intro v3 w3 ho hb hg hat; rw [← EC.out] at ho; have HO3 := Aside0.mk ho; have HB3' := Aside0.mk hb; clear ho hb hg hat) | fail)
            exact ⟨⟨j + 1, by first | rfl | rw [W3'], hlt, HO3, HB3'⟩, by first | exact round_meas hlt | (rw [W3']; exact round_meas hlt)⟩
          · obtain rfl : j = P.length := by omega
            obtain ⟨ABy, kb, rfl, hleB, hKB⟩ := Keeps.new S6.out HO.out HBl.out
            have RB7 := Aside0.mk hKB
            have HLB := Aside0.mk hleB
            have S7 := Aside0.mk (S6.out.below HBl.out)
            have HB7 := Aside0.mk (below_then HB6.out HB6.out.size HBl.out)
            have RP7 := Aside0.mk (RP6.out.below HBl.out)
            have RT7 := Aside0.mk (RT6.out.below HBl.out)
            have KB7 := Aside0.mk (KB6.out.below HBl.out)
            clear hKB hleB HO hc0 hc1 hc2 hc3 hc4 hc5 hc6 hc7 hc8 hc9 hc10
            obtain ⟨W7, hW7⟩ : ∃ W7, W7 = wr := ⟨_, rfl⟩
            subst hW7
            have hc0 : W7.cell? ⟨g5, 0, none⟩ = some (.int .i64 2) := (blk_cell KB7.out.1 0).trans rfl; have hc1 : W7.cell? ⟨g5, 1, none⟩ = some (.int .u64 at_) := (blk_cell KB7.out.1 1).trans rfl; have hc2 : W7.cell? ⟨g5, 2, none⟩ = some (.int .i64 n) := (blk_cell KB7.out.1 2).trans rfl; have hc3 : W7.cell? ⟨g5, 3, none⟩ = some (.int .u64 u) := (blk_cell KB7.out.1 3).trans rfl; have hc4 : W7.cell? ⟨g5, 4, none⟩ = some (.int .u64 z0) := (blk_cell KB7.out.1 4).trans rfl; have hc5 : W7.cell? ⟨g5, 5, none⟩ = some (.int .u64 z1) := (blk_cell KB7.out.1 5).trans rfl; have hc6 : W7.cell? ⟨g5, 6, none⟩ = some (.int .u64 z2) := (blk_cell KB7.out.1 6).trans rfl; have hc7 : W7.cell? ⟨g5, 7, none⟩ = some (.int .i64 z3) := (blk_cell KB7.out.1 7).trans rfl; have hc8 : W7.cell? ⟨g5, 8, none⟩ = some (.int .i64 z4) := (blk_cell KB7.out.1 8).trans rfl; have hc9 : W7.cell? ⟨g5, 9, none⟩ = some (.bool z5) := (blk_cell KB7.out.1 9).trans rfl; have hc10 : W7.cell? ⟨g5, 10, none⟩ = some (.slice AB0 bs.length cb0) := (blk_cell KB7.out.1 10).trans rfl
            go_wp2_with (first | (go_at_call 25; (with_reducible refine (sUnmap S7.out HB7.out HB7.out.size at_ n a0 a1 PO.out).mono ?_); rintro e W8 ⟨rfl, ⟨L8, cl8, hs, hL⟩, hb, hu⟩; have S8 := Aside0.mk hs; have HB8 := Aside0.mk hb; have RP8 := Aside0.mk (RP7.out.step hL hu); have RT8 := Aside0.mk (RT7.out.step hL hu); have RB8 := Aside0.mk (RB7.out.step hL hu); clear hs hL hb hu S7 HB7 RP7 RT7 RB7) | fail)
            go_ret
            exact ⟨rfl, below_then HB2.out HB2.out.size HB8.out⟩
      · obtain rfl : M1 = M := he hq
        have PO := Aside0.mk ho
        have dq : (q == 0) = false := beq_eq_false_iff_ne.2 hq
        clear ho he hq
        go_enter Try.func5, Try.ntmps5
        go_wp2_with (first | ((with_reducible refine gate_dst (N := 5) rfl ?_); refine box_event ?hg (N := 5) ?hd (cs := #[.int .i64 2, .int .u64 at_, .int .i64 n, .int .u64 u, .int .u64 z0, .int .u64 z1, .int .u64 z2, .int .i64 z3, .int .i64 z4, .bool z5, .slice AB0 bs.length cb0]) (t := 53) ?hr ?_; (case hd => rfl); (case hg => rfl); (case hr => first | (go_simp; done) | (go_simp; rfl)); intro g5 hgb W1 hbox hb; have HB1 := Aside0.mk hb; have B1 := Aside0.mk hbox; clear hb hbox hgb) | (go_at_call 10; refine (AW.out W1).mono ?_; rintro e W2 ⟨rfl, hb⟩; have HB2 := Aside0.mk (below_step HB1.out hb); have B2 := Aside0.mk (blk_below B1.out hb); clear hb HB1 B1) | (go_at_call 17; (with_reducible refine (MD.out W2 HB2.out).mono ?_); rintro e W3 ⟨hv, hb⟩; rw [HN.out] at hv; obtain ⟨g, gm, L3, cl3, he, hM, q1, q2, q3⟩ := hv; subst he; have S3 := Aside0.mk (solo hM q1 q2 q3); have HB3 := Aside0.mk hb; have KB3 := Aside0.mk (BKeepT.old (solo hM q1 q2 q3) B2.out hb); clear hM q1 q2 q3 hb B2; have hc0 : W3.cell? ⟨g5, 0, none⟩ = some (.int .i64 2) := (blk_cell KB3.out.1 0).trans rfl; have hc1 : W3.cell? ⟨g5, 1, none⟩ = some (.int .u64 at_) := (blk_cell KB3.out.1 1).trans rfl; have hc2 : W3.cell? ⟨g5, 2, none⟩ = some (.int .i64 n) := (blk_cell KB3.out.1 2).trans rfl; have hc3 : W3.cell? ⟨g5, 3, none⟩ = some (.int .u64 u) := (blk_cell KB3.out.1 3).trans rfl; have hc4 : W3.cell? ⟨g5, 4, none⟩ = some (.int .u64 z0) := (blk_cell KB3.out.1 4).trans rfl; have hc5 : W3.cell? ⟨g5, 5, none⟩ = some (.int .u64 z1) := (blk_cell KB3.out.1 5).trans rfl; have hc6 : W3.cell? ⟨g5, 6, none⟩ = some (.int .u64 z2) := (blk_cell KB3.out.1 6).trans rfl; have hc7 : W3.cell? ⟨g5, 7, none⟩ = some (.int .i64 z3) := (blk_cell KB3.out.1 7).trans rfl; have hc8 : W3.cell? ⟨g5, 8, none⟩ = some (.int .i64 z4) := (blk_cell KB3.out.1 8).trans rfl; have hc9 : W3.cell? ⟨g5, 9, none⟩ = some (.bool z5) := (blk_cell KB3.out.1 9).trans rfl; have hc10 : W3.cell? ⟨g5, 10, none⟩ = some (.slice AB0 bs.length cb0) := (blk_cell KB3.out.1 10).trans rfl) | (go_at_call 18; (with_reducible refine (RG.out W3).mono ?_); rintro e W4 ⟨rfl, hb⟩; have S4 := Aside0.mk (S3.out.below hb); have HB4 := Aside0.mk (below_then HB3.out HB3.out.size hb); have KB4 := Aside0.mk (KB3.out.below hb); clear hb S3 HB3 KB3; clear hc0 hc1 hc2 hc3 hc4 hc5 hc6 hc7 hc8 hc9 hc10; have hc0 : W4.cell? ⟨g5, 0, none⟩ = some (.int .i64 2) := (blk_cell KB4.out.1 0).trans rfl; have hc1 : W4.cell? ⟨g5, 1, none⟩ = some (.int .u64 at_) := (blk_cell KB4.out.1 1).trans rfl; have hc2 : W4.cell? ⟨g5, 2, none⟩ = some (.int .i64 n) := (blk_cell KB4.out.1 2).trans rfl; have hc3 : W4.cell? ⟨g5, 3, none⟩ = some (.int .u64 u) := (blk_cell KB4.out.1 3).trans rfl; have hc4 : W4.cell? ⟨g5, 4, none⟩ = some (.int .u64 z0) := (blk_cell KB4.out.1 4).trans rfl; have hc5 : W4.cell? ⟨g5, 5, none⟩ = some (.int .u64 z1) := (blk_cell KB4.out.1 5).trans rfl; have hc6 : W4.cell? ⟨g5, 6, none⟩ = some (.int .u64 z2) := (blk_cell KB4.out.1 6).trans rfl; have hc7 : W4.cell? ⟨g5, 7, none⟩ = some (.int .i64 z3) := (blk_cell KB4.out.1 7).trans rfl; have hc8 : W4.cell? ⟨g5, 8, none⟩ = some (.int .i64 z4) := (blk_cell KB4.out.1 8).trans rfl; have hc9 : W4.cell? ⟨g5, 9, none⟩ = some (.bool z5) := (blk_cell KB4.out.1 9).trans rfl; have hc10 : W4.cell? ⟨g5, 10, none⟩ = some (.slice AB0 bs.length cb0) := (blk_cell KB4.out.1 10).trans rfl) | (go_at_call 14; (with_reducible refine (sPages S4.out OK.out).mono ?_); rintro e W5 ⟨v, rfl, hR, hb⟩; rw [← EP.out] at hR; obtain ⟨AP, kp, rfl, hle, hK⟩ := Keeps.new S4.out hR hb; have RP5 := Aside0.mk hK; have HLAP := Aside0.mk hle; have S5 := Aside0.mk (S4.out.below hb); have HB5 := Aside0.mk (below_then HB4.out HB4.out.size hb); have KB5 := Aside0.mk (KB4.out.below hb); clear hR hb hle hK S4 HB4 KB4) | (go_at_call 15; (with_reducible refine (sTags S5.out OK.out).mono ?_); rintro e W6 ⟨v, rfl, hR, hb⟩; rw [← ET.out] at hR; obtain ⟨AT, kt, rfl, hle, hK⟩ := Keeps.new S5.out hR hb; have RT6 := Aside0.mk hK; have HLAT := Aside0.mk hle; have S6 := Aside0.mk (S5.out.below hb); have HB6 := Aside0.mk (below_then HB5.out HB5.out.size hb); have RP6 := Aside0.mk (RP5.out.below hb); have KB6 := Aside0.mk (KB5.out.below hb); clear hR hb hle hK S5 HB5 RP5 KB5) | fail)
        obtain ⟨WB, hWB⟩ : ∃ WB, WB = W6 := ⟨_, rfl⟩
        subst hWB
        go_loopw [12, 13] (fun va vb wr => ∃ (j : Nat), vb = .int .i64 j ∧ j ≤ P.length ∧ Aside0 (Kd.R (Kd.int .u8) 5 wr WB.heap.size (fun _ => True) va (catB M1 P j)) ∧ Aside0 (Below WB.heap.size WB wr)) (fun _ vb _ => P.length - (intOf vb).toNat)
        case atStart => exact ⟨0, rfl, by omega, ⟨Kd.R_nil _ _ _ _ _⟩, ⟨Below.refl _ _⟩⟩
        case round =>
          obtain ⟨j, rfl, hj, HO, HBl⟩ := hrel
          by_cases hlt : j < P.length
          · have W3' := next64 hlt (by omega)
            obtain ⟨ad, eA, hx0⟩ := Kd.at_int (RP6.out.below HBl.out).now (j : Int) (by omega) (by omega)
            cases eA
            rw [Int.toNat_natCast] at hx0
            obtain ⟨b0, b1⟩ := HP.out _ (rd_mem hlt)
            have EC := Aside0.mk (catB_next M1 hlt)
            have LX := Aside0.mk (And.intro (catB_len M1 P j) (bytes_256 M1 (rd P (j : Int) * 256)))
            have SL := Aside0.mk (S6.out.below HBl.out)
            generalize rd P (j : Int) = p at hx0 b0 b1 EC LX
            obtain ⟨bx, hbx⟩ : ∃ bx, bx = tagmem_Mem_Bytes.f M1 (p * 256) 256 := ⟨_, rfl⟩
            rw [← hbx] at EC LX
            have EX := Aside0.mk hbx
            have V1 : IntKind.u64.wrap (p * 256) = p * 256 := u64w (by omega) (by omega)
            have p0 : 0 ≤ p * 256 := by omega
            have p1 : p * 256 ≤ 18446744073709551615 := by omega
            generalize catB M1 P j = l at HO EC LX
            clear hbx
            go_wp2_with (first | (go_at_call 23; (with_reducible refine (sBytes SL.out (p * 256) 256 p0 p1).mono ?_); rintro e W8 ⟨v, rfl, hR, hb⟩; rw [← EX.out] at hR; obtain ⟨Ax, kx, rfl, hle, hC⟩ := Kd.R_reads hR; have HRx := Aside0.mk hC; have HOa := Aside0.mk (Kd.R_below HO.out hb); have HBa := Aside0.mk (below_step HBl.out hb); clear hR hb hle hC) | ((with_reducible refine gate_builtin (b := .append) (xs := #[.tmp 49, .tmp 56]) rfl ?_); at_builtin; refine Kd.R_append_rows (Kd.int .u8) (Rr := (Kd.int .u8).K W8) (w0 := WB) WB.heap.size rfl (.tmp 49) (.tmp 56) 51 5 (.int .u8 0) 1 rfl Try.underlying51 info5 rfl (by decide) (by omega) u12 l bx Ax bx.length kx (fun _ => True) (fun _ => False) rfl rfl HOa.out HRx.out (fun _ _ h => h) (fun _ hk => hk.elim) (fun _ _ => trivial) HBa.out HBa.out.size (by have := LX.out; omega) ?_; intro v3 w3 ho hb hg hat; rw [← EC.out] at ho; have HO3 := Aside0.mk ho; have HB3' := Aside0.mk hb; clear ho hb hg hat) | fail)
            exact ⟨⟨j + 1, by first | rfl | rw [W3'], hlt, HO3, HB3'⟩, by first | exact round_meas hlt | (rw [W3']; exact round_meas hlt)⟩
          · obtain rfl : j = P.length := by omega
            obtain ⟨ABy, kb, rfl, hleB, hKB⟩ := Keeps.new S6.out HO.out HBl.out
            have RB7 := Aside0.mk hKB
            have HLB := Aside0.mk hleB
            have S7 := Aside0.mk (S6.out.below HBl.out)
            have HB7 := Aside0.mk (below_then HB6.out HB6.out.size HBl.out)
            have RP7 := Aside0.mk (RP6.out.below HBl.out)
            have RT7 := Aside0.mk (RT6.out.below HBl.out)
            have KB7 := Aside0.mk (KB6.out.below HBl.out)
            clear hKB hleB HO hc0 hc1 hc2 hc3 hc4 hc5 hc6 hc7 hc8 hc9 hc10
            obtain ⟨W7, hW7⟩ : ∃ W7, W7 = wr := ⟨_, rfl⟩
            subst hW7
            have hc0 : W7.cell? ⟨g5, 0, none⟩ = some (.int .i64 2) := (blk_cell KB7.out.1 0).trans rfl; have hc1 : W7.cell? ⟨g5, 1, none⟩ = some (.int .u64 at_) := (blk_cell KB7.out.1 1).trans rfl; have hc2 : W7.cell? ⟨g5, 2, none⟩ = some (.int .i64 n) := (blk_cell KB7.out.1 2).trans rfl; have hc3 : W7.cell? ⟨g5, 3, none⟩ = some (.int .u64 u) := (blk_cell KB7.out.1 3).trans rfl; have hc4 : W7.cell? ⟨g5, 4, none⟩ = some (.int .u64 z0) := (blk_cell KB7.out.1 4).trans rfl; have hc5 : W7.cell? ⟨g5, 5, none⟩ = some (.int .u64 z1) := (blk_cell KB7.out.1 5).trans rfl; have hc6 : W7.cell? ⟨g5, 6, none⟩ = some (.int .u64 z2) := (blk_cell KB7.out.1 6).trans rfl; have hc7 : W7.cell? ⟨g5, 7, none⟩ = some (.int .i64 z3) := (blk_cell KB7.out.1 7).trans rfl; have hc8 : W7.cell? ⟨g5, 8, none⟩ = some (.int .i64 z4) := (blk_cell KB7.out.1 8).trans rfl; have hc9 : W7.cell? ⟨g5, 9, none⟩ = some (.bool z5) := (blk_cell KB7.out.1 9).trans rfl; have hc10 : W7.cell? ⟨g5, 10, none⟩ = some (.slice AB0 bs.length cb0) := (blk_cell KB7.out.1 10).trans rfl
            go_wp2_with (first | (go_at_call 25; (with_reducible refine (sUnmap S7.out HB7.out HB7.out.size at_ n a0 a1 PO.out).mono ?_); rintro e W8 ⟨rfl, ⟨L8, cl8, hs, hL⟩, hb, hu⟩; have S8 := Aside0.mk hs; have HB8 := Aside0.mk hb; have RP8 := Aside0.mk (RP7.out.step hL hu); have RT8 := Aside0.mk (RT7.out.step hL hu); have RB8 := Aside0.mk (RB7.out.step hL hu); clear hs hL hb hu S7 HB7 RP7 RT7 RB7) | (go_at_call 14; (with_reducible refine (sPages S8.out OK.out).mono ?_); rintro e W9 ⟨v, rfl, hR, hb⟩; rw [← EP.out] at hR; obtain ⟨AU, ku, rfl, hle, hK⟩ := Keeps.new S8.out hR hb; have RU9 := Aside0.mk hK; have HLAU := Aside0.mk hle; have S9 := Aside0.mk (S8.out.below hb); have HB9 := Aside0.mk (below_then HB8.out HB8.out.size hb); have RP9 := Aside0.mk (RP8.out.below hb); have RT9 := Aside0.mk (RT8.out.below hb); have RB9 := Aside0.mk (RB8.out.below hb); clear hR hb hle hK S8 HB8 RP8 RT8 RB8) | (go_at_call 15; (with_reducible refine (sTags S9.out OK.out).mono ?_); rintro e W10 ⟨v, rfl, hR, hb⟩; rw [← ET.out] at hR; obtain ⟨AV, kv, rfl, hle, hK⟩ := Keeps.new S9.out hR hb; have RV10 := Aside0.mk hK; have HLAV := Aside0.mk hle; have S10 := Aside0.mk (S9.out.below hb); have HB10 := Aside0.mk (below_then HB9.out HB9.out.size hb); have RP10 := Aside0.mk (RP9.out.below hb); have RT10 := Aside0.mk (RT9.out.below hb); have RB10 := Aside0.mk (RB9.out.below hb); have RU10 := Aside0.mk (RU9.out.below hb); clear hR hb hle hK S9 HB9 RP9 RT9 RB9 RU9) | fail)
            clear HBl
            obtain ⟨WB, hWB⟩ : ∃ WB, WB = W10 := ⟨_, rfl⟩
            subst hWB
            go_loopw [17, 18] (fun va vb wr => ∃ (j : Nat), vb = .int .i64 j ∧ j ≤ P.length ∧ Aside0 (Kd.R (Kd.int .u8) 5 wr WB.heap.size (fun _ => True) va (catB M1 P j)) ∧ Aside0 (Below WB.heap.size WB wr)) (fun _ vb _ => P.length - (intOf vb).toNat)
            case atStart => exact ⟨0, rfl, by omega, ⟨Kd.R_nil _ _ _ _ _⟩, ⟨Below.refl _ _⟩⟩
            case round =>
              obtain ⟨j, rfl, hj, HO, HBl⟩ := hrel
              by_cases hlt : j < P.length
              · have W3' := next64 hlt (by omega)
                obtain ⟨ad, eA, hx0⟩ := Kd.at_int (RU10.out.below HBl.out).now (j : Int) (by omega) (by omega)
                cases eA
                rw [Int.toNat_natCast] at hx0
                obtain ⟨b0, b1⟩ := HP.out _ (rd_mem hlt)
                have EC := Aside0.mk (catB_next M1 hlt)
                have LX := Aside0.mk (And.intro (catB_len M1 P j) (bytes_256 M1 (rd P (j : Int) * 256)))
                have SL := Aside0.mk (S10.out.below HBl.out)
                generalize rd P (j : Int) = p at hx0 b0 b1 EC LX
                obtain ⟨bx, hbx⟩ : ∃ bx, bx = tagmem_Mem_Bytes.f M1 (p * 256) 256 := ⟨_, rfl⟩
                rw [← hbx] at EC LX
                have EX := Aside0.mk hbx
                have V1 : IntKind.u64.wrap (p * 256) = p * 256 := u64w (by omega) (by omega)
                have p0 : 0 ≤ p * 256 := by omega
                have p1 : p * 256 ≤ 18446744073709551615 := by omega
                generalize catB M1 P j = l at HO EC LX
                clear hbx
                go_wp2_with (first | (go_at_call 23; (with_reducible refine (sBytes SL.out (p * 256) 256 p0 p1).mono ?_); rintro e W8 ⟨v, rfl, hR, hb⟩; rw [← EX.out] at hR; obtain ⟨Ax, kx, rfl, hle, hC⟩ := Kd.R_reads hR; have HRx := Aside0.mk hC; have HOa := Aside0.mk (Kd.R_below HO.out hb); have HBa := Aside0.mk (below_step HBl.out hb); clear hR hb hle hC) | ((with_reducible refine gate_builtin (b := .append) (xs := #[.tmp 116, .tmp 123]) rfl ?_); at_builtin; refine Kd.R_append_rows (Kd.int .u8) (Rr := (Kd.int .u8).K W8) (w0 := WB) WB.heap.size rfl (.tmp 116) (.tmp 123) 51 5 (.int .u8 0) 1 rfl Try.underlying51 info5 rfl (by decide) (by omega) u17 l bx Ax bx.length kx (fun _ => True) (fun _ => False) rfl rfl HOa.out HRx.out (fun _ _ h => h) (fun _ hk => hk.elim) (fun _ _ => trivial) HBa.out HBa.out.size (by have := LX.out; omega) ?_; intro v3 w3 ho hb hg hat; rw [← EC.out] at ho; have HO3 := Aside0.mk ho; have HB3' := Aside0.mk hb; clear ho hb hg hat) | fail)
                exact ⟨⟨j + 1, by first | rfl | rw [W3'], hlt, HO3, HB3'⟩, by first | exact round_meas hlt | (rw [W3']; exact round_meas hlt)⟩
              · obtain rfl : j = P.length := by omega
                obtain ⟨ACy, kc, rfl, hleC, hKC⟩ := Keeps.new S10.out HO.out HBl.out
                have CC11 := Aside0.mk hKC.now
                have HLC := Aside0.mk hleC
                have HB11 := Aside0.mk (below_then HB10.out HB10.out.size HBl.out)
                have CP11 := Aside0.mk (RP10.out.below HBl.out).now
                have CT11 := Aside0.mk (RT10.out.below HBl.out).now
                have CB11 := Aside0.mk (RB10.out.below HBl.out).now
                have CU11 := Aside0.mk (RU10.out.below HBl.out).now
                have CV11 := Aside0.mk (RV10.out.below HBl.out).now
                clear hKC hleC HO HBl
                obtain ⟨W11, hW11⟩ : ∃ W11, W11 = wr := ⟨_, rfl⟩
                subst hW11
                go_wp2_with (first | (go_at_call 16; refine (sameU_calls AP kp P AU ku P CP11.out HLAP.out CU11.out HLAU.out SZ1.out).mono ?_; rintro e W12 ⟨rfl, hd⟩; have hb : Below W11.heap.size W11 W12 := hd; have HB12 := Aside0.mk (below_then HB11.out HB11.out.size hb); have CP12 := Aside0.mk (Kd.C_below CP11.out hb); have CT12 := Aside0.mk (Kd.C_below CT11.out hb); have CB12 := Aside0.mk (Kd.C_below CB11.out hb); have CU12 := Aside0.mk (Kd.C_below CU11.out hb); have CV12 := Aside0.mk (Kd.C_below CV11.out hb); have CC12 := Aside0.mk (Kd.C_below CC11.out hb); clear hd hb HB11 CP11 CT11 CB11 CU11 CV11 CC11) | (go_at_call 16; refine (sameU_calls AT kt Tg AV kv Tg CT12.out HLAT.out CV12.out HLAV.out SZ2.out).mono ?_; rintro e W13 ⟨rfl, hd⟩; have hb : Below W12.heap.size W12 W13 := hd; have HB13 := Aside0.mk (below_then HB12.out HB12.out.size hb); have CB13 := Aside0.mk (Kd.C_below CB12.out hb); have CC13 := Aside0.mk (Kd.C_below CC12.out hb); clear hd hb HB12 CB12 CC12) | (go_at_call 27; refine (same_calls ABy kb (catB M1 P P.length) ACy kc (catB M1 P P.length) CB13.out HLB.out CC13.out HLC.out SZ3.out).mono ?_; rintro e W14 ⟨rfl, hd⟩; have HB14 := Aside0.mk (below_then HB13.out HB13.out.size hd.below); clear hd) | fail)
                go_ret
                exact ⟨rfl, below_then HB2.out HB2.out.size HB14.out⟩
    by_cases k3 : d = 3
    · subst k3
      obtain ⟨M1, q, ho, he⟩ := hf3
      by_cases hq : q = 0
      · subst hq
        have PO := Aside0.mk ho
        clear ho he
        go_enter Try.func5, Try.ntmps5
        go_wp2_with (first | ((with_reducible refine gate_dst (N := 5) rfl ?_); refine box_event ?hg (N := 5) ?hd (cs := #[.int .i64 3, .int .u64 at_, .int .i64 n, .int .u64 u, .int .u64 z0, .int .u64 z1, .int .u64 z2, .int .i64 z3, .int .i64 z4, .bool z5, .slice AB0 bs.length cb0]) (t := 53) ?hr ?_; (case hd => rfl); (case hg => rfl); (case hr => first | (go_simp; done) | (go_simp; rfl)); intro g5 hgb W1 hbox hb; have HB1 := Aside0.mk hb; have B1 := Aside0.mk hbox; clear hb hbox hgb) | (go_at_call 10; refine (AW.out W1).mono ?_; rintro e W2 ⟨rfl, hb⟩; have HB2 := Aside0.mk (below_step HB1.out hb); have B2 := Aside0.mk (blk_below B1.out hb); clear hb HB1 B1) | (go_at_call 17; (with_reducible refine (MD.out W2 HB2.out).mono ?_); rintro e W3 ⟨hv, hb⟩; rw [HN.out] at hv; obtain ⟨g, gm, L3, cl3, he, hM, q1, q2, q3⟩ := hv; subst he; have S3 := Aside0.mk (solo hM q1 q2 q3); have HB3 := Aside0.mk hb; have KB3 := Aside0.mk (BKeepT.old (solo hM q1 q2 q3) B2.out hb); clear hM q1 q2 q3 hb B2; have hc0 : W3.cell? ⟨g5, 0, none⟩ = some (.int .i64 3) := (blk_cell KB3.out.1 0).trans rfl; have hc1 : W3.cell? ⟨g5, 1, none⟩ = some (.int .u64 at_) := (blk_cell KB3.out.1 1).trans rfl; have hc2 : W3.cell? ⟨g5, 2, none⟩ = some (.int .i64 n) := (blk_cell KB3.out.1 2).trans rfl; have hc3 : W3.cell? ⟨g5, 3, none⟩ = some (.int .u64 u) := (blk_cell KB3.out.1 3).trans rfl; have hc4 : W3.cell? ⟨g5, 4, none⟩ = some (.int .u64 z0) := (blk_cell KB3.out.1 4).trans rfl; have hc5 : W3.cell? ⟨g5, 5, none⟩ = some (.int .u64 z1) := (blk_cell KB3.out.1 5).trans rfl; have hc6 : W3.cell? ⟨g5, 6, none⟩ = some (.int .u64 z2) := (blk_cell KB3.out.1 6).trans rfl; have hc7 : W3.cell? ⟨g5, 7, none⟩ = some (.int .i64 z3) := (blk_cell KB3.out.1 7).trans rfl; have hc8 : W3.cell? ⟨g5, 8, none⟩ = some (.int .i64 z4) := (blk_cell KB3.out.1 8).trans rfl; have hc9 : W3.cell? ⟨g5, 9, none⟩ = some (.bool z5) := (blk_cell KB3.out.1 9).trans rfl; have hc10 : W3.cell? ⟨g5, 10, none⟩ = some (.slice AB0 bs.length cb0) := (blk_cell KB3.out.1 10).trans rfl) | (go_at_call 18; (with_reducible refine (RG.out W3).mono ?_); rintro e W4 ⟨rfl, hb⟩; have S4 := Aside0.mk (S3.out.below hb); have HB4 := Aside0.mk (below_then HB3.out HB3.out.size hb); have KB4 := Aside0.mk (KB3.out.below hb); clear hb S3 HB3 KB3; clear hc0 hc1 hc2 hc3 hc4 hc5 hc6 hc7 hc8 hc9 hc10; have hc0 : W4.cell? ⟨g5, 0, none⟩ = some (.int .i64 3) := (blk_cell KB4.out.1 0).trans rfl; have hc1 : W4.cell? ⟨g5, 1, none⟩ = some (.int .u64 at_) := (blk_cell KB4.out.1 1).trans rfl; have hc2 : W4.cell? ⟨g5, 2, none⟩ = some (.int .i64 n) := (blk_cell KB4.out.1 2).trans rfl; have hc3 : W4.cell? ⟨g5, 3, none⟩ = some (.int .u64 u) := (blk_cell KB4.out.1 3).trans rfl; have hc4 : W4.cell? ⟨g5, 4, none⟩ = some (.int .u64 z0) := (blk_cell KB4.out.1 4).trans rfl; have hc5 : W4.cell? ⟨g5, 5, none⟩ = some (.int .u64 z1) := (blk_cell KB4.out.1 5).trans rfl; have hc6 : W4.cell? ⟨g5, 6, none⟩ = some (.int .u64 z2) := (blk_cell KB4.out.1 6).trans rfl; have hc7 : W4.cell? ⟨g5, 7, none⟩ = some (.int .i64 z3) := (blk_cell KB4.out.1 7).trans rfl; have hc8 : W4.cell? ⟨g5, 8, none⟩ = some (.int .i64 z4) := (blk_cell KB4.out.1 8).trans rfl; have hc9 : W4.cell? ⟨g5, 9, none⟩ = some (.bool z5) := (blk_cell KB4.out.1 9).trans rfl; have hc10 : W4.cell? ⟨g5, 10, none⟩ = some (.slice AB0 bs.length cb0) := (blk_cell KB4.out.1 10).trans rfl) | (go_at_call 14; (with_reducible refine (sPages S4.out OK.out).mono ?_); rintro e W5 ⟨v, rfl, hR, hb⟩; rw [← EP.out] at hR; obtain ⟨AP, kp, rfl, hle, hK⟩ := Keeps.new S4.out hR hb; have RP5 := Aside0.mk hK; have HLAP := Aside0.mk hle; have S5 := Aside0.mk (S4.out.below hb); have HB5 := Aside0.mk (below_then HB4.out HB4.out.size hb); have KB5 := Aside0.mk (KB4.out.below hb); clear hR hb hle hK S4 HB4 KB4) | (go_at_call 15; (with_reducible refine (sTags S5.out OK.out).mono ?_); rintro e W6 ⟨v, rfl, hR, hb⟩; rw [← ET.out] at hR; obtain ⟨AT, kt, rfl, hle, hK⟩ := Keeps.new S5.out hR hb; have RT6 := Aside0.mk hK; have HLAT := Aside0.mk hle; have S6 := Aside0.mk (S5.out.below hb); have HB6 := Aside0.mk (below_then HB5.out HB5.out.size hb); have RP6 := Aside0.mk (RP5.out.below hb); have KB6 := Aside0.mk (KB5.out.below hb); clear hR hb hle hK S5 HB5 RP5 KB5) | fail)
        obtain ⟨WB, hWB⟩ : ∃ WB, WB = W6 := ⟨_, rfl⟩
        subst hWB
        go_loopw [12, 13] (fun va vb wr => ∃ (j : Nat), vb = .int .i64 j ∧ j ≤ P.length ∧ Aside0 (Kd.R (Kd.int .u8) 5 wr WB.heap.size (fun _ => True) va (catB M P j)) ∧ Aside0 (Below WB.heap.size WB wr)) (fun _ vb _ => P.length - (intOf vb).toNat)
        case atStart => exact ⟨0, rfl, by omega, ⟨Kd.R_nil _ _ _ _ _⟩, ⟨Below.refl _ _⟩⟩
        case round =>
          obtain ⟨j, rfl, hj, HO, HBl⟩ := hrel
          by_cases hlt : j < P.length
          · have W3' := next64 hlt (by omega)
            obtain ⟨ad, eA, hx0⟩ := Kd.at_int (RP6.out.below HBl.out).now (j : Int) (by omega) (by omega)
            cases eA
            rw [Int.toNat_natCast] at hx0
            obtain ⟨b0, b1⟩ := HP.out _ (rd_mem hlt)
            have EC := Aside0.mk (catB_next M hlt)
            have LX := Aside0.mk (And.intro (catB_len M P j) (bytes_256 M (rd P (j : Int) * 256)))
            have SL := Aside0.mk (S6.out.below HBl.out)
            generalize rd P (j : Int) = p at hx0 b0 b1 EC LX
            obtain ⟨bx, hbx⟩ : ∃ bx, bx = tagmem_Mem_Bytes.f M (p * 256) 256 := ⟨_, rfl⟩
            rw [← hbx] at EC LX
            have EX := Aside0.mk hbx
            have V1 : IntKind.u64.wrap (p * 256) = p * 256 := u64w (by omega) (by omega)
            have p0 : 0 ≤ p * 256 := by omega
            have p1 : p * 256 ≤ 18446744073709551615 := by omega
            generalize catB M P j = l at HO EC LX
            clear hbx
            go_wp2_with (first | (go_at_call 23; (with_reducible refine (sBytes SL.out (p * 256) 256 p0 p1).mono ?_); rintro e W8 ⟨v, rfl, hR, hb⟩; rw [← EX.out] at hR; obtain ⟨Ax, kx, rfl, hle, hC⟩ := Kd.R_reads hR; have HRx := Aside0.mk hC; have HOa := Aside0.mk (Kd.R_below HO.out hb); have HBa := Aside0.mk (below_step HBl.out hb); clear hR hb hle hC) | ((with_reducible refine gate_builtin (b := .append) (xs := #[.tmp 49, .tmp 56]) rfl ?_); at_builtin; refine Kd.R_append_rows (Kd.int .u8) (Rr := (Kd.int .u8).K W8) (w0 := WB) WB.heap.size rfl (.tmp 49) (.tmp 56) 51 5 (.int .u8 0) 1 rfl Try.underlying51 info5 rfl (by decide) (by omega) u12 l bx Ax bx.length kx (fun _ => True) (fun _ => False) rfl rfl HOa.out HRx.out (fun _ _ h => h) (fun _ hk => hk.elim) (fun _ _ => trivial) HBa.out HBa.out.size (by have := LX.out; omega) ?_; intro v3 w3 ho hb hg hat; rw [← EC.out] at ho; have HO3 := Aside0.mk ho; have HB3' := Aside0.mk hb; clear ho hb hg hat) | fail)
            exact ⟨⟨j + 1, by first | rfl | rw [W3'], hlt, HO3, HB3'⟩, by first | exact round_meas hlt | (rw [W3']; exact round_meas hlt)⟩
          · obtain rfl : j = P.length := by omega
            obtain ⟨ABy, kb, rfl, hleB, hKB⟩ := Keeps.new S6.out HO.out HBl.out
            have RB7 := Aside0.mk hKB
            have HLB := Aside0.mk hleB
            have S7 := Aside0.mk (S6.out.below HBl.out)
            have HB7 := Aside0.mk (below_then HB6.out HB6.out.size HBl.out)
            have RP7 := Aside0.mk (RP6.out.below HBl.out)
            have RT7 := Aside0.mk (RT6.out.below HBl.out)
            have KB7 := Aside0.mk (KB6.out.below HBl.out)
            clear hKB hleB HO hc0 hc1 hc2 hc3 hc4 hc5 hc6 hc7 hc8 hc9 hc10
            obtain ⟨W7, hW7⟩ : ∃ W7, W7 = wr := ⟨_, rfl⟩
            subst hW7
            have hc0 : W7.cell? ⟨g5, 0, none⟩ = some (.int .i64 3) := (blk_cell KB7.out.1 0).trans rfl; have hc1 : W7.cell? ⟨g5, 1, none⟩ = some (.int .u64 at_) := (blk_cell KB7.out.1 1).trans rfl; have hc2 : W7.cell? ⟨g5, 2, none⟩ = some (.int .i64 n) := (blk_cell KB7.out.1 2).trans rfl; have hc3 : W7.cell? ⟨g5, 3, none⟩ = some (.int .u64 u) := (blk_cell KB7.out.1 3).trans rfl; have hc4 : W7.cell? ⟨g5, 4, none⟩ = some (.int .u64 z0) := (blk_cell KB7.out.1 4).trans rfl; have hc5 : W7.cell? ⟨g5, 5, none⟩ = some (.int .u64 z1) := (blk_cell KB7.out.1 5).trans rfl; have hc6 : W7.cell? ⟨g5, 6, none⟩ = some (.int .u64 z2) := (blk_cell KB7.out.1 6).trans rfl; have hc7 : W7.cell? ⟨g5, 7, none⟩ = some (.int .i64 z3) := (blk_cell KB7.out.1 7).trans rfl; have hc8 : W7.cell? ⟨g5, 8, none⟩ = some (.int .i64 z4) := (blk_cell KB7.out.1 8).trans rfl; have hc9 : W7.cell? ⟨g5, 9, none⟩ = some (.bool z5) := (blk_cell KB7.out.1 9).trans rfl; have hc10 : W7.cell? ⟨g5, 10, none⟩ = some (.slice AB0 bs.length cb0) := (blk_cell KB7.out.1 10).trans rfl
            go_wp2_with (first | (go_at_call 21; (with_reducible refine (sStore S7.out HB7.out HB7.out.size at_ n u a0 a1 PO.out).mono ?_); rintro e W8 ⟨rfl, ⟨L8, cl8, hs, hL⟩, hb, hu⟩; have S8 := Aside0.mk hs; have HB8 := Aside0.mk hb; have RP8 := Aside0.mk (RP7.out.step hL hu); have RT8 := Aside0.mk (RT7.out.step hL hu); have RB8 := Aside0.mk (RB7.out.step hL hu); clear hs hL hb hu S7 HB7 RP7 RT7 RB7) | fail)
            go_ret
            exact ⟨rfl, below_then HB2.out HB2.out.size HB8.out⟩
      · obtain rfl : M1 = M := he hq
        have PO := Aside0.mk ho
        have dq : (q == 0) = false := beq_eq_false_iff_ne.2 hq
        clear ho he hq
        go_enter Try.func5, Try.ntmps5
        go_wp2_with (first | ((with_reducible refine gate_dst (N := 5) rfl ?_); refine box_event ?hg (N := 5) ?hd (cs := #[.int .i64 3, .int .u64 at_, .int .i64 n, .int .u64 u, .int .u64 z0, .int .u64 z1, .int .u64 z2, .int .i64 z3, .int .i64 z4, .bool z5, .slice AB0 bs.length cb0]) (t := 53) ?hr ?_; (case hd => rfl); (case hg => rfl); (case hr => first | (go_simp; done) | (go_simp; rfl)); intro g5 hgb W1 hbox hb; have HB1 := Aside0.mk hb; have B1 := Aside0.mk hbox; clear hb hbox hgb) | (go_at_call 10; refine (AW.out W1).mono ?_; rintro e W2 ⟨rfl, hb⟩; have HB2 := Aside0.mk (below_step HB1.out hb); have B2 := Aside0.mk (blk_below B1.out hb); clear hb HB1 B1) | (go_at_call 17; (with_reducible refine (MD.out W2 HB2.out).mono ?_); rintro e W3 ⟨hv, hb⟩; rw [HN.out] at hv; obtain ⟨g, gm, L3, cl3, he, hM, q1, q2, q3⟩ := hv; subst he; have S3 := Aside0.mk (solo hM q1 q2 q3); have HB3 := Aside0.mk hb; have KB3 := Aside0.mk (BKeepT.old (solo hM q1 q2 q3) B2.out hb); clear hM q1 q2 q3 hb B2; have hc0 : W3.cell? ⟨g5, 0, none⟩ = some (.int .i64 3) := (blk_cell KB3.out.1 0).trans rfl; have hc1 : W3.cell? ⟨g5, 1, none⟩ = some (.int .u64 at_) := (blk_cell KB3.out.1 1).trans rfl; have hc2 : W3.cell? ⟨g5, 2, none⟩ = some (.int .i64 n) := (blk_cell KB3.out.1 2).trans rfl; have hc3 : W3.cell? ⟨g5, 3, none⟩ = some (.int .u64 u) := (blk_cell KB3.out.1 3).trans rfl; have hc4 : W3.cell? ⟨g5, 4, none⟩ = some (.int .u64 z0) := (blk_cell KB3.out.1 4).trans rfl; have hc5 : W3.cell? ⟨g5, 5, none⟩ = some (.int .u64 z1) := (blk_cell KB3.out.1 5).trans rfl; have hc6 : W3.cell? ⟨g5, 6, none⟩ = some (.int .u64 z2) := (blk_cell KB3.out.1 6).trans rfl; have hc7 : W3.cell? ⟨g5, 7, none⟩ = some (.int .i64 z3) := (blk_cell KB3.out.1 7).trans rfl; have hc8 : W3.cell? ⟨g5, 8, none⟩ = some (.int .i64 z4) := (blk_cell KB3.out.1 8).trans rfl; have hc9 : W3.cell? ⟨g5, 9, none⟩ = some (.bool z5) := (blk_cell KB3.out.1 9).trans rfl; have hc10 : W3.cell? ⟨g5, 10, none⟩ = some (.slice AB0 bs.length cb0) := (blk_cell KB3.out.1 10).trans rfl) | (go_at_call 18; (with_reducible refine (RG.out W3).mono ?_); rintro e W4 ⟨rfl, hb⟩; have S4 := Aside0.mk (S3.out.below hb); have HB4 := Aside0.mk (below_then HB3.out HB3.out.size hb); have KB4 := Aside0.mk (KB3.out.below hb); clear hb S3 HB3 KB3; clear hc0 hc1 hc2 hc3 hc4 hc5 hc6 hc7 hc8 hc9 hc10; have hc0 : W4.cell? ⟨g5, 0, none⟩ = some (.int .i64 3) := (blk_cell KB4.out.1 0).trans rfl; have hc1 : W4.cell? ⟨g5, 1, none⟩ = some (.int .u64 at_) := (blk_cell KB4.out.1 1).trans rfl; have hc2 : W4.cell? ⟨g5, 2, none⟩ = some (.int .i64 n) := (blk_cell KB4.out.1 2).trans rfl; have hc3 : W4.cell? ⟨g5, 3, none⟩ = some (.int .u64 u) := (blk_cell KB4.out.1 3).trans rfl; have hc4 : W4.cell? ⟨g5, 4, none⟩ = some (.int .u64 z0) := (blk_cell KB4.out.1 4).trans rfl; have hc5 : W4.cell? ⟨g5, 5, none⟩ = some (.int .u64 z1) := (blk_cell KB4.out.1 5).trans rfl; have hc6 : W4.cell? ⟨g5, 6, none⟩ = some (.int .u64 z2) := (blk_cell KB4.out.1 6).trans rfl; have hc7 : W4.cell? ⟨g5, 7, none⟩ = some (.int .i64 z3) := (blk_cell KB4.out.1 7).trans rfl; have hc8 : W4.cell? ⟨g5, 8, none⟩ = some (.int .i64 z4) := (blk_cell KB4.out.1 8).trans rfl; have hc9 : W4.cell? ⟨g5, 9, none⟩ = some (.bool z5) := (blk_cell KB4.out.1 9).trans rfl; have hc10 : W4.cell? ⟨g5, 10, none⟩ = some (.slice AB0 bs.length cb0) := (blk_cell KB4.out.1 10).trans rfl) | (go_at_call 14; (with_reducible refine (sPages S4.out OK.out).mono ?_); rintro e W5 ⟨v, rfl, hR, hb⟩; rw [← EP.out] at hR; obtain ⟨AP, kp, rfl, hle, hK⟩ := Keeps.new S4.out hR hb; have RP5 := Aside0.mk hK; have HLAP := Aside0.mk hle; have S5 := Aside0.mk (S4.out.below hb); have HB5 := Aside0.mk (below_then HB4.out HB4.out.size hb); have KB5 := Aside0.mk (KB4.out.below hb); clear hR hb hle hK S4 HB4 KB4) | (go_at_call 15; (with_reducible refine (sTags S5.out OK.out).mono ?_); rintro e W6 ⟨v, rfl, hR, hb⟩; rw [← ET.out] at hR; obtain ⟨AT, kt, rfl, hle, hK⟩ := Keeps.new S5.out hR hb; have RT6 := Aside0.mk hK; have HLAT := Aside0.mk hle; have S6 := Aside0.mk (S5.out.below hb); have HB6 := Aside0.mk (below_then HB5.out HB5.out.size hb); have RP6 := Aside0.mk (RP5.out.below hb); have KB6 := Aside0.mk (KB5.out.below hb); clear hR hb hle hK S5 HB5 RP5 KB5) | fail)
        obtain ⟨WB, hWB⟩ : ∃ WB, WB = W6 := ⟨_, rfl⟩
        subst hWB
        go_loopw [12, 13] (fun va vb wr => ∃ (j : Nat), vb = .int .i64 j ∧ j ≤ P.length ∧ Aside0 (Kd.R (Kd.int .u8) 5 wr WB.heap.size (fun _ => True) va (catB M1 P j)) ∧ Aside0 (Below WB.heap.size WB wr)) (fun _ vb _ => P.length - (intOf vb).toNat)
        case atStart => exact ⟨0, rfl, by omega, ⟨Kd.R_nil _ _ _ _ _⟩, ⟨Below.refl _ _⟩⟩
        case round =>
          obtain ⟨j, rfl, hj, HO, HBl⟩ := hrel
          by_cases hlt : j < P.length
          · have W3' := next64 hlt (by omega)
            obtain ⟨ad, eA, hx0⟩ := Kd.at_int (RP6.out.below HBl.out).now (j : Int) (by omega) (by omega)
            cases eA
            rw [Int.toNat_natCast] at hx0
            obtain ⟨b0, b1⟩ := HP.out _ (rd_mem hlt)
            have EC := Aside0.mk (catB_next M1 hlt)
            have LX := Aside0.mk (And.intro (catB_len M1 P j) (bytes_256 M1 (rd P (j : Int) * 256)))
            have SL := Aside0.mk (S6.out.below HBl.out)
            generalize rd P (j : Int) = p at hx0 b0 b1 EC LX
            obtain ⟨bx, hbx⟩ : ∃ bx, bx = tagmem_Mem_Bytes.f M1 (p * 256) 256 := ⟨_, rfl⟩
            rw [← hbx] at EC LX
            have EX := Aside0.mk hbx
            have V1 : IntKind.u64.wrap (p * 256) = p * 256 := u64w (by omega) (by omega)
            have p0 : 0 ≤ p * 256 := by omega
            have p1 : p * 256 ≤ 18446744073709551615 := by omega
            generalize catB M1 P j = l at HO EC LX
            clear hbx
            go_wp2_with (first | (go_at_call 23; (with_reducible refine (sBytes SL.out (p * 256) 256 p0 p1).mono ?_); rintro e W8 ⟨v, rfl, hR, hb⟩; rw [← EX.out] at hR; obtain ⟨Ax, kx, rfl, hle, hC⟩ := Kd.R_reads hR; have HRx := Aside0.mk hC; have HOa := Aside0.mk (Kd.R_below HO.out hb); have HBa := Aside0.mk (below_step HBl.out hb); clear hR hb hle hC) | ((with_reducible refine gate_builtin (b := .append) (xs := #[.tmp 49, .tmp 56]) rfl ?_); at_builtin; refine Kd.R_append_rows (Kd.int .u8) (Rr := (Kd.int .u8).K W8) (w0 := WB) WB.heap.size rfl (.tmp 49) (.tmp 56) 51 5 (.int .u8 0) 1 rfl Try.underlying51 info5 rfl (by decide) (by omega) u12 l bx Ax bx.length kx (fun _ => True) (fun _ => False) rfl rfl HOa.out HRx.out (fun _ _ h => h) (fun _ hk => hk.elim) (fun _ _ => trivial) HBa.out HBa.out.size (by have := LX.out; omega) ?_; intro v3 w3 ho hb hg hat; rw [← EC.out] at ho; have HO3 := Aside0.mk ho; have HB3' := Aside0.mk hb; clear ho hb hg hat) | fail)
            exact ⟨⟨j + 1, by first | rfl | rw [W3'], hlt, HO3, HB3'⟩, by first | exact round_meas hlt | (rw [W3']; exact round_meas hlt)⟩
          · obtain rfl : j = P.length := by omega
            obtain ⟨ABy, kb, rfl, hleB, hKB⟩ := Keeps.new S6.out HO.out HBl.out
            have RB7 := Aside0.mk hKB
            have HLB := Aside0.mk hleB
            have S7 := Aside0.mk (S6.out.below HBl.out)
            have HB7 := Aside0.mk (below_then HB6.out HB6.out.size HBl.out)
            have RP7 := Aside0.mk (RP6.out.below HBl.out)
            have RT7 := Aside0.mk (RT6.out.below HBl.out)
            have KB7 := Aside0.mk (KB6.out.below HBl.out)
            clear hKB hleB HO hc0 hc1 hc2 hc3 hc4 hc5 hc6 hc7 hc8 hc9 hc10
            obtain ⟨W7, hW7⟩ : ∃ W7, W7 = wr := ⟨_, rfl⟩
            subst hW7
            have hc0 : W7.cell? ⟨g5, 0, none⟩ = some (.int .i64 3) := (blk_cell KB7.out.1 0).trans rfl; have hc1 : W7.cell? ⟨g5, 1, none⟩ = some (.int .u64 at_) := (blk_cell KB7.out.1 1).trans rfl; have hc2 : W7.cell? ⟨g5, 2, none⟩ = some (.int .i64 n) := (blk_cell KB7.out.1 2).trans rfl; have hc3 : W7.cell? ⟨g5, 3, none⟩ = some (.int .u64 u) := (blk_cell KB7.out.1 3).trans rfl; have hc4 : W7.cell? ⟨g5, 4, none⟩ = some (.int .u64 z0) := (blk_cell KB7.out.1 4).trans rfl; have hc5 : W7.cell? ⟨g5, 5, none⟩ = some (.int .u64 z1) := (blk_cell KB7.out.1 5).trans rfl; have hc6 : W7.cell? ⟨g5, 6, none⟩ = some (.int .u64 z2) := (blk_cell KB7.out.1 6).trans rfl; have hc7 : W7.cell? ⟨g5, 7, none⟩ = some (.int .i64 z3) := (blk_cell KB7.out.1 7).trans rfl; have hc8 : W7.cell? ⟨g5, 8, none⟩ = some (.int .i64 z4) := (blk_cell KB7.out.1 8).trans rfl; have hc9 : W7.cell? ⟨g5, 9, none⟩ = some (.bool z5) := (blk_cell KB7.out.1 9).trans rfl; have hc10 : W7.cell? ⟨g5, 10, none⟩ = some (.slice AB0 bs.length cb0) := (blk_cell KB7.out.1 10).trans rfl
            go_wp2_with (first | (go_at_call 21; (with_reducible refine (sStore S7.out HB7.out HB7.out.size at_ n u a0 a1 PO.out).mono ?_); rintro e W8 ⟨rfl, ⟨L8, cl8, hs, hL⟩, hb, hu⟩; have S8 := Aside0.mk hs; have HB8 := Aside0.mk hb; have RP8 := Aside0.mk (RP7.out.step hL hu); have RT8 := Aside0.mk (RT7.out.step hL hu); have RB8 := Aside0.mk (RB7.out.step hL hu); clear hs hL hb hu S7 HB7 RP7 RT7 RB7) | (go_at_call 14; (with_reducible refine (sPages S8.out OK.out).mono ?_); rintro e W9 ⟨v, rfl, hR, hb⟩; rw [← EP.out] at hR; obtain ⟨AU, ku, rfl, hle, hK⟩ := Keeps.new S8.out hR hb; have RU9 := Aside0.mk hK; have HLAU := Aside0.mk hle; have S9 := Aside0.mk (S8.out.below hb); have HB9 := Aside0.mk (below_then HB8.out HB8.out.size hb); have RP9 := Aside0.mk (RP8.out.below hb); have RT9 := Aside0.mk (RT8.out.below hb); have RB9 := Aside0.mk (RB8.out.below hb); clear hR hb hle hK S8 HB8 RP8 RT8 RB8) | (go_at_call 15; (with_reducible refine (sTags S9.out OK.out).mono ?_); rintro e W10 ⟨v, rfl, hR, hb⟩; rw [← ET.out] at hR; obtain ⟨AV, kv, rfl, hle, hK⟩ := Keeps.new S9.out hR hb; have RV10 := Aside0.mk hK; have HLAV := Aside0.mk hle; have S10 := Aside0.mk (S9.out.below hb); have HB10 := Aside0.mk (below_then HB9.out HB9.out.size hb); have RP10 := Aside0.mk (RP9.out.below hb); have RT10 := Aside0.mk (RT9.out.below hb); have RB10 := Aside0.mk (RB9.out.below hb); have RU10 := Aside0.mk (RU9.out.below hb); clear hR hb hle hK S9 HB9 RP9 RT9 RB9 RU9) | fail)
            clear HBl
            obtain ⟨WB, hWB⟩ : ∃ WB, WB = W10 := ⟨_, rfl⟩
            subst hWB
            go_loopw [17, 18] (fun va vb wr => ∃ (j : Nat), vb = .int .i64 j ∧ j ≤ P.length ∧ Aside0 (Kd.R (Kd.int .u8) 5 wr WB.heap.size (fun _ => True) va (catB M1 P j)) ∧ Aside0 (Below WB.heap.size WB wr)) (fun _ vb _ => P.length - (intOf vb).toNat)
            case atStart => exact ⟨0, rfl, by omega, ⟨Kd.R_nil _ _ _ _ _⟩, ⟨Below.refl _ _⟩⟩
            case round =>
              obtain ⟨j, rfl, hj, HO, HBl⟩ := hrel
              by_cases hlt : j < P.length
              · have W3' := next64 hlt (by omega)
                obtain ⟨ad, eA, hx0⟩ := Kd.at_int (RU10.out.below HBl.out).now (j : Int) (by omega) (by omega)
                cases eA
                rw [Int.toNat_natCast] at hx0
                obtain ⟨b0, b1⟩ := HP.out _ (rd_mem hlt)
                have EC := Aside0.mk (catB_next M1 hlt)
                have LX := Aside0.mk (And.intro (catB_len M1 P j) (bytes_256 M1 (rd P (j : Int) * 256)))
                have SL := Aside0.mk (S10.out.below HBl.out)
                generalize rd P (j : Int) = p at hx0 b0 b1 EC LX
                obtain ⟨bx, hbx⟩ : ∃ bx, bx = tagmem_Mem_Bytes.f M1 (p * 256) 256 := ⟨_, rfl⟩
                rw [← hbx] at EC LX
                have EX := Aside0.mk hbx
                have V1 : IntKind.u64.wrap (p * 256) = p * 256 := u64w (by omega) (by omega)
                have p0 : 0 ≤ p * 256 := by omega
                have p1 : p * 256 ≤ 18446744073709551615 := by omega
                generalize catB M1 P j = l at HO EC LX
                clear hbx
                go_wp2_with (first | (go_at_call 23; (with_reducible refine (sBytes SL.out (p * 256) 256 p0 p1).mono ?_); rintro e W8 ⟨v, rfl, hR, hb⟩; rw [← EX.out] at hR; obtain ⟨Ax, kx, rfl, hle, hC⟩ := Kd.R_reads hR; have HRx := Aside0.mk hC; have HOa := Aside0.mk (Kd.R_below HO.out hb); have HBa := Aside0.mk (below_step HBl.out hb); clear hR hb hle hC) | ((with_reducible refine gate_builtin (b := .append) (xs := #[.tmp 116, .tmp 123]) rfl ?_); at_builtin; refine Kd.R_append_rows (Kd.int .u8) (Rr := (Kd.int .u8).K W8) (w0 := WB) WB.heap.size rfl (.tmp 116) (.tmp 123) 51 5 (.int .u8 0) 1 rfl Try.underlying51 info5 rfl (by decide) (by omega) u17 l bx Ax bx.length kx (fun _ => True) (fun _ => False) rfl rfl HOa.out HRx.out (fun _ _ h => h) (fun _ hk => hk.elim) (fun _ _ => trivial) HBa.out HBa.out.size (by have := LX.out; omega) ?_; intro v3 w3 ho hb hg hat; rw [← EC.out] at ho; have HO3 := Aside0.mk ho; have HB3' := Aside0.mk hb; clear ho hb hg hat) | fail)
                exact ⟨⟨j + 1, by first | rfl | rw [W3'], hlt, HO3, HB3'⟩, by first | exact round_meas hlt | (rw [W3']; exact round_meas hlt)⟩
              · obtain rfl : j = P.length := by omega
                obtain ⟨ACy, kc, rfl, hleC, hKC⟩ := Keeps.new S10.out HO.out HBl.out
                have CC11 := Aside0.mk hKC.now
                have HLC := Aside0.mk hleC
                have HB11 := Aside0.mk (below_then HB10.out HB10.out.size HBl.out)
                have CP11 := Aside0.mk (RP10.out.below HBl.out).now
                have CT11 := Aside0.mk (RT10.out.below HBl.out).now
                have CB11 := Aside0.mk (RB10.out.below HBl.out).now
                have CU11 := Aside0.mk (RU10.out.below HBl.out).now
                have CV11 := Aside0.mk (RV10.out.below HBl.out).now
                clear hKC hleC HO HBl
                obtain ⟨W11, hW11⟩ : ∃ W11, W11 = wr := ⟨_, rfl⟩
                subst hW11
                go_wp2_with (first | (go_at_call 16; refine (sameU_calls AP kp P AU ku P CP11.out HLAP.out CU11.out HLAU.out SZ1.out).mono ?_; rintro e W12 ⟨rfl, hd⟩; have hb : Below W11.heap.size W11 W12 := hd; have HB12 := Aside0.mk (below_then HB11.out HB11.out.size hb); have CP12 := Aside0.mk (Kd.C_below CP11.out hb); have CT12 := Aside0.mk (Kd.C_below CT11.out hb); have CB12 := Aside0.mk (Kd.C_below CB11.out hb); have CU12 := Aside0.mk (Kd.C_below CU11.out hb); have CV12 := Aside0.mk (Kd.C_below CV11.out hb); have CC12 := Aside0.mk (Kd.C_below CC11.out hb); clear hd hb HB11 CP11 CT11 CB11 CU11 CV11 CC11) | (go_at_call 16; refine (sameU_calls AT kt Tg AV kv Tg CT12.out HLAT.out CV12.out HLAV.out SZ2.out).mono ?_; rintro e W13 ⟨rfl, hd⟩; have hb : Below W12.heap.size W12 W13 := hd; have HB13 := Aside0.mk (below_then HB12.out HB12.out.size hb); have CB13 := Aside0.mk (Kd.C_below CB12.out hb); have CC13 := Aside0.mk (Kd.C_below CC12.out hb); clear hd hb HB12 CB12 CC12) | (go_at_call 27; refine (same_calls ABy kb (catB M1 P P.length) ACy kc (catB M1 P P.length) CB13.out HLB.out CC13.out HLC.out SZ3.out).mono ?_; rintro e W14 ⟨rfl, hd⟩; have HB14 := Aside0.mk (below_then HB13.out HB13.out.size hd.below); clear hd) | fail)
                go_ret
                exact ⟨rfl, below_then HB2.out HB2.out.size HB14.out⟩
    by_cases k4 : d = 4
    · subst k4
      obtain ⟨M1, q, ho, he⟩ := hf4
      by_cases hq : q = 0
      · subst hq
        have PO := Aside0.mk ho
        clear ho he
        go_enter Try.func5, Try.ntmps5
        go_wp2_with (first | ((with_reducible refine gate_dst (N := 5) rfl ?_); refine box_event ?hg (N := 5) ?hd (cs := #[.int .i64 4, .int .u64 at_, .int .i64 n, .int .u64 u, .int .u64 z0, .int .u64 z1, .int .u64 z2, .int .i64 z3, .int .i64 z4, .bool z5, .slice AB0 bs.length cb0]) (t := 53) ?hr ?_; (case hd => rfl); (case hg => rfl); (case hr => first | (go_simp; done) | (go_simp; rfl)); intro g5 hgb W1 hbox hb; have HB1 := Aside0.mk hb; have B1 := Aside0.mk hbox; clear hb hbox hgb) | (go_at_call 10; refine (AW.out W1).mono ?_; rintro e W2 ⟨rfl, hb⟩; have HB2 := Aside0.mk (below_step HB1.out hb); have B2 := Aside0.mk (blk_below B1.out hb); clear hb HB1 B1) | (go_at_call 17; (with_reducible refine (MD.out W2 HB2.out).mono ?_); rintro e W3 ⟨hv, hb⟩; rw [HN.out] at hv; obtain ⟨g, gm, L3, cl3, he, hM, q1, q2, q3⟩ := hv; subst he; have S3 := Aside0.mk (solo hM q1 q2 q3); have HB3 := Aside0.mk hb; have KB3 := Aside0.mk (BKeepT.old (solo hM q1 q2 q3) B2.out hb); clear hM q1 q2 q3 hb B2; have hc0 : W3.cell? ⟨g5, 0, none⟩ = some (.int .i64 4) := (blk_cell KB3.out.1 0).trans rfl; have hc1 : W3.cell? ⟨g5, 1, none⟩ = some (.int .u64 at_) := (blk_cell KB3.out.1 1).trans rfl; have hc2 : W3.cell? ⟨g5, 2, none⟩ = some (.int .i64 n) := (blk_cell KB3.out.1 2).trans rfl; have hc3 : W3.cell? ⟨g5, 3, none⟩ = some (.int .u64 u) := (blk_cell KB3.out.1 3).trans rfl; have hc4 : W3.cell? ⟨g5, 4, none⟩ = some (.int .u64 z0) := (blk_cell KB3.out.1 4).trans rfl; have hc5 : W3.cell? ⟨g5, 5, none⟩ = some (.int .u64 z1) := (blk_cell KB3.out.1 5).trans rfl; have hc6 : W3.cell? ⟨g5, 6, none⟩ = some (.int .u64 z2) := (blk_cell KB3.out.1 6).trans rfl; have hc7 : W3.cell? ⟨g5, 7, none⟩ = some (.int .i64 z3) := (blk_cell KB3.out.1 7).trans rfl; have hc8 : W3.cell? ⟨g5, 8, none⟩ = some (.int .i64 z4) := (blk_cell KB3.out.1 8).trans rfl; have hc9 : W3.cell? ⟨g5, 9, none⟩ = some (.bool z5) := (blk_cell KB3.out.1 9).trans rfl; have hc10 : W3.cell? ⟨g5, 10, none⟩ = some (.slice AB0 bs.length cb0) := (blk_cell KB3.out.1 10).trans rfl) | (go_at_call 18; (with_reducible refine (RG.out W3).mono ?_); rintro e W4 ⟨rfl, hb⟩; have S4 := Aside0.mk (S3.out.below hb); have HB4 := Aside0.mk (below_then HB3.out HB3.out.size hb); have KB4 := Aside0.mk (KB3.out.below hb); clear hb S3 HB3 KB3; clear hc0 hc1 hc2 hc3 hc4 hc5 hc6 hc7 hc8 hc9 hc10; have hc0 : W4.cell? ⟨g5, 0, none⟩ = some (.int .i64 4) := (blk_cell KB4.out.1 0).trans rfl; have hc1 : W4.cell? ⟨g5, 1, none⟩ = some (.int .u64 at_) := (blk_cell KB4.out.1 1).trans rfl; have hc2 : W4.cell? ⟨g5, 2, none⟩ = some (.int .i64 n) := (blk_cell KB4.out.1 2).trans rfl; have hc3 : W4.cell? ⟨g5, 3, none⟩ = some (.int .u64 u) := (blk_cell KB4.out.1 3).trans rfl; have hc4 : W4.cell? ⟨g5, 4, none⟩ = some (.int .u64 z0) := (blk_cell KB4.out.1 4).trans rfl; have hc5 : W4.cell? ⟨g5, 5, none⟩ = some (.int .u64 z1) := (blk_cell KB4.out.1 5).trans rfl; have hc6 : W4.cell? ⟨g5, 6, none⟩ = some (.int .u64 z2) := (blk_cell KB4.out.1 6).trans rfl; have hc7 : W4.cell? ⟨g5, 7, none⟩ = some (.int .i64 z3) := (blk_cell KB4.out.1 7).trans rfl; have hc8 : W4.cell? ⟨g5, 8, none⟩ = some (.int .i64 z4) := (blk_cell KB4.out.1 8).trans rfl; have hc9 : W4.cell? ⟨g5, 9, none⟩ = some (.bool z5) := (blk_cell KB4.out.1 9).trans rfl; have hc10 : W4.cell? ⟨g5, 10, none⟩ = some (.slice AB0 bs.length cb0) := (blk_cell KB4.out.1 10).trans rfl) | (go_at_call 14; (with_reducible refine (sPages S4.out OK.out).mono ?_); rintro e W5 ⟨v, rfl, hR, hb⟩; rw [← EP.out] at hR; obtain ⟨AP, kp, rfl, hle, hK⟩ := Keeps.new S4.out hR hb; have RP5 := Aside0.mk hK; have HLAP := Aside0.mk hle; have S5 := Aside0.mk (S4.out.below hb); have HB5 := Aside0.mk (below_then HB4.out HB4.out.size hb); have KB5 := Aside0.mk (KB4.out.below hb); clear hR hb hle hK S4 HB4 KB4) | (go_at_call 15; (with_reducible refine (sTags S5.out OK.out).mono ?_); rintro e W6 ⟨v, rfl, hR, hb⟩; rw [← ET.out] at hR; obtain ⟨AT, kt, rfl, hle, hK⟩ := Keeps.new S5.out hR hb; have RT6 := Aside0.mk hK; have HLAT := Aside0.mk hle; have S6 := Aside0.mk (S5.out.below hb); have HB6 := Aside0.mk (below_then HB5.out HB5.out.size hb); have RP6 := Aside0.mk (RP5.out.below hb); have KB6 := Aside0.mk (KB5.out.below hb); clear hR hb hle hK S5 HB5 RP5 KB5) | fail)
        obtain ⟨WB, hWB⟩ : ∃ WB, WB = W6 := ⟨_, rfl⟩
        subst hWB
        go_loopw [12, 13] (fun va vb wr => ∃ (j : Nat), vb = .int .i64 j ∧ j ≤ P.length ∧ Aside0 (Kd.R (Kd.int .u8) 5 wr WB.heap.size (fun _ => True) va (catB M P j)) ∧ Aside0 (Below WB.heap.size WB wr)) (fun _ vb _ => P.length - (intOf vb).toNat)
        case atStart => exact ⟨0, rfl, by omega, ⟨Kd.R_nil _ _ _ _ _⟩, ⟨Below.refl _ _⟩⟩
        case round =>
          obtain ⟨j, rfl, hj, HO, HBl⟩ := hrel
          by_cases hlt : j < P.length
          · have W3' := next64 hlt (by omega)
            obtain ⟨ad, eA, hx0⟩ := Kd.at_int (RP6.out.below HBl.out).now (j : Int) (by omega) (by omega)
            cases eA
            rw [Int.toNat_natCast] at hx0
            obtain ⟨b0, b1⟩ := HP.out _ (rd_mem hlt)
            have EC := Aside0.mk (catB_next M hlt)
            have LX := Aside0.mk (And.intro (catB_len M P j) (bytes_256 M (rd P (j : Int) * 256)))
            have SL := Aside0.mk (S6.out.below HBl.out)
            generalize rd P (j : Int) = p at hx0 b0 b1 EC LX
            obtain ⟨bx, hbx⟩ : ∃ bx, bx = tagmem_Mem_Bytes.f M (p * 256) 256 := ⟨_, rfl⟩
            rw [← hbx] at EC LX
            have EX := Aside0.mk hbx
            have V1 : IntKind.u64.wrap (p * 256) = p * 256 := u64w (by omega) (by omega)
            have p0 : 0 ≤ p * 256 := by omega
            have p1 : p * 256 ≤ 18446744073709551615 := by omega
            generalize catB M P j = l at HO EC LX
            clear hbx
            go_wp2_with (first | (go_at_call 23; (with_reducible refine (sBytes SL.out (p * 256) 256 p0 p1).mono ?_); rintro e W8 ⟨v, rfl, hR, hb⟩; rw [← EX.out] at hR; obtain ⟨Ax, kx, rfl, hle, hC⟩ := Kd.R_reads hR; have HRx := Aside0.mk hC; have HOa := Aside0.mk (Kd.R_below HO.out hb); have HBa := Aside0.mk (below_step HBl.out hb); clear hR hb hle hC) | ((with_reducible refine gate_builtin (b := .append) (xs := #[.tmp 49, .tmp 56]) rfl ?_); at_builtin; refine Kd.R_append_rows (Kd.int .u8) (Rr := (Kd.int .u8).K W8) (w0 := WB) WB.heap.size rfl (.tmp 49) (.tmp 56) 51 5 (.int .u8 0) 1 rfl Try.underlying51 info5 rfl (by decide) (by omega) u12 l bx Ax bx.length kx (fun _ => True) (fun _ => False) rfl rfl HOa.out HRx.out (fun _ _ h => h) (fun _ hk => hk.elim) (fun _ _ => trivial) HBa.out HBa.out.size (by have := LX.out; omega) ?_; intro v3 w3 ho hb hg hat; rw [← EC.out] at ho; have HO3 := Aside0.mk ho; have HB3' := Aside0.mk hb; clear ho hb hg hat) | fail)
            exact ⟨⟨j + 1, by first | rfl | rw [W3'], hlt, HO3, HB3'⟩, by first | exact round_meas hlt | (rw [W3']; exact round_meas hlt)⟩
          · obtain rfl : j = P.length := by omega
            obtain ⟨ABy, kb, rfl, hleB, hKB⟩ := Keeps.new S6.out HO.out HBl.out
            have RB7 := Aside0.mk hKB
            have HLB := Aside0.mk hleB
            have S7 := Aside0.mk (S6.out.below HBl.out)
            have HB7 := Aside0.mk (below_then HB6.out HB6.out.size HBl.out)
            have RP7 := Aside0.mk (RP6.out.below HBl.out)
            have RT7 := Aside0.mk (RT6.out.below HBl.out)
            have KB7 := Aside0.mk (KB6.out.below HBl.out)
            clear hKB hleB HO hc0 hc1 hc2 hc3 hc4 hc5 hc6 hc7 hc8 hc9 hc10
            obtain ⟨W7, hW7⟩ : ∃ W7, W7 = wr := ⟨_, rfl⟩
            subst hW7
            have hc0 : W7.cell? ⟨g5, 0, none⟩ = some (.int .i64 4) := (blk_cell KB7.out.1 0).trans rfl; have hc1 : W7.cell? ⟨g5, 1, none⟩ = some (.int .u64 at_) := (blk_cell KB7.out.1 1).trans rfl; have hc2 : W7.cell? ⟨g5, 2, none⟩ = some (.int .i64 n) := (blk_cell KB7.out.1 2).trans rfl; have hc3 : W7.cell? ⟨g5, 3, none⟩ = some (.int .u64 u) := (blk_cell KB7.out.1 3).trans rfl; have hc4 : W7.cell? ⟨g5, 4, none⟩ = some (.int .u64 z0) := (blk_cell KB7.out.1 4).trans rfl; have hc5 : W7.cell? ⟨g5, 5, none⟩ = some (.int .u64 z1) := (blk_cell KB7.out.1 5).trans rfl; have hc6 : W7.cell? ⟨g5, 6, none⟩ = some (.int .u64 z2) := (blk_cell KB7.out.1 6).trans rfl; have hc7 : W7.cell? ⟨g5, 7, none⟩ = some (.int .i64 z3) := (blk_cell KB7.out.1 7).trans rfl; have hc8 : W7.cell? ⟨g5, 8, none⟩ = some (.int .i64 z4) := (blk_cell KB7.out.1 8).trans rfl; have hc9 : W7.cell? ⟨g5, 9, none⟩ = some (.bool z5) := (blk_cell KB7.out.1 9).trans rfl; have hc10 : W7.cell? ⟨g5, 10, none⟩ = some (.slice AB0 bs.length cb0) := (blk_cell KB7.out.1 10).trans rfl
            go_wp2_with (first | (go_at_call 19; (with_reducible refine (sStoreCap S7.out HB7.out HB7.out.size at_ z0 z1 z2 z3 z4 z5 a0 a1 PO.out).mono ?_); rintro e W8 ⟨rfl, ⟨L8, cl8, hs, hL⟩, hb, hu⟩; have S8 := Aside0.mk hs; have HB8 := Aside0.mk hb; have RP8 := Aside0.mk (RP7.out.step hL hu); have RT8 := Aside0.mk (RT7.out.step hL hu); have RB8 := Aside0.mk (RB7.out.step hL hu); clear hs hL hb hu S7 HB7 RP7 RT7 RB7) | fail)
            go_ret
            exact ⟨rfl, below_then HB2.out HB2.out.size HB8.out⟩
      · obtain rfl : M1 = M := he hq
        have PO := Aside0.mk ho
        have dq : (q == 0) = false := beq_eq_false_iff_ne.2 hq
        clear ho he hq
        go_enter Try.func5, Try.ntmps5
        go_wp2_with (first | ((with_reducible refine gate_dst (N := 5) rfl ?_); refine box_event ?hg (N := 5) ?hd (cs := #[.int .i64 4, .int .u64 at_, .int .i64 n, .int .u64 u, .int .u64 z0, .int .u64 z1, .int .u64 z2, .int .i64 z3, .int .i64 z4, .bool z5, .slice AB0 bs.length cb0]) (t := 53) ?hr ?_; (case hd => rfl); (case hg => rfl); (case hr => first | (go_simp; done) | (go_simp; rfl)); intro g5 hgb W1 hbox hb; have HB1 := Aside0.mk hb; have B1 := Aside0.mk hbox; clear hb hbox hgb) | (go_at_call 10; refine (AW.out W1).mono ?_; rintro e W2 ⟨rfl, hb⟩; have HB2 := Aside0.mk (below_step HB1.out hb); have B2 := Aside0.mk (blk_below B1.out hb); clear hb HB1 B1) | (go_at_call 17; (with_reducible refine (MD.out W2 HB2.out).mono ?_); rintro e W3 ⟨hv, hb⟩; rw [HN.out] at hv; obtain ⟨g, gm, L3, cl3, he, hM, q1, q2, q3⟩ := hv; subst he; have S3 := Aside0.mk (solo hM q1 q2 q3); have HB3 := Aside0.mk hb; have KB3 := Aside0.mk (BKeepT.old (solo hM q1 q2 q3) B2.out hb); clear hM q1 q2 q3 hb B2; have hc0 : W3.cell? ⟨g5, 0, none⟩ = some (.int .i64 4) := (blk_cell KB3.out.1 0).trans rfl; have hc1 : W3.cell? ⟨g5, 1, none⟩ = some (.int .u64 at_) := (blk_cell KB3.out.1 1).trans rfl; have hc2 : W3.cell? ⟨g5, 2, none⟩ = some (.int .i64 n) := (blk_cell KB3.out.1 2).trans rfl; have hc3 : W3.cell? ⟨g5, 3, none⟩ = some (.int .u64 u) := (blk_cell KB3.out.1 3).trans rfl; have hc4 : W3.cell? ⟨g5, 4, none⟩ = some (.int .u64 z0) := (blk_cell KB3.out.1 4).trans rfl; have hc5 : W3.cell? ⟨g5, 5, none⟩ = some (.int .u64 z1) := (blk_cell KB3.out.1 5).trans rfl; have hc6 : W3.cell? ⟨g5, 6, none⟩ = some (.int .u64 z2) := (blk_cell KB3.out.1 6).trans rfl; have hc7 : W3.cell? ⟨g5, 7, none⟩ = some (.int .i64 z3) := (blk_cell KB3.out.1 7).trans rfl; have hc8 : W3.cell? ⟨g5, 8, none⟩ = some (.int .i64 z4) := (blk_cell KB3.out.1 8).trans rfl; have hc9 : W3.cell? ⟨g5, 9, none⟩ = some (.bool z5) := (blk_cell KB3.out.1 9).trans rfl; have hc10 : W3.cell? ⟨g5, 10, none⟩ = some (.slice AB0 bs.length cb0) := (blk_cell KB3.out.1 10).trans rfl) | (go_at_call 18; (with_reducible refine (RG.out W3).mono ?_); rintro e W4 ⟨rfl, hb⟩; have S4 := Aside0.mk (S3.out.below hb); have HB4 := Aside0.mk (below_then HB3.out HB3.out.size hb); have KB4 := Aside0.mk (KB3.out.below hb); clear hb S3 HB3 KB3; clear hc0 hc1 hc2 hc3 hc4 hc5 hc6 hc7 hc8 hc9 hc10; have hc0 : W4.cell? ⟨g5, 0, none⟩ = some (.int .i64 4) := (blk_cell KB4.out.1 0).trans rfl; have hc1 : W4.cell? ⟨g5, 1, none⟩ = some (.int .u64 at_) := (blk_cell KB4.out.1 1).trans rfl; have hc2 : W4.cell? ⟨g5, 2, none⟩ = some (.int .i64 n) := (blk_cell KB4.out.1 2).trans rfl; have hc3 : W4.cell? ⟨g5, 3, none⟩ = some (.int .u64 u) := (blk_cell KB4.out.1 3).trans rfl; have hc4 : W4.cell? ⟨g5, 4, none⟩ = some (.int .u64 z0) := (blk_cell KB4.out.1 4).trans rfl; have hc5 : W4.cell? ⟨g5, 5, none⟩ = some (.int .u64 z1) := (blk_cell KB4.out.1 5).trans rfl; have hc6 : W4.cell? ⟨g5, 6, none⟩ = some (.int .u64 z2) := (blk_cell KB4.out.1 6).trans rfl; have hc7 : W4.cell? ⟨g5, 7, none⟩ = some (.int .i64 z3) := (blk_cell KB4.out.1 7).trans rfl; have hc8 : W4.cell? ⟨g5, 8, none⟩ = some (.int .i64 z4) := (blk_cell KB4.out.1 8).trans rfl; have hc9 : W4.cell? ⟨g5, 9, none⟩ = some (.bool z5) := (blk_cell KB4.out.1 9).trans rfl; have hc10 : W4.cell? ⟨g5, 10, none⟩ = some (.slice AB0 bs.length cb0) := (blk_cell KB4.out.1 10).trans rfl) | (go_at_call 14; (with_reducible refine (sPages S4.out OK.out).mono ?_); rintro e W5 ⟨v, rfl, hR, hb⟩; rw [← EP.out] at hR; obtain ⟨AP, kp, rfl, hle, hK⟩ := Keeps.new S4.out hR hb; have RP5 := Aside0.mk hK; have HLAP := Aside0.mk hle; have S5 := Aside0.mk (S4.out.below hb); have HB5 := Aside0.mk (below_then HB4.out HB4.out.size hb); have KB5 := Aside0.mk (KB4.out.below hb); clear hR hb hle hK S4 HB4 KB4) | (go_at_call 15; (with_reducible refine (sTags S5.out OK.out).mono ?_); rintro e W6 ⟨v, rfl, hR, hb⟩; rw [← ET.out] at hR; obtain ⟨AT, kt, rfl, hle, hK⟩ := Keeps.new S5.out hR hb; have RT6 := Aside0.mk hK; have HLAT := Aside0.mk hle; have S6 := Aside0.mk (S5.out.below hb); have HB6 := Aside0.mk (below_then HB5.out HB5.out.size hb); have RP6 := Aside0.mk (RP5.out.below hb); have KB6 := Aside0.mk (KB5.out.below hb); clear hR hb hle hK S5 HB5 RP5 KB5) | fail)
        obtain ⟨WB, hWB⟩ : ∃ WB, WB = W6 := ⟨_, rfl⟩
        subst hWB
        go_loopw [12, 13] (fun va vb wr => ∃ (j : Nat), vb = .int .i64 j ∧ j ≤ P.length ∧ Aside0 (Kd.R (Kd.int .u8) 5 wr WB.heap.size (fun _ => True) va (catB M1 P j)) ∧ Aside0 (Below WB.heap.size WB wr)) (fun _ vb _ => P.length - (intOf vb).toNat)
        case atStart => exact ⟨0, rfl, by omega, ⟨Kd.R_nil _ _ _ _ _⟩, ⟨Below.refl _ _⟩⟩
        case round =>
          obtain ⟨j, rfl, hj, HO, HBl⟩ := hrel
          by_cases hlt : j < P.length
          · have W3' := next64 hlt (by omega)
            obtain ⟨ad, eA, hx0⟩ := Kd.at_int (RP6.out.below HBl.out).now (j : Int) (by omega) (by omega)
            cases eA
            rw [Int.toNat_natCast] at hx0
            obtain ⟨b0, b1⟩ := HP.out _ (rd_mem hlt)
            have EC := Aside0.mk (catB_next M1 hlt)
            have LX := Aside0.mk (And.intro (catB_len M1 P j) (bytes_256 M1 (rd P (j : Int) * 256)))
            have SL := Aside0.mk (S6.out.below HBl.out)
            generalize rd P (j : Int) = p at hx0 b0 b1 EC LX
            obtain ⟨bx, hbx⟩ : ∃ bx, bx = tagmem_Mem_Bytes.f M1 (p * 256) 256 := ⟨_, rfl⟩
            rw [← hbx] at EC LX
            have EX := Aside0.mk hbx
            have V1 : IntKind.u64.wrap (p * 256) = p * 256 := u64w (by omega) (by omega)
            have p0 : 0 ≤ p * 256 := by omega
            have p1 : p * 256 ≤ 18446744073709551615 := by omega
            generalize catB M1 P j = l at HO EC LX
            clear hbx
            go_wp2_with (first | (go_at_call 23; (with_reducible refine (sBytes SL.out (p * 256) 256 p0 p1).mono ?_); rintro e W8 ⟨v, rfl, hR, hb⟩; rw [← EX.out] at hR; obtain ⟨Ax, kx, rfl, hle, hC⟩ := Kd.R_reads hR; have HRx := Aside0.mk hC; have HOa := Aside0.mk (Kd.R_below HO.out hb); have HBa := Aside0.mk (below_step HBl.out hb); clear hR hb hle hC) | ((with_reducible refine gate_builtin (b := .append) (xs := #[.tmp 49, .tmp 56]) rfl ?_); at_builtin; refine Kd.R_append_rows (Kd.int .u8) (Rr := (Kd.int .u8).K W8) (w0 := WB) WB.heap.size rfl (.tmp 49) (.tmp 56) 51 5 (.int .u8 0) 1 rfl Try.underlying51 info5 rfl (by decide) (by omega) u12 l bx Ax bx.length kx (fun _ => True) (fun _ => False) rfl rfl HOa.out HRx.out (fun _ _ h => h) (fun _ hk => hk.elim) (fun _ _ => trivial) HBa.out HBa.out.size (by have := LX.out; omega) ?_; intro v3 w3 ho hb hg hat; rw [← EC.out] at ho; have HO3 := Aside0.mk ho; have HB3' := Aside0.mk hb; clear ho hb hg hat) | fail)
            exact ⟨⟨j + 1, by first | rfl | rw [W3'], hlt, HO3, HB3'⟩, by first | exact round_meas hlt | (rw [W3']; exact round_meas hlt)⟩
          · obtain rfl : j = P.length := by omega
            obtain ⟨ABy, kb, rfl, hleB, hKB⟩ := Keeps.new S6.out HO.out HBl.out
            have RB7 := Aside0.mk hKB
            have HLB := Aside0.mk hleB
            have S7 := Aside0.mk (S6.out.below HBl.out)
            have HB7 := Aside0.mk (below_then HB6.out HB6.out.size HBl.out)
            have RP7 := Aside0.mk (RP6.out.below HBl.out)
            have RT7 := Aside0.mk (RT6.out.below HBl.out)
            have KB7 := Aside0.mk (KB6.out.below HBl.out)
            clear hKB hleB HO hc0 hc1 hc2 hc3 hc4 hc5 hc6 hc7 hc8 hc9 hc10
            obtain ⟨W7, hW7⟩ : ∃ W7, W7 = wr := ⟨_, rfl⟩
            subst hW7
            have hc0 : W7.cell? ⟨g5, 0, none⟩ = some (.int .i64 4) := (blk_cell KB7.out.1 0).trans rfl; have hc1 : W7.cell? ⟨g5, 1, none⟩ = some (.int .u64 at_) := (blk_cell KB7.out.1 1).trans rfl; have hc2 : W7.cell? ⟨g5, 2, none⟩ = some (.int .i64 n) := (blk_cell KB7.out.1 2).trans rfl; have hc3 : W7.cell? ⟨g5, 3, none⟩ = some (.int .u64 u) := (blk_cell KB7.out.1 3).trans rfl; have hc4 : W7.cell? ⟨g5, 4, none⟩ = some (.int .u64 z0) := (blk_cell KB7.out.1 4).trans rfl; have hc5 : W7.cell? ⟨g5, 5, none⟩ = some (.int .u64 z1) := (blk_cell KB7.out.1 5).trans rfl; have hc6 : W7.cell? ⟨g5, 6, none⟩ = some (.int .u64 z2) := (blk_cell KB7.out.1 6).trans rfl; have hc7 : W7.cell? ⟨g5, 7, none⟩ = some (.int .i64 z3) := (blk_cell KB7.out.1 7).trans rfl; have hc8 : W7.cell? ⟨g5, 8, none⟩ = some (.int .i64 z4) := (blk_cell KB7.out.1 8).trans rfl; have hc9 : W7.cell? ⟨g5, 9, none⟩ = some (.bool z5) := (blk_cell KB7.out.1 9).trans rfl; have hc10 : W7.cell? ⟨g5, 10, none⟩ = some (.slice AB0 bs.length cb0) := (blk_cell KB7.out.1 10).trans rfl
            go_wp2_with (first | (go_at_call 19; (with_reducible refine (sStoreCap S7.out HB7.out HB7.out.size at_ z0 z1 z2 z3 z4 z5 a0 a1 PO.out).mono ?_); rintro e W8 ⟨rfl, ⟨L8, cl8, hs, hL⟩, hb, hu⟩; have S8 := Aside0.mk hs; have HB8 := Aside0.mk hb; have RP8 := Aside0.mk (RP7.out.step hL hu); have RT8 := Aside0.mk (RT7.out.step hL hu); have RB8 := Aside0.mk (RB7.out.step hL hu); clear hs hL hb hu S7 HB7 RP7 RT7 RB7) | (go_at_call 14; (with_reducible refine (sPages S8.out OK.out).mono ?_); rintro e W9 ⟨v, rfl, hR, hb⟩; rw [← EP.out] at hR; obtain ⟨AU, ku, rfl, hle, hK⟩ := Keeps.new S8.out hR hb; have RU9 := Aside0.mk hK; have HLAU := Aside0.mk hle; have S9 := Aside0.mk (S8.out.below hb); have HB9 := Aside0.mk (below_then HB8.out HB8.out.size hb); have RP9 := Aside0.mk (RP8.out.below hb); have RT9 := Aside0.mk (RT8.out.below hb); have RB9 := Aside0.mk (RB8.out.below hb); clear hR hb hle hK S8 HB8 RP8 RT8 RB8) | (go_at_call 15; (with_reducible refine (sTags S9.out OK.out).mono ?_); rintro e W10 ⟨v, rfl, hR, hb⟩; rw [← ET.out] at hR; obtain ⟨AV, kv, rfl, hle, hK⟩ := Keeps.new S9.out hR hb; have RV10 := Aside0.mk hK; have HLAV := Aside0.mk hle; have S10 := Aside0.mk (S9.out.below hb); have HB10 := Aside0.mk (below_then HB9.out HB9.out.size hb); have RP10 := Aside0.mk (RP9.out.below hb); have RT10 := Aside0.mk (RT9.out.below hb); have RB10 := Aside0.mk (RB9.out.below hb); have RU10 := Aside0.mk (RU9.out.below hb); clear hR hb hle hK S9 HB9 RP9 RT9 RB9 RU9) | fail)
            clear HBl
            obtain ⟨WB, hWB⟩ : ∃ WB, WB = W10 := ⟨_, rfl⟩
            subst hWB
            go_loopw [17, 18] (fun va vb wr => ∃ (j : Nat), vb = .int .i64 j ∧ j ≤ P.length ∧ Aside0 (Kd.R (Kd.int .u8) 5 wr WB.heap.size (fun _ => True) va (catB M1 P j)) ∧ Aside0 (Below WB.heap.size WB wr)) (fun _ vb _ => P.length - (intOf vb).toNat)
            case atStart => exact ⟨0, rfl, by omega, ⟨Kd.R_nil _ _ _ _ _⟩, ⟨Below.refl _ _⟩⟩
            case round =>
              obtain ⟨j, rfl, hj, HO, HBl⟩ := hrel
              by_cases hlt : j < P.length
              · have W3' := next64 hlt (by omega)
                obtain ⟨ad, eA, hx0⟩ := Kd.at_int (RU10.out.below HBl.out).now (j : Int) (by omega) (by omega)
                cases eA
                rw [Int.toNat_natCast] at hx0
                obtain ⟨b0, b1⟩ := HP.out _ (rd_mem hlt)
                have EC := Aside0.mk (catB_next M1 hlt)
                have LX := Aside0.mk (And.intro (catB_len M1 P j) (bytes_256 M1 (rd P (j : Int) * 256)))
                have SL := Aside0.mk (S10.out.below HBl.out)
                generalize rd P (j : Int) = p at hx0 b0 b1 EC LX
                obtain ⟨bx, hbx⟩ : ∃ bx, bx = tagmem_Mem_Bytes.f M1 (p * 256) 256 := ⟨_, rfl⟩
                rw [← hbx] at EC LX
                have EX := Aside0.mk hbx
                have V1 : IntKind.u64.wrap (p * 256) = p * 256 := u64w (by omega) (by omega)
                have p0 : 0 ≤ p * 256 := by omega
                have p1 : p * 256 ≤ 18446744073709551615 := by omega
                generalize catB M1 P j = l at HO EC LX
                clear hbx
                go_wp2_with (first | (go_at_call 23; (with_reducible refine (sBytes SL.out (p * 256) 256 p0 p1).mono ?_); rintro e W8 ⟨v, rfl, hR, hb⟩; rw [← EX.out] at hR; obtain ⟨Ax, kx, rfl, hle, hC⟩ := Kd.R_reads hR; have HRx := Aside0.mk hC; have HOa := Aside0.mk (Kd.R_below HO.out hb); have HBa := Aside0.mk (below_step HBl.out hb); clear hR hb hle hC) | ((with_reducible refine gate_builtin (b := .append) (xs := #[.tmp 116, .tmp 123]) rfl ?_); at_builtin; refine Kd.R_append_rows (Kd.int .u8) (Rr := (Kd.int .u8).K W8) (w0 := WB) WB.heap.size rfl (.tmp 116) (.tmp 123) 51 5 (.int .u8 0) 1 rfl Try.underlying51 info5 rfl (by decide) (by omega) u17 l bx Ax bx.length kx (fun _ => True) (fun _ => False) rfl rfl HOa.out HRx.out (fun _ _ h => h) (fun _ hk => hk.elim) (fun _ _ => trivial) HBa.out HBa.out.size (by have := LX.out; omega) ?_; intro v3 w3 ho hb hg hat; rw [← EC.out] at ho; have HO3 := Aside0.mk ho; have HB3' := Aside0.mk hb; clear ho hb hg hat) | fail)
                exact ⟨⟨j + 1, by first | rfl | rw [W3'], hlt, HO3, HB3'⟩, by first | exact round_meas hlt | (rw [W3']; exact round_meas hlt)⟩
              · obtain rfl : j = P.length := by omega
                obtain ⟨ACy, kc, rfl, hleC, hKC⟩ := Keeps.new S10.out HO.out HBl.out
                have CC11 := Aside0.mk hKC.now
                have HLC := Aside0.mk hleC
                have HB11 := Aside0.mk (below_then HB10.out HB10.out.size HBl.out)
                have CP11 := Aside0.mk (RP10.out.below HBl.out).now
                have CT11 := Aside0.mk (RT10.out.below HBl.out).now
                have CB11 := Aside0.mk (RB10.out.below HBl.out).now
                have CU11 := Aside0.mk (RU10.out.below HBl.out).now
                have CV11 := Aside0.mk (RV10.out.below HBl.out).now
                clear hKC hleC HO HBl
                obtain ⟨W11, hW11⟩ : ∃ W11, W11 = wr := ⟨_, rfl⟩
                subst hW11
                go_wp2_with (first | (go_at_call 16; refine (sameU_calls AP kp P AU ku P CP11.out HLAP.out CU11.out HLAU.out SZ1.out).mono ?_; rintro e W12 ⟨rfl, hd⟩; have hb : Below W11.heap.size W11 W12 := hd; have HB12 := Aside0.mk (below_then HB11.out HB11.out.size hb); have CP12 := Aside0.mk (Kd.C_below CP11.out hb); have CT12 := Aside0.mk (Kd.C_below CT11.out hb); have CB12 := Aside0.mk (Kd.C_below CB11.out hb); have CU12 := Aside0.mk (Kd.C_below CU11.out hb); have CV12 := Aside0.mk (Kd.C_below CV11.out hb); have CC12 := Aside0.mk (Kd.C_below CC11.out hb); clear hd hb HB11 CP11 CT11 CB11 CU11 CV11 CC11) | (go_at_call 16; refine (sameU_calls AT kt Tg AV kv Tg CT12.out HLAT.out CV12.out HLAV.out SZ2.out).mono ?_; rintro e W13 ⟨rfl, hd⟩; have hb : Below W12.heap.size W12 W13 := hd; have HB13 := Aside0.mk (below_then HB12.out HB12.out.size hb); have CB13 := Aside0.mk (Kd.C_below CB12.out hb); have CC13 := Aside0.mk (Kd.C_below CC12.out hb); clear hd hb HB12 CB12 CC12) | (go_at_call 27; refine (same_calls ABy kb (catB M1 P P.length) ACy kc (catB M1 P P.length) CB13.out HLB.out CC13.out HLC.out SZ3.out).mono ?_; rintro e W14 ⟨rfl, hd⟩; have HB14 := Aside0.mk (below_then HB13.out HB13.out.size hd.below); clear hd) | fail)
                go_ret
                exact ⟨rfl, below_then HB2.out HB2.out.size HB14.out⟩
    by_cases k5 : d = 5
    · subst k5
      obtain ⟨M1, q, ho, he⟩ := hf5
      by_cases hq : q = 0
      · subst hq
        have PO := Aside0.mk ho
        clear ho he
        go_enter Try.func5, Try.ntmps5
        go_wp2_with (first | ((with_reducible refine gate_dst (N := 5) rfl ?_); refine box_event ?hg (N := 5) ?hd (cs := #[.int .i64 5, .int .u64 at_, .int .i64 n, .int .u64 u, .int .u64 z0, .int .u64 z1, .int .u64 z2, .int .i64 z3, .int .i64 z4, .bool z5, .slice AB0 bs.length cb0]) (t := 53) ?hr ?_; (case hd => rfl); (case hg => rfl); (case hr => first | (go_simp; done) | (go_simp; rfl)); intro g5 hgb W1 hbox hb; have HB1 := Aside0.mk hb; have B1 := Aside0.mk hbox; clear hb hbox hgb) | (go_at_call 10; refine (AW.out W1).mono ?_; rintro e W2 ⟨rfl, hb⟩; have HB2 := Aside0.mk (below_step HB1.out hb); have B2 := Aside0.mk (blk_below B1.out hb); clear hb HB1 B1) | (go_at_call 17; (with_reducible refine (MD.out W2 HB2.out).mono ?_); rintro e W3 ⟨hv, hb⟩; rw [HN.out] at hv; obtain ⟨g, gm, L3, cl3, he, hM, q1, q2, q3⟩ := hv; subst he; have S3 := Aside0.mk (solo hM q1 q2 q3); have HB3 := Aside0.mk hb; have KB3 := Aside0.mk (BKeepT.old (solo hM q1 q2 q3) B2.out hb); clear hM q1 q2 q3 hb B2; have hc0 : W3.cell? ⟨g5, 0, none⟩ = some (.int .i64 5) := (blk_cell KB3.out.1 0).trans rfl; have hc1 : W3.cell? ⟨g5, 1, none⟩ = some (.int .u64 at_) := (blk_cell KB3.out.1 1).trans rfl; have hc2 : W3.cell? ⟨g5, 2, none⟩ = some (.int .i64 n) := (blk_cell KB3.out.1 2).trans rfl; have hc3 : W3.cell? ⟨g5, 3, none⟩ = some (.int .u64 u) := (blk_cell KB3.out.1 3).trans rfl; have hc4 : W3.cell? ⟨g5, 4, none⟩ = some (.int .u64 z0) := (blk_cell KB3.out.1 4).trans rfl; have hc5 : W3.cell? ⟨g5, 5, none⟩ = some (.int .u64 z1) := (blk_cell KB3.out.1 5).trans rfl; have hc6 : W3.cell? ⟨g5, 6, none⟩ = some (.int .u64 z2) := (blk_cell KB3.out.1 6).trans rfl; have hc7 : W3.cell? ⟨g5, 7, none⟩ = some (.int .i64 z3) := (blk_cell KB3.out.1 7).trans rfl; have hc8 : W3.cell? ⟨g5, 8, none⟩ = some (.int .i64 z4) := (blk_cell KB3.out.1 8).trans rfl; have hc9 : W3.cell? ⟨g5, 9, none⟩ = some (.bool z5) := (blk_cell KB3.out.1 9).trans rfl; have hc10 : W3.cell? ⟨g5, 10, none⟩ = some (.slice AB0 bs.length cb0) := (blk_cell KB3.out.1 10).trans rfl) | (go_at_call 18; (with_reducible refine (RG.out W3).mono ?_); rintro e W4 ⟨rfl, hb⟩; have S4 := Aside0.mk (S3.out.below hb); have HB4 := Aside0.mk (below_then HB3.out HB3.out.size hb); have KB4 := Aside0.mk (KB3.out.below hb); clear hb S3 HB3 KB3; clear hc0 hc1 hc2 hc3 hc4 hc5 hc6 hc7 hc8 hc9 hc10; have hc0 : W4.cell? ⟨g5, 0, none⟩ = some (.int .i64 5) := (blk_cell KB4.out.1 0).trans rfl; have hc1 : W4.cell? ⟨g5, 1, none⟩ = some (.int .u64 at_) := (blk_cell KB4.out.1 1).trans rfl; have hc2 : W4.cell? ⟨g5, 2, none⟩ = some (.int .i64 n) := (blk_cell KB4.out.1 2).trans rfl; have hc3 : W4.cell? ⟨g5, 3, none⟩ = some (.int .u64 u) := (blk_cell KB4.out.1 3).trans rfl; have hc4 : W4.cell? ⟨g5, 4, none⟩ = some (.int .u64 z0) := (blk_cell KB4.out.1 4).trans rfl; have hc5 : W4.cell? ⟨g5, 5, none⟩ = some (.int .u64 z1) := (blk_cell KB4.out.1 5).trans rfl; have hc6 : W4.cell? ⟨g5, 6, none⟩ = some (.int .u64 z2) := (blk_cell KB4.out.1 6).trans rfl; have hc7 : W4.cell? ⟨g5, 7, none⟩ = some (.int .i64 z3) := (blk_cell KB4.out.1 7).trans rfl; have hc8 : W4.cell? ⟨g5, 8, none⟩ = some (.int .i64 z4) := (blk_cell KB4.out.1 8).trans rfl; have hc9 : W4.cell? ⟨g5, 9, none⟩ = some (.bool z5) := (blk_cell KB4.out.1 9).trans rfl; have hc10 : W4.cell? ⟨g5, 10, none⟩ = some (.slice AB0 bs.length cb0) := (blk_cell KB4.out.1 10).trans rfl) | (go_at_call 14; (with_reducible refine (sPages S4.out OK.out).mono ?_); rintro e W5 ⟨v, rfl, hR, hb⟩; rw [← EP.out] at hR; obtain ⟨AP, kp, rfl, hle, hK⟩ := Keeps.new S4.out hR hb; have RP5 := Aside0.mk hK; have HLAP := Aside0.mk hle; have S5 := Aside0.mk (S4.out.below hb); have HB5 := Aside0.mk (below_then HB4.out HB4.out.size hb); have KB5 := Aside0.mk (KB4.out.below hb); clear hR hb hle hK S4 HB4 KB4) | (go_at_call 15; (with_reducible refine (sTags S5.out OK.out).mono ?_); rintro e W6 ⟨v, rfl, hR, hb⟩; rw [← ET.out] at hR; obtain ⟨AT, kt, rfl, hle, hK⟩ := Keeps.new S5.out hR hb; have RT6 := Aside0.mk hK; have HLAT := Aside0.mk hle; have S6 := Aside0.mk (S5.out.below hb); have HB6 := Aside0.mk (below_then HB5.out HB5.out.size hb); have RP6 := Aside0.mk (RP5.out.below hb); have KB6 := Aside0.mk (KB5.out.below hb); clear hR hb hle hK S5 HB5 RP5 KB5) | fail)
        obtain ⟨WB, hWB⟩ : ∃ WB, WB = W6 := ⟨_, rfl⟩
        subst hWB
        go_loopw [12, 13] (fun va vb wr => ∃ (j : Nat), vb = .int .i64 j ∧ j ≤ P.length ∧ Aside0 (Kd.R (Kd.int .u8) 5 wr WB.heap.size (fun _ => True) va (catB M P j)) ∧ Aside0 (Below WB.heap.size WB wr)) (fun _ vb _ => P.length - (intOf vb).toNat)
        case atStart => exact ⟨0, rfl, by omega, ⟨Kd.R_nil _ _ _ _ _⟩, ⟨Below.refl _ _⟩⟩
        case round =>
          obtain ⟨j, rfl, hj, HO, HBl⟩ := hrel
          by_cases hlt : j < P.length
          · have W3' := next64 hlt (by omega)
            obtain ⟨ad, eA, hx0⟩ := Kd.at_int (RP6.out.below HBl.out).now (j : Int) (by omega) (by omega)
            cases eA
            rw [Int.toNat_natCast] at hx0
            obtain ⟨b0, b1⟩ := HP.out _ (rd_mem hlt)
            have EC := Aside0.mk (catB_next M hlt)
            have LX := Aside0.mk (And.intro (catB_len M P j) (bytes_256 M (rd P (j : Int) * 256)))
            have SL := Aside0.mk (S6.out.below HBl.out)
            generalize rd P (j : Int) = p at hx0 b0 b1 EC LX
            obtain ⟨bx, hbx⟩ : ∃ bx, bx = tagmem_Mem_Bytes.f M (p * 256) 256 := ⟨_, rfl⟩
            rw [← hbx] at EC LX
            have EX := Aside0.mk hbx
            have V1 : IntKind.u64.wrap (p * 256) = p * 256 := u64w (by omega) (by omega)
            have p0 : 0 ≤ p * 256 := by omega
            have p1 : p * 256 ≤ 18446744073709551615 := by omega
            generalize catB M P j = l at HO EC LX
            clear hbx
            go_wp2_with (first | (go_at_call 23; (with_reducible refine (sBytes SL.out (p * 256) 256 p0 p1).mono ?_); rintro e W8 ⟨v, rfl, hR, hb⟩; rw [← EX.out] at hR; obtain ⟨Ax, kx, rfl, hle, hC⟩ := Kd.R_reads hR; have HRx := Aside0.mk hC; have HOa := Aside0.mk (Kd.R_below HO.out hb); have HBa := Aside0.mk (below_step HBl.out hb); clear hR hb hle hC) | ((with_reducible refine gate_builtin (b := .append) (xs := #[.tmp 49, .tmp 56]) rfl ?_); at_builtin; refine Kd.R_append_rows (Kd.int .u8) (Rr := (Kd.int .u8).K W8) (w0 := WB) WB.heap.size rfl (.tmp 49) (.tmp 56) 51 5 (.int .u8 0) 1 rfl Try.underlying51 info5 rfl (by decide) (by omega) u12 l bx Ax bx.length kx (fun _ => True) (fun _ => False) rfl rfl HOa.out HRx.out (fun _ _ h => h) (fun _ hk => hk.elim) (fun _ _ => trivial) HBa.out HBa.out.size (by have := LX.out; omega) ?_; intro v3 w3 ho hb hg hat; rw [← EC.out] at ho; have HO3 := Aside0.mk ho; have HB3' := Aside0.mk hb; clear ho hb hg hat) | fail)
            exact ⟨⟨j + 1, by first | rfl | rw [W3'], hlt, HO3, HB3'⟩, by first | exact round_meas hlt | (rw [W3']; exact round_meas hlt)⟩
          · obtain rfl : j = P.length := by omega
            obtain ⟨ABy, kb, rfl, hleB, hKB⟩ := Keeps.new S6.out HO.out HBl.out
            have RB7 := Aside0.mk hKB
            have HLB := Aside0.mk hleB
            have S7 := Aside0.mk (S6.out.below HBl.out)
            have HB7 := Aside0.mk (below_then HB6.out HB6.out.size HBl.out)
            have RP7 := Aside0.mk (RP6.out.below HBl.out)
            have RT7 := Aside0.mk (RT6.out.below HBl.out)
            have KB7 := Aside0.mk (KB6.out.below HBl.out)
            clear hKB hleB HO hc0 hc1 hc2 hc3 hc4 hc5 hc6 hc7 hc8 hc9 hc10
            obtain ⟨W7, hW7⟩ : ∃ W7, W7 = wr := ⟨_, rfl⟩
            subst hW7
            have hc0 : W7.cell? ⟨g5, 0, none⟩ = some (.int .i64 5) := (blk_cell KB7.out.1 0).trans rfl; have hc1 : W7.cell? ⟨g5, 1, none⟩ = some (.int .u64 at_) := (blk_cell KB7.out.1 1).trans rfl; have hc2 : W7.cell? ⟨g5, 2, none⟩ = some (.int .i64 n) := (blk_cell KB7.out.1 2).trans rfl; have hc3 : W7.cell? ⟨g5, 3, none⟩ = some (.int .u64 u) := (blk_cell KB7.out.1 3).trans rfl; have hc4 : W7.cell? ⟨g5, 4, none⟩ = some (.int .u64 z0) := (blk_cell KB7.out.1 4).trans rfl; have hc5 : W7.cell? ⟨g5, 5, none⟩ = some (.int .u64 z1) := (blk_cell KB7.out.1 5).trans rfl; have hc6 : W7.cell? ⟨g5, 6, none⟩ = some (.int .u64 z2) := (blk_cell KB7.out.1 6).trans rfl; have hc7 : W7.cell? ⟨g5, 7, none⟩ = some (.int .i64 z3) := (blk_cell KB7.out.1 7).trans rfl; have hc8 : W7.cell? ⟨g5, 8, none⟩ = some (.int .i64 z4) := (blk_cell KB7.out.1 8).trans rfl; have hc9 : W7.cell? ⟨g5, 9, none⟩ = some (.bool z5) := (blk_cell KB7.out.1 9).trans rfl; have hc10 : W7.cell? ⟨g5, 10, none⟩ = some (.slice AB0 bs.length cb0) := (blk_cell KB7.out.1 10).trans rfl
            go_wp2_with (first | (go_at_call 26; (with_reducible refine (sPut S7.out HB7.out at_ a0 a1 AB0 cb0 bs (HR5.out W2 HB2.out) PO.out).mono ?_); rintro e W8 ⟨rfl, ⟨L8, cl8, hs, hL⟩, hb, hu⟩; have S8 := Aside0.mk hs; have HB8 := Aside0.mk hb; have RP8 := Aside0.mk (RP7.out.step hL hu); have RT8 := Aside0.mk (RT7.out.step hL hu); have RB8 := Aside0.mk (RB7.out.step hL hu); clear hs hL hb hu S7 HB7 RP7 RT7 RB7) | fail)
            go_ret
            exact ⟨rfl, below_then HB2.out HB2.out.size HB8.out⟩
      · obtain rfl : M1 = M := he hq
        have PO := Aside0.mk ho
        have dq : (q == 0) = false := beq_eq_false_iff_ne.2 hq
        clear ho he hq
        go_enter Try.func5, Try.ntmps5
        go_wp2_with (first | ((with_reducible refine gate_dst (N := 5) rfl ?_); refine box_event ?hg (N := 5) ?hd (cs := #[.int .i64 5, .int .u64 at_, .int .i64 n, .int .u64 u, .int .u64 z0, .int .u64 z1, .int .u64 z2, .int .i64 z3, .int .i64 z4, .bool z5, .slice AB0 bs.length cb0]) (t := 53) ?hr ?_; (case hd => rfl); (case hg => rfl); (case hr => first | (go_simp; done) | (go_simp; rfl)); intro g5 hgb W1 hbox hb; have HB1 := Aside0.mk hb; have B1 := Aside0.mk hbox; clear hb hbox hgb) | (go_at_call 10; refine (AW.out W1).mono ?_; rintro e W2 ⟨rfl, hb⟩; have HB2 := Aside0.mk (below_step HB1.out hb); have B2 := Aside0.mk (blk_below B1.out hb); clear hb HB1 B1) | (go_at_call 17; (with_reducible refine (MD.out W2 HB2.out).mono ?_); rintro e W3 ⟨hv, hb⟩; rw [HN.out] at hv; obtain ⟨g, gm, L3, cl3, he, hM, q1, q2, q3⟩ := hv; subst he; have S3 := Aside0.mk (solo hM q1 q2 q3); have HB3 := Aside0.mk hb; have KB3 := Aside0.mk (BKeepT.old (solo hM q1 q2 q3) B2.out hb); clear hM q1 q2 q3 hb B2; have hc0 : W3.cell? ⟨g5, 0, none⟩ = some (.int .i64 5) := (blk_cell KB3.out.1 0).trans rfl; have hc1 : W3.cell? ⟨g5, 1, none⟩ = some (.int .u64 at_) := (blk_cell KB3.out.1 1).trans rfl; have hc2 : W3.cell? ⟨g5, 2, none⟩ = some (.int .i64 n) := (blk_cell KB3.out.1 2).trans rfl; have hc3 : W3.cell? ⟨g5, 3, none⟩ = some (.int .u64 u) := (blk_cell KB3.out.1 3).trans rfl; have hc4 : W3.cell? ⟨g5, 4, none⟩ = some (.int .u64 z0) := (blk_cell KB3.out.1 4).trans rfl; have hc5 : W3.cell? ⟨g5, 5, none⟩ = some (.int .u64 z1) := (blk_cell KB3.out.1 5).trans rfl; have hc6 : W3.cell? ⟨g5, 6, none⟩ = some (.int .u64 z2) := (blk_cell KB3.out.1 6).trans rfl; have hc7 : W3.cell? ⟨g5, 7, none⟩ = some (.int .i64 z3) := (blk_cell KB3.out.1 7).trans rfl; have hc8 : W3.cell? ⟨g5, 8, none⟩ = some (.int .i64 z4) := (blk_cell KB3.out.1 8).trans rfl; have hc9 : W3.cell? ⟨g5, 9, none⟩ = some (.bool z5) := (blk_cell KB3.out.1 9).trans rfl; have hc10 : W3.cell? ⟨g5, 10, none⟩ = some (.slice AB0 bs.length cb0) := (blk_cell KB3.out.1 10).trans rfl) | (go_at_call 18; (with_reducible refine (RG.out W3).mono ?_); rintro e W4 ⟨rfl, hb⟩; have S4 := Aside0.mk (S3.out.below hb); have HB4 := Aside0.mk (below_then HB3.out HB3.out.size hb); have KB4 := Aside0.mk (KB3.out.below hb); clear hb S3 HB3 KB3; clear hc0 hc1 hc2 hc3 hc4 hc5 hc6 hc7 hc8 hc9 hc10; have hc0 : W4.cell? ⟨g5, 0, none⟩ = some (.int .i64 5) := (blk_cell KB4.out.1 0).trans rfl; have hc1 : W4.cell? ⟨g5, 1, none⟩ = some (.int .u64 at_) := (blk_cell KB4.out.1 1).trans rfl; have hc2 : W4.cell? ⟨g5, 2, none⟩ = some (.int .i64 n) := (blk_cell KB4.out.1 2).trans rfl; have hc3 : W4.cell? ⟨g5, 3, none⟩ = some (.int .u64 u) := (blk_cell KB4.out.1 3).trans rfl; have hc4 : W4.cell? ⟨g5, 4, none⟩ = some (.int .u64 z0) := (blk_cell KB4.out.1 4).trans rfl; have hc5 : W4.cell? ⟨g5, 5, none⟩ = some (.int .u64 z1) := (blk_cell KB4.out.1 5).trans rfl; have hc6 : W4.cell? ⟨g5, 6, none⟩ = some (.int .u64 z2) := (blk_cell KB4.out.1 6).trans rfl; have hc7 : W4.cell? ⟨g5, 7, none⟩ = some (.int .i64 z3) := (blk_cell KB4.out.1 7).trans rfl; have hc8 : W4.cell? ⟨g5, 8, none⟩ = some (.int .i64 z4) := (blk_cell KB4.out.1 8).trans rfl; have hc9 : W4.cell? ⟨g5, 9, none⟩ = some (.bool z5) := (blk_cell KB4.out.1 9).trans rfl; have hc10 : W4.cell? ⟨g5, 10, none⟩ = some (.slice AB0 bs.length cb0) := (blk_cell KB4.out.1 10).trans rfl) | (go_at_call 14; (with_reducible refine (sPages S4.out OK.out).mono ?_); rintro e W5 ⟨v, rfl, hR, hb⟩; rw [← EP.out] at hR; obtain ⟨AP, kp, rfl, hle, hK⟩ := Keeps.new S4.out hR hb; have RP5 := Aside0.mk hK; have HLAP := Aside0.mk hle; have S5 := Aside0.mk (S4.out.below hb); have HB5 := Aside0.mk (below_then HB4.out HB4.out.size hb); have KB5 := Aside0.mk (KB4.out.below hb); clear hR hb hle hK S4 HB4 KB4) | (go_at_call 15; (with_reducible refine (sTags S5.out OK.out).mono ?_); rintro e W6 ⟨v, rfl, hR, hb⟩; rw [← ET.out] at hR; obtain ⟨AT, kt, rfl, hle, hK⟩ := Keeps.new S5.out hR hb; have RT6 := Aside0.mk hK; have HLAT := Aside0.mk hle; have S6 := Aside0.mk (S5.out.below hb); have HB6 := Aside0.mk (below_then HB5.out HB5.out.size hb); have RP6 := Aside0.mk (RP5.out.below hb); have KB6 := Aside0.mk (KB5.out.below hb); clear hR hb hle hK S5 HB5 RP5 KB5) | fail)
        obtain ⟨WB, hWB⟩ : ∃ WB, WB = W6 := ⟨_, rfl⟩
        subst hWB
        go_loopw [12, 13] (fun va vb wr => ∃ (j : Nat), vb = .int .i64 j ∧ j ≤ P.length ∧ Aside0 (Kd.R (Kd.int .u8) 5 wr WB.heap.size (fun _ => True) va (catB M1 P j)) ∧ Aside0 (Below WB.heap.size WB wr)) (fun _ vb _ => P.length - (intOf vb).toNat)
        case atStart => exact ⟨0, rfl, by omega, ⟨Kd.R_nil _ _ _ _ _⟩, ⟨Below.refl _ _⟩⟩
        case round =>
          obtain ⟨j, rfl, hj, HO, HBl⟩ := hrel
          by_cases hlt : j < P.length
          · have W3' := next64 hlt (by omega)
            obtain ⟨ad, eA, hx0⟩ := Kd.at_int (RP6.out.below HBl.out).now (j : Int) (by omega) (by omega)
            cases eA
            rw [Int.toNat_natCast] at hx0
            obtain ⟨b0, b1⟩ := HP.out _ (rd_mem hlt)
            have EC := Aside0.mk (catB_next M1 hlt)
            have LX := Aside0.mk (And.intro (catB_len M1 P j) (bytes_256 M1 (rd P (j : Int) * 256)))
            have SL := Aside0.mk (S6.out.below HBl.out)
            generalize rd P (j : Int) = p at hx0 b0 b1 EC LX
            obtain ⟨bx, hbx⟩ : ∃ bx, bx = tagmem_Mem_Bytes.f M1 (p * 256) 256 := ⟨_, rfl⟩
            rw [← hbx] at EC LX
            have EX := Aside0.mk hbx
            have V1 : IntKind.u64.wrap (p * 256) = p * 256 := u64w (by omega) (by omega)
            have p0 : 0 ≤ p * 256 := by omega
            have p1 : p * 256 ≤ 18446744073709551615 := by omega
            generalize catB M1 P j = l at HO EC LX
            clear hbx
            go_wp2_with (first | (go_at_call 23; (with_reducible refine (sBytes SL.out (p * 256) 256 p0 p1).mono ?_); rintro e W8 ⟨v, rfl, hR, hb⟩; rw [← EX.out] at hR; obtain ⟨Ax, kx, rfl, hle, hC⟩ := Kd.R_reads hR; have HRx := Aside0.mk hC; have HOa := Aside0.mk (Kd.R_below HO.out hb); have HBa := Aside0.mk (below_step HBl.out hb); clear hR hb hle hC) | ((with_reducible refine gate_builtin (b := .append) (xs := #[.tmp 49, .tmp 56]) rfl ?_); at_builtin; refine Kd.R_append_rows (Kd.int .u8) (Rr := (Kd.int .u8).K W8) (w0 := WB) WB.heap.size rfl (.tmp 49) (.tmp 56) 51 5 (.int .u8 0) 1 rfl Try.underlying51 info5 rfl (by decide) (by omega) u12 l bx Ax bx.length kx (fun _ => True) (fun _ => False) rfl rfl HOa.out HRx.out (fun _ _ h => h) (fun _ hk => hk.elim) (fun _ _ => trivial) HBa.out HBa.out.size (by have := LX.out; omega) ?_; intro v3 w3 ho hb hg hat; rw [← EC.out] at ho; have HO3 := Aside0.mk ho; have HB3' := Aside0.mk hb; clear ho hb hg hat) | fail)
            exact ⟨⟨j + 1, by first | rfl | rw [W3'], hlt, HO3, HB3'⟩, by first | exact round_meas hlt | (rw [W3']; exact round_meas hlt)⟩
          · obtain rfl : j = P.length := by omega
            obtain ⟨ABy, kb, rfl, hleB, hKB⟩ := Keeps.new S6.out HO.out HBl.out
            have RB7 := Aside0.mk hKB
            have HLB := Aside0.mk hleB
            have S7 := Aside0.mk (S6.out.below HBl.out)
            have HB7 := Aside0.mk (below_then HB6.out HB6.out.size HBl.out)
            have RP7 := Aside0.mk (RP6.out.below HBl.out)
            have RT7 := Aside0.mk (RT6.out.below HBl.out)
            have KB7 := Aside0.mk (KB6.out.below HBl.out)
            clear hKB hleB HO hc0 hc1 hc2 hc3 hc4 hc5 hc6 hc7 hc8 hc9 hc10
            obtain ⟨W7, hW7⟩ : ∃ W7, W7 = wr := ⟨_, rfl⟩
            subst hW7
            have hc0 : W7.cell? ⟨g5, 0, none⟩ = some (.int .i64 5) := (blk_cell KB7.out.1 0).trans rfl; have hc1 : W7.cell? ⟨g5, 1, none⟩ = some (.int .u64 at_) := (blk_cell KB7.out.1 1).trans rfl; have hc2 : W7.cell? ⟨g5, 2, none⟩ = some (.int .i64 n) := (blk_cell KB7.out.1 2).trans rfl; have hc3 : W7.cell? ⟨g5, 3, none⟩ = some (.int .u64 u) := (blk_cell KB7.out.1 3).trans rfl; have hc4 : W7.cell? ⟨g5, 4, none⟩ = some (.int .u64 z0) := (blk_cell KB7.out.1 4).trans rfl; have hc5 : W7.cell? ⟨g5, 5, none⟩ = some (.int .u64 z1) := (blk_cell KB7.out.1 5).trans rfl; have hc6 : W7.cell? ⟨g5, 6, none⟩ = some (.int .u64 z2) := (blk_cell KB7.out.1 6).trans rfl; have hc7 : W7.cell? ⟨g5, 7, none⟩ = some (.int .i64 z3) := (blk_cell KB7.out.1 7).trans rfl; have hc8 : W7.cell? ⟨g5, 8, none⟩ = some (.int .i64 z4) := (blk_cell KB7.out.1 8).trans rfl; have hc9 : W7.cell? ⟨g5, 9, none⟩ = some (.bool z5) := (blk_cell KB7.out.1 9).trans rfl; have hc10 : W7.cell? ⟨g5, 10, none⟩ = some (.slice AB0 bs.length cb0) := (blk_cell KB7.out.1 10).trans rfl
            go_wp2_with (first | (go_at_call 26; (with_reducible refine (sPut S7.out HB7.out at_ a0 a1 AB0 cb0 bs (HR5.out W2 HB2.out) PO.out).mono ?_); rintro e W8 ⟨rfl, ⟨L8, cl8, hs, hL⟩, hb, hu⟩; have S8 := Aside0.mk hs; have HB8 := Aside0.mk hb; have RP8 := Aside0.mk (RP7.out.step hL hu); have RT8 := Aside0.mk (RT7.out.step hL hu); have RB8 := Aside0.mk (RB7.out.step hL hu); clear hs hL hb hu S7 HB7 RP7 RT7 RB7) | (go_at_call 14; (with_reducible refine (sPages S8.out OK.out).mono ?_); rintro e W9 ⟨v, rfl, hR, hb⟩; rw [← EP.out] at hR; obtain ⟨AU, ku, rfl, hle, hK⟩ := Keeps.new S8.out hR hb; have RU9 := Aside0.mk hK; have HLAU := Aside0.mk hle; have S9 := Aside0.mk (S8.out.below hb); have HB9 := Aside0.mk (below_then HB8.out HB8.out.size hb); have RP9 := Aside0.mk (RP8.out.below hb); have RT9 := Aside0.mk (RT8.out.below hb); have RB9 := Aside0.mk (RB8.out.below hb); clear hR hb hle hK S8 HB8 RP8 RT8 RB8) | (go_at_call 15; (with_reducible refine (sTags S9.out OK.out).mono ?_); rintro e W10 ⟨v, rfl, hR, hb⟩; rw [← ET.out] at hR; obtain ⟨AV, kv, rfl, hle, hK⟩ := Keeps.new S9.out hR hb; have RV10 := Aside0.mk hK; have HLAV := Aside0.mk hle; have S10 := Aside0.mk (S9.out.below hb); have HB10 := Aside0.mk (below_then HB9.out HB9.out.size hb); have RP10 := Aside0.mk (RP9.out.below hb); have RT10 := Aside0.mk (RT9.out.below hb); have RB10 := Aside0.mk (RB9.out.below hb); have RU10 := Aside0.mk (RU9.out.below hb); clear hR hb hle hK S9 HB9 RP9 RT9 RB9 RU9) | fail)
            clear HBl
            obtain ⟨WB, hWB⟩ : ∃ WB, WB = W10 := ⟨_, rfl⟩
            subst hWB
            go_loopw [17, 18] (fun va vb wr => ∃ (j : Nat), vb = .int .i64 j ∧ j ≤ P.length ∧ Aside0 (Kd.R (Kd.int .u8) 5 wr WB.heap.size (fun _ => True) va (catB M1 P j)) ∧ Aside0 (Below WB.heap.size WB wr)) (fun _ vb _ => P.length - (intOf vb).toNat)
            case atStart => exact ⟨0, rfl, by omega, ⟨Kd.R_nil _ _ _ _ _⟩, ⟨Below.refl _ _⟩⟩
            case round =>
              obtain ⟨j, rfl, hj, HO, HBl⟩ := hrel
              by_cases hlt : j < P.length
              · have W3' := next64 hlt (by omega)
                obtain ⟨ad, eA, hx0⟩ := Kd.at_int (RU10.out.below HBl.out).now (j : Int) (by omega) (by omega)
                cases eA
                rw [Int.toNat_natCast] at hx0
                obtain ⟨b0, b1⟩ := HP.out _ (rd_mem hlt)
                have EC := Aside0.mk (catB_next M1 hlt)
                have LX := Aside0.mk (And.intro (catB_len M1 P j) (bytes_256 M1 (rd P (j : Int) * 256)))
                have SL := Aside0.mk (S10.out.below HBl.out)
                generalize rd P (j : Int) = p at hx0 b0 b1 EC LX
                obtain ⟨bx, hbx⟩ : ∃ bx, bx = tagmem_Mem_Bytes.f M1 (p * 256) 256 := ⟨_, rfl⟩
                rw [← hbx] at EC LX
                have EX := Aside0.mk hbx
                have V1 : IntKind.u64.wrap (p * 256) = p * 256 := u64w (by omega) (by omega)
                have p0 : 0 ≤ p * 256 := by omega
                have p1 : p * 256 ≤ 18446744073709551615 := by omega
                generalize catB M1 P j = l at HO EC LX
                clear hbx
                go_wp2_with (first | (go_at_call 23; (with_reducible refine (sBytes SL.out (p * 256) 256 p0 p1).mono ?_); rintro e W8 ⟨v, rfl, hR, hb⟩; rw [← EX.out] at hR; obtain ⟨Ax, kx, rfl, hle, hC⟩ := Kd.R_reads hR; have HRx := Aside0.mk hC; have HOa := Aside0.mk (Kd.R_below HO.out hb); have HBa := Aside0.mk (below_step HBl.out hb); clear hR hb hle hC) | ((with_reducible refine gate_builtin (b := .append) (xs := #[.tmp 116, .tmp 123]) rfl ?_); at_builtin; refine Kd.R_append_rows (Kd.int .u8) (Rr := (Kd.int .u8).K W8) (w0 := WB) WB.heap.size rfl (.tmp 116) (.tmp 123) 51 5 (.int .u8 0) 1 rfl Try.underlying51 info5 rfl (by decide) (by omega) u17 l bx Ax bx.length kx (fun _ => True) (fun _ => False) rfl rfl HOa.out HRx.out (fun _ _ h => h) (fun _ hk => hk.elim) (fun _ _ => trivial) HBa.out HBa.out.size (by have := LX.out; omega) ?_; intro v3 w3 ho hb hg hat; rw [← EC.out] at ho; have HO3 := Aside0.mk ho; have HB3' := Aside0.mk hb; clear ho hb hg hat) | fail)
                exact ⟨⟨j + 1, by first | rfl | rw [W3'], hlt, HO3, HB3'⟩, by first | exact round_meas hlt | (rw [W3']; exact round_meas hlt)⟩
              · obtain rfl : j = P.length := by omega
                obtain ⟨ACy, kc, rfl, hleC, hKC⟩ := Keeps.new S10.out HO.out HBl.out
                have CC11 := Aside0.mk hKC.now
                have HLC := Aside0.mk hleC
                have HB11 := Aside0.mk (below_then HB10.out HB10.out.size HBl.out)
                have CP11 := Aside0.mk (RP10.out.below HBl.out).now
                have CT11 := Aside0.mk (RT10.out.below HBl.out).now
                have CB11 := Aside0.mk (RB10.out.below HBl.out).now
                have CU11 := Aside0.mk (RU10.out.below HBl.out).now
                have CV11 := Aside0.mk (RV10.out.below HBl.out).now
                clear hKC hleC HO HBl
                obtain ⟨W11, hW11⟩ : ∃ W11, W11 = wr := ⟨_, rfl⟩
                subst hW11
                go_wp2_with (first | (go_at_call 16; refine (sameU_calls AP kp P AU ku P CP11.out HLAP.out CU11.out HLAU.out SZ1.out).mono ?_; rintro e W12 ⟨rfl, hd⟩; have hb : Below W11.heap.size W11 W12 := hd; have HB12 := Aside0.mk (below_then HB11.out HB11.out.size hb); have CP12 := Aside0.mk (Kd.C_below CP11.out hb); have CT12 := Aside0.mk (Kd.C_below CT11.out hb); have CB12 := Aside0.mk (Kd.C_below CB11.out hb); have CU12 := Aside0.mk (Kd.C_below CU11.out hb); have CV12 := Aside0.mk (Kd.C_below CV11.out hb); have CC12 := Aside0.mk (Kd.C_below CC11.out hb); clear hd hb HB11 CP11 CT11 CB11 CU11 CV11 CC11) | (go_at_call 16; refine (sameU_calls AT kt Tg AV kv Tg CT12.out HLAT.out CV12.out HLAV.out SZ2.out).mono ?_; rintro e W13 ⟨rfl, hd⟩; have hb : Below W12.heap.size W12 W13 := hd; have HB13 := Aside0.mk (below_then HB12.out HB12.out.size hb); have CB13 := Aside0.mk (Kd.C_below CB12.out hb); have CC13 := Aside0.mk (Kd.C_below CC12.out hb); clear hd hb HB12 CB12 CC12) | (go_at_call 27; refine (same_calls ABy kb (catB M1 P P.length) ACy kc (catB M1 P P.length) CB13.out HLB.out CC13.out HLC.out SZ3.out).mono ?_; rintro e W14 ⟨rfl, hd⟩; have HB14 := Aside0.mk (below_then HB13.out HB13.out.size hd.below); clear hd) | fail)
                go_ret
                exact ⟨rfl, below_then HB2.out HB2.out.size HB14.out⟩
    have e1 : (d == 1) = false := beq_eq_false_iff_ne.2 k1
    have e2 : (d == 2) = false := beq_eq_false_iff_ne.2 k2
    have e3 : (d == 3) = false := beq_eq_false_iff_ne.2 k3
    have e4 : (d == 4) = false := beq_eq_false_iff_ne.2 k4
    have e5 : (d == 5) = false := beq_eq_false_iff_ne.2 k5
    clear k1 k2 k3 k4 k5 hf1 hf2 hf3 hf4 hf5
    go_enter Try.func5, Try.ntmps5
    go_wp2_with (first | ((with_reducible refine gate_dst (N := 5) rfl ?_); refine box_event ?hg (N := 5) ?hd (cs := #[.int .i64 d, .int .u64 at_, .int .i64 n, .int .u64 u, .int .u64 z0, .int .u64 z1, .int .u64 z2, .int .i64 z3, .int .i64 z4, .bool z5, .slice AB0 bs.length cb0]) (t := 53) ?hr ?_; (case hd => rfl); (case hg => rfl); (case hr => first | (go_simp; done) | (go_simp; rfl)); intro g5 hgb W1 hbox hb; have HB1 := Aside0.mk hb; have B1 := Aside0.mk hbox; clear hb hbox hgb) | (go_at_call 10; refine (AW.out W1).mono ?_; rintro e W2 ⟨rfl, hb⟩; have HB2 := Aside0.mk (below_step HB1.out hb); have B2 := Aside0.mk (blk_below B1.out hb); clear hb HB1 B1) | (go_at_call 17; (with_reducible refine (MD.out W2 HB2.out).mono ?_); rintro e W3 ⟨hv, hb⟩; rw [HN.out] at hv; obtain ⟨g, gm, L3, cl3, he, hM, q1, q2, q3⟩ := hv; subst he; have S3 := Aside0.mk (solo hM q1 q2 q3); have HB3 := Aside0.mk hb; have KB3 := Aside0.mk (BKeepT.old (solo hM q1 q2 q3) B2.out hb); clear hM q1 q2 q3 hb B2; have hc0 : W3.cell? ⟨g5, 0, none⟩ = some (.int .i64 d) := (blk_cell KB3.out.1 0).trans rfl; have hc1 : W3.cell? ⟨g5, 1, none⟩ = some (.int .u64 at_) := (blk_cell KB3.out.1 1).trans rfl; have hc2 : W3.cell? ⟨g5, 2, none⟩ = some (.int .i64 n) := (blk_cell KB3.out.1 2).trans rfl; have hc3 : W3.cell? ⟨g5, 3, none⟩ = some (.int .u64 u) := (blk_cell KB3.out.1 3).trans rfl; have hc4 : W3.cell? ⟨g5, 4, none⟩ = some (.int .u64 z0) := (blk_cell KB3.out.1 4).trans rfl; have hc5 : W3.cell? ⟨g5, 5, none⟩ = some (.int .u64 z1) := (blk_cell KB3.out.1 5).trans rfl; have hc6 : W3.cell? ⟨g5, 6, none⟩ = some (.int .u64 z2) := (blk_cell KB3.out.1 6).trans rfl; have hc7 : W3.cell? ⟨g5, 7, none⟩ = some (.int .i64 z3) := (blk_cell KB3.out.1 7).trans rfl; have hc8 : W3.cell? ⟨g5, 8, none⟩ = some (.int .i64 z4) := (blk_cell KB3.out.1 8).trans rfl; have hc9 : W3.cell? ⟨g5, 9, none⟩ = some (.bool z5) := (blk_cell KB3.out.1 9).trans rfl; have hc10 : W3.cell? ⟨g5, 10, none⟩ = some (.slice AB0 bs.length cb0) := (blk_cell KB3.out.1 10).trans rfl) | (go_at_call 18; (with_reducible refine (RG.out W3).mono ?_); rintro e W4 ⟨rfl, hb⟩; have S4 := Aside0.mk (S3.out.below hb); have HB4 := Aside0.mk (below_then HB3.out HB3.out.size hb); have KB4 := Aside0.mk (KB3.out.below hb); clear hb S3 HB3 KB3; clear hc0 hc1 hc2 hc3 hc4 hc5 hc6 hc7 hc8 hc9 hc10; have hc0 : W4.cell? ⟨g5, 0, none⟩ = some (.int .i64 d) := (blk_cell KB4.out.1 0).trans rfl; have hc1 : W4.cell? ⟨g5, 1, none⟩ = some (.int .u64 at_) := (blk_cell KB4.out.1 1).trans rfl; have hc2 : W4.cell? ⟨g5, 2, none⟩ = some (.int .i64 n) := (blk_cell KB4.out.1 2).trans rfl; have hc3 : W4.cell? ⟨g5, 3, none⟩ = some (.int .u64 u) := (blk_cell KB4.out.1 3).trans rfl; have hc4 : W4.cell? ⟨g5, 4, none⟩ = some (.int .u64 z0) := (blk_cell KB4.out.1 4).trans rfl; have hc5 : W4.cell? ⟨g5, 5, none⟩ = some (.int .u64 z1) := (blk_cell KB4.out.1 5).trans rfl; have hc6 : W4.cell? ⟨g5, 6, none⟩ = some (.int .u64 z2) := (blk_cell KB4.out.1 6).trans rfl; have hc7 : W4.cell? ⟨g5, 7, none⟩ = some (.int .i64 z3) := (blk_cell KB4.out.1 7).trans rfl; have hc8 : W4.cell? ⟨g5, 8, none⟩ = some (.int .i64 z4) := (blk_cell KB4.out.1 8).trans rfl; have hc9 : W4.cell? ⟨g5, 9, none⟩ = some (.bool z5) := (blk_cell KB4.out.1 9).trans rfl; have hc10 : W4.cell? ⟨g5, 10, none⟩ = some (.slice AB0 bs.length cb0) := (blk_cell KB4.out.1 10).trans rfl) | (go_at_call 14; (with_reducible refine (sPages S4.out OK.out).mono ?_); rintro e W5 ⟨v, rfl, hR, hb⟩; rw [← EP.out] at hR; obtain ⟨AP, kp, rfl, hle, hK⟩ := Keeps.new S4.out hR hb; have RP5 := Aside0.mk hK; have HLAP := Aside0.mk hle; have S5 := Aside0.mk (S4.out.below hb); have HB5 := Aside0.mk (below_then HB4.out HB4.out.size hb); have KB5 := Aside0.mk (KB4.out.below hb); clear hR hb hle hK S4 HB4 KB4) | (go_at_call 15; (with_reducible refine (sTags S5.out OK.out).mono ?_); rintro e W6 ⟨v, rfl, hR, hb⟩; rw [← ET.out] at hR; obtain ⟨AT, kt, rfl, hle, hK⟩ := Keeps.new S5.out hR hb; have RT6 := Aside0.mk hK; have HLAT := Aside0.mk hle; have S6 := Aside0.mk (S5.out.below hb); have HB6 := Aside0.mk (below_then HB5.out HB5.out.size hb); have RP6 := Aside0.mk (RP5.out.below hb); have KB6 := Aside0.mk (KB5.out.below hb); clear hR hb hle hK S5 HB5 RP5 KB5) | fail)
    obtain ⟨WB, hWB⟩ : ∃ WB, WB = W6 := ⟨_, rfl⟩
    subst hWB
    go_loopw [12, 13] (fun va vb wr => ∃ (j : Nat), vb = .int .i64 j ∧ j ≤ P.length ∧ Aside0 (Kd.R (Kd.int .u8) 5 wr WB.heap.size (fun _ => True) va (catB M P j)) ∧ Aside0 (Below WB.heap.size WB wr)) (fun _ vb _ => P.length - (intOf vb).toNat)
    case atStart => exact ⟨0, rfl, by omega, ⟨Kd.R_nil _ _ _ _ _⟩, ⟨Below.refl _ _⟩⟩
    case round =>
      obtain ⟨j, rfl, hj, HO, HBl⟩ := hrel
      by_cases hlt : j < P.length
      · have W3' := next64 hlt (by omega)
        obtain ⟨ad, eA, hx0⟩ := Kd.at_int (RP6.out.below HBl.out).now (j : Int) (by omega) (by omega)
        cases eA
        rw [Int.toNat_natCast] at hx0
        obtain ⟨b0, b1⟩ := HP.out _ (rd_mem hlt)
        have EC := Aside0.mk (catB_next M hlt)
        have LX := Aside0.mk (And.intro (catB_len M P j) (bytes_256 M (rd P (j : Int) * 256)))
        have SL := Aside0.mk (S6.out.below HBl.out)
        generalize rd P (j : Int) = p at hx0 b0 b1 EC LX
        obtain ⟨bx, hbx⟩ : ∃ bx, bx = tagmem_Mem_Bytes.f M (p * 256) 256 := ⟨_, rfl⟩
        rw [← hbx] at EC LX
        have EX := Aside0.mk hbx
        have V1 : IntKind.u64.wrap (p * 256) = p * 256 := u64w (by omega) (by omega)
        have p0 : 0 ≤ p * 256 := by omega
        have p1 : p * 256 ≤ 18446744073709551615 := by omega
        generalize catB M P j = l at HO EC LX
        clear hbx
        go_wp2_with (first | (go_at_call 23; (with_reducible refine (sBytes SL.out (p * 256) 256 p0 p1).mono ?_); rintro e W8 ⟨v, rfl, hR, hb⟩; rw [← EX.out] at hR; obtain ⟨Ax, kx, rfl, hle, hC⟩ := Kd.R_reads hR; have HRx := Aside0.mk hC; have HOa := Aside0.mk (Kd.R_below HO.out hb); have HBa := Aside0.mk (below_step HBl.out hb); clear hR hb hle hC) | ((with_reducible refine gate_builtin (b := .append) (xs := #[.tmp 49, .tmp 56]) rfl ?_); at_builtin; refine Kd.R_append_rows (Kd.int .u8) (Rr := (Kd.int .u8).K W8) (w0 := WB) WB.heap.size rfl (.tmp 49) (.tmp 56) 51 5 (.int .u8 0) 1 rfl Try.underlying51 info5 rfl (by decide) (by omega) u12 l bx Ax bx.length kx (fun _ => True) (fun _ => False) rfl rfl HOa.out HRx.out (fun _ _ h => h) (fun _ hk => hk.elim) (fun _ _ => trivial) HBa.out HBa.out.size (by have := LX.out; omega) ?_; intro v3 w3 ho hb hg hat; rw [← EC.out] at ho; have HO3 := Aside0.mk ho; have HB3' := Aside0.mk hb; clear ho hb hg hat) | fail)
        exact ⟨⟨j + 1, by first | rfl | rw [W3'], hlt, HO3, HB3'⟩, by first | exact round_meas hlt | (rw [W3']; exact round_meas hlt)⟩
      · obtain rfl : j = P.length := by omega
        obtain ⟨ABy, kb, rfl, hleB, hKB⟩ := Keeps.new S6.out HO.out HBl.out
        have RB7 := Aside0.mk hKB
        have HLB := Aside0.mk hleB
        have S7 := Aside0.mk (S6.out.below HBl.out)
        have HB7 := Aside0.mk (below_then HB6.out HB6.out.size HBl.out)
        have RP7 := Aside0.mk (RP6.out.below HBl.out)
        have RT7 := Aside0.mk (RT6.out.below HBl.out)
        have KB7 := Aside0.mk (KB6.out.below HBl.out)
        clear hKB hleB HO hc0 hc1 hc2 hc3 hc4 hc5 hc6 hc7 hc8 hc9 hc10
        obtain ⟨W7, hW7⟩ : ∃ W7, W7 = wr := ⟨_, rfl⟩
        subst hW7
        have hc0 : W7.cell? ⟨g5, 0, none⟩ = some (.int .i64 d) := (blk_cell KB7.out.1 0).trans rfl; have hc1 : W7.cell? ⟨g5, 1, none⟩ = some (.int .u64 at_) := (blk_cell KB7.out.1 1).trans rfl; have hc2 : W7.cell? ⟨g5, 2, none⟩ = some (.int .i64 n) := (blk_cell KB7.out.1 2).trans rfl; have hc3 : W7.cell? ⟨g5, 3, none⟩ = some (.int .u64 u) := (blk_cell KB7.out.1 3).trans rfl; have hc4 : W7.cell? ⟨g5, 4, none⟩ = some (.int .u64 z0) := (blk_cell KB7.out.1 4).trans rfl; have hc5 : W7.cell? ⟨g5, 5, none⟩ = some (.int .u64 z1) := (blk_cell KB7.out.1 5).trans rfl; have hc6 : W7.cell? ⟨g5, 6, none⟩ = some (.int .u64 z2) := (blk_cell KB7.out.1 6).trans rfl; have hc7 : W7.cell? ⟨g5, 7, none⟩ = some (.int .i64 z3) := (blk_cell KB7.out.1 7).trans rfl; have hc8 : W7.cell? ⟨g5, 8, none⟩ = some (.int .i64 z4) := (blk_cell KB7.out.1 8).trans rfl; have hc9 : W7.cell? ⟨g5, 9, none⟩ = some (.bool z5) := (blk_cell KB7.out.1 9).trans rfl; have hc10 : W7.cell? ⟨g5, 10, none⟩ = some (.slice AB0 bs.length cb0) := (blk_cell KB7.out.1 10).trans rfl
        go_wp2
        go_ret
        exact ⟨rfl, below_then HB2.out HB2.out.size HB7.out⟩
end Go.Proofs.Ytkppgepljjgjhaa.P
