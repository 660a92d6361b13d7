/- Texts of one proof, one behind the other. No condition. -/
import Derived.Test.YtkppgepljjgjhaaKTagmemEitherMe2
import Derived.Test.YtkppgepljjgjhaaKTagmemEitherMd1
import Derived.Test.YtkppgepljjgjhaaKTagmemEitherMe0
import Derived.Test.YtkppgepljjgjhaaKTagmemEitherRa5
namespace Go.Proofs.Ytkppgepljjgjhaa.P
open Go.RowKit Go.Proofs.YtkppgepljjgjhaaW.PrintWords Go.Proofs.YtkppgepljjgjhaaW.PrintLast Go.Proofs.YtkppgepljjgjhaaW.PrintMore
set_option linter.unusedVariables false
set_option linter.unusedSimpArgs false
/-- Bytes within a page. -/
theorem page_bytes {m : Mm} (h : m.Wf) {a : Int} {p : Pg} (hp : m.page (a / 256) = some p) (n : Nat) (hn : (a % 256).toNat + n ≤ 256) : (p.bs.drop (a % 256).toNat).take n = m.bytes a n := by
  have hl := (h.ok p (page_mem hp).1).b
  rw [bytes_is]
  apply List.ext_getElem?
  intro j
  by_cases hj : j < n
  · rw [List.getElem?_take_of_lt hj, List.getElem?_drop, List.getElem?_map, List.getElem?_range hj, Option.map_some]
    have e : m.byte (a + (j : Int)) = p.bs.getD ((a % 256).toNat + j) 0 := by
      unfold Mm.byte
      rw [show (a + (j : Int)) / 256 = a / 256 by omega, hp]
      simp only
      rw [show ((a + (j : Int)) % 256).toNat = (a % 256).toNat + j by omega]
    rw [e, List.getD_eq_getElem?_getD, List.getElem?_eq_getElem (by omega)]
    rfl
  · rw [List.getElem?_eq_none (by rw [List.length_take, List.length_drop]; omega), List.getElem?_eq_none (by rw [List.length_map, List.length_range]; omega)]
/-- The capability that some bytes tell. -/
def capOf (l : List Int) (t : Bool) : Int × Int × Int × Int × Int × Bool × Int :=
  (leval (l.take 8), leval ((l.take 16).drop 8), leval ((l.take 24).drop 16), l.getD 24 0, if 64 ≤ l.getD 25 0 then -1 else l.getD 25 0, t, 0)
theorem loadG_is {l : List Int} (hl : l.length = 32) (hb : ∀ b ∈ l, 0 ≤ b ∧ b < 256) (t : Bool) : tagmem_LoadCapG.f 20 l t = some (capOf l t) := by
  unfold tagmem_LoadCapG.f capOf
  have r : ∀ i : Nat, i < 32 → rd l (i : Int) = l.getD i 0 ∧ 0 ≤ l.getD i 0 ∧ l.getD i 0 < 256 := fun i hi => by
    refine ⟨by simp [rd], ?_⟩
    rw [List.getD_eq_getElem?_getD, List.getElem?_eq_getElem (by omega)]
    exact hb _ (List.getElem_mem (by omega))
  obtain ⟨e1, p1, q1⟩ := r 24 (by omega)
  obtain ⟨e2, p2, q2⟩ := r 25 (by omega)
  have o1 := of_val (l.take 8) (by rw [List.length_take]; omega) (fun b h => hb b (List.mem_of_mem_take h))
  have o2 := of_val ((l.take 16).drop 8) (by rw [List.length_drop, List.length_take]; omega) (fun b h => hb b (List.mem_of_mem_take (List.mem_of_mem_drop h)))
  have o3 := of_val ((l.take 24).drop 16) (by rw [List.length_drop, List.length_take]; omega) (fun b h => hb b (List.mem_of_mem_take (List.mem_of_mem_drop h)))
  rw [if_pos (by omega), o1, Option.bind_some, if_pos (by omega), if_pos (by omega), o2, Option.bind_some, if_pos (by omega), if_pos (by omega), o3, Option.bind_some, if_pos (by omega), if_pos (by omega)]
  have w1 : wrap64 (rd l 24) = l.getD 24 0 := by rw [show (24 : Int) = ((24 : Nat) : Int) from rfl, e1]; unfold wrap64; omega
  have w2 : wrap64 (rd l 25) = l.getD 25 0 := by rw [show (25 : Int) = ((25 : Nat) : Int) from rfl, e2]; unfold wrap64; omega
  rw [w1, w2]
  by_cases c : 64 ≤ l.getD 25 0
  · rw [if_pos (by omega), if_pos c]
  · rw [if_neg (by omega), if_neg c]
theorem bytes_len (m : Mm) (a : Int) (n : Nat) : (m.bytes a n).length = n := by rw [bytes_is, List.length_map, List.length_range]
theorem bytes_get (m : Mm) (a : Int) {n i : Nat} (h : i < n) : (m.bytes a n)[i]? = some (m.byte (a + (i : Int))) := by
  rw [bytes_is, List.getElem?_map, List.getElem?_range h, Option.map_some]
theorem bytes_range {m : Mm} (h : m.Wf) (a : Int) (n : Nat) : ∀ b ∈ m.bytes a n, 0 ≤ b ∧ b < 256 := by
  intro b hb
  rw [bytes_is] at hb
  obtain ⟨i, _, rfl⟩ := List.mem_map.1 hb
  exact byte_range h _
theorem loadCap_at {m : Mm} (h : m.Wf) {a : Int} (ha : a % 32 = 0) (hh : m.has a = true) : tagmem_Mem_LoadCap.f 20 m a = some (capOf (m.bytes a 32) (m.tag a)) := by
  have hh2 := hh
  unfold Mm.has at hh
  cases hp : m.page (a / 256) with
  | none => rw [hp] at hh; cases hh
  | some p =>
    unfold tagmem_Mem_LoadCap.f
    rw [if_pos ha, hp]
    simp only
    rw [page_bytes h hp 32 (by omega), loadG_is (bytes_len _ _ _) (bytes_range h _ _)]
    congr 2
    unfold Mm.tag
    rw [hp]
    simp only
    rw [show (a % 256 / 32).toNat = (a % 256).toNat / 32 by omega]
/-- What was stored is loaded. -/
theorem CapAt.bytes {m m' : Mm} {a : Int} {l : List Int} {t : Bool} (h : CapAt m m' a l t) (hl : l.length = 32) : m'.bytes a 32 = l := by
  apply List.ext_getElem?
  intro j
  by_cases hj : j < 32
  · rw [bytes_get _ _ hj, h.byte, if_pos (by omega), show (a + (j : Int) - a).toNat = j by omega, List.getD_eq_getElem?_getD, List.getElem?_eq_getElem (by omega)]
    rfl
  · rw [List.getElem?_eq_none (by rw [bytes_len]; omega), List.getElem?_eq_none (by omega)]
end Go.Proofs.Ytkppgepljjgjhaa.P

namespace Go.Proofs.Ytkppgepljjgjhaa.P
open Go.RowKit Go.Proofs.YtkppgepljjgjhaaW.PrintWords Go.Proofs.YtkppgepljjgjhaaW.PrintLast Go.Proofs.YtkppgepljjgjhaaW.PrintMore
set_option linter.unusedVariables false
set_option linter.unusedSimpArgs false
def Rm.sets (r : Rm) (a : Int) : List Int → Rm
  | [] => r
  | b :: l => (r.set a b).sets (a + 1) l
theorem sets_snoc (b : Int) : ∀ (l : List Int) (r : Rm) (a : Int), r.sets a (l ++ [b]) = (r.sets a l).set (a + l.length) b
  | [], r, a => by simp [Rm.sets]
  | x :: l, r, a => by
    rw [List.cons_append, Rm.sets, sets_snoc b l, Rm.sets, List.length_cons]
    congr 1
    omega
theorem set_size (r : Rm) (a b : Int) : (r.set a b).mapped = r.mapped ∧ (r.set a b).cells.length ≤ r.cells.length + 1 ∧ (r.set a b).marks.length ≤ r.marks.length ∧ (r.set a b).budget = r.budget := by
  refine ⟨rfl, ?_, ?_, rfl⟩
  · show (r.setCells a b).length ≤ _
    unfold Rm.setCells
    rw [List.length_append]
    have := List.length_filter_le (fun c : S89 => decide (c.f0 ≠ a)) r.cells
    split
    · rw [List.length_nil]; omega
    · rw [List.length_singleton]; omega
  · exact List.length_filter_le _ _
theorem sets_size : ∀ (l : List Int) (r : Rm) (a : Int), (r.sets a l).mapped = r.mapped ∧ (r.sets a l).cells.length ≤ r.cells.length + l.length ∧ (r.sets a l).marks.length ≤ r.marks.length ∧ (r.sets a l).budget = r.budget
  | [], r, a => ⟨rfl, Nat.le_refl _, Nat.le_refl _, rfl⟩
  | b :: l, r, a => by
    obtain ⟨h1, h2, h3, h4⟩ := sets_size l (r.set a b) (a + 1)
    obtain ⟨g1, g2, g3, g4⟩ := set_size r a b
    refine ⟨h1.trans g1, ?_, Nat.le_trans h3 g3, h4.trans g4⟩
    rw [List.length_cons]
    show ((r.set a b).sets (a + 1) l).cells.length ≤ _
    omega
section
variable {w : World} {g : Nat} {K KA : Nat → Prop} {r : Rm}
set_option maxHeartbeats 4000000 in
set_option maxRecDepth 100000 in
theorem write_calls (h : RefL w g K r) (ho : r.Ok) (a : Int) (h0 : 0 ≤ a) (A : Option Addr) (c : Nat) (l : List Int) (hc : r.cells.length + l.length ≤ 1000000) (h1 : a + l.length ≤ 18446744073709551616) (hF : Kd.F (Kd.int .u8) w KA A l.length l) (hne : ∀ k, KA k → k ≠ g) :
    Calls Try.prog 54 #[.pointer (some ⟨g, 0, none⟩), .int .u64 a, .slice A l.length c] w fun e w' => e = .returned (.tuple #[]) ∧ ∃ K', RefL w' g K' (r.sets a l) ∧ (∀ k, K' k → K k ∨ w.heap.size ≤ k) ∧ Upd w w' (· = g) := by
  have HF := Aside0.mk hF
  have hlen : l.length ≤ 1000000 := by omega
  go_enter Try.func54, Try.ntmps54
  go_wp2
  go_loopw [6] (fun v6 wr => ∃ (j : Nat) (Kj : Nat → Prop), v6 = .int .i64 j ∧ j ≤ l.length ∧ Aside0 (RefL wr g Kj (r.sets a (l.take j))) ∧ Aside0 (∀ k, Kj k → K k ∨ w.heap.size ≤ k) ∧ Aside0 (Upd w wr (· = g))) (fun v6 _ => l.length - (intOf v6).toNat)
  case atStart => exact ⟨0, K, rfl, by omega, ⟨h⟩, ⟨fun k hk => .inl hk⟩, ⟨Upd.refl _ _⟩⟩
  case round =>
    obtain ⟨j, Kj, rfl, hj, HM, HK, HU⟩ := hrel
    by_cases hlt : j < l.length
    · have CJ := Kd.F_now (Kd.F_step HF.out (fun k hk hl => HU.out.block k hl (hne k hk)))
      obtain ⟨ad, eA, hc1⟩ := Kd.at_int CJ (j : Int) (by omega) (by omega)
      cases eA
      rw [Int.toNat_natCast] at hc1
      have W1 : IntKind.u64.wrap (j : Int) = j := u64w (by omega) (by omega)
      have W2 : IntKind.u64.wrap (a + (j : Int)) = a + j := u64w (by omega) (by omega)
      have W3 := next64 hlt (by omega)
      obtain ⟨s1, s2, s3, s4⟩ := sets_size (l.take j) r a
      have hlj : (l.take j).length = j := by rw [List.length_take]; omega
      have e : r.sets a (l.take (j + 1)) = (r.sets a (l.take j)).set (a + (j : Int)) (rd l (j : Int)) := by
        rw [take_next hlt, sets_snoc, hlj]
      have HE := Aside0.mk e
      have HS := Aside0.mk (set_calls HM.out ⟨by rw [s1]; exact ho.m, by omega, Nat.le_trans s3 ho.k⟩ (a + (j : Int)) (rd l (j : Int)) (by omega) (by omega))
      clear CJ e s1 s2 s3 s4
      go_wp2_with (first | (go_at_call 72; refine HS.out.mono ?_; rintro e W5 ⟨rfl, K2, hr2, hk2, hu2⟩; have HM2 := Aside0.mk hr2; have HK2 := Aside0.mk hk2; have HU2 := Aside0.mk hu2; clear hr2 hk2 hu2) | fail)
      refine ⟨⟨j + 1, K2, by first | rfl | rw [W3], hlt, ⟨by rw [HE.out]; exact HM2.out⟩, ⟨fun k hk => ?_⟩, ⟨HU.out.then_ HU2.out (fun _ hk => .inl hk)⟩⟩, by first | exact round_meas hlt | (rw [W3]; exact round_meas hlt)⟩
      rcases HK2.out k hk with hk | hk
      · exact HK.out k hk
      · exact .inr (Nat.le_trans HU.out.size hk)
    · obtain rfl : j = l.length := by omega
      have HM' := HM.out
      rw [List.take_length] at HM'
      have HM2 := Aside0.mk HM'
      clear HM'
      go_wp2
      go_end0
      exact ⟨rfl, Kj, HM2.out, HK.out, HU.out⟩
theorem reflittle_calls {w : World} (u n : Int) (h0 : 0 ≤ u) (h1 : u ≤ 18446744073709551615) (hn : n = 1 ∨ n = 2 ∨ n = 4 ∨ n = 8) :
    Calls Try.prog 55 #[.int .u64 u, .int .i64 n] w fun e w' => ∃ A c, e = .returned (.slice A ((leb u).take n.toNat).length c) ∧ Kd.F (Kd.int .u8) w' (fun k => w.heap.size ≤ k ∧ k < w'.heap.size) A ((leb u).take n.toNat).length ((leb u).take n.toNat) ∧ Below w.heap.size w w' := by
  refine (curtilageref01_Little.calls 30 u n _ w (ref_little u h0 h1 n hn)).mono ?_
  rintro e w' ⟨v, rfl, hR, hb⟩
  obtain ⟨A', c', rfl, hle, hF⟩ := R_own_F hR
  exact ⟨A', c', rfl, hF, hb⟩
def Rm.store (r : Rm) (a n u : Int) : Rm × Int := if r.bad a n = 0 then (r.sets a ((leb u).take n.toNat), 0) else (r, r.bad a n)
theorem bad_zero {r : Rm} {a n : Int} (h : r.bad a n = 0) : (n = 1 ∨ n = 2 ∨ n = 4 ∨ n = 8) ∧ a % n = 0 ∧ r.inB a = true := by
  unfold Rm.bad at h
  by_cases c : n ≠ 1 ∧ n ≠ 2 ∧ n ≠ 4 ∧ n ≠ 8
  · rw [if_pos c] at h; cases h
  · rw [if_neg c] at h
    by_cases c2 : a % n ≠ 0
    · rw [if_pos c2] at h; cases h
    · rw [if_neg c2] at h
      by_cases c3 : r.inB a = false
      · rw [if_pos c3] at h; cases h
      · exact ⟨by omega, by omega, by simpa using c3⟩
set_option maxHeartbeats 4000000 in
set_option maxRecDepth 100000 in
theorem refStore_calls (h : RefL w g K r) (ho : r.Ok) (hc : r.cells.length + 8 ≤ 1000000) (a n u : Int) (h0 : 0 ≤ a) (h1 : a ≤ 18446744073709551615) (u0 : 0 ≤ u) (u1 : u ≤ 18446744073709551615) :
    Calls Try.prog 41 #[.pointer (some ⟨g, 0, none⟩), .int .u64 a, .int .i64 n, .int .u64 u] w fun e w' => e = .returned (.int .i64 (r.store a n u).2) ∧ ∃ K', RefL w' g K' (r.store a n u).1 ∧ (∀ k, K' k → K k ∨ w.heap.size ≤ k) ∧ Upd w w' (· = g) := by
  have BD := Aside0.mk (bad_calls h ho a n h0 h1)
  have HR0 := Aside0.mk h
  unfold Rm.store
  by_cases hz : r.bad a n = 0
  · obtain ⟨hn, ha, -⟩ := bad_zero hz
    rw [if_pos hz]
    rw [hz] at BD
    have LT := Aside0.mk (fun W => reflittle_calls (w := W) u n u0 u1 hn)
    have hl8 : ((leb u).take n.toNat).length = n.toNat := by rw [List.length_take, leb_len]; omega
    have WR := Aside0.mk (fun W KA A c (hb : Below w.heap.size w W) (hF : Kd.F (Kd.int .u8) W KA A ((leb u).take n.toNat).length ((leb u).take n.toNat)) (hk : ∀ k, KA k → w.heap.size ≤ k) => write_calls (h.below hb) ho a h0 A c ((leb u).take n.toNat) (by omega) (by rw [hl8]; rcases hn with rfl | rfl | rfl | rfl <;> omega) hF (fun k hk2 => by have := h.glt; have := hk k hk2; omega))
    generalize (leb u).take n.toNat = l at LT WR ⊢
    clear ha hn hz hl8 h hc
    go_enter Try.func41, Try.ntmps41
    go_wp2_with (first | (go_at_call 53; refine BD.out.mono ?_; rintro e w1 ⟨rfl, hb⟩; have HB := Aside0.mk hb; clear hb) | (go_at_call 55; refine (LT.out _).mono ?_; rintro e w2 ⟨A, c, rfl, hF, hb⟩; have HF := Aside0.mk hF; have HB2 := Aside0.mk (below_step HB.out hb); clear hF hb) | (go_at_call 54; refine (WR.out _ _ A c HB2.out HF.out (fun k hk => Nat.le_trans HB.out.size hk.1)).mono ?_; rintro e w3 ⟨rfl, K3, hr3, hk3, hu3⟩; have HR3 := Aside0.mk hr3; have HK3 := Aside0.mk hk3; have HU3 := Aside0.mk hu3; clear hr3 hk3 hu3) | fail)
    go_ret
    exact ⟨rfl, K3, HR3.out, fun k hk => (HK3.out k hk).imp id (fun hk => Nat.le_trans HB2.out.size hk), (Upd.of_below HB2.out _).then_ HU3.out (fun _ hk => .inl hk)⟩
  · rw [if_neg hz]
    have d : (r.bad a n != 0) = true := bne_iff_ne.2 hz
    generalize r.bad a n = x at BD d ⊢
    clear hz
    go_enter Try.func41, Try.ntmps41
    go_wp2_with (first | (go_at_call 53; refine BD.out.mono ?_; rintro e w1 ⟨rfl, hb⟩; have HB := Aside0.mk hb; clear hb) | fail)
    go_ret
    exact ⟨rfl, K, HR0.out.below HB.out, fun k hk => .inl hk, Upd.of_below HB.out _⟩
def Rm.putB (r : Rm) (a : Int) (l : List Int) : Rm × Int := if r.all a l.length = true then (r.sets a l, 0) else (r, 30)
set_option maxHeartbeats 4000000 in
set_option maxRecDepth 100000 in
theorem refPut_calls (h : RefL w g K r) (ho : r.Ok) (a : Int) (h0 : 0 ≤ a) (h1 : a ≤ 18446744073709551615) (A : Option Addr) (c : Nat) (l : List Int) (hc : r.cells.length + l.length ≤ 1000000) (hF : Kd.F (Kd.int .u8) w KA A l.length l) (hne : ∀ k, KA k → k ≠ g) :
    Calls Try.prog 43 #[.pointer (some ⟨g, 0, none⟩), .int .u64 a, .slice A l.length c] w fun e w' => e = .returned (.int .i64 (r.putB a l).2) ∧ ∃ K', RefL w' g K' (r.putB a l).1 ∧ (∀ k, K' k → K k ∨ w.heap.size ≤ k) ∧ Upd w w' (· = g) := by
  have AL := Aside0.mk (refall_calls h ho a l.length h0 h1 (by omega))
  have HR0 := Aside0.mk h
  unfold Rm.putB
  cases hz : r.all a l.length with
  | true =>
    rw [hz] at AL
    have hfar : a + l.length ≤ 18446744073709551616 := by
      unfold Rm.all at hz
      rw [Bool.and_eq_true, decide_eq_true_eq] at hz
      exact hz.1
    have WR := Aside0.mk (fun W (hb : Below w.heap.size w W) => write_calls (c := c) (h.below hb) ho a h0 A l hc hfar (Kd.F_below hF hb) hne)
    clear hz h hc hfar
    simp only [if_true]
    go_enter Try.func43, Try.ntmps43
    go_wp2_with (first | (go_at_call 57; refine AL.out.mono ?_; rintro e w1 ⟨rfl, hb⟩; have HB := Aside0.mk hb; clear hb) | (go_at_call 54; refine (WR.out _ HB.out).mono ?_; rintro e w3 ⟨rfl, K3, hr3, hk3, hu3⟩; have HR3 := Aside0.mk hr3; have HK3 := Aside0.mk hk3; have HU3 := Aside0.mk hu3; clear hr3 hk3 hu3) | fail)
    go_ret
    exact ⟨rfl, K3, HR3.out, fun k hk => (HK3.out k hk).imp id (fun hk => Nat.le_trans HB.out.size hk), (Upd.of_below HB.out _).then_ HU3.out (fun _ hk => .inl hk)⟩
  | false =>
    rw [hz] at AL
    clear hz
    simp only [Bool.false_eq_true, if_false]
    go_enter Try.func43, Try.ntmps43
    go_wp2_with (first | (go_at_call 57; refine AL.out.mono ?_; rintro e w1 ⟨rfl, hb⟩; have HB := Aside0.mk hb; clear hb) | fail)
    go_ret
    exact ⟨rfl, K, HR0.out.below HB.out, fun k hk => .inl hk, Upd.of_below HB.out _⟩
end
end Go.Proofs.Ytkppgepljjgjhaa.P
