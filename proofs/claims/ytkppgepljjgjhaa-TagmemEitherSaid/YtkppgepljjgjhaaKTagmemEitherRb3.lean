/- Each step of either memory, in a world with both. No condition. -/
import Derived.Test.YtkppgepljjgjhaaKTagmemEitherRb2
namespace Go.Proofs.Ytkppgepljjgjhaa.P
open Go.RowKit Go.Proofs.YtkppgepljjgjhaaW.PrintWords Go.Proofs.YtkppgepljjgjhaaW.PrintLast Go.Proofs.YtkppgepljjgjhaaW.PrintMore
set_option linter.unusedVariables false
set_option linter.unusedSimpArgs false

/-- What the document's memory keeps to. -/
structure Rm.Inv (r : Rm) : Prop where
  m : r.mapped.length ≤ 256
  c : r.cells.length ≤ 900000
  k : r.marks.length ≤ 900000
  by_ : r.By
  rg : r.Rg
  b : r.budget ≤ 256
theorem Rm.Inv.ok {r : Rm} (h : r.Inv) : r.Ok := ⟨by have := h.m; omega, by have := h.c; omega, by have := h.k; omega⟩
section
variable {B : Nat} {w W w0 : World} {g gm : Nat} {L L' : List Lp} {c c' : Nat} {m m' : Mm} {gr : Nat} {K K' : Nat → Prop} {r r' : Rm}
theorem tMap (T : Two B w g gm L c m gr K r) (hw : Below B w0 w) (hB : B ≤ w.heap.size) (p n : Int) (h0 : 0 ≤ p) (h1 : p ≤ 18446744073709551615) :
    Calls Try.prog 24 #[.pointer (some ⟨g, 0, none⟩), .int .u64 p, .int .i64 n] w fun e w' => e = .returned (.int .i64 (tagmem_Mem_Map.f m p n).2) ∧ (∃ L' c', Two B w' g gm L' c' (tagmem_Mem_Map.f m p n).1 gr K r) ∧ Below B w0 w' ∧ Upd w w' (fun k => k = gm ∨ inL L k) := by
  refine (Map_calls T.M p n h0 h1).mono ?_
  rintro e w' ⟨rfl, L', c', hM, hL, hu⟩
  obtain ⟨h2, h3⟩ := T.mem hM (fun k hk => by obtain ⟨x, hx, rfl⟩ := List.mem_map.1 hk; exact hL x hx) hu (fun k hk => .inl hk) hw hB
  exact ⟨rfl, ⟨L', c', h2⟩, h3, hu.mono (fun k hk => .inl hk)⟩
theorem tUnmap (T : Two B w g gm L c m gr K r) (hw : Below B w0 w) (hB : B ≤ w.heap.size) (p n : Int) (h0 : 0 ≤ p) (h1 : p ≤ 18446744073709551615) :
    Calls Try.prog 25 #[.pointer (some ⟨g, 0, none⟩), .int .u64 p, .int .i64 n] w fun e w' => e = .returned (.int .i64 (tagmem_Mem_Unmap.f m p n).2) ∧ (∃ L' c', Two B w' g gm L' c' (tagmem_Mem_Unmap.f m p n).1 gr K r) ∧ Below B w0 w' ∧ Upd w w' (fun k => k = gm ∨ inL L k) := by
  refine (Unmap_calls T.M p n h0 h1).mono ?_
  rintro e w' ⟨rfl, L', hM, hL, hu⟩
  obtain ⟨h2, h3⟩ := T.mem hM (fun k hk => by obtain ⟨x, hx, rfl⟩ := List.mem_map.1 hk; exact .inl (hL x hx)) hu (fun k hk => .inl hk) hw hB
  exact ⟨rfl, ⟨L', c, h2⟩, h3, hu.mono (fun k hk => .inl hk)⟩
theorem tStore (T : Two B w g gm L c m gr K r) (hw : Below B w0 w) (hB : B ≤ w.heap.size) (a n u : Int) (h0 : 0 ≤ a) (h1 : a ≤ 18446744073709551615) (u0 : 0 ≤ u) (u1 : u ≤ 18446744073709551615) :
    Calls Try.prog 21 #[.pointer (some ⟨g, 0, none⟩), .int .u64 a, .int .i64 n, .int .u64 u] w fun e w' => e = .returned (.int .i64 ((tagmem_Mem_Store.f 20 m a n u).getD (m, 0)).2) ∧ (∃ L' c', Two B w' g gm L' c' ((tagmem_Mem_Store.f 20 m a n u).getD (m, 0)).1 gr K r) ∧ Below B w0 w' ∧ Upd w w' (fun k => k = gm ∨ inL L k) := by
  obtain ⟨⟨m', q⟩, hq⟩ := store_tot m a n u u0 u1
  rw [hq]
  refine (Store_calls 20 T.M a n u h0 h1 m' q hq).mono ?_
  rintro e w' ⟨rfl, L', hM, hL, hu⟩
  obtain ⟨h2, h3⟩ := T.mem hM (inL_map hL) hu (fun k hk => .inr hk) hw hB
  exact ⟨rfl, ⟨L', c, h2⟩, h3, hu.mono (fun k hk => .inr hk)⟩
theorem tStoreCap (T : Two B w g gm L c m gr K r) (hw : Below B w0 w) (hB : B ≤ w.heap.size) (a c0 c1 c2 c3 c4 : Int) (c5 : Bool) (h0 : 0 ≤ a) (h1 : a ≤ 18446744073709551615) :
    Calls Try.prog 19 #[.pointer (some ⟨g, 0, none⟩), .int .u64 a, .agg #[.int .u64 c0, .int .u64 c1, .int .u64 c2, .int .i64 c3, .int .i64 c4, .bool c5]] w fun e w' => e = .returned (.int .i64 ((tagmem_Mem_StoreCap.f 20 m a c0 c1 c2 c3 c4 c5).getD (m, 0)).2) ∧ (∃ L' c', Two B w' g gm L' c' ((tagmem_Mem_StoreCap.f 20 m a c0 c1 c2 c3 c4 c5).getD (m, 0)).1 gr K r) ∧ Below B w0 w' ∧ Upd w w' (fun k => k = gm ∨ inL L k) := by
  obtain ⟨⟨m', q⟩, hq⟩ := storeCap_tot m a c0 c1 c2 c3 c4 c5
  rw [hq]
  refine (StoreCap_calls 20 T.M a c0 c1 c2 c3 c4 c5 h0 h1 m' q hq).mono ?_
  rintro e w' ⟨rfl, L', hM, hL, hu⟩
  obtain ⟨h2, h3⟩ := T.mem hM (inL_map hL) hu (fun k hk => .inr hk) hw hB
  exact ⟨rfl, ⟨L', c, h2⟩, h3, hu.mono (fun k hk => .inr hk)⟩
theorem cell_blk {w W : World} {a : Addr} (h : W.heap[a.block]? = w.heap[a.block]?) : W.cell? a = w.cell? a := by simp [World.cell?, h]
theorem rd_eq_all {a b : List Int} (h : a.length = b.length) (hr : ∀ i : Nat, i < a.length → rd a (i : Int) = rd b (i : Int)) : a = b := by
  refine List.ext_getElem h (fun i h1 h2 => ?_)
  have := hr i h1
  simpa [rd, List.getElem?_eq_getElem h1, List.getElem?_eq_getElem h2] using this
theorem same_l (a b : List Int) (h : a.length = b.length) (hl : a.length ≤ 4611686018427387904) : ∀ d i : Nat, d + i = a.length → (∀ j : Nat, j < i → rd a (j : Int) = rd b (j : Int)) → ∃ k, curtilageref01_Same.l0 k a b (i : Int) = some (decide (a = b))
  | 0, i, hi, hp => ⟨1, by
    unfold curtilageref01_Same.l0
    rw [if_neg (by omega), decide_eq_true (rd_eq_all h (fun j hj => hp j (by omega)))]⟩
  | d + 1, i, hi, hp => by
    by_cases c : rd a (i : Int) = rd b (i : Int)
    · obtain ⟨k, hk⟩ := same_l a b h hl d (i + 1) (by omega) (fun j hj => by
        rcases Nat.lt_succ_iff_lt_or_eq.1 hj with hj | rfl
        · exact hp j hj
        · exact c)
      refine ⟨k + 1, ?_⟩
      unfold curtilageref01_Same.l0
      rw [if_pos (by omega), if_pos (by omega), if_pos (by omega), if_pos c, next64 (show i < a.length by omega) hl, hk]
    · refine ⟨1, ?_⟩
      unfold curtilageref01_Same.l0
      rw [if_pos (by omega), if_pos (by omega), if_pos (by omega), if_neg c, decide_eq_false (fun e => c (by rw [e]))]
theorem same_is (a b : List Int) (hl : a.length ≤ 4611686018427387904) : ∃ k, curtilageref01_Same.f k a b = some (decide (a = b)) := by
  unfold curtilageref01_Same.f
  by_cases c : (a.length : Int) = (b.length : Int)
  · obtain ⟨k, hk⟩ := same_l a b (by omega) hl a.length 0 rfl (fun j hj => by omega)
    exact ⟨k, by rw [if_pos c]; exact hk⟩
  · exact ⟨0, by rw [if_neg c, decide_eq_false (fun e => c (by rw [e]))]⟩
theorem same_calls {w : World} (A1 : Option Addr) (k1 : Nat) (a : List Int) (A2 : Option Addr) (k2 : Nat) (b : List Int) (h1 : Kd.C (Kd.int .u8) w A1 a.length a) (l1 : a.length ≤ k1) (h2 : Kd.C (Kd.int .u8) w A2 b.length b) (l2 : b.length ≤ k2) (hl : a.length ≤ 4611686018427387904 := by first | assumption | exact bytes_small _ _ _) :
    Calls Try.prog 27 #[.slice A1 a.length k1, .slice A2 b.length k2] w fun e w' => e = .returned (.bool (decide (a = b))) ∧ Drawn0 w w' := by
  obtain ⟨k, hk⟩ := same_is a b hl
  exact curtilageref01_Same.calls k A1 k1 a A2 k2 b _ w h1 l1 h2 l2 hk
theorem bytes_small (m : Mm) (a n : Int) : (tagmem_Mem_Bytes.f m a n).length ≤ 4611686018427387904 := by
  unfold tagmem_Mem_Bytes.f
  split
  · simp
  · rename_i c
    rw [bytes_len]
    omega
/-- A row that came in is read as it was. -/
theorem came_F {A : Option Addr} {l : List Int} (hr : Kd.C (Kd.int .u8) w0 A l.length l) (hw : Below w0.heap.size w0 w) : Kd.F (Kd.int .u8) w (fun k => k < w0.heap.size) A l.length l := by
  intro W2 hW
  have hb2 : ∀ k, k < w0.heap.size → W2.heap[k]? = w0.heap[k]? := fun k hk => (hW k hk (Nat.lt_of_lt_of_le hk hw.size)).trans (hw.block k hk)
  have h2 : ∀ k, k < l.length → ∃ ad, A = some ad ∧ W2.cell? (ad.add k) = some (.int .u8 (rd l (k : Int))) := fun k hk => by
    obtain ⟨ad, e, hx⟩ := Kd.at_int hr (k : Int) (by omega) (by omega)
    rw [Int.toNat_natCast] at hx
    refine ⟨ad, e, ?_⟩
    have hlt := World.block_lt_of_cell? w0 _ hx
    rw [← hx]
    exact cell_blk (hb2 _ hlt)
  refine Kd.C_of_reads (enc := Value.int .u8) (d := (0 : Int)) (h1 := fun _ => rfl) ⟨rfl, hr.2.1, fun hp => ?_⟩
  obtain ⟨ad, e, _⟩ := h2 0 hp
  refine ⟨ad, e, fun j hj => ?_⟩
  obtain ⟨ad2, e2, hx⟩ := h2 j hj
  rw [e] at e2
  cases e2
  rw [hx]
  simp [rd]
set_option maxHeartbeats 4000000 in
set_option maxRecDepth 100000 in
theorem Put_calls2 {w : World} {g gm : Nat} {L : List Lp} {clock : Nat} {m : Mm} (h : MemL w g gm L clock m) (a : Int) (h0 : 0 ≤ a) (h1 : a ≤ 18446744073709551615) (A : Option Addr) (c : Nat) (l : List Int) (hr : Kd.C (Kd.int .u8) w A l.length l) (hA : ∀ ad, A = some ad → 0 < l.length → ad.block ∉ L.map Lp.blk) :
    Calls Try.prog 26 #[.pointer (some ⟨g, 0, none⟩), .int .u64 a, .slice A l.length c] w fun e w' => e = .returned (.int .i64 (tagmem_Mem_Put.f m a l).2) ∧ ∃ L', MemL w' g gm L' clock (tagmem_Mem_Put.f m a l).1 ∧ L'.map Lp.blk = L.map Lp.blk ∧ Upd w w' (inL L) := by
  have hlen : l.length ≤ 9223372036854775807 := hr.2.1
  have M := Aside0.mk (mapped.calls h a (l.length : Int) h0 h1 (by omega) (by omega))
  unfold tagmem_Mem_Put.f
  cases hm : mapd m a (l.length : Int) with
  | false =>
    rw [hm] at M
    have hM := Aside0.mk h
    go_enter Try.func26, Try.ntmps26
    go_wp2_with (first | (go_at_call 35; refine M.out.mono ?_; rintro e w' ⟨rfl, rfl⟩) | fail)
    go_ret
    simp only [Bool.false_eq_true, if_false]
    exact ⟨rfl, L, hM.out, rfl, Upd.refl _ _⟩
  | true =>
    rw [hm] at M
    have hm2 := hm
    unfold mapd at hm2
    rw [Bool.and_eq_true, decide_eq_true_eq, List.all_eq_true] at hm2
    obtain ⟨hc, hall⟩ := hm2
    have hM := Aside0.mk h
    go_enter Try.func26, Try.ntmps26
    go_wp2_with (first | (go_at_call 35; refine M.out.mono ?_; rintro e w' ⟨rfl, rfl⟩) | fail)
    go_loopw [19] (fun v19 wr => ∃ (j : Nat) (Lj : List Lp), v19 = .int .i64 j ∧ j ≤ l.length ∧ Aside0 (MemL wr g gm Lj clock (m.pokes a (l.take j))) ∧ Aside0 (Lj.map Lp.blk = L.map Lp.blk) ∧ Aside0 (Upd w' wr (inL L))) (fun v19 _ => l.length - (intOf v19).toNat)
    case atStart => exact ⟨0, L, rfl, by omega, ⟨h⟩, ⟨rfl⟩, ⟨Upd.refl _ _⟩⟩
    case round =>
      obtain ⟨j, Lj, rfl, hj, HM, HL, HU⟩ := hrel
      by_cases hlt : j < l.length
      · have a0 : 0 ≤ a + (j : Int) := by omega
        have a1 : a + (j : Int) ≤ 18446744073709551615 := by omega
        have hsome := hall j (by simpa using hlt)
        rw [← page_pokes _ (l.take j) m a, HM.out.page] at hsome
        cases hl : lookL ((a + (j : Int)) / 256) Lj with
        | none => rw [hl] at hsome; simp at hsome
        | some x =>
          have hx := (lookL_mem hl).1
          have hok := HM.out.ok x hx
          obtain ⟨ad, eA, hcell⟩ := Kd.at_int hr (j : Int) (by omega) (by omega)
          subst eA
          have hc1 := cell_kept hcell HU.out.kept (by rw [add_block]; exact hA ad rfl (by omega))
          clear hcell
          simp only [Int.toNat_natCast] at hc1
          have W1 : IntKind.u64.wrap (j : Int) = j := by rw [IntKind.wrap_u64]; omega
          have W2 : IntKind.u64.wrap (a + (j : Int)) = a + j := by rw [IntKind.wrap_u64]; omega
          have W3 : wrap64 ((j : Int) + 1) = ((j + 1 : Nat) : Int) := by unfold wrap64; omega
          have PL := Aside0.mk (place_some HM.out a0 a1 hl)
          have i0 : 0 ≤ (a + (j : Int)) % 256 := by omega
          have i1 : (a + (j : Int)) % 256 < 256 := by omega
          have hb := (blk_cell (HM.out.blk x hx) ((a + (j : Int)) % 256).toNat).trans (cells_at hok (by omega))
          have hfb := blk_frozen (HM.out.blk x hx) ((a + (j : Int)) % 256).toNat
          have ht := (blk_cell (HM.out.blk x hx) (256 + ((a + (j : Int)) % 256 / 32).toNat)).trans (cells_tag_at hok (by omega))
          have hft := blk_frozen (HM.out.blk x hx) (256 + ((a + (j : Int)) % 256 / 32).toNat)
          obtain ⟨L', hp, hpl⟩ := HM.out.poke (a := a + (j : Int)) (b := rd l (j : Int)) a0 hl
          have HP := Aside0.mk hp
          clear hp
          go_wp2_with (first | (go_at_call 36; refine PL.out.mono ?_; rintro e w' ⟨rfl, rfl⟩) | fail)
          have hblk : inL L x.blk := show x.blk ∈ L.map Lp.blk from HL.out ▸ List.mem_map_of_mem hx
          have e : m.pokes a (l.take (j + 1)) = (m.pokes a (l.take j)).poke (a + (j : Int)) (rd l (j : Int)) := by
            rw [take_next hlt, pokes_snoc, List.length_take, Nat.min_eq_left (by omega)]
          refine ⟨⟨j + 1, L', by simp, by omega, ⟨by rw [e]; exact HP.out⟩, ⟨hpl.trans HL.out⟩, ⟨?_⟩⟩, by simp [intOf]; omega⟩
          exact (HU.out.then_ (Upd.setCell _ (p := ⟨x.blk, _, none⟩) hblk _) (fun _ hk => .inl hk)).then_ (Upd.setCell _ (p := ⟨x.blk, _, none⟩) hblk _) (fun _ hk => .inl hk)
      · obtain rfl : j = l.length := by omega
        go_wp2
        go_ret
        simp only [if_true]
        refine ⟨rfl, Lj, ?_, HL.out, HU.out⟩
        have := HM.out
        rwa [List.take_length] at this
theorem tPut (T : Two w0.heap.size w g gm L c m gr K r) (hw : Below w0.heap.size w0 w) (a : Int) (h0 : 0 ≤ a) (h1 : a ≤ 18446744073709551615) (A : Option Addr) (cx : Nat) (l : List Int) (hr : Kd.C (Kd.int .u8) w0 A l.length l) :
    Calls Try.prog 26 #[.pointer (some ⟨g, 0, none⟩), .int .u64 a, .slice A l.length cx] w fun e w' => e = .returned (.int .i64 (tagmem_Mem_Put.f m a l).2) ∧ (∃ L' c', Two w0.heap.size w' g gm L' c' (tagmem_Mem_Put.f m a l).1 gr K r) ∧ Below w0.heap.size w0 w' ∧ Upd w w' (fun k => k = gm ∨ inL L k) := by
  have hA : ∀ ad, A = some ad → 0 < l.length → ad.block ∉ L.map Lp.blk := fun ad e h5 hk => by
    obtain ⟨a2, e2, hx⟩ := Kd.at_int hr 0 (by omega) (by omega)
    rw [e] at e2
    cases e2
    have hlt := World.block_lt_of_cell? w0 _ hx
    rw [add_block] at hlt
    have := T.b3 _ hk
    omega
  refine (Put_calls2 T.M a h0 h1 A cx l (Kd.C_below hr hw) hA).mono ?_
  rintro e w' ⟨rfl, L', hM, hL, hu⟩
  obtain ⟨h2, h3⟩ := T.mem hM (inL_map hL) hu (fun k hk => .inr hk) hw hw.size
  exact ⟨rfl, ⟨L', c, h2⟩, h3, hu.mono (fun k hk => .inr hk)⟩
theorem rMap (T : Two B w g gm L c m gr K r) (I : r.Inv) (hw : Below B w0 w) (hB : B ≤ w.heap.size) (p n : Int) (h0 : 0 ≤ p) (h1 : p ≤ 18446744073709551615) :
    Calls Try.prog 39 #[.pointer (some ⟨gr, 0, none⟩), .int .u64 p, .int .i64 n] w fun e w' => e = .returned (.int .i64 (r.map p n).2) ∧ (∃ K', Two B w' g gm L c m gr K' (r.map p n).1) ∧ Below B w0 w' := by
  refine (refMap_calls T.R I.ok (by have := I.b; omega) p n h0 h1).mono ?_
  rintro e w' ⟨rfl, K', hR, hK, hu⟩
  obtain ⟨h2, h3⟩ := T.ref hR hK hu hw hB
  exact ⟨rfl, ⟨K', h2⟩, h3⟩
theorem rUnmap (T : Two B w g gm L c m gr K r) (I : r.Inv) (hw : Below B w0 w) (hB : B ≤ w.heap.size) (p n : Int) (h0 : 0 ≤ p) (h1 : p ≤ 18446744073709551615) :
    Calls Try.prog 40 #[.pointer (some ⟨gr, 0, none⟩), .int .u64 p, .int .i64 n] w fun e w' => e = .returned (.int .i64 (r.unmap p n).2) ∧ (∃ K', Two B w' g gm L c m gr K' (r.unmap p n).1) ∧ Below B w0 w' := by
  refine (refUnmap_calls T.R I.ok I.rg p n h0 h1).mono ?_
  rintro e w' ⟨rfl, K', hR, hK, hu⟩
  obtain ⟨h2, h3⟩ := T.ref hR hK hu hw hB
  exact ⟨rfl, ⟨K', h2⟩, h3⟩
theorem rStore (T : Two B w g gm L c m gr K r) (I : r.Inv) (hw : Below B w0 w) (hB : B ≤ w.heap.size) (a n u : Int) (h0 : 0 ≤ a) (h1 : a ≤ 18446744073709551615) (u0 : 0 ≤ u) (u1 : u ≤ 18446744073709551615) :
    Calls Try.prog 41 #[.pointer (some ⟨gr, 0, none⟩), .int .u64 a, .int .i64 n, .int .u64 u] w fun e w' => e = .returned (.int .i64 (r.store a n u).2) ∧ (∃ K', Two B w' g gm L c m gr K' (r.store a n u).1) ∧ Below B w0 w' := by
  refine (refStore_calls T.R I.ok (by have := I.c; omega) a n u h0 h1 u0 u1).mono ?_
  rintro e w' ⟨rfl, K', hR, hK, hu⟩
  obtain ⟨h2, h3⟩ := T.ref hR hK hu hw hB
  exact ⟨rfl, ⟨K', h2⟩, h3⟩
theorem rStoreCap (T : Two B w g gm L c m gr K r) (I : r.Inv) (hw : Below B w0 w) (hB : B ≤ w.heap.size) (a c0 c1 c2 c3 c4 : Int) (c5 : Bool) (h0 : 0 ≤ a) (h1 : a ≤ 18446744073709551615) (hc0 : 0 ≤ c0 ∧ c0 ≤ 18446744073709551615) (hc1 : 0 ≤ c1 ∧ c1 ≤ 18446744073709551615) (hc2 : 0 ≤ c2 ∧ c2 ≤ 18446744073709551615) (hc4 : -1 ≤ c4) :
    Calls Try.prog 42 #[.pointer (some ⟨gr, 0, none⟩), .int .u64 a, .agg #[.int .u64 c0, .int .u64 c1, .int .u64 c2, .int .i64 c3, .int .i64 c4, .bool c5]] w fun e w' => e = .returned (.int .i64 (r.storeCap a c0 c1 c2 c3 c4 c5).2) ∧ (∃ K', Two B w' g gm L c m gr K' (r.storeCap a c0 c1 c2 c3 c4 c5).1) ∧ Below B w0 w' := by
  refine (refStoreCap_calls T.R I.ok (by have := I.c; omega) a c0 c1 c2 c3 c4 c5 h0 h1 hc0 hc1 hc2 hc4).mono ?_
  rintro e w' ⟨rfl, K', hR, hK, hu⟩
  obtain ⟨h2, h3⟩ := T.ref hR hK hu hw hB
  exact ⟨rfl, ⟨K', h2⟩, h3⟩
theorem rPut (T : Two w0.heap.size w g gm L c m gr K r) (I : r.Inv) (hw : Below w0.heap.size w0 w) (a : Int) (h0 : 0 ≤ a) (h1 : a ≤ 18446744073709551615) (A : Option Addr) (cx : Nat) (l : List Int) (hr : Kd.C (Kd.int .u8) w0 A l.length l) (hl : l.length ≤ 600) :
    Calls Try.prog 43 #[.pointer (some ⟨gr, 0, none⟩), .int .u64 a, .slice A l.length cx] w fun e w' => e = .returned (.int .i64 (r.putB a l).2) ∧ (∃ K', Two w0.heap.size w' g gm L c m gr K' (r.putB a l).1) ∧ Below w0.heap.size w0 w' := by
  refine (refPut_calls T.R I.ok a h0 h1 A cx l (by have := I.c; omega) (came_F hr hw) (fun k hk => by have := T.b1.2.2; omega)).mono ?_
  rintro e w' ⟨rfl, K', hR, hK, hu⟩
  obtain ⟨h2, h3⟩ := T.ref hR hK hu hw hw.size
  exact ⟨rfl, ⟨K', h2⟩, h3⟩
end
end Go.Proofs.Ytkppgepljjgjhaa.P
