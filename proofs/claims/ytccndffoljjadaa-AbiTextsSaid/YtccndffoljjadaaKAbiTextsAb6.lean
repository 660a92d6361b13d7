/- Words of the walks: lemmas about memory, cut down to what this proof uses. No condition. -/
import Derived.Test.YtccndffoljjadaaKAbiTextsAb5
import Derived.ArgAppend
namespace Go.Proofs.Ytccndffoljjadaa.P
open Go.RowKit Go.Proofs.YtccndffoljjadaaW.PrintWords Go.Proofs.YtccndffoljjadaaW.PrintLast
set_option linter.unusedVariables false
set_option linter.unusedSimpArgs false
/-- A row of bytes out of its cells. -/
theorem C_bytes {w : World} {ad : Addr} {l : List Int} (hl : l.length ≤ 9223372036854775807) (h : ∀ j q, l[j]? = some q → w.cell? (ad.add j) = some (.int .u8 q)) : Kd.C (Kd.int .u8) w (some ad) l.length l := by
  refine ⟨rfl, hl, fun _ => ⟨ad, rfl, fun j q hq => ⟨[.int .u8 q], rfl, rfl, fun i u hu => ?_⟩⟩⟩
  rcases i with _ | i
  · cases hu
    rw [show j * (Kd.int .u8).sz + 0 = j from by show j * 1 + 0 = j; omega]
    exact h j q hq
  · cases hu
theorem info5' : (Try.prog.info? 5).map (fun i => (i.zero, i.size, i.bytes)) = some (some (.int .u8 0), 1, 1) := by kernel_rfl
theorem addr_add0 (b j : Nat) : (⟨b, 0, none⟩ : Addr).add j = ⟨b, j, none⟩ := by unfold Addr.add; split <;> simp_all
theorem bytes_cells_get (w : World) (s : ByteArray) (j : Nat) (q : Int) (hq : (bytesOf s)[j]? = some q) : (Lib.bytesWorld w 5 s).cell? ⟨w.heap.size, j, none⟩ = some (.int .u8 q) := by
  have hj : j < s.size := by
    have := (List.getElem?_eq_some_iff.1 hq).1
    rw [bytesOf_length] at this
    exact this
  rw [Lib.bytesWorld_cell w 5 s j hj]
  unfold bytesOf at hq
  rw [List.getElem?_map] at hq
  rw [List.getD_eq_getElem?_getD]
  cases h : s.data.toList[j]? with
  | none => rw [h] at hq; cases hq
  | some b => rw [h] at hq; cases hq; rfl
/-- What []byte(s) and []byte{0} leave, in either order. -/
structure Two (W0 : World) (s : ByteArray) (g1 g2 cap : Nat) (W : World) : Prop where
  below : Below W0.heap.size W0 W
  old : W0.heap.size ≤ g1
  room : s.size ≤ cap
  row : ∃ cs : Array Value, W.heap[g1]? = some (.cells cs 5 (cs.size, cs.size + 1)) ∧ cs.size = cap ∧ ∀ (j : Nat) (q : Int), (bytesOf s)[j]? = some q → cs[j]? = some (.int .u8 q)
  zero : W.heap[g2]? = some (.cells #[.int .u8 0] 5 (0, 0))
theorem bytes_row (w : World) (s : ByteArray) : s.size ≤ grownCap w s.size 0 5 ∧ ∃ cs : Array Value, (Lib.bytesWorld w 5 s).heap[w.heap.size]? = some (.cells cs 5 (cs.size, cs.size + 1)) ∧ cs.size = grownCap w s.size 0 5 ∧ ∀ (j : Nat) (q : Int), (bytesOf s)[j]? = some q → cs[j]? = some (.int .u8 q) := by
  have hge := grownCap_ge w s.size 0 5
  have hat := Lib.bytesWorld_at_new w 5 s
  refine ⟨hge, _, hat, ?_, fun j q hq => ?_⟩
  · have : s.data.size = s.size := rfl
    simp [Lib.bytesCells]; omega
  · have := bytes_cells_get w s j q hq
    simpa [World.cell?, hat] using this
theorem Two.conv (W0 : World) (s : ByteArray) : Two W0 s W0.heap.size (Lib.bytesWorld W0 5 s).heap.size (grownCap W0 s.size 0 5) ((Lib.bytesWorld W0 5 s).alloc (.cells #[.int .u8 0] 5)) := by
  obtain ⟨hge, cs, h1, h2, h3⟩ := bytes_row W0 s
  exact ⟨below_alloc (bytes_below (Below.refl _ _) (Nat.le_refl _) 5 s) _, Nat.le_refl _, hge, ⟨cs, ((below_alloc (Below.refl _ _) _).block _ (blk_lt h1)).trans h1, h2, h3⟩, blk_new _ _⟩
theorem Two.lit (W0 : World) (s : ByteArray) : Two W0 s (W0.alloc (.cells #[.int .u8 0] 5)).heap.size W0.heap.size (grownCap (W0.alloc (.cells #[.int .u8 0] 5)) s.size 0 5) (Lib.bytesWorld (W0.alloc (.cells #[.int .u8 0] 5)) 5 s) := by
  obtain ⟨hge, cs, h1, h2, h3⟩ := bytes_row (W0.alloc (.cells #[.int .u8 0] 5)) s
  have hn := blk_new W0 (.cells #[.int .u8 0] 5)
  have hb := bytes_below (Below.refl (W0.alloc (.cells #[.int .u8 0] 5)).heap.size _) (Nat.le_refl _) 5 s
  exact ⟨bytes_below (below_alloc (Below.refl _ _) _) (by simp) 5 s, by simp, hge, ⟨cs, h1, h2, h3⟩, (hb.block _ (blk_lt hn)).trans hn⟩
/-- append([]byte(s), 0). -/
theorem run_append_zero {W0 W : World} {s : ByteArray} {g1 g2 cap : Nat} (hs : s.size ≤ 1000) (h2w : Two W0 s g1 g2 cap W) :
    ∃ A c w1, (∀ ty, (Builtin.append_ #[59, 59] ty #[.slice (some ⟨g1, 0, none⟩) s.size cap, .slice (some ⟨g2, 0, none⟩) 1 1]).run Try.prog W = .ok (.slice (some A) (bytesOf s ++ [0]).length c) w1) ∧ Kd.C (Kd.int .u8) w1 (some A) (bytesOf s ++ [0]).length (bytesOf s ++ [0]) ∧ W0.heap.size ≤ A.block ∧ Below W0.heap.size W0 w1 := by
  obtain ⟨i, hi, hz⟩ := Option.map_eq_some_iff.1 info5'
  simp only [Prod.mk.injEq] at hz
  obtain ⟨hz0, hz1, hz2⟩ := hz
  obtain ⟨hb2, hg1, hge, ⟨cs, hat2, hcs, hcell⟩, hnew⟩ := h2w
  have hcell2 : ∀ (j : Nat) (q : Int), (bytesOf s)[j]? = some q → W.cell? ⟨g1, j, none⟩ = some (.int .u8 q) := fun j q hq => by
    simp only [World.cell?, hat2]; exact hcell j q hq
  have hn : ∀ j u, ([.int .u8 0] : List Value)[j]? = some u → W.cell? ((⟨g2, 0, none⟩ : Addr).add j) = some u := by
    intro j u hu
    rw [addr_add0, blk_cell hnew]
    rcases j with _ | j
    · exact hu
    · cases hu
  have hlen : (bytesOf s ++ [0]).length = s.size + 1 := by rw [List.length_append, bytesOf_length]; rfl
  have hone : ∀ u ∈ ([.int .u8 0] : List Value), u.oneCell' = true := by intro u hu; simp only [List.mem_singleton] at hu; subst hu; rfl
  by_cases hr : s.size + 1 ≤ cap
  · have hc : ∀ j, j < ([.int .u8 0] : List Value).length → (W.cell? ⟨g1, 0 + s.size * i.size + j, none⟩).isSome = true := by
      intro j hj
      simp only [List.length_singleton] at hj
      obtain rfl : j = 0 := by omega
      rw [hz1]
      simp only [World.cell?, hat2]
      simp
      omega
    have hf : ∀ j, j < ([.int .u8 0] : List Value).length → W.frozen? ⟨g1, 0 + s.size * i.size + j, none⟩ = false := by
      intro j hj
      simp only [List.length_singleton] at hj
      obtain rfl : j = 0 := by omega
      rw [hz1]
      simp only [World.frozen?, hat2, Bool.and_eq_false_iff, decide_eq_false_iff_not]
      left
      omega
    have h := fun ty => run_append_room_cells (P := Try.prog) W 59 ty 5 i Try.underlying59 hi g1 0 s.size cap ⟨g2, 0, none⟩ 1 1 [.int .u8 0] (by rw [hz1]; rfl) hn hone hr hc hf
    rw [hz1, show 0 + s.size * 1 = s.size by omega] at h
    refine ⟨⟨g1, 0, none⟩, cap, _, by rw [hlen]; exact h, C_bytes (by rw [hlen]; omega) ?_, hg1, ?_⟩
    · intro j q hq
      rw [addr_add0]
      show (W.setCell ⟨g1, s.size, none⟩ (.int .u8 0)).cell? _ = _
      by_cases e : j = s.size
      · subst e
        rw [List.getElem?_append_right (by rw [bytesOf_length]; exact Nat.le_refl _)] at hq
        simp only [bytesOf_length, Nat.sub_self] at hq
        cases hq
        exact World.cell?_setCell_same' _ _ _ (by have := hc 0 (by simp); rw [hz1] at this; simpa using this)
      · have hj : j < s.size := by
          have := (List.getElem?_eq_some_iff.1 hq).1
          rw [hlen] at this
          omega
        rw [List.getElem?_append_left (by rw [bytesOf_length]; exact hj)] at hq
        rw [World.cell?_setCell_other _ _ _ _ (by intro h; injection h with h1 h2; omega)]
        exact hcell2 j q hq
    · show Below _ W0 (W.setCell ⟨g1, s.size, none⟩ (.int .u8 0))
      exact below_set hb2 hg1
  · have hol : ((bytesOf s).map (Value.int .u8)).length = s.size * 1 := by rw [List.length_map, bytesOf_length, Nat.mul_one]
    have hold : ∀ j u, ((bytesOf s).map (Value.int .u8))[j]? = some u → W.cell? ((⟨g1, 0, none⟩ : Addr).add j) = some u := by
      intro j u hu
      rw [List.getElem?_map] at hu
      cases hq : (bytesOf s)[j]? with
      | none => rw [hq] at hu; cases hu
      | some q => rw [hq] at hu; cases hu; rw [addr_add0]; exact hcell2 j q hq
    obtain ⟨v1, w1, h, ho, hg⟩ := run_append_arg_grows (P := Try.prog) W 59 0 5 i (.int .u8 0) 1 1 Try.underlying59 hi hz0 hz1 hz2 rfl (by omega) ⟨g1, 0, none⟩ s.size cap _ hol hold ⟨g2, 0, none⟩ 1 1 [.int .u8 0] rfl hn (by omega) (by simp only [maxLen]; omega) (by omega)
    rcases ho.2 with ⟨_, h0⟩ | ⟨g, c, cur, rfl, hbg, hblk, hnc, hcm, hcur, htk⟩
    · omega
    · have hle : W0.heap.size ≤ W.heap.size := hb2.size
      refine ⟨⟨g, 0, none⟩, c, w1, by rw [hlen]; exact fun ty => h, C_bytes (by rw [hlen]; omega) ?_, by show W0.heap.size ≤ g; omega, ?_⟩
      · intro j q hq
        rw [addr_add0, blk_cell hblk]
        have hj := (List.getElem?_eq_some_iff.1 hq).1
        rw [hlen] at hj
        have e : (cur.toList.take ((s.size + 1) * 1))[j]? = some (.int .u8 q) := by
          rw [htk]
          rw [show ((bytesOf s).map (Value.int .u8) ++ [.int .u8 0]) = (bytesOf s ++ [0]).map (Value.int .u8) by simp]
          rw [List.getElem?_map, hq]; rfl
        rw [List.getElem?_take, if_pos (by omega)] at e
        simpa using e
      · exact hb2.trans ⟨hg.os, hg.tape, hg.output, hg.size, fun k hk => hg.block k (by omega) (by simp)⟩
end Go.Proofs.Ytccndffoljjadaa.P
