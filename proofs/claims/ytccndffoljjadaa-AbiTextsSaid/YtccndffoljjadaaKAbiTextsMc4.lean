/- Words of the walks: lemmas about memory, cut down to what this proof uses. No condition. -/
import Derived.Test.YtccndffoljjadaaKAbiTextsMc3
namespace Go.Proofs.Ytccndffoljjadaa.P
open Go.RowKit Go.Proofs.YtccndffoljjadaaW.PrintWords Go.Proofs.YtccndffoljjadaaW.PrintLast
set_option linter.unusedVariables false
set_option linter.unusedSimpArgs false
theorem page_put (m : Mm) (p : Pg) (n : Int) : ((m.put p).page n).isSome = (m.page n).isSome := by
  unfold Mm.page Mm.put
  simp only [List.find?_map]
  rw [Option.isSome_map]
  have : ((fun q => n == q.no) ∘ fun q : Pg => if q.no = p.no then p else q) = fun q : Pg => n == q.no := by
    funext q
    simp only [Function.comp]
    split
    · rename_i c; rw [c]
    · rfl
  rw [this]
theorem page_poke (m : Mm) (a b n : Int) : ((m.poke a b).page n).isSome = (m.page n).isSome := by
  unfold Mm.poke
  split
  · exact page_put _ _ _
  · rfl
theorem page_pokes (n : Int) : ∀ (l : List Int) (m : Mm) (a : Int), ((m.pokes a l).page n).isSome = (m.page n).isSome
  | [], m, a => rfl
  | b :: r, m, a => by rw [Mm.pokes, page_pokes n r, page_poke]
def tagmem_Mem_Put.f (m : Mm) (a : Int) (l : List Int) : Mm × Int := if mapd m a l.length then (m.pokes a l, 0) else (m, 30)
/-- One of the pages' blocks. -/
def inL (L : List Lp) (k : Nat) : Prop := k ∈ L.map Lp.blk
theorem take_next {l : List Int} {j : Nat} (h : j < l.length) : l.take (j + 1) = l.take j ++ [rd l (j : Int)] := by
  rw [List.take_add_one, List.getElem?_eq_getElem h]
  simp [rd, List.getD_eq_getElem?_getD, List.getElem?_eq_getElem h]
theorem add_block (a : Addr) (j : Nat) : (a.add j).block = a.block := by unfold Addr.add; split <;> rfl
set_option maxHeartbeats 4000000 in
set_option maxRecDepth 100000 in
theorem Put_calls {w : World} {g gm : Nat} {L : List Lp} {clock : Nat} {m : Mm} (h : MemL w g gm L clock m) (a : Int) (h0 : 0 ≤ a) (h1 : a ≤ 18446744073709551615) (A : Option Addr) (c : Nat) (l : List Int) (hr : Kd.C (Kd.int .u8) w A l.length l) (hA : ∀ ad, A = some ad → ad.block ∉ L.map Lp.blk) :
    Calls Try.prog 59 #[.pointer (some ⟨g, 0, none⟩), .int .u64 a, .slice A l.length c] w fun e w' => e = .returned (.int .i64 (tagmem_Mem_Put.f m a l).2) ∧ ∃ L', MemL w' g gm L' clock (tagmem_Mem_Put.f m a l).1 ∧ L'.map Lp.blk = L.map Lp.blk ∧ Upd w w' (inL L) := by
  have hlen : l.length ≤ 9223372036854775807 := hr.2.1
  have M := Aside0.mk (mapped.calls h a (l.length : Int) h0 h1 (by omega) (by omega))
  unfold tagmem_Mem_Put.f
  cases hm : mapd m a (l.length : Int) with
  | false =>
    rw [hm] at M
    have hM := Aside0.mk h
    go_enter Try.func59, Try.ntmps59
    go_wp2_with (first | (go_at_call 47; refine M.out.mono ?_; rintro e w' ⟨rfl, rfl⟩) | fail)
    go_ret
    simp only [Bool.false_eq_true, if_false]
    exact ⟨rfl, L, hM.out, rfl, Upd.refl _ _⟩
  | true =>
    rw [hm] at M
    have hm2 := hm
    unfold mapd at hm2
    rw [Bool.and_eq_true, decide_eq_true_eq, List.all_eq_true] at hm2
    obtain ⟨hc, hall⟩ := hm2
    have hM := Aside0.mk h
    go_enter Try.func59, Try.ntmps59
    go_wp2_with (first | (go_at_call 47; refine M.out.mono ?_; rintro e w' ⟨rfl, rfl⟩) | fail)
    go_loopw [19] (fun v19 wr => ∃ (j : Nat) (Lj : List Lp), v19 = .int .i64 j ∧ j ≤ l.length ∧ Aside0 (MemL wr g gm Lj clock (m.pokes a (l.take j))) ∧ Aside0 (Lj.map Lp.blk = L.map Lp.blk) ∧ Aside0 (Upd w' wr (inL L))) (fun v19 _ => l.length - (intOf v19).toNat)
    case atStart => exact ⟨0, L, rfl, by omega, ⟨h⟩, ⟨rfl⟩, ⟨Upd.refl _ _⟩⟩
    case round =>
      obtain ⟨j, Lj, rfl, hj, HM, HL, HU⟩ := hrel
      by_cases hlt : j < l.length
      · have a0 : 0 ≤ a + (j : Int) := by omega
        have a1 : a + (j : Int) ≤ 18446744073709551615 := by omega
        have hsome := hall j (by simpa using hlt)
        rw [← page_pokes _ (l.take j) m a, HM.out.page] at hsome
        cases hl : lookL ((a + (j : Int)) / 256) Lj with
        | none => rw [hl] at hsome; simp at hsome
        | some x =>
          have hx := (lookL_mem hl).1
          have hok := HM.out.ok x hx
          obtain ⟨ad, eA, hcell⟩ := Kd.at_int hr (j : Int) (by omega) (by omega)
          subst eA
          have hc1 := cell_kept hcell HU.out.kept (by rw [add_block]; exact hA ad rfl)
          clear hcell
          simp only [Int.toNat_natCast] at hc1
          have W1 : IntKind.u64.wrap (j : Int) = j := by rw [IntKind.wrap_u64]; omega
          have W2 : IntKind.u64.wrap (a + (j : Int)) = a + j := by rw [IntKind.wrap_u64]; omega
          have W3 : wrap64 ((j : Int) + 1) = ((j + 1 : Nat) : Int) := by unfold wrap64; omega
          have PL := Aside0.mk (place_some HM.out a0 a1 hl)
          have i0 : 0 ≤ (a + (j : Int)) % 256 := by omega
          have i1 : (a + (j : Int)) % 256 < 256 := by omega
          have hb := (blk_cell (HM.out.blk x hx) ((a + (j : Int)) % 256).toNat).trans (cells_at hok (by omega))
          have hfb := blk_frozen (HM.out.blk x hx) ((a + (j : Int)) % 256).toNat
          have ht := (blk_cell (HM.out.blk x hx) (256 + ((a + (j : Int)) % 256 / 32).toNat)).trans (cells_tag_at hok (by omega))
          have hft := blk_frozen (HM.out.blk x hx) (256 + ((a + (j : Int)) % 256 / 32).toNat)
          obtain ⟨L', hp, hpl⟩ := HM.out.poke (a := a + (j : Int)) (b := rd l (j : Int)) a0 hl
          have HP := Aside0.mk hp
          clear hp
          go_wp2_with (first | (go_at_call 48; refine PL.out.mono ?_; rintro e w' ⟨rfl, rfl⟩) | fail)
          have hblk : inL L x.blk := show x.blk ∈ L.map Lp.blk from HL.out ▸ List.mem_map_of_mem hx
          have e : m.pokes a (l.take (j + 1)) = (m.pokes a (l.take j)).poke (a + (j : Int)) (rd l (j : Int)) := by
            rw [take_next hlt, pokes_snoc, List.length_take, Nat.min_eq_left (by omega)]
          refine ⟨⟨j + 1, L', by simp, by omega, ⟨by rw [e]; exact HP.out⟩, ⟨hpl.trans HL.out⟩, ⟨?_⟩⟩, by simp [intOf]; omega⟩
          exact (HU.out.then_ (Upd.setCell _ (p := ⟨x.blk, _, none⟩) hblk _) (fun _ hk => .inl hk)).then_ (Upd.setCell _ (p := ⟨x.blk, _, none⟩) hblk _) (fun _ hk => .inl hk)
      · obtain rfl : j = l.length := by omega
        go_wp2
        go_ret
        simp only [if_true]
        refine ⟨rfl, Lj, ?_, HL.out, HU.out⟩
        have := HM.out
        rwa [List.take_length] at this
end Go.Proofs.Ytccndffoljjadaa.P
