/- Texts of one proof, one behind the other. No condition. -/
import Derived.Test.YtccndffoljjadaaKAbiTextsMe0
import Derived.Test.YtccndffoljjadaaKAbiTextsMc7
import Derived.Test.YtccndffoljjadaaKAbiTextsAt2
import Derived.Test.YtccndffoljjadaaKAbiTextsAl2
namespace Go.Proofs.Ytccndffoljjadaa.P
set_option linter.unusedVariables false
set_option linter.unusedSimpArgs false
theorem pageAdd (m : Mm) (n q : Int) : (m.add n).page q = match m.page q with | some p => some p | none => if q = n then some (Pg.zero n) else none := by
  unfold Mm.page Mm.add
  rw [List.find?_append]
  cases m.pages.find? (fun p => q == p.no) with
  | some p => rfl
  | none =>
    simp only [Option.none_or, List.find?_cons, List.find?_nil]
    by_cases c : q = n
    · rw [if_pos c, show (q == (Pg.zero n).no) = true from beq_iff_eq.2 c]
    · rw [if_neg c, show (q == (Pg.zero n).no) = false from beq_eq_false_iff_ne.2 c]
theorem Mm.Wf.add {m : Mm} (h : m.Wf) {n : Int} (hn : m.page n = none) (h0 : 0 ≤ n ∧ n < 65536) : (m.add n).Wf := by
  have hk : n ∉ m.pages.map Pg.no := fun hc => by
    obtain ⟨p, hp, e⟩ := List.mem_map.1 hc
    unfold Mm.page at hn
    have := List.find?_eq_none.1 hn p hp
    rw [e] at this
    simp at this
  have hm : ∀ p ∈ (m.add n).pages, p ∈ m.pages ∨ p = Pg.zero n := fun p hp => by
    rcases List.mem_append.1 hp with hp | hp
    · exact .inl hp
    · exact .inr (List.mem_singleton.1 hp)
  refine ⟨?_, fun p hp => ?_, fun p hp => ?_, fun p hp => ?_⟩
  · show ((m.pages ++ [Pg.zero n]).map Pg.no).Nodup
    rw [List.map_append, List.map_singleton, List.nodup_append]
    exact ⟨h.keys, by simp, fun a ha b hb => by simp only [List.mem_singleton] at hb; subst hb; exact fun e => hk (by rw [← e]; exact ha)⟩
  · rcases hm p hp with hp | rfl
    · exact h.ok p hp
    · exact Pg.zero_ok n
  · rcases hm p hp with hp | rfl
    · exact h.byt p hp
    · intro b hb
      have := List.eq_of_mem_replicate hb
      omega
  · rcases hm p hp with hp | rfl
    · exact h.no p hp
    · exact h0
/-- Pages that were not mapped are mapped: what is there then. -/
theorem pagesAdds {m : Mm} (h : m.Wf) {p : Int} (h0 : 0 ≤ p) : ∀ j : Nat, p + j ≤ 65536 → (∀ i : Nat, i < j → m.page (p + i) = none) → (m.adds p j).Wf ∧ ∀ q, (m.adds p j).page q = if p ≤ q ∧ q < p + j then some (Pg.zero q) else m.page q
  | 0, _, _ => ⟨h, fun q => by rw [if_neg (by omega)]; rfl⟩
  | j + 1, h1, hn => by
    obtain ⟨I1, I2⟩ := pagesAdds h h0 j (by omega) (fun i hi => hn i (by omega))
    have hz : (m.adds p j).page (p + (j : Int)) = none := by rw [I2, if_neg (by omega)]; exact hn j (by omega)
    refine ⟨I1.add hz ⟨by omega, by omega⟩, fun q => ?_⟩
    show ((m.adds p j).add (p + (j : Int))).page q = _
    rw [pageAdd, I2]
    by_cases c : p ≤ q ∧ q < p + j
    · rw [if_pos c]; rw [if_pos (show p ≤ q ∧ q < p + ((j + 1 : Nat) : Int) by omega)]
    · rw [if_neg c]
      by_cases c2 : q = p + (j : Int)
      · rw [if_pos (show p ≤ q ∧ q < p + ((j + 1 : Nat) : Int) by omega), c2, hn j (by omega)]
        simp
      · rw [if_neg (show ¬ (p ≤ q ∧ q < p + ((j + 1 : Nat) : Int)) by omega)]
        cases m.page q with
        | some r => rfl
        | none => simp [c2]
end Go.Proofs.Ytccndffoljjadaa.P

namespace Go.Proofs.Ytccndffoljjadaa.P
open Go.RowKit Go.Proofs.YtccndffoljjadaaW.PrintWords Go.Proofs.YtccndffoljjadaaW.PrintLast
set_option linter.unusedVariables false
set_option linter.unusedSimpArgs false
theorem map_lays {y0 fr pages : Int} (h0 : 0 ≤ fr) (h : (tagmem_Mem_Map.f ⟨y0, []⟩ fr pages).2 = 0) :
    (tagmem_Mem_Map.f ⟨y0, []⟩ fr pages).1.Wf ∧ ∀ x, fr * 256 ≤ x → x < (fr + pages) * 256 → (tagmem_Mem_Map.f ⟨y0, []⟩ fr pages).1.has x = true := by
  obtain ⟨p1, p2⟩ := map_ok (m := ⟨y0, []⟩) (m1 := (tagmem_Mem_Map.f ⟨y0, []⟩ fr pages).1) (fr := fr) (pages := pages) h0 (by rw [← h])
  obtain ⟨A1, A2⟩ := pagesAdds (m := ⟨y0, []⟩) (Mm.Wf.new y0) h0 pages.toNat (by omega) (fun i _ => rfl)
  have e : (tagmem_Mem_Map.f ⟨y0, []⟩ fr pages).1 = (⟨y0, []⟩ : Mm).adds fr pages.toNat := by
    unfold tagmem_Mem_Map.f at h ⊢
    split at h
    · simp at h
    · rename_i c1
      rw [if_neg c1]
      split at h
      · simp at h
      · rename_i c2
        rw [if_neg c2]
        split at h
        · simp at h
        · rename_i c3
          rw [if_neg c3]
  rw [e]
  refine ⟨A1, fun x hx hx2 => ?_⟩
  unfold Mm.has
  rw [A2, if_pos (by omega)]
  rfl
/-- What Build lays is told back. -/
def TextsOk (B : Bd) (l0 l1 : List ByteArray) : Prop := ∃ b1 b2 b3 : Int, B.s1 = ⟨b1, b1 + 32 * l0.length, b1, 9, -1, true⟩ ∧ B.s2 = ⟨b2, b2 + 32 * l1.length, b2, 9, -1, true⟩ ∧ B.s3 = ⟨b3, b3, b3, 9, -1, true⟩ ∧ ToldOk B.m b1 l0 ∧ ToldOk B.m b2 l1 ∧ ToldOk B.m b3 []
theorem build_texts {y0 fr pages : Int} {l0 l1 : List ByteArray} (h0 : 0 ≤ fr) (h : (buildF ⟨y0, []⟩ fr pages l0 l1 []).e = 0) : TextsOk (buildF ⟨y0, []⟩ fr pages l0 l1 []) l0 l1 := by
  unfold buildF at h ⊢
  by_cases c1 : abi_right.f l0 l1 [] = false
  · rw [if_pos c1] at h; simp at h
  rw [if_neg c1] at h ⊢
  by_cases c2 : pages * 256 - 64 < abi_Need.g l0 l1 []
  · rw [if_pos c2] at h; simp at h
  rw [if_neg c2] at h ⊢
  by_cases c3 : (tagmem_Mem_Map.f ⟨y0, []⟩ fr pages).2 = 0
  case neg => rw [if_neg c3] at h; exact absurd h c3
  rw [if_pos c3]
  rw [Bool.not_eq_false] at c1
  obtain ⟨s0, s1⟩ := right_small c1
  have hl : l0.length ≤ 8 ∧ l1.length ≤ 8 := by
    unfold abi_right.f at c1
    simp only [Bool.and_eq_true, decide_eq_true_eq] at c1
    obtain ⟨⟨⟨⟨⟨q0, q1⟩, q2⟩, _⟩, _⟩, _⟩ := c1
    exact ⟨by omega, by omega⟩
  obtain ⟨n0, n1⟩ := hl
  obtain ⟨eN, _, _⟩ := need_is (l0 := l0) (l1 := l1) (l2 := []) (fun s hs => by have := s0 s hs; omega) (fun s hs => by have := s1 s hs; omega) (by omega) (by omega) (by simp)
  rw [eN] at c2
  simp only [List.length_nil] at c2
  obtain ⟨p1, p2⟩ := map_ok (m := ⟨y0, []⟩) (m1 := (tagmem_Mem_Map.f ⟨y0, []⟩ fr pages).1) (fr := fr) (pages := pages) h0 (by rw [← c3])
  obtain ⟨M1, M2⟩ := map_lays h0 c3
  have L := buildOk_is (tagmem_Mem_Map.f ⟨y0, []⟩ fr pages).1 (fr * 256) ((fr + pages) * 256) l0 l1 [] (by omega) (by omega) (by simp only [List.length_nil]; omega)
  have T := build_told (m1 := (tagmem_Mem_Map.f ⟨y0, []⟩ fr pages).1) M1 (a0 := fr * 256) (fin := (fr + pages) * 256) (l0 := l0) (l1 := l1) (by omega) (by omega) (by omega) (by omega) M2
  refine ⟨_, _, _, L.s1, L.s2, ?_, T.1, T.2.1, T.2.2⟩
  rw [L.s3]
  simp
end Go.Proofs.Ytccndffoljjadaa.P

namespace Go.Proofs.Ytccndffoljjadaa.P
open Go.RowKit Go.Proofs.YtccndffoljjadaaW.PrintWords Go.Proofs.YtccndffoljjadaaW.PrintLast
set_option linter.unusedVariables false
set_option linter.unusedSimpArgs false
/-- One capability of a list, loaded. -/
theorem ToldOk.load {M : Mm} {base : Int} {l : List ByteArray} (T : ToldOk M base l) {i : Nat} (hi : i < l.length) (hs : l[i].size ≤ 200) : ∃ p : Int, 0 ≤ p ∧ p + ((l[i].size : Int) + 1) ≤ 16777216 ∧ tagmem_Mem_LoadCap.f 20 M (base + 32 * i) = some (p, p + ((l[i].size : Int) + 1), p, 1, -1, true, 0) ∧ tagmem_Mem_Bytes.f M p ((l[i].size : Int) + 1) = bytesOf l[i] ++ [0] := by
  obtain ⟨p, ⟨h0, h1⟩, hb, ht, hby, hh⟩ := T.cap i hi
  have ha := T.at_
  refine ⟨p, h0, h1, ?_, ?_⟩
  · rw [loadCap_at T.wf (by omega) (T.has i (by omega)), hb, ht, capOf_capL ⟨h0, by omega⟩ ⟨by omega, by omega⟩ ⟨h0, by omega⟩ (by omega) (by omega)]
  · unfold tagmem_Mem_Bytes.f
    rw [if_neg, ← hby]
    · congr 1
    · rintro (c | c | c)
      · omega
      · omega
      · have : mapd M p ((l[i].size : Int) + 1) = true := by
          unfold mapd
          rw [Bool.and_eq_true, decide_eq_true_eq, List.all_eq_true]
          refine ⟨by omega, fun k hk => ?_⟩
          have hk2 := List.mem_range.1 hk
          exact hh _ (by omega) (by omega)
        rw [this] at c
        cases c
/-- The end of a list, loaded. -/
theorem ToldOk.loadEnd {M : Mm} {base : Int} {l : List ByteArray} (T : ToldOk M base l) : ∃ r1 r2 r3 r4 r5 : Int, tagmem_Mem_LoadCap.f 20 M (base + 32 * l.length) = some (r1, r2, r3, r4, r5, false, 0) := by
  have ha := T.at_
  rw [loadCap_at T.wf (by omega) (T.has l.length (Nat.le_refl _)), T.fin]
  exact ⟨_, _, _, _, _, rfl⟩
end Go.Proofs.Ytccndffoljjadaa.P
