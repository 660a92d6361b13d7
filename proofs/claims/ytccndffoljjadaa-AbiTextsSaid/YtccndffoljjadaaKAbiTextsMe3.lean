/- What is loaded, told by bytes and tags. No condition. -/
import Derived.Test.YtccndffoljjadaaKAbiTextsMe2
import Derived.Test.YtccndffoljjadaaKAbiTextsMd1
namespace Go.Proofs.Ytccndffoljjadaa.P
open Go.RowKit Go.Proofs.YtccndffoljjadaaW.PrintWords Go.Proofs.YtccndffoljjadaaW.PrintLast Go.Proofs.YtccndffoljjadaaW.PrintMore
set_option linter.unusedVariables false
set_option linter.unusedSimpArgs false
/-- Bytes within a page. -/
theorem page_bytes {m : Mm} (h : m.Wf) {a : Int} {p : Pg} (hp : m.page (a / 256) = some p) (n : Nat) (hn : (a % 256).toNat + n ≤ 256) : (p.bs.drop (a % 256).toNat).take n = m.bytes a n := by
  have hl := (h.ok p (page_mem hp).1).b
  rw [bytes_is]
  apply List.ext_getElem?
  intro j
  by_cases hj : j < n
  · rw [List.getElem?_take_of_lt hj, List.getElem?_drop, List.getElem?_map, List.getElem?_range hj, Option.map_some]
    have e : m.byte (a + (j : Int)) = p.bs.getD ((a % 256).toNat + j) 0 := by
      unfold Mm.byte
      rw [show (a + (j : Int)) / 256 = a / 256 by omega, hp]
      simp only
      rw [show ((a + (j : Int)) % 256).toNat = (a % 256).toNat + j by omega]
    rw [e, List.getD_eq_getElem?_getD, List.getElem?_eq_getElem (by omega)]
    rfl
  · rw [List.getElem?_eq_none (by rw [List.length_take, List.length_drop]; omega), List.getElem?_eq_none (by rw [List.length_map, List.length_range]; omega)]
/-- The capability that some bytes tell. -/
def capOf (l : List Int) (t : Bool) : Int × Int × Int × Int × Int × Bool × Int :=
  (leval (l.take 8), leval ((l.take 16).drop 8), leval ((l.take 24).drop 16), l.getD 24 0, if 64 ≤ l.getD 25 0 then -1 else l.getD 25 0, t, 0)
theorem loadG_is {l : List Int} (hl : l.length = 32) (hb : ∀ b ∈ l, 0 ≤ b ∧ b < 256) (t : Bool) : tagmem_LoadCapG.f 20 l t = some (capOf l t) := by
  unfold tagmem_LoadCapG.f capOf
  have r : ∀ i : Nat, i < 32 → rd l (i : Int) = l.getD i 0 ∧ 0 ≤ l.getD i 0 ∧ l.getD i 0 < 256 := fun i hi => by
    refine ⟨by simp [rd], ?_⟩
    rw [List.getD_eq_getElem?_getD, List.getElem?_eq_getElem (by omega)]
    exact hb _ (List.getElem_mem (by omega))
  obtain ⟨e1, p1, q1⟩ := r 24 (by omega)
  obtain ⟨e2, p2, q2⟩ := r 25 (by omega)
  have o1 := of_val (l.take 8) (by rw [List.length_take]; omega) (fun b h => hb b (List.mem_of_mem_take h))
  have o2 := of_val ((l.take 16).drop 8) (by rw [List.length_drop, List.length_take]; omega) (fun b h => hb b (List.mem_of_mem_take (List.mem_of_mem_drop h)))
  have o3 := of_val ((l.take 24).drop 16) (by rw [List.length_drop, List.length_take]; omega) (fun b h => hb b (List.mem_of_mem_take (List.mem_of_mem_drop h)))
  rw [if_pos (by omega), o1, Option.bind_some, if_pos (by omega), if_pos (by omega), o2, Option.bind_some, if_pos (by omega), if_pos (by omega), o3, Option.bind_some, if_pos (by omega), if_pos (by omega)]
  have w1 : wrap64 (rd l 24) = l.getD 24 0 := by rw [show (24 : Int) = ((24 : Nat) : Int) from rfl, e1]; unfold wrap64; omega
  have w2 : wrap64 (rd l 25) = l.getD 25 0 := by rw [show (25 : Int) = ((25 : Nat) : Int) from rfl, e2]; unfold wrap64; omega
  rw [w1, w2]
  by_cases c : 64 ≤ l.getD 25 0
  · rw [if_pos (by omega), if_pos c]
  · rw [if_neg (by omega), if_neg c]
theorem bytes_len (m : Mm) (a : Int) (n : Nat) : (m.bytes a n).length = n := by rw [bytes_is, List.length_map, List.length_range]
theorem bytes_get (m : Mm) (a : Int) {n i : Nat} (h : i < n) : (m.bytes a n)[i]? = some (m.byte (a + (i : Int))) := by
  rw [bytes_is, List.getElem?_map, List.getElem?_range h, Option.map_some]
theorem bytes_range {m : Mm} (h : m.Wf) (a : Int) (n : Nat) : ∀ b ∈ m.bytes a n, 0 ≤ b ∧ b < 256 := by
  intro b hb
  rw [bytes_is] at hb
  obtain ⟨i, _, rfl⟩ := List.mem_map.1 hb
  exact byte_range h _
theorem loadCap_at {m : Mm} (h : m.Wf) {a : Int} (ha : a % 32 = 0) (hh : m.has a = true) : tagmem_Mem_LoadCap.f 20 m a = some (capOf (m.bytes a 32) (m.tag a)) := by
  have hh2 := hh
  unfold Mm.has at hh
  cases hp : m.page (a / 256) with
  | none => rw [hp] at hh; cases hh
  | some p =>
    unfold tagmem_Mem_LoadCap.f
    rw [if_pos ha, hp]
    simp only
    rw [page_bytes h hp 32 (by omega), loadG_is (bytes_len _ _ _) (bytes_range h _ _)]
    congr 2
    unfold Mm.tag
    rw [hp]
    simp only
    rw [show (a % 256 / 32).toNat = (a % 256).toNat / 32 by omega]
/-- The bytes of a stored capability tell it. -/
theorem capOf_capL {c0 c1 c2 c3 c4 : Int} (h0 : 0 ≤ c0 ∧ c0 ≤ 18446744073709551615) (h1 : 0 ≤ c1 ∧ c1 ≤ 18446744073709551615) (h2 : 0 ≤ c2 ∧ c2 ≤ 18446744073709551615) (h3 : 0 ≤ c3 ∧ c3 ≤ 255) (h4 : -1 ≤ c4 ∧ c4 ≤ 63) (t : Bool) :
    capOf (capL c0 c1 c2 c3 c4) t = (c0, c1, c2, c3, c4, t, 0) := by
  unfold capOf
  have e0 : (capL c0 c1 c2 c3 c4).take 8 = leb c0 := rfl
  have e1 : ((capL c0 c1 c2 c3 c4).take 16).drop 8 = leb c1 := rfl
  have e2 : ((capL c0 c1 c2 c3 c4).take 24).drop 16 = leb c2 := rfl
  have e3 : (capL c0 c1 c2 c3 c4).getD 24 0 = c3 % 256 := rfl
  have e4 : (capL c0 c1 c2 c3 c4).getD 25 0 = c4 % 256 := rfl
  rw [e0, e1, e2, e3, e4, leval_leb h0.1 h0.2, leval_leb h1.1 h1.2, leval_leb h2.1 h2.2]
  have e5 : (if 64 ≤ c4 % 256 then -1 else c4 % 256) = c4 := by split <;> omega
  rw [e5, show c3 % 256 = c3 by omega]
/-- What was stored is loaded. -/
theorem CapAt.bytes {m m' : Mm} {a : Int} {l : List Int} {t : Bool} (h : CapAt m m' a l t) (hl : l.length = 32) : m'.bytes a 32 = l := by
  apply List.ext_getElem?
  intro j
  by_cases hj : j < 32
  · rw [bytes_get _ _ hj, h.byte, if_pos (by omega), show (a + (j : Int) - a).toNat = j by omega, List.getD_eq_getElem?_getD, List.getElem?_eq_getElem (by omega)]
    rfl
  · rw [List.getElem?_eq_none (by rw [bytes_len]; omega), List.getElem?_eq_none (by omega)]
end Go.Proofs.Ytccndffoljjadaa.P
