/- Storing a capability, told by bytes and tags. No condition. -/
import Derived.Test.YtkppgepljjgjhaaKTagmemEitherRa5
namespace Go.Proofs.Ytkppgepljjgjhaa.P
open Go.RowKit Go.Proofs.YtkppgepljjgjhaaW.PrintWords Go.Proofs.YtkppgepljjgjhaaW.PrintLast Go.Proofs.YtkppgepljjgjhaaW.PrintMore
set_option linter.unusedVariables false
set_option linter.unusedSimpArgs false
theorem splice_len {bs r : List Int} {i : Nat} (h : i + r.length ≤ bs.length) : (splice bs i r).length = bs.length := by
  unfold splice
  simp only [List.length_append, List.length_take, List.length_drop]
  omega
theorem splice_get {bs r : List Int} {i : Nat} (h : i + r.length ≤ bs.length) (j : Nat) : (splice bs i r)[j]? = if i ≤ j ∧ j < i + r.length then r[j - i]? else bs[j]? := by
  unfold splice
  rw [List.append_assoc]
  by_cases c1 : j < i
  · rw [if_neg (by omega), List.getElem?_append_left (by rw [List.length_take]; omega), List.getElem?_take_of_lt c1]
  · have hl : (bs.take i).length = i := by rw [List.length_take]; omega
    rw [List.getElem?_append_right (by omega), hl]
    by_cases c2 : j < i + r.length
    · rw [if_pos ⟨by omega, c2⟩, List.getElem?_append_left (by omega)]
    · rw [if_neg (by omega), List.getElem?_append_right (by omega), List.getElem?_drop]
      congr 1
      omega
theorem splice_get' {bs r : List Int} {i n : Nat} (hn : r.length = n) (h : i + n ≤ bs.length) (j : Nat) : (splice bs i r)[j]? = if i ≤ j ∧ j < i + n then r[j - i]? else bs[j]? := by subst hn; exact splice_get h j
theorem splice_mem {bs r : List Int} {i : Nat} {P : Int → Prop} (hb : ∀ b ∈ bs, P b) (hr : ∀ b ∈ r, P b) : ∀ b ∈ splice bs i r, P b := by
  intro b h
  unfold splice at h
  rcases List.mem_append.1 h with h | h
  · rcases List.mem_append.1 h with h | h
    · exact hb b (List.mem_of_mem_take h)
    · exact hr b h
  · exact hb b (List.mem_of_mem_drop h)
/-- The bytes of a capability. -/
def capL (c0 c1 c2 c3 c4 : Int) : List Int := leb c0 ++ leb c1 ++ leb c2 ++ [c3 % 256, c4 % 256, 0, 0, 0, 0, 0, 0]
theorem capL_len (c0 c1 c2 c3 c4 : Int) : (capL c0 c1 c2 c3 c4).length = 32 := rfl
theorem leb_len (c : Int) : (leb c).length = 8 := rfl
theorem cap_bs {p : Pg} (hp : p.Ok) {i : Nat} (hi : i + 32 ≤ 256) (c0 c1 c2 c3 c4 : Int) (t : Bool) : (p.cap i (leb c0) (leb c1) (leb c2) (c3 % 256) (c4 % 256) t).bs = splice p.bs i (capL c0 c1 c2 c3 c4) := by
  have hl := hp.b
  apply List.ext_getElem?
  intro j
  have l1 : (splice p.bs i (List.replicate 32 0)).length = 256 := by rw [splice_len (by rw [List.length_replicate]; omega), hl]
  have l2 : (splice (splice p.bs i (List.replicate 32 0)) i (leb c0)).length = 256 := by rw [splice_len (by rw [leb_len]; omega), l1]
  have l3 : (splice (splice (splice p.bs i (List.replicate 32 0)) i (leb c0)) (i + 8) (leb c1)).length = 256 := by rw [splice_len (by rw [leb_len]; omega), l2]
  have l4 : (splice (splice (splice (splice p.bs i (List.replicate 32 0)) i (leb c0)) (i + 8) (leb c1)) (i + 16) (leb c2)).length = 256 := by rw [splice_len (by rw [leb_len]; omega), l3]
  show (((splice (splice (splice (splice p.bs i (List.replicate 32 0)) i (leb c0)) (i + 8) (leb c1)) (i + 16) (leb c2)).set (i + 24) (c3 % 256)).set (i + 25) (c4 % 256))[j]? = _
  rw [List.getElem?_set, List.getElem?_set, List.length_set, l4, splice_get' (leb_len c2) (by omega), splice_get' (leb_len c1) (by omega), splice_get' (leb_len c0) (by omega), splice_get' (n := 32) List.length_replicate (by omega), splice_get' (capL_len c0 c1 c2 c3 c4) (by omega)]
  by_cases c : i ≤ j ∧ j < i + 32
  · obtain ⟨d, rfl⟩ : ∃ d, j = i + d := ⟨j - i, by omega⟩
    have hd : d < 32 := by omega
    rw [if_pos c]
    rw [show i + d - i = d by omega]
    rcases (show d = 0 ∨ d = 1 ∨ d = 2 ∨ d = 3 ∨ d = 4 ∨ d = 5 ∨ d = 6 ∨ d = 7 ∨ d = 8 ∨ d = 9 ∨ d = 10 ∨ d = 11 ∨ d = 12 ∨ d = 13 ∨ d = 14 ∨ d = 15 ∨ d = 16 ∨ d = 17 ∨ d = 18 ∨ d = 19 ∨ d = 20 ∨ d = 21 ∨ d = 22 ∨ d = 23 ∨ d = 24 ∨ d = 25 ∨ d = 26 ∨ d = 27 ∨ d = 28 ∨ d = 29 ∨ d = 30 ∨ d = 31 by omega) with rfl | rfl | rfl | rfl | rfl | rfl | rfl | rfl | rfl | rfl | rfl | rfl | rfl | rfl | rfl | rfl | rfl | rfl | rfl | rfl | rfl | rfl | rfl | rfl | rfl | rfl | rfl | rfl | rfl | rfl | rfl | rfl <;>
    simp [capL, leb, show ¬ (i + 8 ≤ i) by omega, show ¬ (i + 16 ≤ i) by omega, Nat.add_assoc, Nat.add_sub_add_left]
    all_goals omega
  · rw [if_neg c, if_neg (by omega), if_neg (by omega), if_neg (by omega), if_neg (by omega), if_neg (by omega), if_neg (by omega)]
theorem u8_is (n : Int) : IntKind.u8.wrap n = n % 256 := by rw [IntKind.wrap_u8]
/-- A capability is stored: what the memory is then. -/
structure CapAt (m m' : Mm) (a : Int) (l : List Int) (t : Bool) : Prop where
  wf : m'.Wf
  has : ∀ x, m'.has x = m.has x
  budget : m'.budget = m.budget
  nos : m'.pages.map Pg.no = m.pages.map Pg.no
  byte : ∀ x, m'.byte x = if a ≤ x ∧ x < a + 32 then l.getD (x - a).toNat 0 else m.byte x
  tag : ∀ x, m'.tag x = if x / 32 = a / 32 then t else m.tag x
theorem storeCap_at {m : Mm} (h : m.Wf) {a : Int} (ha : a % 32 = 0) (hh : m.has a = true) (c0 c1 c2 c3 c4 : Int) (t : Bool) :
    ∃ m', tagmem_Mem_StoreCap.f 20 m a c0 c1 c2 c3 c4 t = some (m', 0) ∧ CapAt m m' a (capL c0 c1 c2 c3 c4) t := by
  unfold Mm.has at hh
  cases hp : m.page (a / 256) with
  | none => rw [hp] at hh; cases hh
  | some p =>
    obtain ⟨hm, hn⟩ := page_mem hp
    have hok := h.ok p hm
    obtain ⟨i, hi⟩ : ∃ i, i = (a % 256).toNat := ⟨_, rfl⟩
    have hi2 : i + 32 ≤ 256 := by omega
    have hi3 : (a % 256) = (i : Int) := by omega
    have hi4 : i % 32 = 0 := by omega
    obtain ⟨q, hq⟩ : ∃ q, q = p.cap i (leb c0) (leb c1) (leb c2) (c3 % 256) (c4 % 256) t := ⟨_, rfl⟩
    have qb : q.bs = splice p.bs i (capL c0 c1 c2 c3 c4) := by rw [hq]; exact cap_bs hok hi2 c0 c1 c2 c3 c4 t
    have qt : q.ts = p.ts.set (i / 32) t := by rw [hq]; rfl
    have qn : q.no = a / 256 := by rw [hq]; exact hn
    have ql : q.bs.length = 256 := by rw [qb, splice_len (by rw [capL_len, hok.b]; exact hi2), hok.b]
    have qk : q.Ok := ⟨ql, by rw [qt, List.length_set, hok.t]⟩
    have cr : ∀ b ∈ capL c0 c1 c2 c3 c4, 0 ≤ b ∧ b < 256 := by
      intro b hb
      unfold capL at hb
      rcases List.mem_append.1 hb with hb | hb
      · rcases List.mem_append.1 hb with hb | hb
        · rcases List.mem_append.1 hb with hb | hb
          · exact leb_range _ b hb
          · exact leb_range _ b hb
        · exact leb_range _ b hb
      · simp only [List.mem_cons, List.not_mem_nil, or_false] at hb
        rcases hb with rfl | rfl | rfl | rfl | rfl | rfl | rfl | rfl <;> omega
    refine ⟨m.put q, ?_, ?_⟩
    · unfold tagmem_Mem_StoreCap.f
      rw [if_pos ha, hp]
      simp only [little_eight, Option.bind_some, u8_is, ← hi, ← hq, leb_len, and_self, if_true]
    · refine ⟨h.put qk (by rw [qb]; exact splice_mem (h.byt p hm) cr) (by rw [qn, ← hn]; exact h.no p hm), fun x => ?_, rfl, ?_, fun x => ?_, fun x => ?_⟩
      · unfold Mm.has
        rw [pagePut]
        split <;> simp
      · unfold Mm.put
        rw [List.map_map]
        exact List.map_congr_left fun r _ => put_no q r
      · unfold Mm.byte
        rw [pagePut, qn]
        by_cases c : x / 256 = a / 256
        · rw [if_pos c, c, hp]
          simp only [Option.map_some]
          rw [List.getD_eq_getElem?_getD, List.getD_eq_getElem?_getD, List.getD_eq_getElem?_getD, qb, splice_get' (capL_len c0 c1 c2 c3 c4) (by rw [hok.b]; exact hi2)]
          by_cases e : a ≤ x ∧ x < a + 32
          · rw [if_pos (by omega), if_pos e, show (x % 256).toNat - i = (x - a).toNat by omega]
          · rw [if_neg (by omega), if_neg e]
        · rw [if_neg c, if_neg (by omega)]
      · unfold Mm.tag
        rw [pagePut, qn]
        by_cases c : x / 256 = a / 256
        · rw [if_pos c, c, hp]
          simp only [Option.map_some]
          rw [List.getD_eq_getElem?_getD, List.getD_eq_getElem?_getD, qt, List.getElem?_set]
          by_cases e : x / 32 = a / 32
          · rw [if_pos (by omega), if_pos (by rw [hok.t]; omega), if_pos e]; rfl
          · rw [if_neg (by omega), if_neg e]
        · rw [if_neg c, if_neg (by omega)]
end Go.Proofs.Ytkppgepljjgjhaa.P
