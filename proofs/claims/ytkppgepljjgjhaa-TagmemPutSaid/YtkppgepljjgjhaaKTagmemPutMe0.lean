/- What a memory tells, in plain words: a byte, a tag at each address; what is done to it, told by that. No condition. -/
import Derived.Test.YtkppgepljjgjhaaKTagmemPutMc6
namespace Go.Proofs.Ytkppgepljjgjhaa.P
set_option linter.unusedVariables false
set_option linter.unusedSimpArgs false
/-- Its pages are apart, whole, in range. -/
structure Mm.Wf (m : Mm) : Prop where
  keys : (m.pages.map Pg.no).Nodup
  ok : ∀ p ∈ m.pages, p.Ok
  byt : ∀ p ∈ m.pages, ∀ b ∈ p.bs, 0 ≤ b ∧ b < 256
  no : ∀ p ∈ m.pages, 0 ≤ p.no ∧ p.no < 65536
def Mm.tag (m : Mm) (a : Int) : Bool := match m.page (a / 256) with | some p => p.ts.getD (a % 256 / 32).toNat false | none => false
/-- Is an address mapped? -/
def Mm.has (m : Mm) (a : Int) : Bool := (m.page (a / 256)).isSome
theorem Mm.Wf.new (b : Int) : Mm.Wf ⟨b, []⟩ := ⟨List.nodup_nil, fun p h => (by cases h), fun p h => (by cases h), fun p h => (by cases h)⟩
theorem page_mem {m : Mm} {n : Int} {p : Pg} (h : m.page n = some p) : p ∈ m.pages ∧ p.no = n := by
  unfold Mm.page at h
  exact ⟨List.mem_of_find?_eq_some h, (beq_iff_eq.1 (show (n == p.no) = true from List.find?_some (p := fun p : Pg => n == p.no) h)).symm⟩
theorem put_no (p q : Pg) : (if q.no = p.no then p else q).no = q.no := by
  split
  · rename_i h; exact h.symm
  · rfl
theorem pagePut (m : Mm) (p : Pg) (n : Int) : (m.put p).page n = if n = p.no then (m.page n).map (fun _ => p) else m.page n := by
  unfold Mm.page Mm.put
  simp only
  rw [List.find?_map]
  have e : ((fun q : Pg => n == q.no) ∘ fun q : Pg => if q.no = p.no then p else q) = fun q : Pg => n == q.no := by
    funext q
    simp only [Function.comp, put_no]
  rw [e]
  cases hf : m.pages.find? (fun q => n == q.no) with
  | none => simp
  | some q =>
    have hq : n = q.no := beq_iff_eq.1 (show (n == q.no) = true from List.find?_some (p := fun p : Pg => n == p.no) hf)
    simp only [Option.map_some]
    by_cases c : n = p.no
    · rw [if_pos c, if_pos (by rw [← hq]; exact c)]
    · rw [if_neg c, if_neg (by rw [← hq]; exact c)]
theorem Mm.Wf.put {m : Mm} (h : m.Wf) {p : Pg} (hp : p.Ok) (hb : ∀ b ∈ p.bs, 0 ≤ b ∧ b < 256) (hn : 0 ≤ p.no ∧ p.no < 65536) : (m.put p).Wf := by
  have e : (m.put p).pages.map Pg.no = m.pages.map Pg.no := by
    unfold Mm.put
    rw [List.map_map]
    exact List.map_congr_left fun q _ => put_no p q
  have hm : ∀ q ∈ (m.put p).pages, q = p ∨ q ∈ m.pages := fun q hq => by
    obtain ⟨r, hr, rfl⟩ := List.mem_map.1 hq
    split
    · exact .inl rfl
    · exact .inr hr
  exact ⟨by rw [e]; exact h.keys, fun q hq => (hm q hq).elim (fun e => e ▸ hp) (h.ok q), fun q hq => (hm q hq).elim (fun e => e ▸ hb) (h.byt q), fun q hq => (hm q hq).elim (fun e => e ▸ hn) (h.no q)⟩
theorem pagePoke (m : Mm) (a b n : Int) : (m.poke a b).page n = if n = a / 256 then (m.page n).map (·.poke (a % 256) b) else m.page n := by
  unfold Mm.poke
  cases hp : m.page (a / 256) with
  | none =>
    by_cases c : n = a / 256
    · rw [if_pos c, c, hp]; simp [hp]
    · rw [if_neg c]
  | some p =>
    have hno : (p.poke (a % 256) b).no = a / 256 := (page_mem hp).2
    simp only
    rw [pagePut, hno]
    by_cases c : n = a / 256
    · rw [if_pos c, if_pos c, c, hp]; rfl
    · rw [if_neg c, if_neg c]
theorem has_poke (m : Mm) (a b x : Int) : (m.poke a b).has x = m.has x := by
  unfold Mm.has
  rw [pagePoke]
  split <;> simp
theorem byte_poke {m : Mm} (h : m.Wf) {a b : Int} (ha : m.has a = true) (x : Int) : (m.poke a b).byte x = if x = a then b else m.byte x := by
  unfold Mm.byte
  rw [pagePoke]
  unfold Mm.has at ha
  by_cases c : x / 256 = a / 256
  · rw [if_pos c]
    cases hp : m.page (a / 256) with
    | none => rw [hp] at ha; cases ha
    | some p =>
      have hl := (h.ok p (page_mem hp).1).b
      rw [c, hp]
      simp only [Option.map_some, Pg.poke, List.getD_eq_getElem?_getD, List.getElem?_set]
      by_cases e : x = a
      · rw [if_pos e, if_pos (by omega), if_pos (by rw [hl]; omega)]; rfl
      · rw [if_neg e, if_neg (by omega)]
  · rw [if_neg c, if_neg (by intro e; exact c (by rw [e]))]
theorem tag_poke {m : Mm} (h : m.Wf) {a b : Int} (ha : m.has a = true) (x : Int) : (m.poke a b).tag x = if x / 32 = a / 32 then false else m.tag x := by
  unfold Mm.tag
  rw [pagePoke]
  unfold Mm.has at ha
  by_cases c : x / 256 = a / 256
  · rw [if_pos c]
    cases hp : m.page (a / 256) with
    | none => rw [hp] at ha; cases ha
    | some p =>
      have hl := (h.ok p (page_mem hp).1).t
      rw [c, hp]
      simp only [Option.map_some, Pg.poke, List.getD_eq_getElem?_getD, List.getElem?_set]
      by_cases e : x / 32 = a / 32
      · rw [if_pos e, if_pos (by omega), if_pos (by rw [hl]; omega)]; rfl
      · rw [if_neg e, if_neg (by omega)]
  · rw [if_neg c, if_neg (by intro e; exact c (by omega))]
theorem Mm.Wf.poke {m : Mm} (h : m.Wf) {a b : Int} (hb : 0 ≤ b ∧ b < 256) : (m.poke a b).Wf := by
  unfold Mm.poke
  cases hp : m.page (a / 256) with
  | none => exact h
  | some p =>
    obtain ⟨hm, hn⟩ := page_mem hp
    refine h.put (Pg.poke_ok (h.ok p hm) _ _) (fun c hc => ?_) (h.no p hm)
    rcases List.mem_or_eq_of_mem_set hc with hc | hc
    · exact h.byt p hm c hc
    · rw [hc]; exact hb
theorem has_pokes : ∀ (l : List Int) (m : Mm) (a x : Int), (m.pokes a l).has x = m.has x
  | [], m, a, x => rfl
  | b :: r, m, a, x => by simp only [Mm.pokes]; rw [has_pokes r, has_poke]
theorem Mm.Wf.pokes : ∀ (l : List Int) {m : Mm} (h : m.Wf) (a : Int), (∀ b ∈ l, 0 ≤ b ∧ b < 256) → (m.pokes a l).Wf
  | [], m, h, a, _ => h
  | b :: r, m, h, a, hb => Mm.Wf.pokes r (h.poke (hb b List.mem_cons_self)) (a + 1) (fun c hc => hb c (List.mem_cons_of_mem _ hc))
theorem byte_pokes : ∀ (l : List Int) {m : Mm} (h : m.Wf) (a : Int), (∀ b ∈ l, 0 ≤ b ∧ b < 256) → (∀ i : Nat, i < l.length → m.has (a + i) = true) → ∀ x, (m.pokes a l).byte x = if a ≤ x ∧ x < a + l.length then l.getD (x - a).toNat 0 else m.byte x
  | [], m, h, a, _, _, x => by
    rw [if_neg (by first | (simp; done) | (simp; omega))]
    rfl
  | b :: r, m, h, a, hb, hm, x => by
    have h0 : m.has a = true := by have := hm 0 (by simp); simpa using this
    simp only [Mm.pokes]
    rw [byte_pokes r (h.poke (hb b List.mem_cons_self)) (a + 1) (fun c hc => hb c (List.mem_cons_of_mem _ hc)) (fun i hi => by
      rw [has_poke]
      have := hm (i + 1) (by simpa using hi)
      rw [show a + 1 + (i : Int) = a + ((i + 1 : Nat) : Int) by omega]; exact this), byte_poke h h0]
    simp only [List.length_cons]
    by_cases c1 : x = a
    · subst c1
      rw [if_neg (by omega), if_pos rfl, if_pos (by omega)]
      simp
    · by_cases c2 : a + 1 ≤ x ∧ x < a + 1 + r.length
      · rw [if_pos c2, if_pos (by omega)]
        obtain ⟨j, hj⟩ : ∃ j, (x - (a + 1)).toNat = j := ⟨_, rfl⟩
        rw [hj, show (x - a).toNat = j + 1 by omega]
        simp
      · rw [if_neg c2, if_neg c1, if_neg (by omega)]
theorem tag_pokes : ∀ (l : List Int) {m : Mm} (h : m.Wf) (a : Int), (∀ b ∈ l, 0 ≤ b ∧ b < 256) → (∀ i : Nat, i < l.length → m.has (a + i) = true) → ∀ x, (m.pokes a l).tag x = if 0 < l.length ∧ a / 32 ≤ x / 32 ∧ x / 32 ≤ (a + l.length - 1) / 32 then false else m.tag x
  | [], m, h, a, _, _, x => by rw [if_neg (by simp)]; rfl
  | b :: r, m, h, a, hb, hm, x => by
    have h0 : m.has a = true := by have := hm 0 (by simp); simpa using this
    simp only [Mm.pokes]
    rw [tag_pokes r (h.poke (hb b List.mem_cons_self)) (a + 1) (fun c hc => hb c (List.mem_cons_of_mem _ hc)) (fun i hi => by
      rw [has_poke]
      have := hm (i + 1) (by simpa using hi)
      rw [show a + 1 + (i : Int) = a + ((i + 1 : Nat) : Int) by omega]; exact this), tag_poke h h0]
    simp only [List.length_cons]
    by_cases c1 : x / 32 = a / 32
    · rw [if_pos c1]
      rw [if_pos (show 0 < r.length + 1 ∧ a / 32 ≤ x / 32 ∧ x / 32 ≤ (a + ((r.length + 1 : Nat) : Int) - 1) / 32 by omega)]
      split <;> rfl
    · rw [if_neg c1]
      by_cases c2 : 0 < r.length ∧ (a + 1) / 32 ≤ x / 32 ∧ x / 32 ≤ (a + 1 + r.length - 1) / 32
      · rw [if_pos c2, if_pos (by omega)]
      · rw [if_neg c2, if_neg (by omega)]
theorem bytes_is (m : Mm) (a : Int) : ∀ n, m.bytes a n = (List.range n).map (fun i : Nat => m.byte (a + (i : Int)))
  | 0 => rfl
  | n + 1 => by rw [List.range_succ, List.map_append, ← bytes_is m a n]; rfl
theorem byte_range {m : Mm} (h : m.Wf) (x : Int) : 0 ≤ m.byte x ∧ m.byte x < 256 := by
  unfold Mm.byte
  cases hp : m.page (x / 256) with
  | none => simp
  | some p =>
    have hl := (h.ok p (page_mem hp).1).b
    have hlt : (x % 256).toNat < p.bs.length := by omega
    simp only [List.getD_eq_getElem?_getD, List.getElem?_eq_getElem hlt, Option.getD_some]
    exact h.byt p (page_mem hp).1 _ (List.getElem_mem hlt)
end Go.Proofs.Ytkppgepljjgjhaa.P
