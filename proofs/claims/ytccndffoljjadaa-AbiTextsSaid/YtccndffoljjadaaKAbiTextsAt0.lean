/- What stands in memory behind layer.texts and layer.list. No condition. -/
import Derived.Test.YtccndffoljjadaaKAbiTextsAl0
import Derived.Test.YtccndffoljjadaaKAbiTextsMe3
namespace Go.Proofs.Ytccndffoljjadaa.P
open Go.RowKit Go.Proofs.YtccndffoljjadaaW.PrintWords Go.Proofs.YtccndffoljjadaaW.PrintLast
set_option linter.unusedVariables false
set_option linter.unusedSimpArgs false
/-- The same memory, but for bytes and tags between two places. -/
structure Same (m m' : Mm) (lo hi : Int) : Prop where
  wf : m'.Wf
  has : ∀ x, m'.has x = m.has x
  byte : ∀ x, ¬ (lo ≤ x ∧ x < hi) → m'.byte x = m.byte x
  tag : ∀ x, x / 32 < lo / 32 ∨ (hi - 1) / 32 < x / 32 → m'.tag x = m.tag x
theorem Same.refl {m : Mm} (h : m.Wf) (lo hi : Int) : Same m m lo hi := ⟨h, fun _ => rfl, fun _ _ => rfl, fun _ _ => rfl⟩
theorem Same.then_ {m m1 m2 : Mm} {lo mid hi : Int} (h1 : Same m m1 lo mid) (h2 : Same m1 m2 mid hi) (a : lo ≤ mid) (b : mid ≤ hi) (e1 : lo < mid ∨ lo = mid) (e2 : mid < hi ∨ mid = hi) : Same m m2 lo hi :=
  ⟨h2.wf, fun x => (h2.has x).trans (h1.has x), fun x hx => (h2.byte x (by omega)).trans (h1.byte x (by omega)), fun x hx => (h2.tag x (by omega)).trans (h1.tag x (by omega))⟩
theorem bytesOf_range (s : ByteArray) : ∀ b ∈ bytesOf s ++ [0], 0 ≤ b ∧ b < 256 := by
  intro b hb
  rcases List.mem_append.1 hb with hb | hb
  · unfold bytesOf at hb
    obtain ⟨c, _, rfl⟩ := List.mem_map.1 hb
    have := c.toNat_lt
    omega
  · simp only [List.mem_singleton] at hb; subst hb; omega
theorem bytesOf_len (s : ByteArray) : (bytesOf s ++ [0]).length = s.size + 1 := by
  unfold bytesOf
  simp
theorem bytes_eq {m : Mm} {a : Int} {l : List Int} (h : ∀ j : Nat, j < l.length → m.byte (a + j) = l.getD j 0) : m.bytes a l.length = l := by
  apply List.ext_getElem?
  intro j
  by_cases hj : j < l.length
  · rw [bytes_get _ _ hj, h j hj, List.getD_eq_getElem?_getD, List.getElem?_eq_getElem hj]
    rfl
  · rw [List.getElem?_eq_none (by rw [bytes_len]; omega), List.getElem?_eq_none (by omega)]
theorem put_at {m : Mm} {a : Int} {l : List Int} (h2 : a + l.length < 18446744073709551616) (hm : ∀ i : Nat, i < l.length → m.has (a + i) = true) : (tagmem_Mem_Put.f m a l).1 = m.pokes a l := by
  have e : mapd m a (l.length : Int) = true := by
    unfold mapd
    rw [Bool.and_eq_true, decide_eq_true_eq, List.all_eq_true]
    exact ⟨h2, fun i hi => hm i (by simpa using hi)⟩
  unfold tagmem_Mem_Put.f
  rw [if_pos e]
theorem poke_same {m : Mm} (h : m.Wf) {a : Int} {l : List Int} (hl : 0 < l.length) (hb : ∀ b ∈ l, 0 ≤ b ∧ b < 256) (hm : ∀ i : Nat, i < l.length → m.has (a + i) = true) : Same m (m.pokes a l) a (a + l.length) :=
  ⟨h.pokes l a hb, fun x => has_pokes l m a x, fun x hx => by rw [byte_pokes l h a hb hm, if_neg hx], fun x hx => by rw [tag_pokes l h a hb hm, if_neg (by omega)]⟩
/-- The texts' capabilities. -/
def capsAt : Int → List ByteArray → List S30
  | _, [] => []
  | a, s :: r => ⟨a, a + ((s.size : Int) + 1), a, 1, -1, true⟩ :: capsAt (a + ((s.size : Int) + 1)) r
theorem texts_lay : ∀ (l : List ByteArray) (m : Mm) (a : Int) (c : List S30), m.Wf → 0 ≤ a → a + sumI l ≤ 16777216 → (∀ x, a ≤ x → x < a + sumI l → m.has x = true) →
    Same m (l.foldl textStep (m, a, c)).1 a (a + sumI l) ∧ (l.foldl textStep (m, a, c)).2.2 = c ++ capsAt a l ∧ ∀ (i : Nat) (hi : i < l.length), (l.foldl textStep (m, a, c)).1.bytes (a + sumI (l.take i)) (l[i].size + 1) = bytesOf l[i] ++ [0]
  | [], m, a, c, h, _, _, _ => by
    simp only [List.foldl_nil, sumI, capsAt, List.append_nil]
    exact ⟨Same.refl h _ _, trivial, fun i hi => by simp at hi⟩
  | s :: r, m, a, c, h, h0, h1, hm => by
    have hr := sumI_nonneg r
    have es : sumI (s :: r) = (s.size : Int) + 1 + sumI r := rfl
    rw [es] at h1 hm
    have ln := bytesOf_len s
    have hmi : ∀ i : Nat, i < (bytesOf s ++ [0]).length → m.has (a + i) = true := fun i hi => hm _ (by omega) (by rw [ln] at hi; omega)
    have ep := put_at (m := m) (a := a) (l := bytesOf s ++ [0]) (by rw [ln]; omega) hmi
    have S1 := poke_same h (a := a) (l := bytesOf s ++ [0]) (by rw [ln]; omega) (bytesOf_range s) hmi
    have hbt := byte_pokes (bytesOf s ++ [0]) h a (bytesOf_range s) hmi
    rw [ln] at S1 hbt
    rw [List.foldl_cons]
    have ew : IntKind.u64.wrap (a + ((s.size : Int) + 1)) = a + ((s.size : Int) + 1) := by rw [IntKind.wrap_u64]; omega
    have e2 : textStep (m, a, c) s = (m.pokes a (bytesOf s ++ [0]), a + ((s.size : Int) + 1), c ++ [⟨a, a + ((s.size : Int) + 1), a, 1, -1, true⟩]) := by
      unfold textStep
      simp only
      rw [ep, ew, of_is h0 (by omega) (by omega)]
      rfl
    rw [e2]
    generalize m.pokes a (bytesOf s ++ [0]) = m1 at S1 hbt
    obtain ⟨T1, T2, T3⟩ := texts_lay r m1 (a + ((s.size : Int) + 1)) (c ++ [⟨a, a + ((s.size : Int) + 1), a, 1, -1, true⟩]) S1.wf (by omega) (by omega) (fun x hx hx2 => by rw [S1.has]; exact hm x (by omega) (by omega))
    have e3 : a + ((s.size + 1 : Nat) : Int) = a + ((s.size : Int) + 1) := by omega
    rw [e3] at S1
    refine ⟨?_, ?_, fun i hi => ?_⟩
    · have := S1.then_ T1 (by omega) (by omega) (by omega) (by omega)
      rw [es]
      rw [show a + ((s.size : Int) + 1 + sumI r) = a + ((s.size : Int) + 1) + sumI r by omega]
      exact this
    · rw [T2, capsAt, List.append_assoc]; rfl
    · cases i with
      | zero =>
        simp only [List.take_zero, sumI, Int.add_zero, List.getElem_cons_zero]
        rw [← ln]
        refine bytes_eq fun j hj => ?_
        rw [ln] at hj
        rw [T1.byte _ (by omega), hbt, if_pos (by omega), show (a + (j : Int) - a).toNat = j by omega]
      | succ i =>
        have := T3 i (by simpa using hi)
        simp only [List.take_succ_cons, List.getElem_cons_succ, sumI]
        rw [show a + ((s.size : Int) + 1 + sumI (r.take i)) = a + ((s.size : Int) + 1) + sumI (r.take i) by omega]
        exact this
theorem CapAt.same {m m' : Mm} {a : Int} {l : List Int} {t : Bool} (h : CapAt m m' a l t) (ha : a % 32 = 0) : Same m m' a (a + 32) :=
  ⟨h.wf, h.has, fun x hx => by rw [h.byte, if_neg hx], fun x hx => by rw [h.tag, if_neg (by omega)]⟩
theorem Same.bytes {m m' : Mm} {lo hi : Int} (h : Same m m' lo hi) {a : Int} {n : Nat} (hn : a + n ≤ lo ∨ hi ≤ a) : m'.bytes a n = m.bytes a n := by
  rw [bytes_is, bytes_is]
  exact List.map_congr_left fun i hi => h.byte _ (by have := List.mem_range.1 hi; omega)
theorem caps_lay : ∀ (l : List S30) (m : Mm) (a : Int), m.Wf → 0 ≤ a → a % 32 = 0 → a + 32 * l.length ≤ 16777216 → (∀ x, a ≤ x → x < a + 32 * l.length → m.has x = true) →
    Same m (l.foldl capStep (m, a)).1 a (a + 32 * l.length) ∧ ∀ (i : Nat) (hi : i < l.length), (l.foldl capStep (m, a)).1.bytes (a + 32 * i) 32 = capL l[i].f0 l[i].f1 l[i].f2 l[i].f3 l[i].f4 ∧ (l.foldl capStep (m, a)).1.tag (a + 32 * i) = l[i].f5
  | [], m, a, h, _, _, _, _ => ⟨Same.refl h _ _, fun i hi => by simp at hi⟩
  | x :: r, m, a, h, h0, h32, h1, hm => by
    simp only [List.length_cons] at h1 hm
    obtain ⟨m1, e1, C⟩ := storeCap_at h h32 (hm a (by omega) (by omega)) x.f0 x.f1 x.f2 x.f3 x.f4 x.f5
    have ew : IntKind.u64.wrap (a + 32) = a + 32 := by rw [IntKind.wrap_u64]; omega
    have e2 := capStep_is (m := m) (a := a) (x := x) e1
    rw [ew] at e2
    rw [List.foldl_cons, e2]
    obtain ⟨T1, T2⟩ := caps_lay r m1 (a + 32) C.wf (by omega) (by omega) (by omega) (fun y hy hy2 => by rw [C.has]; exact hm y (by omega) (by omega))
    refine ⟨?_, fun i hi => ?_⟩
    · have := (C.same h32).then_ T1 (by omega) (by omega) (by omega) (by omega)
      simp only [List.length_cons]
      rw [show a + 32 * ((r.length + 1 : Nat) : Int) = a + 32 + 32 * (r.length : Int) by omega]
      exact this
    · cases i with
      | zero =>
        simp only [List.getElem_cons_zero]
        rw [show a + 32 * ((0 : Nat) : Int) = a by omega]
        refine ⟨(T1.bytes (by omega)).trans (C.bytes (capL_len _ _ _ _ _)), ?_⟩
        rw [T1.tag _ (by omega), C.tag, if_pos rfl]
      | succ i =>
        have := T2 i (by simpa using hi)
        simp only [List.getElem_cons_succ]
        rw [show a + 32 * ((i + 1 : Nat) : Int) = a + 32 + 32 * (i : Int) by omega]
        exact this
end Go.Proofs.Ytccndffoljjadaa.P
