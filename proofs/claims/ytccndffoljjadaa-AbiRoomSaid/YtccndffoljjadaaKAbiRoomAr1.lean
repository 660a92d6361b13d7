/- Texts that are right for the document are right for the program. No condition. -/
import Derived.Test.YtccndffoljjadaaKAbiRoomAn1
import Derived.Test.YtccndffoljjadaaKAbiRoomPx12
namespace Go.Proofs.Ytccndffoljjadaa.P
open Go.RowKit Go.Proofs.YtccndffoljjadaaW.PrintWords Go.Proofs.YtccndffoljjadaaW.PrintLast
set_option linter.unusedVariables false
set_option linter.unusedSimpArgs false
theorem LeO.lift {α : Type} {f : Nat → Option α} (h : ∀ k, LeO (f k) (f (k + 1))) {k : Nat} {r : α} (e : f k = some r) : ∀ j, f (k + j) = some r
  | 0 => e
  | j + 1 => h _ _ (LeO.lift h e j)
/-- Is one of the bytes from a place on 0? -/
def zfrom (s : ByteArray) (i : Nat) : Prop := ∃ j : Nat, i ≤ j ∧ j < s.size ∧ bt s (j : Int) = 0
theorem l1_tot (l : List ByteArray) (hl : l.length ≤ 4611686018427387904) (i : Nat) (hi : i < l.length) (hs : (rdOf ByteArray.empty l (i : Int)).size ≤ 4611686018427387904) (kk : Nat) (r : Bool) (hr : curtilageref19_texts.l0 kk l ((i + 1 : Nat) : Int) = some r) :
    ∀ n x : Nat, n + x = (rdOf ByteArray.empty l (i : Int)).size → ∃ k q, curtilageref19_texts.l1 k l (i : Int) (x : Int) = some q ∧ (q = true → r = true ∧ ¬ zfrom (rdOf ByteArray.empty l (i : Int)) x) ∧ (¬ zfrom (rdOf ByteArray.empty l (i : Int)) x → q = r)
  | 0, x, hx => by
    refine ⟨kk + 1, r, ?_, fun h => ⟨h, fun ⟨j, h1, h2, _⟩ => by omega⟩, fun _ => rfl⟩
    unfold curtilageref19_texts.l1
    have W : wrap64 ((i : Int) + 1) = ((i + 1 : Nat) : Int) := by unfold wrap64; omega
    rw [if_pos (by omega), if_pos (by omega), if_neg (by omega), W]
    exact hr
  | n + 1, x, hx => by
    by_cases c : bt (rdOf ByteArray.empty l (i : Int)) (x : Int) = 0
    · refine ⟨1, false, ?_, fun h => (by cases h), fun h => absurd ⟨x, Nat.le_refl _, by omega, c⟩ h⟩
      unfold curtilageref19_texts.l1
      rw [if_pos (by omega), if_pos (by omega), if_pos (by omega), if_pos (by omega), if_pos c]
    · obtain ⟨k, q, hk, hq, hq2⟩ := l1_tot l hl i hi hs kk r hr n (x + 1) (by omega)
      have key : zfrom (rdOf ByteArray.empty l (i : Int)) x → zfrom (rdOf ByteArray.empty l (i : Int)) (x + 1) := fun ⟨j, h1, h2, h3⟩ => by
        refine ⟨j, ?_, h2, h3⟩
        rcases Nat.lt_or_ge x j with h | h
        · omega
        · obtain rfl : j = x := by omega
          exact absurd h3 c
      refine ⟨k + 1, q, ?_, fun h => ⟨(hq h).1, fun hz => (hq h).2 (key hz)⟩, fun hz => hq2 fun ⟨j, h1, h2, h3⟩ => hz ⟨j, by omega, h2, h3⟩⟩
      unfold curtilageref19_texts.l1
      have W : wrap64 ((x : Int) + 1) = ((x + 1 : Nat) : Int) := by unfold wrap64; omega
      rw [if_pos (by omega), if_pos (by omega), if_pos (by omega), if_pos (by omega), if_neg c, W]
      exact hk
def goodS (s : ByteArray) : Prop := s.size ≤ 200 ∧ ¬ zfrom s 0
theorem rd_mem {l : List ByteArray} {i : Nat} (hi : i < l.length) : rdOf ByteArray.empty l (i : Int) = l[i] := by
  simp [rdOf, List.getElem?_eq_getElem hi]
theorem l0_tot (l : List ByteArray) (hl : l.length ≤ 4611686018427387904) (hs : ∀ s ∈ l, s.size ≤ 4611686018427387904) : ∀ n i : Nat, n + i = l.length → ∃ k r, curtilageref19_texts.l0 k l (i : Int) = some r ∧ (r = true ↔ l.length ≤ 8 ∧ ∀ j, i ≤ j → (hj : j < l.length) → goodS l[j])
  | 0, i, hi => by
    refine ⟨1, decide ((l.length : Int) ≤ 8), ?_, ?_⟩
    · unfold curtilageref19_texts.l0
      rw [if_neg (by omega)]
    · rw [decide_eq_true_eq]
      exact ⟨fun h => ⟨by omega, fun j h1 h2 => by omega⟩, fun h => by omega⟩
  | n + 1, i, hi => by
    obtain ⟨kk, r, hr, hR⟩ := l0_tot l hl hs n (i + 1) (by omega)
    have hm := rd_mem (l := l) (i := i) (by omega)
    by_cases c : ((rdOf ByteArray.empty l (i : Int)).size : Int) > 200
    · refine ⟨1, false, ?_, ⟨fun h => (by cases h), fun ⟨_, h⟩ => ?_⟩⟩
      · unfold curtilageref19_texts.l0
        rw [if_pos (by omega), if_pos (by omega), if_pos c]
      · have h2 := (h i (Nat.le_refl _) (by omega)).1
        rw [hm] at c
        omega
    · obtain ⟨k, q, hk, hq, hq2⟩ := l1_tot l hl i (by omega) (by omega) kk r hr _ 0 rfl
      refine ⟨k + 1, q, ?_, fun h => ?_, fun h => ?_⟩
      · unfold curtilageref19_texts.l0
        rw [if_pos (by omega), if_pos (by omega), if_neg c]
        exact hk
      · obtain ⟨h1, h2⟩ := hq h
        obtain ⟨g1, g2⟩ := hR.1 h1
        refine ⟨g1, fun j hj hjl => ?_⟩
        rcases Nat.lt_or_ge i j with h3 | h3
        · exact g2 j h3 hjl
        · obtain rfl : j = i := by omega
          rw [hm] at c h2
          exact ⟨by omega, h2⟩
      · have hz := (h.2 i (Nat.le_refl _) (by omega)).2
        rw [← hm] at hz
        rw [hq2 hz]
        exact hR.2 ⟨h.1, fun j hj hjl => h.2 j (by omega) hjl⟩
theorem texts_tot (l : List ByteArray) (hl : l.length ≤ 4611686018427387904) (hs : ∀ s ∈ l, s.size ≤ 4611686018427387904) : ∃ k r, curtilageref19_texts.f k l = some r ∧ (r = true ↔ l.length ≤ 8 ∧ ∀ s ∈ l, goodS s) := by
  obtain ⟨k, r, h1, h2⟩ := l0_tot l hl hs _ 0 rfl
  refine ⟨k, r, h1, h2.trans ⟨fun ⟨a, b⟩ => ⟨a, fun s hs => ?_⟩, fun ⟨a, b⟩ => ⟨a, fun j _ hj => b _ (List.getElem_mem hj)⟩⟩⟩
  obtain ⟨j, hj, rfl⟩ := List.getElem_of_mem hs
  exact b j (by omega) hj
theorem zr_true {s : ByteArray} : ∀ (b pos : Nat), zr s b pos = true → zfrom s 0
  | 0, _, h => by simp [zr] at h
  | b + 1, pos, h => by
    unfold zr at h
    split at h
    · rename_i hp
      split at h
      · rename_i hd
        refine ⟨pos, Nat.zero_le _, hp, ?_⟩
        by_cases ha : (s[pos]'hp).toNat < 128
        · rw [decode_ascii s pos hp ha] at hd
          unfold bt
          rw [dif_pos (by simpa using hp)]
          simpa using hd
        · have := (decode_high s pos hp (by omega)).1
          omega
      · exact zr_true b _ h
    · cases h
theorem good_bad {s : ByteArray} (h : goodS s) : badS s = false := by
  unfold badS abi_text.f
  cases hz : zr s s.size 0 with
  | true => exact absurd (zr_true _ _ hz) h.2
  | false =>
    have := h.1
    have e : decide ((s.size : Int) ≤ 200) = true := decide_eq_true (by omega)
    simp [e]
/-- The document's word for texts alone. -/
theorem Right_tot (a b : List ByteArray) (ha : a.length ≤ 4611686018427387904) (hb : b.length ≤ 4611686018427387904) (sa : ∀ s ∈ a, s.size ≤ 4611686018427387904) (sb : ∀ s ∈ b, s.size ≤ 4611686018427387904) : ∃ k r, curtilageref19_Right.f k a b [] = some r ∧ (r = true ↔ (a.length ≤ 8 ∧ ∀ s ∈ a, goodS s) ∧ (b.length ≤ 8 ∧ ∀ s ∈ b, goodS s)) := by
  obtain ⟨k1, r1, e1, h1⟩ := texts_tot a ha sa
  obtain ⟨k2, r2, e2, h2⟩ := texts_tot b hb sb
  refine ⟨k1 + k2 + 1, r1 && r2, ?_, ?_⟩
  · unfold curtilageref19_Right.f
    have g1 := LeO.lift (f := fun k => curtilageref19_texts.f k a) (fun k => curtilageref19_texts.mono a k) e1 (k2 + 1)
    have g2 := LeO.lift (f := fun k => curtilageref19_texts.f k b) (fun k => curtilageref19_texts.mono b k) e2 (k1 + 1)
    rw [show k1 + k2 + 1 = k1 + (k2 + 1) by omega, g1, Option.bind_some, show k1 + (k2 + 1) = k2 + (k1 + 1) by omega, g2, Option.bind_some]
    unfold curtilageref19_Right.l0
    cases r1 <;> cases r2 <;> simp
  · rw [Bool.and_eq_true, h1, h2]
theorem right_of_good {a b : List ByteArray} (h1 : a.length ≤ 8 ∧ ∀ s ∈ a, goodS s) (h2 : b.length ≤ 8 ∧ ∀ s ∈ b, goodS s) : abi_right.f a b [] = true := by
  unfold abi_right.f
  have any_no : ∀ l : List ByteArray, (∀ s ∈ l, goodS s) → l.any badS = false := fun l hl => List.any_eq_false.2 fun s hs => by rw [good_bad (hl s hs)]; simp
  rw [any_no a h1.2, any_no b h2.2]
  simp
  exact ⟨by omega, by omega⟩
end Go.Proofs.Ytccndffoljjadaa.P
