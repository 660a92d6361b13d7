/- What the plain functions of chapter 13 give, from some number of rounds on. No condition. -/
import Derived.Test.YtndmfjdoekdleaaKGraphMoreWay
import Derived.Test.YtndmfjdoekdleaaKGraphMorePx0
import Derived.Test.YtndmfjdoekdleaaKGraphMorePx1
import Derived.Test.YtndmfjdoekdleaaKGraphMorePx2
import Derived.Test.YtndmfjdoekdleaaKGraphMorePx3
import Derived.Test.YtndmfjdoekdleaaKGraphMorePx4
import Derived.Test.YtndmfjdoekdleaaKGraphMorePx5
import Derived.Test.YtndmfjdoekdleaaKGraphMorePx6
import Derived.Test.YtndmfjdoekdleaaKGraphMorePx7
import Derived.Test.YtndmfjdoekdleaaKGraphMorePx8
import Derived.Test.YtndmfjdoekdleaaKGraphMorePx9
import Derived.Test.YtndmfjdoekdleaaKGraphMorePx10
import Derived.Test.YtndmfjdoekdleaaKGraphMorePx11
import Derived.Test.YtndmfjdoekdleaaKGraphMorePx12
import Derived.Test.YtndmfjdoekdleaaKGraphMorePx13
import Derived.Test.YtndmfjdoekdleaaKGraphMorePOk
namespace Go.Proofs.Ytndmfjdoekdleaa.Pure
open Go.RowKit Go.Proofs.Ytndmfjdoekdleaa.P Go.Proofs.YtndmfjdoekdleaaW.PrintWords Go.Proofs.YtndmfjdoekdleaaW.PrintLast
set_option linter.unusedVariables false
set_option linter.unusedSimpArgs false

def Evt (P : Nat → Prop) : Prop := ∃ K, ∀ k, K ≤ k → P k
theorem Evt.all {P : Nat → Prop} (h : ∀ k, P k) : Evt P := ⟨0, fun k _ => h k⟩
theorem Evt.map {P Q : Nat → Prop} (h : Evt P) (f : ∀ k, P k → Q k) : Evt Q := let ⟨K, hK⟩ := h; ⟨K, fun k hk => f k (hK k hk)⟩
theorem Evt.and {P Q : Nat → Prop} (h : Evt P) (g : Evt Q) : Evt fun k => P k ∧ Q k :=
  let ⟨K, hK⟩ := h; let ⟨L, hL⟩ := g; ⟨K + L, fun k hk => ⟨hK k (by omega), hL k (by omega)⟩⟩
theorem Evt.step {P Q : Nat → Prop} (h : Evt P) (f : ∀ k, P k → Q (k + 1)) : Evt Q := by
  obtain ⟨K, hK⟩ := h
  refine ⟨K + 1, fun k hk => ?_⟩
  cases k with
  | zero => omega
  | succ k => exact f k (hK k (by omega))
theorem Evt.ex {P : Nat → Prop} (h : Evt P) : ∃ k, P k := let ⟨K, hK⟩ := h; ⟨K, hK K (Nat.le_refl _)⟩
theorem Evt.mono_ {α : Type} {f : Nat → Option α} (hm : ∀ k, LeO (f k) (f (k + 1))) {k : Nat} {r : α} (h : f k = some r) : Evt fun k => f k = some r := by
  refine ⟨k, fun j hj => ?_⟩
  obtain ⟨d, rfl⟩ : ∃ d, j = k + d := ⟨j - k, by omega⟩
  induction d with
  | zero => exact h
  | succ d ih => exact hm (k + d) r (ih (by omega))
theorem awake_ev : Evt fun k => curtilagelaw13_awake.f k = some true := Evt.mono_ curtilagelaw13_awake.mono (k := 40) (by kernel_rfl)

def shortB (l : List S29) (m : Int) : Bool := decide ((l.length : Int) ≤ m ∧ ∀ o ∈ l, o.f1.length ≤ 10)
theorem rdT (l : List S29) (i : Nat) (h : i < l.length) : rd_T29 l (i : Int) = l[i] := by simp [rd_T29, List.getD_eq_getElem?_getD, List.getElem?_eq_getElem h]
theorem rdI (l : List Int) (i : Nat) (h : i < l.length) : rd l (i : Int) = l[i] := by simp [rd, List.getD_eq_getElem?_getD, List.getElem?_eq_getElem h]
theorem short_go (l : List S29) (hl : l.length ≤ 9223372036854775807) : ∀ (d i : Nat), i + d = l.length → (∀ j (hj : j < l.length), j < i → l[j].f1.length ≤ 10) →
    Evt fun k => curtilageref13_Short.l0 k l i = some (decide (∀ o ∈ l, o.f1.length ≤ 10)) := by
  intro d
  induction d with
  | zero =>
    intro i hi hb
    refine (Evt.all (P := fun _ => True) (fun _ => trivial)).step fun k _ => ?_
    rw [curtilageref13_Short.l0, if_neg (by omega), decide_eq_true]
    intro o ho
    obtain ⟨j, hj, rfl⟩ := List.getElem_of_mem ho
    exact hb j hj (by omega)
  | succ d ih =>
    intro i hi hb
    have hlt : i < l.length := by omega
    by_cases h : l[i].f1.length ≤ 10
    · refine (ih (i + 1) (by omega) (fun j hj hji => ?_)).step fun k hk => ?_
      · by_cases e : j = i
        · subst e; exact h
        · exact hb j hj (by omega)
      · rw [curtilageref13_Short.l0, if_pos (by omega), if_pos (by omega), rdT l i hlt, if_neg (by omega), wrap_up (by omega) (by omega)]
        exact hk
    · refine (Evt.all (P := fun _ => True) (fun _ => trivial)).step fun k _ => ?_
      rw [curtilageref13_Short.l0, if_pos (by omega), if_pos (by omega), rdT l i hlt, if_pos (by omega), decide_eq_false]
      exact fun hh => h (hh _ (List.getElem_mem hlt))
theorem short_ev (l : List S29) (m : Int) (hl : l.length ≤ 9223372036854775807) : Evt fun k => curtilageref13_Short.f k l m = some (shortB l m) := by
  refine (short_go l hl l.length 0 (by omega) (fun j hj h => by omega)).map fun k hk => ?_
  unfold curtilageref13_Short.f shortB
  by_cases h : (l.length : Int) > m
  · rw [if_pos h, decide_eq_false (fun hh => by have := hh.1; omega)]
  · rw [if_neg h]
    rw [show ((0 : Int)) = ((0 : Nat) : Int) from rfl, hk]
    congr 1
    apply decide_eq_decide.2
    constructor
    · intro hh; exact ⟨by omega, hh⟩
    · intro hh; exact hh.2

theorem numbers_go (a b : List Int) (he : a.length = b.length) (hl : a.length ≤ 9223372036854775807) : ∀ (d i : Nat), i + d = a.length → (∀ j (hj : j < a.length), j < i → a[j] = b[j]'(by omega)) → Evt fun k => curtilageref10_Numbers.l0 k a b i = some (decide (a = b)) := by
  intro d
  induction d with
  | zero =>
    intro i hi hb
    refine (Evt.all (P := fun _ => True) (fun _ => trivial)).step fun k _ => ?_
    rw [curtilageref10_Numbers.l0, if_neg (by omega), decide_eq_true]
    exact List.ext_getElem he (fun j h1 h2 => hb j h1 (by omega))
  | succ d ih =>
    intro i hi hb
    have hlt : i < a.length := by omega
    by_cases h : a[i] = b[i]'(by omega)
    · refine (ih (i + 1) (by omega) (fun j hj hji => ?_)).step fun k hk => ?_
      · by_cases e : j = i
        · subst e; exact h
        · exact hb j hj (by omega)
      · rw [curtilageref10_Numbers.l0, if_pos (by omega), if_pos (by omega), if_pos (by omega), rdI a i hlt, rdI b i (by omega), if_pos h, wrap_up (by omega) (by omega)]
        exact hk
    · refine (Evt.all (P := fun _ => True) (fun _ => trivial)).step fun k _ => ?_
      rw [curtilageref10_Numbers.l0, if_pos (by omega), if_pos (by omega), if_pos (by omega), rdI a i hlt, rdI b i (by omega), if_neg h, decide_eq_false]
      intro hab; subst hab; exact h rfl
theorem numbers_ev (a b : List Int) (hl : a.length ≤ 9223372036854775807) : Evt fun k => curtilageref10_Numbers.f k a b = some (decide (a = b)) := by
  by_cases he : a.length = b.length
  · refine (numbers_go a b he hl a.length 0 (by omega) (fun j hj h => by omega)).map fun k hk => ?_
    unfold curtilageref10_Numbers.f
    rw [if_pos (by omega)]; exact hk
  · refine Evt.all fun k => ?_
    unfold curtilageref10_Numbers.f
    rw [if_neg (by omega), decide_eq_false]
    exact fun h => he (by rw [h])
end Go.Proofs.Ytndmfjdoekdleaa.Pure
