/- What the plain functions of chapter 13 give, from some number of rounds on. No condition. -/
import Derived.Test.YtociaidhgefpiaaKDlPlaysWay
namespace Go.Proofs.Ytociaidhgefpiaa.Pure
open Go.RowKit Go.Proofs.Ytociaidhgefpiaa.P Go.Proofs.YtociaidhgefpiaaW.PrintWords Go.Proofs.YtociaidhgefpiaaW.PrintLast
set_option linter.unusedVariables false
set_option linter.unusedSimpArgs false

def Evt (P : Nat → Prop) : Prop := ∃ K, ∀ k, K ≤ k → P k
theorem Evt.all {P : Nat → Prop} (h : ∀ k, P k) : Evt P := ⟨0, fun k _ => h k⟩
theorem Evt.map {P Q : Nat → Prop} (h : Evt P) (f : ∀ k, P k → Q k) : Evt Q := let ⟨K, hK⟩ := h; ⟨K, fun k hk => f k (hK k hk)⟩
theorem Evt.and {P Q : Nat → Prop} (h : Evt P) (g : Evt Q) : Evt fun k => P k ∧ Q k :=
  let ⟨K, hK⟩ := h; let ⟨L, hL⟩ := g; ⟨K + L, fun k hk => ⟨hK k (by omega), hL k (by omega)⟩⟩
theorem Evt.step {P Q : Nat → Prop} (h : Evt P) (f : ∀ k, P k → Q (k + 1)) : Evt Q := by
  obtain ⟨K, hK⟩ := h
  refine ⟨K + 1, fun k hk => ?_⟩
  cases k with
  | zero => omega
  | succ k => exact f k (hK k (by omega))
theorem Evt.ex {P : Nat → Prop} (h : Evt P) : ∃ k, P k := let ⟨K, hK⟩ := h; ⟨K, hK K (Nat.le_refl _)⟩
theorem Evt.from_ {P : Nat → Prop} (K : Nat) (h : ∀ k, K ≤ k → P k) : Evt P := ⟨K, h⟩
theorem Evt.mono_ {α : Type} {f : Nat → Option α} (hm : ∀ k, LeO (f k) (f (k + 1))) {k : Nat} {r : α} (h : f k = some r) : Evt fun k => f k = some r := by
  refine ⟨k, fun j hj => ?_⟩
  obtain ⟨d, rfl⟩ : ∃ d, j = k + d := ⟨j - k, by omega⟩
  induction d with
  | zero => exact h
  | succ d ih => exact hm (k + d) r (ih (by omega))

theorem rdT (l : List S38) (i : Nat) (h : i < l.length) : rd_T38 l (i : Int) = l[i] := by simp [rd_T38, List.getD_eq_getElem?_getD, List.getElem?_eq_getElem h]
theorem rdI (l : List Int) (i : Nat) (h : i < l.length) : rd l (i : Int) = l[i] := by simp [rd, List.getD_eq_getElem?_getD, List.getElem?_eq_getElem h]
theorem numbers_go (a b : List Int) (he : a.length = b.length) (hl : a.length ≤ 9223372036854775807) : ∀ (d i : Nat), i + d = a.length → (∀ j (hj : j < a.length), j < i → a[j] = b[j]'(by omega)) → Evt fun k => curtilageref10_Numbers.l0 k a b i = some (decide (a = b)) := by
  intro d
  induction d with
  | zero =>
    intro i hi hb
    refine (Evt.all (P := fun _ => True) (fun _ => trivial)).step fun k _ => ?_
    rw [curtilageref10_Numbers.l0, if_neg (by omega), decide_eq_true]
    exact List.ext_getElem he (fun j h1 h2 => hb j h1 (by omega))
  | succ d ih =>
    intro i hi hb
    have hlt : i < a.length := by omega
    by_cases h : a[i] = b[i]'(by omega)
    · refine (ih (i + 1) (by omega) (fun j hj hji => ?_)).step fun k hk => ?_
      · by_cases e : j = i
        · subst e; exact h
        · exact hb j hj (by omega)
      · rw [curtilageref10_Numbers.l0, if_pos (by omega), if_pos (by omega), if_pos (by omega), rdI a i hlt, rdI b i (by omega), if_pos h, wrap_up (by omega) (by omega)]
        exact hk
    · refine (Evt.all (P := fun _ => True) (fun _ => trivial)).step fun k _ => ?_
      rw [curtilageref10_Numbers.l0, if_pos (by omega), if_pos (by omega), if_pos (by omega), rdI a i hlt, rdI b i (by omega), if_neg h, decide_eq_false]
      intro hab; subst hab; exact h rfl
theorem numbers_ev (a b : List Int) (hl : a.length ≤ 9223372036854775807) : Evt fun k => curtilageref10_Numbers.f k a b = some (decide (a = b)) := by
  by_cases he : a.length = b.length
  · refine (numbers_go a b he hl a.length 0 (by omega) (fun j hj h => by omega)).map fun k hk => ?_
    unfold curtilageref10_Numbers.f
    rw [if_pos (by omega)]; exact hk
  · refine Evt.all fun k => ?_
    unfold curtilageref10_Numbers.f
    rw [if_neg (by omega), decide_eq_false]
    exact fun h => he (by rw [h])
theorem reverse_go (l : List Int) (hl : l.length ≤ 9223372036854775807) : ∀ (d i : Nat) (xs : List Int), 2 * i + d = l.length + 1 → xs.length = l.length → (∀ p (hp : p < xs.length), xs[p] = if p < i ∨ l.length ≤ p + i then l.getD (l.length - 1 - p) 0 else l.getD p 0) →
    Evt fun k => slices_Reverse_int_int.l0 k xs i ((l.length : Int) - 1 - i) = some l.reverse := by
  intro d
  induction d using Nat.strongRecOn with
  | _ d ih =>
    intro i xs hd hlen hx
    by_cases h : (i : Int) < (l.length : Int) - 1 - i
    · refine (ih (d - 2) (by omega) (i + 1) ((xs.set i (xs.getD (l.length - 1 - i) 0)).set (l.length - 1 - i) (xs.getD i 0)) (by omega) (by simp [hlen]) (fun p hp => ?_)).step fun k hk => ?_
      · simp only [List.length_set] at hp
        rw [List.getElem_set, List.getElem_set]
        by_cases e1 : l.length - 1 - i = p
        · rw [if_pos e1, if_pos (by omega), List.getD_eq_getElem?_getD, List.getElem?_eq_getElem (by omega), Option.getD_some, hx i (by omega), if_neg (by omega)]
          congr 1; omega
        · rw [if_neg e1]
          by_cases e2 : i = p
          · rw [if_pos e2, if_pos (by omega), List.getD_eq_getElem?_getD, List.getElem?_eq_getElem (by omega), Option.getD_some, hx (l.length - 1 - i) (by omega), if_neg (by omega)]
            congr 1; omega
          · rw [if_neg e2, hx p (by omega)]
            by_cases e3 : p < i ∨ l.length ≤ p + i
            · rw [if_pos e3, if_pos (by omega)]
            · rw [if_neg e3, if_neg (by omega)]
      · have ej : ((l.length : Int) - 1 - i) = ((l.length - 1 - i : Nat) : Int) := by omega
        rw [slices_Reverse_int_int.l0, if_pos h, if_pos (by omega), if_pos (by omega), if_pos (by omega), if_pos (by omega), wrap_up (by omega) (by omega)]
        have ew : wrap64 ((l.length : Int) - 1 - i - 1) = (l.length : Int) - 1 - ((i + 1 : Nat) : Int) := by unfold wrap64; omega
        have er : ∀ q : Nat, rd xs (q : Int) = xs.getD q 0 := fun q => by simp [rd]
        rw [ew, ej, er, er]
        simp only [Int.toNat_natCast]
        exact hk
    · refine (Evt.all (P := fun _ => True) (fun _ => trivial)).step fun k _ => ?_
      rw [slices_Reverse_int_int.l0, if_neg h]
      congr 1
      refine List.ext_getElem (by simp [hlen]) (fun p h1 h2 => ?_)
      rw [hx p h1, List.getElem_reverse]
      have hp : p < l.length := by omega
      by_cases e : p < i ∨ l.length ≤ p + i
      · rw [if_pos e, List.getD_eq_getElem?_getD, List.getElem?_eq_getElem (by omega)]; rfl
      · rw [if_neg e, List.getD_eq_getElem?_getD, List.getElem?_eq_getElem (by omega), Option.getD_some]
        congr 1; omega
theorem reverse_ev (l : List Int) (hl : l.length ≤ 9223372036854775807) : Evt fun k => slices_Reverse_int_int.f k l = some l.reverse := by
  refine (reverse_go l hl (l.length + 1) 0 l (by omega) rfl (fun p hp => by
    rw [if_neg (by omega), List.getD_eq_getElem?_getD, List.getElem?_eq_getElem hp]; rfl)).map fun k hk => ?_
  unfold slices_Reverse_int_int.f
  have : wrap64 ((l.length : Int) - 1) = (l.length : Int) - 1 - ((0 : Nat) : Int) := by unfold wrap64; omega
  rw [this]; exact hk
end Go.Proofs.Ytociaidhgefpiaa.Pure
