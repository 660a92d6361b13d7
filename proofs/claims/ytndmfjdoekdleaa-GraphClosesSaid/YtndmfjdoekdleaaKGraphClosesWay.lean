/- What a graph's visit gives, in plain words: each is met once, and begun behind what it needs, but what needs it, too. No condition. -/
import Derived.Test.YtndmfjdoekdleaaKGraphClosesPx4
namespace Go.Proofs.Ytndmfjdoekdleaa.Pure
open Go.RowKit Go.Proofs.Ytndmfjdoekdleaa.P Go.Proofs.YtndmfjdoekdleaaW.PrintWords Go.Proofs.YtndmfjdoekdleaaW.PrintLast
set_option linter.unusedVariables false
set_option linter.unusedSimpArgs false

theorem hasI_iff {l : List Int} {n : Int} : hasI l n = true ↔ n ∈ l := by unfold hasI; exact List.contains_iff_mem
theorem hasI_no {l : List Int} {n : Int} : hasI l n = false ↔ n ∉ l := by
  rw [← hasI_iff]; cases hasI l n <;> simp
theorem len_le : ∀ (n : Nat) (l : List Int), l.Nodup → (∀ x ∈ l, 0 ≤ x ∧ x < n) → l.length ≤ n
  | 0, l, _, hr => by
    cases l with
    | nil => simp
    | cons a l => have := hr a (by simp); omega
  | n + 1, l, hd, hr => by
    by_cases h : (n : Int) ∈ l
    · have h1 := len_le n (l.erase n) (hd.erase _) (fun x hx => by
        have hm := (List.Nodup.mem_erase_iff hd).1 hx
        have := hr x hm.2
        have := hm.1
        omega)
      rw [List.length_erase_of_mem h] at h1
      omega
    · have h1 := len_le n l hd (fun x hx => by
        have := hr x hx
        have : x ≠ n := fun e => h (e ▸ hx)
        omega)
      omega
def sc (l : List S29) (i : Int) : List Int := (rd_T29 l i).f1.map fun n => firstAt (isNm n) l
inductive Rch (s : Int → List Int) : Int → Int → Prop
  | refl (x : Int) : Rch s x x
  | step {x y z : Int} : Rch s x y → z ∈ s y → 0 ≤ z → Rch s x z
theorem Rch.trans {s : Int → List Int} {x y z : Int} (h : Rch s x y) (k : Rch s y z) : Rch s x z := by
  induction k with
  | refl => exact h
  | step _ hz h0 ih => exact Rch.step ih hz h0
theorem Rch.edge {s : Int → List Int} {x y : Int} (h : y ∈ s x) (h0 : 0 ≤ y) : Rch s x y := Rch.step (Rch.refl x) h h0
structure Inv (l : List S29) (ord m o : List Int) : Prop where
  nd : m.Nodup
  no : o.Nodup
  sub : ∀ x ∈ o, x ∈ m
  rng : ∀ x ∈ m, 0 ≤ x ∧ x < l.length ∧ x ∈ ord
  cl : ∀ x ∈ o, ∀ y ∈ sc l x, 0 ≤ y → y ∈ ord → y ∈ m
  good : ∀ (a b : Nat) (x y : Int), a < b → o[a]? = some x → o[b]? = some y → y ∈ sc l x → Rch (sc l) y x
  pend : ∀ x ∈ o, ∀ y ∈ sc l x, y ∈ m → y ∉ o → Rch (sc l) y x
theorem Inv.nil (l : List S29) (ord : List Int) : Inv l ord [] [] := ⟨by simp, by simp, by simp, by simp, by simp, by simp, by simp⟩
end Go.Proofs.Ytndmfjdoekdleaa.Pure
