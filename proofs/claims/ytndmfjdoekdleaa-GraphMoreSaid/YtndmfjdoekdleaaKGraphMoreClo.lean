/- What a root needs, and all that one needs, in plain words. No condition. -/
import Derived.Test.YtndmfjdoekdleaaKGraphMoreBase
import Derived.Test.YtndmfjdoekdleaaKGraphMorePx0
import Derived.Test.YtndmfjdoekdleaaKGraphMorePx1
import Derived.Test.YtndmfjdoekdleaaKGraphMorePx2
import Derived.Test.YtndmfjdoekdleaaKGraphMorePx3
import Derived.Test.YtndmfjdoekdleaaKGraphMorePx4
import Derived.Test.YtndmfjdoekdleaaKGraphMorePx5
import Derived.Test.YtndmfjdoekdleaaKGraphMorePx6
import Derived.Test.YtndmfjdoekdleaaKGraphMorePx7
import Derived.Test.YtndmfjdoekdleaaKGraphMorePx8
import Derived.Test.YtndmfjdoekdleaaKGraphMorePx9
import Derived.Test.YtndmfjdoekdleaaKGraphMorePx10
import Derived.Test.YtndmfjdoekdleaaKGraphMorePx11
import Derived.Test.YtndmfjdoekdleaaKGraphMorePx12
import Derived.Test.YtndmfjdoekdleaaKGraphMorePx13
namespace Go.Proofs.Ytndmfjdoekdleaa.Pure
open Go.RowKit Go.Proofs.Ytndmfjdoekdleaa.P Go.Proofs.YtndmfjdoekdleaaW.PrintWords Go.Proofs.YtndmfjdoekdleaaW.PrintLast
set_option linter.unusedVariables false
set_option linter.unusedSimpArgs false

def nd_ (l : List S29) (x : Int) : List ByteArray := (rd_T29 l x).f1
def wt (l : List S29) (od : List Int) (i : Nat) : Nat := if (i : Int) ∈ od then 0 else (nd_ l i).length
def pot (l : List S29) (od : List Int) : Nat → Nat
  | 0 => 0
  | n + 1 => pot l od n + wt l od n
theorem pot_same (l : List S29) (od : List Int) (i : Int) : ∀ n : Nat, (n : Int) ≤ i → pot l (od ++ [i]) n = pot l od n
  | 0, _ => rfl
  | n + 1, h => by
    rw [pot, pot, pot_same l od i n (by omega)]
    have : wt l (od ++ [i]) n = wt l od n := by
      unfold wt
      have hne : ¬ (n : Int) = i := by omega
      by_cases hm : (n : Int) ∈ od
      · rw [if_pos (by simp [hm]), if_pos hm]
      · rw [if_neg (by simp [hm, hne]), if_neg hm]
    omega
theorem pot_add (l : List S29) (od : List Int) (i : Int) (h0 : 0 ≤ i) (hi : i ∉ od) : ∀ n : Nat, i < n → pot l (od ++ [i]) n + (nd_ l i).length = pot l od n
  | 0, h => by omega
  | n + 1, h => by
    rw [pot, pot]
    by_cases e : i = n
    · subst e
      rw [pot_same l od _ n (Int.le_refl _)]
      unfold wt
      rw [if_pos (by simp), if_neg hi]
      omega
    · have h1 := pot_add l od i h0 hi n (by omega)
      have : wt l (od ++ [i]) n = wt l od n := by
        unfold wt
        have hne : ¬ (n : Int) = i := fun e' => e e'.symm
        by_cases hm : (n : Int) ∈ od
        · rw [if_pos (by simp [hm]), if_pos hm]
        · rw [if_neg (by simp [hm, hne]), if_neg hm]
      omega
theorem pot_nil (l : List S29) : ∀ n : Nat, n ≤ l.length → pot l [] n = ((l.take n).map fun o => o.f1.length).sum
  | 0, _ => by simp [pot]
  | n + 1, h => by
    have hlt : n < l.length := by omega
    rw [pot, pot_nil l n (by omega), List.take_succ_eq_append_getElem hlt]
    simp only [List.map_append, List.sum_append, List.map_cons, List.map_nil, List.sum_cons, List.sum_nil, wt, nd_, rdT l n hlt, List.not_mem_nil, if_false, Nat.add_zero]
/-- What the closure's answer is: all that is needed, or what is missing. -/
structure Closed (l : List S29) (a : Int) (od : List Int) : Prop where
  nd : od.Nodup
  rng : ∀ x ∈ od, 0 ≤ x ∧ x < l.length
  all : ∀ x ∈ od, ∀ y ∈ sc l x, y ∈ od
  rch : ∀ x ∈ od, Rch (sc l) a x
  root : a ∈ od
theorem clo_go (l : List S29) (hl : l.length < 4294967296) (hn : ∀ x, (nd_ l x).length ≤ 4294967296) (a : Int) (ha : 0 ≤ a) : ∀ (k : Nat) (ns : List ByteArray) (od : List Int), od.Nodup → (∀ x ∈ od, 0 ≤ x ∧ x < l.length) → (∀ x ∈ od, Rch (sc l) a x) →
    (∀ n ∈ ns, 0 ≤ firstAt (isNm n) l → Rch (sc l) a (firstAt (isNm n) l)) → (∀ x ∈ od, ∀ y ∈ sc l x, y ∈ od ∨ ∃ n ∈ ns, firstAt (isNm n) l = y) → ns.length + pot l od l.length + 1 ≤ k → ns.length + pot l od l.length ≤ 2199023255552 → (a ∈ od ∨ ∃ n ∈ ns, firstAt (isNm n) l = a) → (∀ ms, od.head? ≠ some a → ns = [] ++ ms → True) →
    ∃ r, clo k l ns od = some r ∧ ((r.2.2 = 0 ∧ r.2.1 = ⟨#[]⟩ ∧ Closed l a r.1 ∧ (∃ u, r.1 = od ++ u)) ∨ (r.2.2 = 130 ∧ r.1 = [])) := by
  intro k
  induction k with
  | zero => intro ns od _ _ _ _ _ h _ _; omega
  | succ k ih =>
    intro ns od hd hr hR hN hC hk hp hA _
    cases ns with
    | nil =>
      refine ⟨(od, ⟨#[]⟩, 0), by rw [clo], .inl ⟨rfl, rfl, ⟨hd, hr, fun x hx y hy => ?_, hR, ?_⟩, [], by simp⟩⟩
      · rcases hC x hx y hy with h | ⟨n, hn, _⟩
        · exact h
        · simp at hn
      · rcases hA with h | ⟨n, hn, _⟩
        · exact h
        · simp at hn
    | cons n ns =>
      rw [clo]
      have hrg := firstAt_range (isNm n) l
      have hnew := hN n (by simp)
      have hCn : ∀ x ∈ od, ∀ y ∈ sc l x, y ∈ od ∨ firstAt (isNm n) l = y ∨ ∃ n' ∈ ns, firstAt (isNm n') l = y := by
        intro x hx y hy
        rcases hC x hx y hy with h | ⟨n', hn', e⟩
        · exact .inl h
        · rcases List.mem_cons.1 hn' with h | h
          · subst h; exact .inr (.inl e)
          · exact .inr (.inr ⟨n', h, e⟩)
      have hAn : a ∈ od ∨ firstAt (isNm n) l = a ∨ ∃ n' ∈ ns, firstAt (isNm n') l = a := by
        rcases hA with h | ⟨n', hn', e⟩
        · exact .inl h
        · rcases List.mem_cons.1 hn' with h | h
          · subst h; exact .inr (.inl e)
          · exact .inr (.inr ⟨n', h, e⟩)
      generalize hi : firstAt (isNm n) l = i at *
      by_cases h1 : i < 0
      · rw [if_pos h1]; exact ⟨_, rfl, .inr ⟨rfl, rfl⟩⟩
      · rw [if_neg h1]
        simp only [List.length_cons] at hk hp
        by_cases h2 : hasI od i = true
        · rw [if_pos h2]
          have hm := hasI_iff.1 h2
          refine ih ns od hd hr hR (fun n' hn' => hN n' (by simp [hn'])) (fun x hx y hy => ?_) (by omega) (by omega) ?_ (fun _ _ _ => trivial)
          · rcases hCn x hx y hy with h | h | h
            · exact .inl h
            · subst h; exact .inl hm
            · exact .inr h
          · rcases hAn with h | h | h
            · exact .inl h
            · subst h; exact .inl hm
            · exact .inr h
        · rw [if_neg h2]
          have hnm : i ∉ od := fun h => h2 (hasI_iff.2 h)
          have hlo : od.length ≤ l.length := len_le _ _ hd hr
          have hpa := pot_add l od i (by omega) hnm l.length hrg.1
          rw [if_pos (by omega), if_pos (by have := hn i; unfold nd_ at *; omega)]
          obtain ⟨r, e, hres⟩ := ih (ns ++ (rd_T29 l i).f1) (od ++ [i]) (by rw [List.nodup_append]; exact ⟨hd, by simp, fun x hx y hy => by simp at hy; subst hy; exact fun e => hnm (e ▸ hx)⟩)
            (fun x hx => by
              rcases List.mem_append.1 hx with h | h
              · exact hr x h
              · simp at h; subst h; exact ⟨by omega, hrg.1⟩)
            (fun x hx => by
              rcases List.mem_append.1 hx with h | h
              · exact hR x h
              · simp at h; subst h; exact hnew (by omega))
            (fun n' hn' h0 => by
              rcases List.mem_append.1 hn' with h | h
              · exact hN n' (by simp [h]) h0
              · exact Rch.step (hnew (by omega)) (List.mem_map.2 ⟨n', h, rfl⟩) h0)
            (fun x hx y hy => by
              rcases List.mem_append.1 hx with h | h
              · rcases hCn x h y hy with h' | h' | ⟨n', hn', e⟩
                · exact .inl (by simp [h'])
                · subst h'; exact .inl (by simp)
                · exact .inr ⟨n', by simp [hn'], e⟩
              · simp at h; subst h
                obtain ⟨n', hn', e⟩ := List.mem_map.1 hy
                exact .inr ⟨n', by simp [hn'], e⟩)
            (by simp only [List.length_append]; unfold nd_ at hpa; omega) (by simp only [List.length_append]; unfold nd_ at hpa; omega)
            (by
              rcases hAn with h | h | ⟨n', hn', e⟩
              · exact .inl (by simp [h])
              · subst h; exact .inl (by simp)
              · exact .inr ⟨n', by simp [hn'], e⟩) (fun _ _ _ => trivial)
          refine ⟨r, e, ?_⟩
          rcases hres with ⟨c1, c2, c3, u, c4⟩ | h
          · exact .inl ⟨c1, c2, c3, i :: u, by rw [c4]; simp⟩
          · exact .inr h
/-- What a graph's closure gives. -/
theorem closure_ok (l : List S29) (root : ByteArray) (hl : l.length < 4294967296) (hn : ∀ o ∈ l, o.f1.length ≤ 10) :
    ∃ r, graph_Closure.f l root = some r ∧ ((r.2.2 = 0 ∧ r.2.1 = ⟨#[]⟩ ∧ Closed l (firstAt (isNm root) l) r.1 ∧ r.1.head? = some (firstAt (isNm root) l)) ∨ (r.2.2 = 130 ∧ r.1 = [])) := by
  have hrg := firstAt_range (isNm root) l
  have hnd : ∀ x, (nd_ l x).length ≤ 4294967296 := by
    intro x
    unfold nd_ rd_T29
    rw [List.getD_eq_getElem?_getD]
    cases h : l[x.toNat]? with
    | none => simp [z29]
    | some o => have := hn o (List.mem_of_getElem? h); simp only [Option.getD_some]; omega
  have hsum : (l.map fun o => o.f1.length).sum ≤ 10 * l.length := by
    have : ∀ l : List S29, (∀ o ∈ l, o.f1.length ≤ 10) → (l.map fun o => o.f1.length).sum ≤ 10 * l.length := by
      intro l
      induction l with
      | nil => simp
      | cons o l ih =>
        intro h
        have := ih (fun o' ho' => h o' (by simp [ho']))
        have := h o (by simp)
        simp only [List.map_cons, List.sum_cons, List.length_cons]; omega
    exact this l hn
  have hp0 : pot l [] l.length = (l.map fun o => o.f1.length).sum := by rw [pot_nil l l.length (Nat.le_refl _), List.take_length]
  unfold graph_Closure.f
  by_cases h1 : firstAt (isNm root) l < 0
  · refine ⟨([], root, 130), ?_, .inr ⟨rfl, rfl⟩⟩
    unfold cloFuel
    rw [clo, if_pos h1]
  · obtain ⟨k, hk⟩ : ∃ k, cloFuel l = k + 1 := ⟨cloFuel l - 1, by unfold cloFuel; omega⟩
    have hk' : k = (l.map fun o => o.f1.length).sum + 1 := by unfold cloFuel at hk; omega
    have hpa := pot_add l [] (firstAt (isNm root) l) (by omega) (by simp) l.length hrg.1
    rw [hk, clo, if_neg h1, if_neg (by simp [hasI]), if_pos (by simp), if_pos (by have := hnd (firstAt (isNm root) l); unfold nd_ at this; simp; omega)]
    generalize hi : firstAt (isNm root) l = i at *
    obtain ⟨r, e, hres⟩ := clo_go l hl hnd i (by omega) k ([] ++ (rd_T29 l i).f1) ([] ++ [i]) (by simp) (fun x hx => by simp at hx; subst hx; exact ⟨by omega, hrg.1⟩) (fun x hx => by simp at hx; subst hx; exact Rch.refl _)
      (fun n hn' h0 => Rch.edge (List.mem_map.2 ⟨n, by simpa using hn', rfl⟩) h0) (fun x hx y hy => by
        simp at hx; subst hx
        obtain ⟨n, hn', e⟩ := List.mem_map.1 hy
        exact .inr ⟨n, by simpa using hn', e⟩) (by simp only [List.nil_append, List.length_nil] at *; unfold nd_ at hpa; omega) (by simp only [List.nil_append] at *; unfold nd_ at hpa; omega) (.inl (by simp)) (fun _ _ _ => trivial)
    refine ⟨r, e, ?_⟩
    rcases hres with ⟨c1, c2, c3, u, c4⟩ | h
    · exact .inl ⟨c1, c2, c3, by rw [c4]; simp⟩
    · exact .inr h
end Go.Proofs.Ytndmfjdoekdleaa.Pure
