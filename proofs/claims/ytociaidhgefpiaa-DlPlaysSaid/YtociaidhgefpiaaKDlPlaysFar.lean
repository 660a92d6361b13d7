/- All that one needs: the program's list, and the document's, are the places that it reaches, rising. No condition. -/
import Derived.Test.YtociaidhgefpiaaKDlPlaysSim
namespace Go.Proofs.Ytociaidhgefpiaa.Pure
open Go.RowKit Go.Proofs.Ytociaidhgefpiaa.P Go.Proofs.YtociaidhgefpiaaW.PrintWords Go.Proofs.YtociaidhgefpiaaW.PrintLast
set_option linter.unusedVariables false
set_option linter.unusedSimpArgs false

def Rising (l : List Int) : Prop := l.Pairwise (· < ·)
theorem rising_unique : ∀ {a b : List Int}, Rising a → Rising b → (∀ x, x ∈ a ↔ x ∈ b) → a = b
  | [], [], _, _, _ => rfl
  | [], y :: b, _, _, h => by have := (h y).2 (by simp); simp at this
  | x :: a, [], _, _, h => by have := (h x).1 (by simp); simp at this
  | x :: a, y :: b, ha, hb, h => by
    have ha' := List.pairwise_cons.1 ha
    have hb' := List.pairwise_cons.1 hb
    have hxy : x = y := by
      rcases List.mem_cons.1 ((h x).1 (by simp)) with e | e
      · exact e
      · rcases List.mem_cons.1 ((h y).2 (by simp)) with e' | e'
        · exact e'.symm
        · have := hb'.1 x e; have := ha'.1 y e'; omega
    subst hxy
    have := rising_unique ha'.2 hb'.2 (fun z => by
      have hz := h z
      simp only [List.mem_cons] at hz
      constructor
      · intro hm
        rcases hz.1 (.inr hm) with e | e
        · subst e; have := ha'.1 z hm; omega
        · exact e
      · intro hm
        rcases hz.2 (.inr hm) with e | e
        · subst e; have := hb'.1 z hm; omega
        · exact e)
    rw [this]
theorem sorted_rising {l : List Int} (h : l.Nodup) : Rising (sorted l) := by
  have h2 : (sorted l).Nodup := (sorted_perm l).nodup_iff.2 h
  unfold Rising
  refine List.Pairwise.imp ?_ (List.Pairwise.and (sorted_up l) h2)
  rintro a b ⟨h1, h2⟩
  omega
theorem mem_sorted {l : List Int} {x : Int} : x ∈ sorted l ↔ x ∈ l := (sorted_perm l).mem_iff
/-- Is this list the places that one reaches, rising? -/
structure Far (l : List S38) (from_ : Int) (r : List Int) : Prop where
  up : Rising r
  mem : ∀ x, x ∈ r ↔ Rch (sc l) from_ x
theorem Far.eq {l : List S38} {f : Int} {r s : List Int} (h : Far l f r) (k : Far l f s) : r = s := rising_unique h.up k.up (fun x => (h.mem x).trans (k.mem x).symm)
theorem rch_range {l : List S38} {f x : Int} (h0 : 0 ≤ f) (h1 : f < l.length) (h : Rch (sc l) f x) : 0 ≤ x ∧ x < l.length := by
  cases h with
  | refl => exact ⟨h0, h1⟩
  | step _ hz hz0 =>
    obtain ⟨n, _, rfl⟩ := List.mem_map.1 hz
    exact ⟨hz0, (firstAt_range _ _).1⟩

theorem contains_ev (l : List Int) (n : Int) (hl : l.length ≤ 9223372036854775807) : Evt fun k => slices_Contains_int_int.f k l n = some (hasI l n) := Evt.from_ (l.length + 1) fun k hk => contains_is l n hl k (by omega)
theorem greach_go (l : List S38) (f : Int) (h0 : 0 ≤ f) (hf : f < l.length) (hl : l.length < 4294967296) (hn : ∀ x, (nd_ l x).length ≤ 4294967296) : ∀ (e : Nat) (out : List Int) (at_ : Nat), at_ + e = l.length → at_ ≤ out.length → out.Nodup → (∀ x ∈ out, Rch (sc l) f x) → f ∈ out →
    (∀ p, p < at_ → ∀ y ∈ sc l (out.getD p 0), 0 ≤ y → y ∈ out) → ∃ r, Far l f r ∧ Evt fun k => graph_Reach.l0 k l out at_ = some r := by
  intro e
  induction e with
  | zero =>
    intro out at_ he hle hd hr hm hc
    have hlo : out.length ≤ l.length := len_le _ _ hd (fun x hx => rch_range h0 hf (hr x hx))
    have hcl : ∀ x, Rch (sc l) f x → x ∈ out := by
      intro x hx
      induction hx with
      | refl => exact hm
      | step _ hz hz0 ih =>
        obtain ⟨p, hp, e⟩ := List.getElem_of_mem ih
        refine hc p (by omega) _ ?_ hz0
        rw [List.getD_eq_getElem?_getD, List.getElem?_eq_getElem hp, Option.getD_some, e]; exact hz
    have hpos : 0 < out.length := List.length_pos_of_mem hm
    refine ⟨sorted out, ⟨sorted_rising hd, fun x => mem_sorted.trans ⟨hr x, hcl x⟩⟩, ?_⟩
    refine (Evt.all (P := fun _ => True) (fun _ => trivial)).step fun k _ => ?_
    rw [graph_Reach.l0, if_neg (by omega)]
    unfold slices_Sort_int_int.f
    rw [if_pos ⟨hpos, by omega⟩]; rfl
  | succ e ih =>
    intro out at_ he hle hd hr hm hc
    have hlo : out.length ≤ l.length := len_le _ _ hd (fun x hx => rch_range h0 hf (hr x hx))
    by_cases hat : at_ < out.length
    · -- along what it needs
      have hx := rch_range h0 hf (hr _ (List.getElem_mem hat))
      generalize hg : out[at_] = g at *
      have hgr : Rch (sc l) f g := hr g (hg ▸ List.getElem_mem hat)
      have inner : ∀ (d i : Nat) (o : List Int), i + d = (nd_ l g).length → o.Nodup → (∀ x ∈ o, Rch (sc l) f x) → f ∈ o → (∃ u, o = out ++ u) → (∀ j (hj : j < (nd_ l g).length), j < i → 0 ≤ firstAt (isNm (nd_ l g)[j]) l → firstAt (isNm (nd_ l g)[j]) l ∈ o) →
          ∃ r, Far l f r ∧ Evt fun k => graph_Reach.l1 k l o at_ (nd_ l g) (nd_ l g).length i = some r := by
        intro d
        induction d with
        | zero =>
          intro i o hi hd' hr' hm' hu hj
          obtain ⟨u, rfl⟩ := hu
          obtain ⟨r, hF, hE⟩ := ih (out ++ u) (at_ + 1) (by omega) (by simp; omega) hd' hr' hm' (fun p hp y hy hy0 => by
            by_cases ep : p = at_
            · subst ep
              rw [List.getD_eq_getElem?_getD, List.getElem?_append_left hat, List.getElem?_eq_getElem hat, Option.getD_some, hg] at hy
              obtain ⟨n, hn', rfl⟩ := List.mem_map.1 hy
              obtain ⟨j, hjl, rfl⟩ := List.getElem_of_mem hn'
              exact hj j hjl (by unfold nd_ at hi; omega) hy0
            · rw [List.getD_eq_getElem?_getD, List.getElem?_append_left (by omega), ← List.getD_eq_getElem?_getD] at hy
              simp [hc p (by omega) y hy hy0])
          refine ⟨r, hF, hE.step fun k hk => ?_⟩
          rw [graph_Reach.l1, if_neg (by omega), wrap_up (by omega) (by omega)]
          exact hk
        | succ d ihd =>
          intro i o hi hd' hr' hm' hu hj
          have hlt : i < (nd_ l g).length := by omega
          have hnl := hn g
          have hlo' : o.length ≤ l.length := len_le _ _ hd' (fun x hx => rch_range h0 hf (hr' x hx))
          have ey : rdOf ByteArray.empty (nd_ l g) (i : Int) = (nd_ l g)[i] := by simp [rdOf, List.getD_eq_getElem?_getD, List.getElem?_eq_getElem hlt]
          have hsc : firstAt (isNm (nd_ l g)[i]) l ∈ sc l g := List.mem_map.2 ⟨_, List.getElem_mem hlt, rfl⟩
          generalize hj' : firstAt (isNm (nd_ l g)[i]) l = j at *
          have next : ∀ o' : List Int, (∀ x ∈ o, x ∈ o') → (0 ≤ j → j ∈ o') → ∀ q (hq : q < (nd_ l g).length), q < i + 1 → 0 ≤ firstAt (isNm (nd_ l g)[q]) l → firstAt (isNm (nd_ l g)[q]) l ∈ o' := by
            intro o' hs hjo q hq hqi hq0
            by_cases eq : q = i
            · subst eq; rw [hj'] at hq0 ⊢; exact hjo hq0
            · exact hs _ (hj q hq (by omega) hq0)
          have F : graph_Find.f l ((nd_ l g)[i]) = some j := by unfold graph_Find.f; rw [hj']
          by_cases h1 : j ≥ 0
          · by_cases h2 : hasI o j = true
            · obtain ⟨r, hF, hE⟩ := ihd (i + 1) o (by omega) hd' hr' hm' hu (next o (fun _ h => h) (fun _ => hasI_iff.1 h2))
              refine ⟨r, hF, ((contains_ev o j (by omega)).and hE).step fun k hk => ?_⟩
              rw [graph_Reach.l1, if_pos (by omega), if_pos (by omega), if_pos (by omega), ey, F]
              simp only [Option.bind_some]
              rw [if_pos h1, hk.1]
              simp only [Option.bind_some]
              rw [if_pos h2, wrap_up (by omega) (by omega)]
              exact hk.2
            · have hnm : j ∉ o := fun h => h2 (hasI_iff.2 h)
              obtain ⟨u, hu'⟩ := hu
              obtain ⟨r, hF, hE⟩ := ihd (i + 1) (o ++ [j]) (by omega) (by rw [List.nodup_append]; exact ⟨hd', by simp, fun x hx y hy => by simp at hy; subst hy; exact fun e => hnm (e ▸ hx)⟩)
                (fun x hx => by
                  rcases List.mem_append.1 hx with h | h
                  · exact hr' x h
                  · simp at h; subst h; exact Rch.step hgr hsc h1) (by simp [hm']) ⟨u ++ [j], by rw [hu', List.append_assoc]⟩ (next (o ++ [j]) (fun x h => by simp [h]) (fun _ => by simp))
              refine ⟨r, hF, ((contains_ev o j (by omega)).and hE).step fun k hk => ?_⟩
              rw [graph_Reach.l1, if_pos (by omega), if_pos (by omega), if_pos (by omega), ey, F]
              simp only [Option.bind_some]
              rw [if_pos h1, hk.1]
              simp only [Option.bind_some]
              rw [if_neg h2, if_pos (by omega), wrap_up (by omega) (by omega)]
              exact hk.2
          · obtain ⟨r, hF, hE⟩ := ihd (i + 1) o (by omega) hd' hr' hm' hu (next o (fun _ h => h) (fun h => absurd h h1))
            refine ⟨r, hF, hE.step fun k hk => ?_⟩
            rw [graph_Reach.l1, if_pos (by omega), if_pos (by omega), if_pos (by omega), ey, F]
            simp only [Option.bind_some]
            rw [if_neg h1, wrap_up (by omega) (by omega)]
            exact hk
      obtain ⟨r, hF, hE⟩ := inner (nd_ l g).length 0 out (by omega) hd hr hm ⟨[], by simp⟩ (fun j _ h => by omega)
      refine ⟨r, hF, hE.step fun k hk => ?_⟩
      rw [graph_Reach.l0, if_pos (by omega), if_pos (by omega), rdI out at_ hat, hg, if_pos hx.1, if_pos hx.2]
      exact hk
    · have hao : at_ = out.length := by omega
      have hcl : ∀ x, Rch (sc l) f x → x ∈ out := by
        intro x hx
        induction hx with
        | refl => exact hm
        | step _ hz hz0 ih' =>
          obtain ⟨p, hp, e⟩ := List.getElem_of_mem ih'
          refine hc p (by omega) _ ?_ hz0
          rw [List.getD_eq_getElem?_getD, List.getElem?_eq_getElem hp, Option.getD_some, e]; exact hz
      have hpos : 0 < out.length := List.length_pos_of_mem hm
      refine ⟨sorted out, ⟨sorted_rising hd, fun x => mem_sorted.trans ⟨hr x, hcl x⟩⟩, ?_⟩
      refine (Evt.all (P := fun _ => True) (fun _ => trivial)).step fun k _ => ?_
      rw [graph_Reach.l0, if_neg (by omega)]
      unfold slices_Sort_int_int.f
      rw [if_pos ⟨hpos, by omega⟩]; rfl
theorem greach_ev (l : List S38) (f : Int) (hl : l.length < 4294967296) (hn : ∀ x, (nd_ l x).length ≤ 4294967296) :
    ∃ r, (Evt fun k => graph_Reach.f k l f = some r) ∧ ((0 ≤ f ∧ f < l.length ∧ Far l f r) ∨ (¬ (0 ≤ f ∧ f < l.length) ∧ r = [])) := by
  by_cases h : 0 ≤ f ∧ f < l.length
  · obtain ⟨r, hF, hE⟩ := greach_go l f h.1 h.2 hl hn l.length [f] 0 (by omega) (by simp) (by simp) (fun x hx => by simp at hx; subst hx; exact Rch.refl _) (by simp) (fun p hp => by omega)
    refine ⟨r, (hE.step (Q := fun k => graph_Reach.j0 k l f false = some r) fun k hk => ?_).map fun k hk => ?_, .inl ⟨h.1, h.2, hF⟩⟩
    · rw [graph_Reach.j0, if_neg (by simp)]; exact hk
    · unfold graph_Reach.f
      rw [if_neg (by omega), decide_eq_false (by omega)]; exact hk
  · refine ⟨[], ((Evt.all (P := fun _ => True) (fun _ => trivial)).step (Q := fun k => graph_Reach.j0 k l f true = some []) fun k _ => ?_).map fun k hk => ?_, .inr ⟨h, rfl⟩⟩
    · rw [graph_Reach.j0, if_pos rfl]
    · unfold graph_Reach.f
      by_cases h0 : f < 0
      · rw [if_pos h0]; exact hk
      · rw [if_neg h0, decide_eq_true (by omega)]; exact hk
end Go.Proofs.Ytociaidhgefpiaa.Pure
