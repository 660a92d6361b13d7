/- The pure statement of the law LookupFinds. No condition. -/
import Derived.Test.YtdgmkmjmddjcfaaKLookupFindsPStLookupFinds
import Derived.Test.YtdgmkmjmddjcfaaKLookupFindsAll
namespace Go.Proofs.Ytdgmkmjmddjcfaa.Pure
open Go.RowKit Go.Proofs.Ytdgmkmjmddjcfaa.P Go.Proofs.YtdgmkmjmddjcfaaW.PrintWords Go.Proofs.YtdgmkmjmddjcfaaW.PrintLast
set_option linter.unusedVariables false
set_option linter.unusedSimpArgs false

theorem rdOf_get (xs : List ByteArray) (i : Nat) (h : i < xs.length) : rdOf ByteArray.empty xs (i : Int) = xs[i] := by simp [rdOf, List.getD_eq_getElem?_getD, List.getElem?_eq_getElem h]
theorem finds_go {l : List S32} (F : Few l) (sc : List Int) (hs : In_ l sc) (hl : sc.length ≤ 40) (nm : ByteArray) (p q : Int) (xs : List ByteArray) (hxs : xs = allF (namesOf l sc)) (hx : xs.length ≤ 9223372036854775806) : ∀ (m i : Nat) (b : Bool), i + m = xs.length →
    Ev fun k => curtilagelaw14_LookupFinds.l0 k l sc nm true p q p q (knownB l nm sc) xs b (i : Int) = some ((b || (xs.drop i).any (fun x => x.toList == nm.toList)) == knownB l nm sc)
  | 0, i, b, hm => (known_ev F sc hs (by omega) nm).step fun k hk => by
    rw [curtilagelaw14_LookupFinds.l0, if_neg (by omega), if_pos rfl, if_pos rfl, if_pos rfl, hk, Option.bind_some, if_pos (beq_self_eq_true _), List.drop_eq_nil_of_le (by omega)]
    simp
  | m + 1, i, b, hm => by
    have hlt : i < xs.length := by omega
    have hkn : knownB l xs[i] sc = true := (known_names l sc _).2 ((allF_mem _ _).1 (by subst hxs; exact List.getElem_mem hlt))
    have hd : xs.drop i = xs[i] :: xs.drop (i + 1) := List.drop_eq_getElem_cons hlt
    refine ((known_ev F sc hs (by omega) xs[i]).and (finds_go F sc hs hl nm p q xs hxs hx m (i + 1) (b || (xs[i].toList == nm.toList)) (by omega))).step fun k ⟨hk, hr⟩ => ?_
    have hend : (if b = true then (curtilagelaw14_LookupFinds.l0 k l sc nm true p q p q (knownB l nm sc) xs true (wrap64 ((i : Int) + 1))) else (curtilagelaw14_LookupFinds.l0 k l sc nm true p q p q (knownB l nm sc) xs (xs[i].toList == nm.toList) (wrap64 ((i : Int) + 1)))) = some ((b || (xs.drop i).any (fun x => x.toList == nm.toList)) == knownB l nm sc) := by
      rw [wrap_s (by omega), hd, List.any_cons, ← Bool.or_assoc, ← hr]
      cases b
      · rw [if_neg (by simp), Bool.false_or]
      · rw [if_pos rfl, Bool.true_or]
    rw [curtilagelaw14_LookupFinds.l0, if_pos (by omega), if_pos (by omega), rdOf_get xs i hlt, hk, Option.bind_some, hkn, if_pos rfl]
    by_cases h0 : (i : Int) > 0
    · have hw : wrap64 ((i : Int) - 1) = ((i - 1 : Nat) : Int) := by unfold wrap64; omega
      have hup : Op.bytesLess (xs[i - 1]).toList (xs[i]).toList = true := by subst hxs; exact allF_up _ i (by omega) hlt
      rw [if_pos h0, hw, if_pos (by omega), if_pos (by omega), rdOf_get xs (i - 1) (by omega), if_pos hup]
      exact hend
    · rw [if_neg h0]; exact hend
theorem any_known (l : List S32) (sc : List Int) (nm : ByteArray) : (allF (namesOf l sc)).any (fun x => x.toList == nm.toList) = knownB l nm sc := by
  cases e : knownB l nm sc
  · rw [List.any_eq_false]
    intro x hx h
    have : x = nm := toList_inj (beq_iff_eq.1 h)
    subst this
    rw [(known_names l sc x).2 ((allF_mem _ _).1 hx)] at e; cases e
  · rw [List.any_eq_true]
    exact ⟨nm, (allF_mem _ _).2 ((known_names l sc nm).1 e), beq_self_eq_true _⟩
theorem tidy_len (l : List S32) (F : Few l) (sc : List Int) (hs : In_ l sc) (hl : sc.length ≤ 1000) : (allF (namesOf l sc)).length ≤ 40 * 1000 := by
  have h1 : (allF (namesOf l sc)).length ≤ (namesOf l sc).length := by
    unfold allF tidy
    rw [List.length_map]
    refine Nat.le_trans (Go.Lib.compact_length_le _) ?_
    rw [List.length_mergeSort, List.length_map]
    exact Nat.le_refl _
  have h2 : ∀ sc : List Int, In_ l sc → (namesOf l sc).length ≤ 40 * sc.length := by
    intro sc
    induction sc with
    | nil => intro _; simp [namesOf]
    | cons i is ih =>
      intro hs
      have := ih (fun j hj => hs j (List.mem_cons_of_mem _ hj))
      have hi := hs i List.mem_cons_self
      have h3 := F.syms i hi.1 hi.2
      have h4 := List.length_filter_le symShown (sy l i)
      unfold namesOf at this ⊢
      rw [List.flatMap_cons, List.length_append, List.length_map, List.length_cons]
      omega
  have := h2 sc hs
  omega
theorem finds_j {l : List S32} {sc : List Int} {a v : ByteArray} (ha : a.size ≤ 140737488351232) (b : Bool) (hb : b = false → ∃ _ : Few l, In_ l sc ∧ sc.length ≤ 40) :
    Ev fun k => curtilagelaw14_LookupFinds.j0 k l sc a v true b = some true := by
  cases b
  · obtain ⟨F, hs, hl⟩ := hb rfl
    have hlen := tidy_len l F sc hs (by omega)
    have hgo := finds_go F sc hs hl a (inF l a v sc).1 (inF l a v sc).2 (allF (namesOf l sc)) rfl (by omega) (allF (namesOf l sc)).length 0 false (by omega)
    refine ((((in_ev F a v ha sc hs).and (refIn_ev F a v sc hs (by omega))).and ((lknown_ev F sc hs a ha).and (all_ev F sc hs (by omega)))).and hgo).step fun k ⟨⟨⟨e1, e2⟩, e3, e4⟩, e5⟩ => ?_
    rw [curtilagelaw14_LookupFinds.j0, if_neg (by simp), e1, Option.bind_some, e2, Option.bind_some, e3, Option.bind_some, e4, Option.bind_some, show (0 : Int) = ((0 : Nat) : Int) from rfl, e5, List.drop_zero, Bool.false_or, any_known, beq_self_eq_true]
  · exact Ev.one fun k => by rw [curtilagelaw14_LookupFinds.j0, if_pos rfl]
theorem LookupFinds : curtilagelaw14_LookupFinds.Pure := by
  intro l sc a v hl hsc h2 h3
  obtain ⟨b, hb, hF⟩ := short_ev l
  have hr := right_ev sc l.length (by have := hsc.2.1; omega)
  by_cases h6 : b = true
  · have hj : Ev fun k => curtilagelaw14_LookupFinds.j0 k l sc a v true (!(rightB sc l.length)) = some true :=
      finds_j h2 _ fun hc => ⟨hF h6, right_of (by simpa using hc)⟩
    refine ((awake_ev.and (hb.and hr)).and hj).map (fun k ⟨⟨ha, hb, hr⟩, hj⟩ => ?_) |>.ex
    unfold curtilagelaw14_LookupFinds.f
    rw [ha, hb, hr, Option.bind_some, Option.bind_some, Option.bind_some, if_pos h6]
    exact hj
  · have hj : Ev fun k => curtilagelaw14_LookupFinds.j0 k l sc a v true true = some true := finds_j h2 true fun hc => by cases hc
    refine ((awake_ev.and (hb.and hr)).and hj).map (fun k ⟨⟨ha, hb, hr⟩, hj⟩ => ?_) |>.ex
    unfold curtilagelaw14_LookupFinds.f
    rw [ha, hb, hr, Option.bind_some, Option.bind_some, Option.bind_some, if_neg h6]
    exact hj
end Go.Proofs.Ytdgmkmjmddjcfaa.Pure
