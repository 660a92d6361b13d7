/- All names of a scope: sorted, each once. No condition. -/
import Derived.Test.YtdgmkmjmddjcfaaKLookupTwiceLook
import Derived.Test.YtdgmkmjmddjcfaaKLookupTwicePx14
import Derived.Test.YtdgmkmjmddjcfaaKLookupTwicePx16
namespace Go.Proofs.Ytdgmkmjmddjcfaa.Pure
open Go.RowKit Go.Proofs.Ytdgmkmjmddjcfaa.P Go.Proofs.YtdgmkmjmddjcfaaW.PrintWords Go.Proofs.YtdgmkmjmddjcfaaW.PrintLast
set_option linter.unusedVariables false
set_option linter.unusedSimpArgs false
abbrev Bt := List UInt8
theorem less_irrefl : ∀ x : Bt, Op.bytesLess x x = false
  | [] => rfl
  | a :: x => by simp [Op.bytesLess, less_irrefl x]
theorem less_tri : ∀ x y : Bt, Op.bytesLess x y = true ∨ x = y ∨ Op.bytesLess y x = true
  | [], [] => Or.inr (Or.inl rfl)
  | [], _ :: _ => Or.inl rfl
  | _ :: _, [] => Or.inr (Or.inr rfl)
  | a :: x, b :: y => by
    rcases less_tri x y with h | h | h
    · by_cases e : a = b
      · subst e; left; simp [Op.bytesLess, h]
      · rcases UInt8.lt_or_lt_of_ne e with h' | h'
        · left; simp [Op.bytesLess, h']
        · right; right; simp [Op.bytesLess, h']
    · subst h
      by_cases e : a = b
      · subst e; right; left; rfl
      · rcases UInt8.lt_or_lt_of_ne e with h' | h'
        · left; simp [Op.bytesLess, h']
        · right; right; simp [Op.bytesLess, h']
    · by_cases e : a = b
      · subst e; right; right; simp [Op.bytesLess, h]
      · rcases UInt8.lt_or_lt_of_ne e with h' | h'
        · left; simp [Op.bytesLess, h']
        · right; right; simp [Op.bytesLess, h']
theorem less_trans : ∀ x y z : Bt, Op.bytesLess x y = true → Op.bytesLess y z = true → Op.bytesLess x z = true
  | _, [], _, h, _ => by simp [Op.bytesLess] at h
  | _, _ :: _, [], _, h => by simp [Op.bytesLess] at h
  | [], _ :: _, _ :: _, _, _ => rfl
  | a :: x, b :: y, c :: z, h1, h2 => by
    simp only [Op.bytesLess, Bool.or_eq_true, Bool.and_eq_true, decide_eq_true_eq, beq_iff_eq] at h1 h2 ⊢
    rcases h1 with h1 | ⟨rfl, h1⟩
    · rcases h2 with h2 | ⟨rfl, h2⟩
      · left; exact UInt8.lt_trans h1 h2
      · left; exact h1
    · rcases h2 with h2 | ⟨rfl, h2⟩
      · left; exact h2
      · right; exact ⟨rfl, less_trans x y z h1 h2⟩
theorem less_asymm {x y : Bt} (h : Op.bytesLess x y = true) : Op.bytesLess y x = false := by
  cases e : Op.bytesLess y x
  · rfl
  · have := less_trans x y x h e; rw [less_irrefl] at this; cases this
theorem less_is : ∀ x y : Bt, Op.bytesLess x y = decide (x < y)
  | x, [] => by simp [Op.bytesLess]
  | [], _ :: _ => by simp [Op.bytesLess]
  | a :: x, b :: y => by
    rw [Op.bytesLess, less_is x y]
    by_cases e : a < b
    · simp [e, List.cons_lt_cons_iff]
    · by_cases e2 : a = b
      · subst e2; simp [List.cons_lt_cons_iff]
      · simp [e, e2, List.cons_lt_cons_iff]
theorem le_is (x y : Bt) : decide (x ≤ y) = !(Op.bytesLess y x) := by
  rw [less_is]
  by_cases h : y < x
  · rw [decide_eq_true h, decide_eq_false (fun h2 => h2 h)]; rfl
  · rw [decide_eq_false h, show decide (x ≤ y) = true from decide_eq_true (show ¬ y < x from h)]; rfl
def upS (zs : List Bt) : Prop := zs.Pairwise (fun a b => Op.bytesLess a b = true)
theorem up_unique : ∀ {a b : List Bt}, upS a → upS b → (∀ x, x ∈ a ↔ x ∈ b) → a = b
  | [], [], _, _, _ => rfl
  | [], y :: b, _, _, h => by have := (h y).2 List.mem_cons_self; cases this
  | x :: a, [], _, _, h => by have := (h x).1 List.mem_cons_self; cases this
  | x :: a, y :: b, ha, hb, h => by
    obtain ⟨ha1, ha2⟩ := List.pairwise_cons.1 ha
    obtain ⟨hb1, hb2⟩ := List.pairwise_cons.1 hb
    have e : x = y := by
      rcases List.mem_cons.1 ((h x).1 List.mem_cons_self) with e | e
      · exact e
      · rcases List.mem_cons.1 ((h y).2 List.mem_cons_self) with e' | e'
        · exact e'.symm
        · have h1 := less_asymm (hb1 x e); rw [ha1 y e'] at h1; cases h1
    subst e
    rw [up_unique ha2 hb2 fun z => ?_]
    constructor
    · intro hz
      rcases List.mem_cons.1 ((h z).1 (List.mem_cons_of_mem _ hz)) with e | e
      · subst e; have := ha1 z hz; rw [less_irrefl] at this; cases this
      · exact e
    · intro hz
      rcases List.mem_cons.1 ((h z).2 (List.mem_cons_of_mem _ hz)) with e | e
      · subst e; have := hb1 z hz; rw [less_irrefl] at this; cases this
      · exact e
theorem cmp_spec (zs : List Bt) (hs : zs.Pairwise (fun a b => Op.bytesLess b a = false)) : ∀ m, m ≤ zs.length →
    upS (Go.Lib.compactUpTo zs.toArray m) ∧ (∀ x, x ∈ Go.Lib.compactUpTo zs.toArray m ↔ ∃ j, j < m ∧ zs.toArray[j]! = x) ∧ (∀ x ∈ Go.Lib.compactUpTo zs.toArray m, Op.bytesLess (zs.toArray[m - 1]!) x = false)
  | 0, _ => by
    refine ⟨List.Pairwise.nil, fun x => ?_, fun x hx => ?_⟩
    · constructor
      · intro h; cases h
      · rintro ⟨j, h, _⟩; omega
    · cases hx
  | m + 1, hm => by
    obtain ⟨h1, h2, h3⟩ := cmp_spec zs hs m (by omega)
    have get : ∀ j, j < zs.length → zs.toArray[j]! = zs.getD j [] := fun j hj => by simp [hj]
    have ord : ∀ i j, i < j → j < zs.length → Op.bytesLess (zs.toArray[j]!) (zs.toArray[i]!) = false := fun i j hij hj => by
      have := List.pairwise_iff_getElem.1 hs i j (by omega) hj hij
      simpa [hj, show i < zs.length by omega] using this
    rw [Go.Lib.compactUpTo_succ]
    by_cases hk : Go.Lib.keeps zs.toArray m = true
    · rw [if_pos hk]
      have hgt : ∀ x ∈ Go.Lib.compactUpTo zs.toArray m, Op.bytesLess x (zs.toArray[m]!) = true := by
        intro x hx
        obtain ⟨j, hj, rfl⟩ := (h2 x).1 hx
        have hm0 : m ≠ 0 := by omega
        have hne : zs.toArray[m]! ≠ zs.toArray[m - 1]! := by
          have := of_decide_eq_true hk
          rcases this with e | e
          · exact absurd e hm0
          · exact e
        have hlt : Op.bytesLess (zs.toArray[m - 1]!) (zs.toArray[m]!) = true := by
          rcases less_tri (zs.toArray[m - 1]!) (zs.toArray[m]!) with h | h | h
          · exact h
          · exact absurd h.symm hne
          · have := ord (m - 1) m (by omega) (by omega); rw [h] at this; cases this
        rcases less_tri (zs.toArray[j]!) (zs.toArray[m - 1]!) with h | h | h
        · exact less_trans _ _ _ h hlt
        · rw [h]; exact hlt
        · have := h3 _ hx; rw [h] at this; cases this
      refine ⟨?_, fun x => ?_, fun x hx => ?_⟩
      · refine List.pairwise_append.2 ⟨h1, List.pairwise_singleton _ _, fun a ha b hb => ?_⟩
        rw [List.mem_singleton.1 hb]; exact hgt a ha
      · rw [List.mem_append, h2, List.mem_singleton]
        constructor
        · rintro (⟨j, hj, rfl⟩ | rfl)
          · exact ⟨j, by omega, rfl⟩
          · exact ⟨m, by omega, rfl⟩
        · rintro ⟨j, hj, rfl⟩
          by_cases e : j = m
          · subst e; exact Or.inr rfl
          · exact Or.inl ⟨j, by omega, rfl⟩
      · rw [Nat.add_sub_cancel]
        rcases List.mem_append.1 hx with e | e
        · exact less_asymm (hgt x e)
        · rw [List.mem_singleton.1 e]; exact less_irrefl _
    · have hk' := Bool.eq_false_iff.2 hk
      rw [if_neg hk, List.append_nil]
      have hm0 : m ≠ 0 := fun e => by subst e; exact hk (by simp [Go.Lib.keeps])
      have heq : zs.toArray[m]! = zs.toArray[m - 1]! := by
        have := of_decide_eq_false hk'
        exact Classical.byContradiction fun h => this (Or.inr h)
      refine ⟨h1, fun x => ?_, fun x hx => ?_⟩
      · rw [h2]
        constructor
        · rintro ⟨j, hj, rfl⟩; exact ⟨j, by omega, rfl⟩
        · rintro ⟨j, hj, rfl⟩
          by_cases e : j = m
          · subst e; exact ⟨j - 1, by omega, heq.symm⟩
          · exact ⟨j, by omega, rfl⟩
      · rw [Nat.add_sub_cancel, heq]; exact h3 x hx
theorem sort_up (zs : List Bt) : (zs.mergeSort fun x y => decide (x ≤ y)).Pairwise (fun a b => Op.bytesLess b a = false) := by
  have h := List.pairwise_mergeSort (le := fun x y : Bt => decide (x ≤ y)) (fun a b c h1 h2 => by
    rw [le_is] at *
    have e1 : Op.bytesLess b a = false := by simpa using h1
    have e2 : Op.bytesLess c b = false := by simpa using h2
    cases e : Op.bytesLess c a
    · rfl
    · rcases less_tri b c with h | h | h
      · have := less_trans _ _ _ h e; rw [e1] at this; cases this
      · subst h; rw [e1] at e; cases e
      · rw [e2] at h; cases h) (fun a b => by
    rw [le_is, le_is]
    rcases less_tri a b with h | h | h
    · rw [less_asymm h]; rfl
    · subst h; rw [less_irrefl]; rfl
    · rw [less_asymm h]; simp) zs
  exact h.imp fun {a b} h => by rw [le_is] at h; simpa using h
theorem arr_get (zs : List Bt) (j : Nat) (hj : j < zs.length) : zs.toArray[j]! = zs[j] := by
  rw [getElem!_pos zs.toArray j (by simpa using hj)]
  simp
def tidy (zs : List Bt) : List Bt := Go.Lib.compact (zs.mergeSort fun x y => decide (x ≤ y))
theorem tidy_up (zs : List Bt) : upS (tidy zs) := (cmp_spec _ (sort_up zs) _ (Nat.le_refl _)).1
theorem tidy_mem (zs : List Bt) (x : Bt) : x ∈ tidy zs ↔ x ∈ zs := by
  unfold tidy Go.Lib.compact
  rw [(cmp_spec _ (sort_up zs) _ (Nat.le_refl _)).2.1]
  constructor
  · rintro ⟨j, hj, rfl⟩
    have : (zs.mergeSort fun x y => decide (x ≤ y))[j] ∈ zs := (List.mergeSort_perm zs _).mem_iff.1 (List.getElem_mem hj)
    rw [arr_get _ j hj]; exact this
  · intro h
    obtain ⟨j, hj, e⟩ := List.getElem_of_mem ((List.mergeSort_perm zs (fun x y => decide (x ≤ y))).mem_iff.2 h)
    exact ⟨j, hj, by rw [arr_get _ j hj]; exact e⟩
theorem tidy_eq (zs ys : List Bt) (h : ∀ x, x ∈ zs ↔ x ∈ ys) : tidy zs = tidy ys := up_unique (tidy_up _) (tidy_up _) fun x => by rw [tidy_mem, tidy_mem, h]
def namesOf (l : List S32) (sc : List Int) : List ByteArray := sc.flatMap fun i => ((sy l i).filter symShown).map (·.f0)
def allF (xs : List ByteArray) : List ByteArray := (tidy (xs.map bsOf)).map ofBs
theorem compact_sorted (xs : List ByteArray) : compactS (sortedS xs) = allF xs := by
  unfold compactS sortedS allF tidy
  rw [List.map_map, show (bsOf ∘ ofBs) = id from funext fun _ => rfl, List.map_id]
theorem all_in (l : List S32) (sc : List Int) (n : Int) (i : Nat) (ss : List S42) (hss : ss.length ≤ 40) (hi : i ≤ 1000) (R : List ByteArray → List ByteArray)
    (hnext : ∀ out : List ByteArray, out.length ≤ 40 * (i + 1) → Ev fun k => lookup_All.l0 k l out sc n ((i + 1 : Nat) : Int) = some (R out)) : ∀ (m j : Nat) (out : List ByteArray), j + m = ss.length → out.length ≤ 40 * i + j →
    Ev fun k => lookup_All.l1 k l out sc n (i : Int) ss (ss.length : Int) (j : Int) = some (R (out ++ ((ss.drop j).filter symShown).map (·.f0)))
  | 0, j, out, hm, ho => (hnext out (by omega)).step fun k hk => by
    rw [lookup_All.l1, if_neg (by omega), wrap_s (by omega), hk, List.drop_eq_nil_of_le (by omega)]
    simp
  | m + 1, j, out, hm, ho => by
    have hlt : j < ss.length := by omega
    have e : rd_T42 ss (j : Int) = ss[j] := by unfold rd_T42; rw [Int.toNat_natCast, List.getD_eq_getElem?_getD, List.getElem?_eq_getElem hlt]; rfl
    have hd : ss.drop j = ss[j] :: ss.drop (j + 1) := List.drop_eq_getElem_cons hlt
    by_cases h1 : symShown ss[j] = true
    · refine (all_in l sc n i ss hss hi R hnext m (j + 1) (out ++ [(ss[j]).f0]) (by omega) (by simp; omega)).step fun k hk => ?_
      rw [lookup_All.l1, if_pos (by omega), if_pos (by omega), if_pos (by omega), e, shown_is', Option.bind_some, if_pos h1, if_pos (by omega), wrap_s (by omega), hk, hd, List.filter_cons_of_pos h1]
      simp
    · refine (all_in l sc n i ss hss hi R hnext m (j + 1) out (by omega) (by omega)).step fun k hk => ?_
      rw [lookup_All.l1, if_pos (by omega), if_pos (by omega), if_pos (by omega), e, shown_is', Option.bind_some, if_neg h1, wrap_s (by omega), hk, hd, List.filter_cons_of_neg h1]
theorem all_go {l : List S32} (h : Few l) (sc : List Int) (hs : In_ l sc) (hl : sc.length ≤ 1000) : ∀ (m i : Nat) (out : List ByteArray), i + m = sc.length → out.length ≤ 40 * i →
    Ev fun k => lookup_All.l0 k l out sc (sc.length : Int) (i : Int) = some (allF (out ++ namesOf l (sc.drop i)))
  | 0, i, out, hm, ho => Ev.one fun k => by
    rw [lookup_All.l0, if_neg (by omega), List.drop_eq_nil_of_le (by omega)]
    unfold slices_Sort_string_string.f slices_Compact_string_string.f
    rw [if_pos (by omega), Option.bind_some, Option.bind_some, compact_sorted]
    simp [namesOf]
  | m + 1, i, out, hm, ho => by
    have hlt : i < sc.length := by omega
    have hi := hs _ (List.getElem_mem hlt)
    refine (all_in l sc sc.length i (sy l sc[i]) (h.syms _ hi.1 hi.2) (by omega) (fun out => allF (out ++ namesOf l (sc.drop (i + 1)))) (fun out ho => all_go h sc hs hl m (i + 1) out (by omega) ho) (sy l sc[i]).length 0 out (by omega) (by omega)).step fun k hk => ?_
    rw [lookup_All.l0, if_pos (by omega), if_pos (by omega), if_pos (by omega), rd_get _ _ hlt, if_pos hi.1, if_pos hi.2, show (rd_T32 l sc[i]).f3 = sy l sc[i] from rfl, show (0 : Int) = ((0 : Nat) : Int) from rfl, hk]
    have hd : sc.drop i = sc[i] :: sc.drop (i + 1) := List.drop_eq_getElem_cons hlt
    rw [hd, List.drop_zero, List.append_assoc]
    rfl
theorem all_ev {l : List S32} (h : Few l) (sc : List Int) (hs : In_ l sc) (hl : sc.length ≤ 1000) : Ev fun k => lookup_All.f k l sc = some (allF (namesOf l sc)) :=
  (all_go h sc hs hl sc.length 0 [] (by omega) (by simp)).map fun k hk => by unfold lookup_All.f; exact hk
theorem names_append (l : List S32) (a b : List Int) : namesOf l (a ++ b) = namesOf l a ++ namesOf l b := List.flatMap_append
theorem texts_go (xs : List ByteArray) (hl : xs.length ≤ 9223372036854775806) : ∀ (m i : Nat), i + m = xs.length → Ev fun k => curtilageref10_Texts.l0 k xs xs (i : Int) = some true
  | 0, i, hm => Ev.one fun k => by rw [curtilageref10_Texts.l0, if_neg (by omega)]
  | m + 1, i, hm => (texts_go xs hl m (i + 1) (by omega)).step fun k hk => by
    rw [curtilageref10_Texts.l0, if_pos (by omega), if_pos (by omega), if_pos (by omega), if_pos rfl, wrap_s (by omega)]; exact hk
theorem texts_ev (xs : List ByteArray) (hl : xs.length ≤ 9223372036854775806) : Ev fun k => curtilageref10_Texts.f k xs xs = some true :=
  (texts_go xs hl xs.length 0 (by omega)).map fun k hk => by unfold curtilageref10_Texts.f; rw [if_pos rfl]; exact hk
end Go.Proofs.Ytdgmkmjmddjcfaa.Pure
