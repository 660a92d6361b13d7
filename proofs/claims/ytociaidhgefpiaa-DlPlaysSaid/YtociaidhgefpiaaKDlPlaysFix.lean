/- The document's list of all that one needs: by going on until nothing comes. No condition. -/
import Derived.Test.YtociaidhgefpiaaKDlPlaysFar
namespace Go.Proofs.Ytociaidhgefpiaa.Pure
open Go.RowKit Go.Proofs.Ytociaidhgefpiaa.P Go.Proofs.YtociaidhgefpiaaW.PrintWords Go.Proofs.YtociaidhgefpiaaW.PrintLast
set_option linter.unusedVariables false
set_option linter.unusedSimpArgs false

theorem needs_go (l : List S38) (x j : Int) (h0 : 0 ≤ x) (hx : x < l.length) (hl : l.length < 4294967296) (hn : ∀ x, (nd_ l x).length ≤ 4294967296) : ∀ (d i : Nat), i + d = (nd_ l x).length → (∀ q (hq : q < (nd_ l x).length), q < i → firstAt (isNm (nd_ l x)[q]) l ≠ j) →
    Evt fun k => curtilageref13_Needs.l0 k l x j i = some (hasI (sc l x) j) := by
  intro d
  induction d with
  | zero =>
    intro i hi hb
    refine (Evt.all (P := fun _ => True) (fun _ => trivial)).step fun k _ => ?_
    unfold nd_ at hi hb
    rw [curtilageref13_Needs.l0, if_pos h0, if_pos hx, if_neg (by omega)]
    congr 1; symm
    rw [hasI_no]
    intro hm
    obtain ⟨n, hn', e⟩ := List.mem_map.1 hm
    obtain ⟨q, hq, rfl⟩ := List.getElem_of_mem hn'
    exact hb q hq (by omega) e
  | succ d ih =>
    intro i hi hb
    have hlt : i < (nd_ l x).length := by omega
    have hnl := hn x
    have ey : rdOf ByteArray.empty ((rd_T38 l x).f1) (i : Int) = (nd_ l x)[i] := by simp [nd_, rdOf, List.getD_eq_getElem?_getD, List.getElem?_eq_getElem (show i < (rd_T38 l x).f1.length from hlt)]
    have F := rfind_ev l (nd_ l x)[i] (by omega)
    by_cases h : firstAt (isNm (nd_ l x)[i]) l = j
    · refine F.step fun k hk => ?_
      rw [curtilageref13_Needs.l0, if_pos h0, if_pos hx, if_pos (by unfold nd_ at hlt; omega), if_pos (by omega), ey, hk]
      simp only [Option.bind_some]
      rw [if_pos h]
      congr 1; symm
      rw [hasI_iff]
      exact List.mem_map.2 ⟨_, List.getElem_mem hlt, h⟩
    · refine (F.and (ih (i + 1) (by omega) (fun q hq hqi => ?_))).step fun k hk => ?_
      · by_cases e : q = i
        · subst e; exact h
        · exact hb q hq (by omega)
      · rw [curtilageref13_Needs.l0, if_pos h0, if_pos hx, if_pos (by unfold nd_ at hlt; omega), if_pos (by omega), ey, hk.1]
        simp only [Option.bind_some]
        rw [if_neg h, wrap_up (by omega) (by omega)]
        exact hk.2
theorem needs_ev (l : List S38) (x j : Int) (h0 : 0 ≤ x) (hx : x < l.length) (hl : l.length < 4294967296) (hn : ∀ x, (nd_ l x).length ≤ 4294967296) : Evt fun k => curtilageref13_Needs.f k l x j = some (hasI (sc l x) j) :=
  (needs_go l x j h0 hx hl hn (nd_ l x).length 0 (by omega) (fun q _ h => by omega)).map fun k hk => hk

def cnt (bs : List Bool) : Nat := bs.countP id
theorem cnt_le {a b : List Bool} (hl : a.length = b.length) (h : ∀ i : Nat, a.getD i false = true → b.getD i false = true) : cnt a ≤ cnt b := by
  induction a generalizing b with
  | nil => simp [cnt]
  | cons x a ih =>
    cases b with
    | nil => simp at hl
    | cons y b =>
      have h1 := ih (b := b) (by simpa using hl) (fun i hi => by have := h (i + 1); simpa using this (by simpa using hi))
      have h2 := h 0
      unfold cnt at *
      cases x <;> cases y <;> simp_all <;> omega
theorem cnt_lt {a b : List Bool} (hl : a.length = b.length) (h : ∀ i : Nat, a.getD i false = true → b.getD i false = true) (j : Nat) (h0 : a.getD j false = false) (h1 : b.getD j false = true) : cnt a < cnt b := by
  induction a generalizing b j with
  | nil =>
    cases b with
    | nil => simp at h1
    | cons y b => simp at hl
  | cons x a ih =>
    cases b with
    | nil => simp at hl
    | cons y b =>
      have hl' : a.length = b.length := by simpa using hl
      have hs : ∀ i : Nat, a.getD i false = true → b.getD i false = true := fun i hi => by have := h (i + 1); simpa using this (by simpa using hi)
      cases j with
      | zero =>
        have := cnt_le hl' hs
        unfold cnt at *
        simp at h0 h1; subst h0 h1; simp; omega
      | succ j =>
        have := ih hl' hs j (by simpa using h0) (by simpa using h1)
        have h2 := h 0
        unfold cnt at *
        cases x <;> cases y <;> simp_all <;> omega
theorem cnt_len (a : List Bool) : cnt a ≤ a.length := List.countP_le_length
/-- One round more: nothing is lost, nothing comes that isn't reached, and all comes that one that was there needs. -/
structure Pass (l : List S38) (f : Int) (bs bs' : List Bool) : Prop where
  len : bs'.length = bs.length
  keep : ∀ i : Nat, bs.getD i false = true → bs'.getD i false = true
  sound : (∀ i : Nat, bs.getD i false = true → Rch (sc l) f i) → ∀ i : Nat, bs'.getD i false = true → Rch (sc l) f i
theorem Pass.refl (l : List S38) (f : Int) (bs : List Bool) : Pass l f bs bs := ⟨rfl, fun _ h => h, fun h => h⟩
theorem Pass.trans {l : List S38} {f : Int} {a b c : List Bool} (h : Pass l f a b) (k : Pass l f b c) : Pass l f a c := ⟨k.len.trans h.len, fun i hi => k.keep i (h.keep i hi), fun hs => k.sound (h.sound hs)⟩
theorem getD_set (bs : List Bool) (i j : Nat) (hi : i < bs.length) : (bs.set i true).getD j false = (decide (i = j) || bs.getD j false) := by
  simp only [List.getD_eq_getElem?_getD, List.getElem?_set]
  by_cases h : i = j
  · subst h; simp [hi]
  · simp [h]
theorem l2_pass (l : List S38) (f : Int) (hl : l.length < 4294967296) (hn : ∀ x, (nd_ l x).length ≤ 4294967296) (x6 : Int) (i : Nat) (hi : i < l.length) : ∀ (d j : Nat) (bs : List Bool), j + d = l.length → bs.length = l.length →
    ∃ bs', Pass l f bs bs' ∧ (bs.getD i false = true → ∀ q : Nat, j ≤ q → q < l.length → (q : Int) ∈ sc l i → bs'.getD q false = true) ∧ ∀ r, (Evt fun k => curtilageref13_Reach.l1 k l bs' x6 ((i : Int) + 1) = some r) → Evt fun k => curtilageref13_Reach.l2 k l bs x6 i j = some r := by
  intro d
  induction d with
  | zero =>
    intro j bs hj hb
    refine ⟨bs, Pass.refl l f bs, fun _ q h1 h2 => by omega, fun r hE => hE.step fun k hk => ?_⟩
    rw [curtilageref13_Reach.l2, if_neg (by omega), wrap_up (by omega) (by omega)]
    exact hk
  | succ d ih =>
    intro j bs hj hb
    have hjl : j < l.length := by omega
    have erd : rdOf false bs (i : Int) = bs.getD i false := by simp [rdOf]
    by_cases h1 : bs.getD i false = true
    · by_cases h2 : hasI (sc l i) j = true
      · have hsj := hasI_iff.1 h2
        obtain ⟨bs', P, S, E⟩ := ih (j + 1) (bs.set j true) (by omega) (by simp [hb])
        refine ⟨bs', Pass.trans ⟨by simp, fun q hq => by rw [getD_set bs j q (by omega), hq]; simp, fun hs q hq => ?_⟩ P, fun _ q hq1 hq2 hq => ?_, fun r hE => ?_⟩
        · rw [getD_set bs j q (by omega)] at hq
          simp only [Bool.or_eq_true, decide_eq_true_eq] at hq
          rcases hq with e | hq
          · subst e; exact Rch.step (hs i h1) hsj (by omega)
          · exact hs q hq
        · by_cases e : q = j
          · subst e; exact P.keep q (by rw [getD_set bs q q (by omega)]; simp)
          · exact S (by rw [getD_set bs j i (by omega), h1]; simp) q (by omega) hq2 hq
        · refine ((needs_ev l i j (by omega) (by omega) hl hn).and (E r hE)).step fun k hk => ?_
          rw [curtilageref13_Reach.l2, if_pos (by omega), if_pos (by omega), if_pos (by omega), erd, if_pos h1, hk.1]
          simp only [Option.bind_some]
          rw [if_pos h2, if_pos (by omega), if_pos (by omega), wrap_up (by omega) (by omega)]
          exact hk.2
      · obtain ⟨bs', P, S, E⟩ := ih (j + 1) bs (by omega) hb
        refine ⟨bs', P, fun h q hq1 hq2 hq => ?_, fun r hE => ((needs_ev l i j (by omega) (by omega) hl hn).and (E r hE)).step fun k hk => ?_⟩
        · by_cases e : q = j
          · subst e; exact absurd (hasI_iff.2 hq) h2
          · exact S h q (by omega) hq2 hq
        · rw [curtilageref13_Reach.l2, if_pos (by omega), if_pos (by omega), if_pos (by omega), erd, if_pos h1, hk.1]
          simp only [Option.bind_some]
          rw [if_neg h2, wrap_up (by omega) (by omega)]
          exact hk.2
    · obtain ⟨bs', P, S, E⟩ := ih (j + 1) bs (by omega) hb
      refine ⟨bs', P, fun h => absurd h h1, fun r hE => (E r hE).step fun k hk => ?_⟩
      rw [curtilageref13_Reach.l2, if_pos (by omega), if_pos (by omega), if_pos (by omega), erd, if_neg h1, wrap_up (by omega) (by omega)]
      exact hk
theorem l1_pass (l : List S38) (f : Int) (hl : l.length < 4294967296) (hn : ∀ x, (nd_ l x).length ≤ 4294967296) (x6 : Nat) (hx6 : x6 < l.length) : ∀ (d i : Nat) (bs : List Bool), i + d = l.length → bs.length = l.length →
    ∃ bs', Pass l f bs bs' ∧ (∀ p : Nat, i ≤ p → p < l.length → bs.getD p false = true → ∀ q : Nat, q < l.length → (q : Int) ∈ sc l p → bs'.getD q false = true) ∧ ∀ r, (Evt fun k => curtilageref13_Reach.l0 k l bs' ((x6 : Int) + 1) = some r) → Evt fun k => curtilageref13_Reach.l1 k l bs x6 i = some r := by
  intro d
  induction d with
  | zero =>
    intro i bs hi hb
    refine ⟨bs, Pass.refl l f bs, fun p h1 h2 => by omega, fun r hE => hE.step fun k hk => ?_⟩
    rw [curtilageref13_Reach.l1, if_neg (by omega), wrap_up (by omega) (by omega)]
    exact hk
  | succ d ih =>
    intro i bs hi hb
    obtain ⟨b1, P1, S1, E1⟩ := l2_pass l f hl hn x6 i (by omega) l.length 0 bs (by omega) hb
    obtain ⟨b2, P2, S2, E2⟩ := ih (i + 1) b1 (by omega) (by rw [P1.len, hb])
    refine ⟨b2, P1.trans P2, fun p hp1 hp2 hp q hq hs => ?_, fun r hE => (E1 r ?_).step fun k hk => ?_⟩
    · by_cases e : p = i
      · subst e; exact P2.keep q (S1 hp q (by omega) hq hs)
      · exact S2 p (by omega) hp2 (P1.keep p hp) q hq hs
    · have := E2 r hE
      rw [show ((i : Int) + 1) = ((i + 1 : Nat) : Int) by omega]; exact this
    · rw [curtilageref13_Reach.l1, if_pos (by omega)]; exact hk
theorem l3_go (l : List S38) (bs : List Bool) (hb : bs.length = l.length) (hl : l.length < 4294967296) : ∀ (d i : Nat) (out : List Int), i + d = l.length → out.length ≤ i → ∃ u, (∀ x ∈ u, (i : Int) ≤ x) ∧ Rising u ∧ (∀ x : Int, x ∈ u ↔ ((i : Int) ≤ x ∧ x < l.length ∧ bs.getD x.toNat false = true)) ∧ Evt fun k => curtilageref13_Reach.l3 k l bs out i = some (out ++ u) := by
  intro d
  induction d with
  | zero =>
    intro i out hi ho
    refine ⟨[], by simp, by simp [Rising], fun x => by simp; omega, ?_⟩
    refine (Evt.all (P := fun _ => True) (fun _ => trivial)).step fun k _ => ?_
    rw [curtilageref13_Reach.l3, if_neg (by omega), List.append_nil]
  | succ d ih =>
    intro i out hi ho
    have erd : rdOf false bs (i : Int) = bs.getD i false := by simp [rdOf]
    by_cases h : bs.getD i false = true
    · obtain ⟨u, h1, h2, h3, h4⟩ := ih (i + 1) (out ++ [(i : Int)]) (by omega) (by simp; omega)
      refine ⟨(i : Int) :: u, fun x hx => ?_, List.pairwise_cons.2 ⟨fun x hx => by have := h1 x hx; omega, h2⟩, fun x => ?_, h4.step fun k hk => ?_⟩
      · rcases List.mem_cons.1 hx with e | hx
        · omega
        · have := h1 x hx; omega
      · rw [List.mem_cons, h3]
        constructor
        · rintro (e | ⟨a, b, c⟩)
          · subst e; exact ⟨Int.le_refl _, by omega, by simpa using h⟩
          · exact ⟨by omega, b, c⟩
        · rintro ⟨a, b, c⟩
          by_cases e : x = i
          · exact .inl e
          · exact .inr ⟨by omega, b, c⟩
      · rw [curtilageref13_Reach.l3, if_pos (by omega), if_pos (by omega), if_pos (by omega), erd, if_pos h, if_pos (by omega), wrap_up (by omega) (by omega)]
        rw [List.append_assoc] at hk
        exact hk
    · obtain ⟨u, h1, h2, h3, h4⟩ := ih (i + 1) out (by omega) (by omega)
      refine ⟨u, fun x hx => by have := h1 x hx; omega, h2, fun x => ?_, h4.step fun k hk => ?_⟩
      · rw [h3]
        constructor
        · rintro ⟨a, b, c⟩; exact ⟨by omega, b, c⟩
        · rintro ⟨a, b, c⟩
          by_cases e : x = i
          · subst e; exact absurd (by simpa using c) h
          · exact ⟨by omega, b, c⟩
      · rw [curtilageref13_Reach.l3, if_pos (by omega), if_pos (by omega), if_pos (by omega), erd, if_neg h, wrap_up (by omega) (by omega)]
        exact hk
theorem l0_go (l : List S38) (f : Int) (h0 : 0 ≤ f) (hf : f < l.length) (hl : l.length < 4294967296) (hn : ∀ x, (nd_ l x).length ≤ 4294967296) : ∀ (d c : Nat) (bs : List Bool), c + d = l.length → bs.length = l.length → (∀ i : Nat, bs.getD i false = true → Rch (sc l) f i) → bs.getD f.toNat false = true →
    ((∀ x : Int, Rch (sc l) f x → bs.getD x.toNat false = true) ∨ c + 1 ≤ cnt bs) → ∃ r, Far l f r ∧ Evt fun k => curtilageref13_Reach.l0 k l bs c = some r := by
  intro d
  induction d with
  | zero =>
    intro c bs hc hb hs hm hcase
    have hall : ∀ x : Int, Rch (sc l) f x → bs.getD x.toNat false = true := by
      rcases hcase with h | h
      · exact h
      · have := cnt_len bs; omega
    obtain ⟨u, h1, h2, h3, h4⟩ := l3_go l bs hb hl l.length 0 [] (by omega) (by simp)
    refine ⟨u, ⟨h2, fun x => ?_⟩, h4.step fun k hk => ?_⟩
    · rw [h3]
      constructor
      · rintro ⟨a, b, c⟩
        have := hs x.toNat c
        rwa [Int.toNat_of_nonneg (by omega)] at this
      · intro hx
        have := rch_range h0 hf hx
        exact ⟨by omega, this.2, hall x hx⟩
    · rw [curtilageref13_Reach.l0, if_neg (by omega)]
      simpa using hk
  | succ d ih =>
    intro c bs hc hb hs hm hcase
    obtain ⟨b1, P, S, E⟩ := l1_pass l f hl hn c (by omega) l.length 0 bs (by omega) hb
    obtain ⟨r, hF, hE⟩ := ih (c + 1) b1 (by omega) (by rw [P.len, hb]) (P.sound hs) (P.keep _ hm) (by
      rcases hcase with h | h
      · exact .inl (fun x hx => P.keep _ (h x hx))
      · by_cases hall : ∀ x : Int, Rch (sc l) f x → b1.getD x.toNat false = true
        · exact .inl hall
        · right
          -- one that is there needs one that isn't
          by_cases hc1 : ∀ x : Int, Rch (sc l) f x → bs.getD x.toNat false = true
          · exact absurd (fun x hx => P.keep _ (hc1 x hx)) hall
          · have : ∃ y : Int, 0 ≤ y ∧ y < l.length ∧ bs.getD y.toNat false = false ∧ b1.getD y.toNat false = true := by
              apply Classical.byContradiction
              intro hno
              apply hc1
              intro x hx
              induction hx with
              | refl => exact hm
              | step hy hz hz0 ihx =>
                rename_i y z
                have hyr := rch_range h0 hf hy
                have hzr := rch_range h0 hf (Rch.step hy hz hz0)
                have h1 := S y.toNat (by omega) (by omega) ihx z.toNat (by omega) (by rw [Int.toNat_of_nonneg hz0, Int.toNat_of_nonneg hyr.1]; exact hz)
                apply Classical.byContradiction
                intro hz'
                exact hno ⟨z, hz0, hzr.2, eq_false_of_ne_true hz', h1⟩
            obtain ⟨y, hy0, hy1, hyf, hyt⟩ := this
            have := cnt_lt P.len.symm P.keep y.toNat hyf hyt
            omega)
    refine ⟨r, hF, (E r ?_).step fun k hk => ?_⟩
    · rw [show ((c : Int) + 1) = ((c + 1 : Nat) : Int) by omega]; exact hE
    · rw [curtilageref13_Reach.l0, if_pos (by omega)]; exact hk
theorem rreach_ev (l : List S38) (f : Int) (hl : l.length < 4294967296) (hn : ∀ x, (nd_ l x).length ≤ 4294967296) :
    ∃ r, (Evt fun k => curtilageref13_Reach.f k l f = some r) ∧ ((0 ≤ f ∧ f < l.length ∧ Far l f r) ∨ (¬ (0 ≤ f ∧ f < l.length) ∧ r = [])) := by
  by_cases h : 0 ≤ f ∧ f < l.length
  · obtain ⟨r, hF, hE⟩ := l0_go l f h.1 h.2 hl hn l.length 0 ((List.replicate l.length false).set f.toNat true) (by omega) (by simp) (fun i hi => by
      rw [getD_set _ _ _ (by simp; omega)] at hi
      simp only [Bool.or_eq_true, decide_eq_true_eq] at hi
      rcases hi with e | hi
      · have : (i : Int) = f := by omega
        rw [this]; exact Rch.refl f
      · simp [List.getD_eq_getElem?_getD, List.getElem?_replicate] at hi
        split at hi <;> simp at hi) (by rw [getD_set _ _ _ (by simp; omega)]; simp) (.inr (by
        have h1 := cnt_lt (a := List.replicate l.length false) (b := (List.replicate l.length false).set f.toNat true) (by simp) (fun i hi => by rw [getD_set _ _ _ (by simp; omega), hi]; simp) f.toNat (by
          simp [List.getD_eq_getElem?_getD, List.getElem?_replicate]
          split <;> simp) (by rw [getD_set _ _ _ (by simp; omega)]; simp)
        omega))
    refine ⟨r, (hE.step (Q := fun k => curtilageref13_Reach.j0 k l f false = some r) fun k hk => ?_).map fun k hk => ?_, .inl ⟨h.1, h.2, hF⟩⟩
    · rw [curtilageref13_Reach.j0, if_neg (by simp), if_pos (by omega), if_pos (by simp; omega)]
      simp only [Option.bind_some]
      rw [if_pos h.1, if_pos (by simp; exact h.2)]
      simpa using hk
    · unfold curtilageref13_Reach.f
      rw [if_neg (by omega), decide_eq_false (by omega)]; exact hk
  · refine ⟨[], ((Evt.all (P := fun _ => True) (fun _ => trivial)).step (Q := fun k => curtilageref13_Reach.j0 k l f true = some []) fun k _ => ?_).map fun k hk => ?_, .inr ⟨h, rfl⟩⟩
    · rw [curtilageref13_Reach.j0, if_pos rfl]
    · unfold curtilageref13_Reach.f
      by_cases h0 : f < 0
      · rw [if_pos h0]; exact hk
      · rw [if_neg h0, decide_eq_true (by omega)]; exact hk
theorem Far.nodup {l : List S38} {f : Int} {r : List Int} (h : Far l f r) : r.Nodup := List.Pairwise.imp (fun h => by omega) h.up
theorem nd_le {l : List S38} (h : ∀ o ∈ l, o.f1.length ≤ 10) (x : Int) : (nd_ l x).length ≤ 10 := by
  unfold nd_ rd_T38
  rw [List.getD_eq_getElem?_getD]
  cases e : l[x.toNat]? with
  | none => simp [z38]
  | some o => exact h o (List.mem_of_getElem? e)
end Go.Proofs.Ytociaidhgefpiaa.Pure
