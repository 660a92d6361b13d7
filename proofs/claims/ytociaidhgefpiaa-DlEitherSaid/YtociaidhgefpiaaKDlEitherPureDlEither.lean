/- The pure statement of the law DlEither. No condition. -/
import Derived.Test.YtociaidhgefpiaaKDlEitherPStDlEither
import Derived.Test.YtociaidhgefpiaaKDlEitherShort
namespace Go.Proofs.Ytociaidhgefpiaa.Pure
open Go.RowKit Go.Proofs.Ytociaidhgefpiaa.P Go.Proofs.YtociaidhgefpiaaW.PrintWords Go.Proofs.YtociaidhgefpiaaW.PrintLast
set_option linter.unusedVariables false
set_option linter.unusedSimpArgs false

theorem count_go (y : Int) (L : List Int) (O : List Int) (hO : O.length ≤ 4294967296) : ∀ (d i c : Nat), i + d = O.length → c ≤ i → Evt fun k => dl_Count.l0 k y c O O.length i = some (((c + (O.drop i).count y : Nat) : Int)) := by
  intro d
  induction d with
  | zero =>
    intro i c hi hc
    refine (Evt.all (P := fun _ => True) (fun _ => trivial)).step fun k _ => ?_
    rw [dl_Count.l0, if_neg (by omega), List.drop_eq_nil_of_le (by omega)]
    simp
  | succ d ih =>
    intro i c hi hc
    have hlt : i < O.length := by omega
    rw [List.drop_eq_getElem_cons hlt]
    by_cases h : O[i] = y
    · refine (ih (i + 1) (c + 1) (by omega) (by omega)).step fun k hk => ?_
      rw [dl_Count.l0, if_pos (by omega), if_pos (by omega), if_pos (by omega), rdI O i hlt, if_pos h, wrap_up (by omega) (by omega), wrap_up (by omega) (by omega)]
      rw [h, List.count_cons_self, show c + ((O.drop (i + 1)).count y + 1) = c + 1 + (O.drop (i + 1)).count y by omega]
      exact hk
    · refine (ih (i + 1) c (by omega) (by omega)).step fun k hk => ?_
      rw [dl_Count.l0, if_pos (by omega), if_pos (by omega), if_pos (by omega), rdI O i hlt, if_neg h, wrap_up (by omega) (by omega)]
      rw [List.count_cons_of_ne h]
      exact hk
theorem count_ev (y : Int) (L : List Int) (O : List Int) (hO : O.length ≤ 4294967296) : Evt fun k => dl_Count.f k L O y = some ((O.count y : Nat) : Int) := by
  refine (count_go y L O hO O.length 0 0 (by omega) (by omega)).map fun k hk => ?_
  unfold dl_Count.f
  rw [List.drop_zero, Nat.zero_add] at hk
  exact hk
/-- What opening a name does, whatever was open: the same error, the same is open more. -/
theorem open_eff (l : List S38) (hl : l.length ≤ 20) (ho : ∀ o ∈ l, o.f1.length ≤ 10) (nm : ByteArray) : ∃ (e : Int) (x : List Int), x.length ≤ 1 ∧ ∀ {a0 : Int} {L O : List Int}, Good l a0 L O → O.length ≤ 4294967296 → ∃ L' g, Good l a0 L' (O ++ x) ∧ Evt fun k => dl_Open.f k l L O nm = some (L', O ++ x, g, e) := by
  obtain ⟨e, ⟨he, hE⟩ | ⟨he, b, hb, hE⟩⟩ := open_ev l hl ho nm
  · refine ⟨e, [], by simp, fun {a0 L O} G hO => ?_⟩
    have := G.len
    rw [List.append_nil]
    exact ⟨L, [], G, hE L O (by omega) hO⟩
  · refine ⟨0, [firstAt (isNm nm) l], by simp, fun {a0 L O} G hO => ?_⟩
    have := G.len
    exact ⟨_, _, G.opened hb, hE L O (by omega) hO⟩
theorem either_l0 (l : List S38) (hl : l.length ≤ 20) (L1 O1 L2 O2 : List Int) (h1 : L1.length ≤ 4294967296) (h2 : L2.length ≤ 4294967296) (h3 : O1.length ≤ 4294967296) (h4 : O2.length ≤ 4294967296) (hm : ∀ y, y ∈ L1 ↔ y ∈ L2) (hp : O1.Perm O2) : ∀ (d i : Nat), i + d = l.length → Evt fun k => curtilagelaw21_DlEither.l0 k l true i L1 O1 L2 O2 = some true := by
  intro d
  induction d with
  | zero =>
    intro i hi
    refine (Evt.all (P := fun _ => True) (fun _ => trivial)).step fun k _ => ?_
    rw [curtilagelaw21_DlEither.l0, if_neg (by omega)]
  | succ d ih =>
    intro i hi
    have e : hasI L1 (i : Int) = hasI L2 (i : Int) := by
      have h : hasI L1 (i : Int) = true ↔ hasI L2 (i : Int) = true := by rw [hasI_iff, hasI_iff]; exact hm i
      cases h1 : hasI L1 (i : Int) <;> cases h2 : hasI L2 (i : Int) <;> simp_all
    refine (((has_ev L1 i (by omega)).and (has_ev L2 i (by omega))).and (((count_ev i L1 O1 h3).and (count_ev i L2 O2 h4)).and (ih (i + 1) (by omega)))).step fun k hk => ?_
    rw [curtilagelaw21_DlEither.l0, if_pos (by omega), hk.1.1]
    simp only [Option.bind_some]
    rw [hk.1.2]
    simp only [Option.bind_some]
    rw [hk.2.1.1]
    simp only [Option.bind_some]
    rw [hk.2.1.2]
    simp only [Option.bind_some]
    rw [if_neg (by rw [e]; simp), if_pos (by rw [hp.count_eq]), wrap_up (by omega) (by omega)]
    exact hk.2.2
theorem DlEither : curtilagelaw21_DlEither.Pure := by
  intro l root ops one two hl _ hops _ _
  have hl1 := hl.1
  refine Evt.ex ?_
  have A := awake_ev.and (short_ev l 12 hl1)
  have J0 : Evt fun k => curtilagelaw21_DlEither.j0 k l root ops one two true true = some true :=
    (Evt.all (P := fun _ => True) (fun _ => trivial)).step fun k _ => by rw [curtilagelaw21_DlEither.j0, if_pos rfl]
  unfold curtilagelaw21_DlEither.f
  by_cases hs : shortB l 12 = true
  · have hs' := of_decide_eq_true hs
    by_cases ho : ops.length ≤ 20
    · have J : Evt fun k => curtilagelaw21_DlEither.j0 k l root ops one two true false = some true := by
        rcases made_ev l (by omega) hs'.2 root ops (by omega) with M | ⟨L, O, G, hO, M⟩
        · refine M.step fun k hk => ?_
          rw [curtilagelaw21_DlEither.j0, if_neg (by simp), hk]
          simp only [Option.bind_some, Bool.false_eq_true, if_false]
        · obtain ⟨e1, x1, hx1, F1⟩ := open_eff l (by omega) hs'.2 one
          obtain ⟨e2, x2, hx2, F2⟩ := open_eff l (by omega) hs'.2 two
          obtain ⟨La, ga, Ga, Ea⟩ := F1 G (by omega)
          obtain ⟨Lb, gb, Gb, Eb⟩ := F2 Ga (by simp; omega)
          obtain ⟨Lc, gc, Gc, Ec⟩ := F2 G (by omega)
          obtain ⟨Ld, gd, Gd, Ed⟩ := F1 Gc (by simp; omega)
          have hp : (O ++ x1 ++ x2).Perm (O ++ x2 ++ x1) := by
            rw [List.append_assoc, List.append_assoc]
            exact List.perm_append_comm.append_left O
          have hm : ∀ y, y ∈ Lb ↔ y ∈ Ld := fun y => by
            rw [Gb.mem, Gd.mem]
            unfold Nd
            constructor
            · rintro ⟨o, ho, h⟩; exact ⟨o, hp.mem_iff.1 ho, h⟩
            · rintro ⟨o, ho, h⟩; exact ⟨o, hp.mem_iff.2 ho, h⟩
          have hbl := Gb.len
          have hdl := Gd.len
          have hll : Lb.length = Ld.length := Nat.le_antisymm (len_sub Gb.nd (fun x hx => (hm x).1 hx)) (len_sub Gd.nd (fun x hx => (hm x).2 hx))
          have hol : (O ++ x1 ++ x2).length ≤ 4294967296 := by simp; omega
          have J1 : Evt fun k => curtilagelaw21_DlEither.j1 k l true false Lb (O ++ x1 ++ x2) Ld (O ++ x2 ++ x1) = some true := (either_l0 l (by omega) Lb (O ++ x1 ++ x2) Ld (O ++ x2 ++ x1) (by omega) (by omega) hol (by rw [← hp.length_eq]; exact hol) hm hp l.length 0 (by omega)).step fun k hk => by
            rw [curtilagelaw21_DlEither.j1, if_neg (by simp)]; exact hk
          have hz : (((O ++ x1 ++ x2).length : Int) != ((O ++ x2 ++ x1).length : Int)) = false := by rw [hp.length_eq]; simp
          refine ((M.and (Ea.and Eb)).and ((Ec.and Ed).and J1)).step fun k hk => ?_
          rw [curtilagelaw21_DlEither.j0, if_neg (by simp), hk.1.1]
          simp only [Option.bind_some, if_true]
          rw [hk.1.2.1]
          simp only [Option.bind_some]
          rw [hk.1.2.2]
          simp only [Option.bind_some]
          rw [hk.2.1.1]
          simp only [Option.bind_some]
          rw [hk.2.1.2]
          simp only [Option.bind_some, if_true]
          rw [if_pos (by omega), hz]
          exact hk.2.2
      refine (A.and J).map fun k hk => ?_
      rw [hk.1.1, hk.1.2, hs, decide_eq_false (by omega)]
      simp only [Option.bind_some, if_true]
      exact hk.2
    · refine (A.and J0).map fun k hk => ?_
      rw [hk.1.1, hk.1.2, hs, decide_eq_true (by omega)]
      simp only [Option.bind_some, if_true]
      exact hk.2
  · refine (A.and J0).map fun k hk => ?_
    rw [hk.1.1, hk.1.2, eq_false_of_ne_true hs]
    simp only [Option.bind_some, Bool.false_eq_true, if_false]
    exact hk.2
end Go.Proofs.Ytociaidhgefpiaa.Pure
