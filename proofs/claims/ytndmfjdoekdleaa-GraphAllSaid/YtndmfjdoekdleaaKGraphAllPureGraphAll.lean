/- The pure statement of the law GraphAll. No condition. -/
import Derived.Test.YtndmfjdoekdleaaKGraphAllPStGraphAll
import Derived.Test.YtndmfjdoekdleaaKGraphAllFix
namespace Go.Proofs.Ytndmfjdoekdleaa.Pure
open Go.RowKit Go.Proofs.Ytndmfjdoekdleaa.P Go.Proofs.YtndmfjdoekdleaaW.PrintWords Go.Proofs.YtndmfjdoekdleaaW.PrintLast
set_option linter.unusedVariables false
set_option linter.unusedSimpArgs false

theorem all_go (r a b : List Int) (hrl : r.length ≤ 9223372036854775807) (hbl : b.length ≤ 9223372036854775807) (hal : a.length ≤ 9223372036854775807) (h1 : ∀ x ∈ a, x ∈ r) (h2 : ∀ x ∈ a, x ∈ b) (e1 : a.length = r.length) (e2 : b.length = r.length) : ∀ (d i : Nat), i + d = a.length → Evt fun k => curtilagelaw13_GraphAll.l0 k true r a b true true i = some true := by
  intro d
  induction d with
  | zero =>
    intro i hi
    refine (Evt.all (P := fun _ => True) (fun _ => trivial)).step fun k _ => ?_
    rw [curtilagelaw13_GraphAll.l0, if_neg (by omega), if_pos rfl, if_pos rfl, if_pos rfl, if_pos (by omega), e2]
    simp
  | succ d ih =>
    intro i hi
    have hlt : i < a.length := by omega
    refine ((ih (i + 1) (by omega)).and ((has_ev r a[i] hrl).and (has_ev b a[i] hbl))).step fun k hk => ?_
    rw [curtilagelaw13_GraphAll.l0, if_pos (by omega), if_pos (by omega), rdI a i hlt, hk.2.1, hk.2.2, hasI_iff.2 (h1 _ (List.getElem_mem hlt)), hasI_iff.2 (h2 _ (List.getElem_mem hlt))]
    simp only [Option.bind_some, if_true]
    rw [wrap_up (by omega) (by omega)]
    exact hk.1
theorem GraphAll : curtilagelaw13_GraphAll.Pure := by
  intro l root hl ho
  have hl1 := hl.1
  refine Evt.ex ?_
  have A := awake_ev.and (short_ev l 20 hl1)
  unfold curtilagelaw13_GraphAll.f
  by_cases hs : shortB l 20 = true
  · have hs' := of_decide_eq_true hs
    have hn := nd_le hs'.2
    obtain ⟨r, hr, R⟩ := closure_ok l root (by omega) hs'.2
    rcases R with ⟨r0, _, c, hh⟩ | ⟨r1, e⟩
    · have hrl : r.1.length ≤ l.length := len_le _ _ c.nd c.rng
      have hpos : 0 < r.1.length := List.length_pos_of_mem c.root
      have hrd : rd r.1 0 = firstAt (isNm root) l := by
        have := rdI r.1 0 hpos
        rw [List.head?_eq_getElem?, List.getElem?_eq_getElem hpos] at hh
        have := Option.some.inj hh
        simp_all
      have hrt := c.rng _ c.root
      obtain ⟨a, ha, Fa⟩ := greach_ev l (firstAt (isNm root) l) (by omega) (fun x => by have := hn x; omega)
      have Fa : Far l (firstAt (isNm root) l) a := by
        rcases Fa with ⟨_, _, h⟩ | ⟨h, _⟩
        · exact h
        · exact absurd hrt h
      obtain ⟨b, hb, B⟩ := begs_ok l r.1 (by omega) (fun x hx => (c.rng x hx).2)
      have hcl : ∀ x, Rch (sc l) (firstAt (isNm root) l) x → x ∈ r.1 := by
        intro x hx
        induction hx with
        | refl => exact c.root
        | step _ hz hz0 ih => exact c.all _ ih _ hz
      have iar : ∀ x, x ∈ a ↔ x ∈ r.1 := fun x => (Fa.mem x).trans ⟨hcl x, c.rch x⟩
      have ibr : ∀ x, x ∈ b ↔ x ∈ r.1 := fun x => ⟨fun h => (B.rng x h).2.2, fun h => B.all x h (c.rng x h).1 (c.rng x h).2⟩
      have e1 : a.length = r.1.length := Nat.le_antisymm (len_sub Fa.nodup (fun x hx => (iar x).1 hx)) (len_sub c.nd (fun x hx => (iar x).2 hx))
      have e2 : b.length = r.1.length := Nat.le_antisymm (len_sub B.nd (fun x hx => (ibr x).1 hx)) (len_sub c.nd (fun x hx => (ibr x).2 hx))
      have L := all_go r.1 a b (by omega) (by omega) (by omega) (fun x hx => (iar x).1 hx) (fun x hx => (ibr x).2 ((iar x).1 hx)) e1 e2 a.length 0 (by omega)
      have hb' : graph_Begin.f l r.1 = some b := hb
      have g1 : rightB r.1 l.length = true := decide_eq_true ⟨c.nd, c.rng⟩
      have g2 : rightB b l.length = true := decide_eq_true ⟨B.nd, fun x hx => ⟨(B.rng x hx).1, (B.rng x hx).2.1⟩⟩
      refine (A.and ((ha.and L).and ((right_ev r.1 l.length (by omega)).and (right_ev b l.length (by omega))))).map fun k hk => ?_
      obtain ⟨⟨h1, h2⟩, ⟨h3, h4⟩, h5, h6⟩ := hk
      rw [h1, h2, hs, hr]
      simp only [Option.bind_some, if_true]
      rw [if_pos r0, if_neg (by omega), if_pos (by omega), hrd, h3, hb']
      simp only [Option.bind_some]
      rw [h5, h6, g1, g2]
      exact h4
    · refine A.map fun k hk => ?_
      rw [hk.1, hk.2, hs, hr]
      simp only [Option.bind_some, if_true]
      rw [if_neg (by omega), e]
      rfl
  · refine A.map fun k hk => ?_
    rw [hk.1, hk.2, eq_false_of_ne_true hs]
    simp only [Option.bind_some, Bool.false_eq_true, if_false]
end Go.Proofs.Ytndmfjdoekdleaa.Pure
