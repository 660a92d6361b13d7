/- The pure statement of the law GraphBegins. No condition. -/
import Derived.Test.YtndmfjdoekdleaaKGraphBeginsPStGraphBegins
import Derived.Test.YtndmfjdoekdleaaKGraphBeginsBase
namespace Go.Proofs.Ytndmfjdoekdleaa.Pure
open Go.RowKit Go.Proofs.Ytndmfjdoekdleaa.P Go.Proofs.YtndmfjdoekdleaaW.PrintWords Go.Proofs.YtndmfjdoekdleaaW.PrintLast
set_option linter.unusedVariables false
set_option linter.unusedSimpArgs false

theorem begins_go (b : List Int) (hl : b.length ≤ 9223372036854775807) : ∀ (d i : Nat), i + d = b.length → Evt fun k => curtilagelaw13_GraphBegins.l0 k true b b.reverse b i = some true := by
  intro d
  induction d with
  | zero =>
    intro i hi
    refine (numbers_ev b b hl).step fun k hk => ?_
    rw [curtilagelaw13_GraphBegins.l0, if_neg (by simp; omega), if_pos rfl, hk]
    simp
  | succ d ih =>
    intro i hi
    refine (ih (i + 1) (by omega)).step fun k hk => ?_
    have e1 : wrap64 (wrap64 ((b.length : Int) - 1) - (i : Int)) = ((b.length - 1 - i : Nat) : Int) := by unfold wrap64; omega
    have e2 : rd b.reverse (i : Int) = rd b ((b.length - 1 - i : Nat) : Int) := by
      rw [rdI b.reverse i (by simp; omega), rdI b _ (by omega), List.getElem_reverse]
    rw [curtilagelaw13_GraphBegins.l0, if_pos (by simp; omega), if_pos (by omega), e1, if_pos (by omega), if_pos (by omega), if_pos e2, wrap_up (by omega) (by omega)]
    exact hk
theorem GraphBegins : curtilagelaw13_GraphBegins.Pure := by
  intro l ord hl ho
  have hl1 := hl.1
  have ho1 := ho.1
  refine Evt.ex ?_
  have A := awake_ev.and ((short_ev l 20 hl1).and (right_ev ord l.length ho1))
  unfold curtilagelaw13_GraphBegins.f
  by_cases hs : shortB l 20 = true
  · by_cases hr : rightB ord l.length = true
    · have hs' := of_decide_eq_true hs
      have hr' := of_decide_eq_true hr
      obtain ⟨b, hb, B⟩ := begs_ok l ord (by omega) (fun x hx => (hr'.2 x hx).2)
      have hbl : b.length ≤ l.length := len_le _ _ B.nd (fun x hx => ⟨(B.rng x hx).1, (B.rng x hx).2.1⟩)
      have J : Evt fun k => curtilagelaw13_GraphBegins.j0 k l ord true false = some true := by
        refine ((reverse_ev b (by omega)).and (begins_go b (by omega) b.length 0 (by omega))).step fun k hk => ?_
        rw [curtilagelaw13_GraphBegins.j0, if_neg (by simp)]
        have e1 : graph_Begin.f l ord = some b := hb
        have e2 : curtilageref13_Begin.f l ord = some b := hb
        have e3 : graph_End.f k l ord = some b.reverse := by
          unfold graph_End.f
          rw [e1]; simp only [Option.bind_some]; rw [hk.1]; rfl
        rw [e1, e2, e3]
        simp only [Option.bind_some]
        rw [if_pos (by simp)]
        exact hk.2
      refine (A.and J).map fun k hk => ?_
      obtain ⟨⟨h1, h2, h3⟩, h4⟩ := hk
      rw [h1, h2, h3, hs, hr]
      simp only [Option.bind_some, if_true, Bool.not_true]
      exact h4
    · have J : Evt fun k => curtilagelaw13_GraphBegins.j0 k l ord true true = some true :=
        (Evt.all (P := fun _ => True) (fun _ => trivial)).step fun k _ => by rw [curtilagelaw13_GraphBegins.j0, if_pos rfl]
      refine (A.and J).map fun k hk => ?_
      obtain ⟨⟨h1, h2, h3⟩, h4⟩ := hk
      rw [h1, h2, h3, hs, eq_false_of_ne_true hr]
      simp only [Option.bind_some, if_true, Bool.not_false]
      exact h4
  · have J : Evt fun k => curtilagelaw13_GraphBegins.j0 k l ord true true = some true :=
      (Evt.all (P := fun _ => True) (fun _ => trivial)).step fun k _ => by rw [curtilagelaw13_GraphBegins.j0, if_pos rfl]
    refine (A.and J).map fun k hk => ?_
    obtain ⟨⟨h1, h2, h3⟩, h4⟩ := hk
    rw [h1, h2, h3, eq_false_of_ne_true hs]
    simp only [Option.bind_some, Bool.false_eq_true, if_false]
    exact h4
end Go.Proofs.Ytndmfjdoekdleaa.Pure
