/- The pure statement of the law GraphCloses. No condition. -/
import Derived.Test.YtndmfjdoekdleaaKGraphClosesPStGraphCloses
import Derived.Test.YtndmfjdoekdleaaKGraphClosesFix
namespace Go.Proofs.Ytndmfjdoekdleaa.Pure
open Go.RowKit Go.Proofs.Ytndmfjdoekdleaa.P Go.Proofs.YtndmfjdoekdleaaW.PrintWords Go.Proofs.YtndmfjdoekdleaaW.PrintLast
set_option linter.unusedVariables false
set_option linter.unusedSimpArgs false

theorem GraphCloses : curtilagelaw13_GraphCloses.Pure := by
  intro l root f hl ho _
  have hl1 := hl.1
  refine Evt.ex ?_
  have A := awake_ev.and (short_ev l 20 hl1)
  unfold curtilagelaw13_GraphCloses.f
  by_cases hs : shortB l 20 = true
  · have hs' := of_decide_eq_true hs
    have hn := nd_le hs'.2
    obtain ⟨r, hr, R⟩ := closure_ok l root (by omega) hs'.2
    have C := rclosure_ev l root (by omega) (fun x => by have := hn x; omega) hr
    have hrl : r.1.length ≤ l.length := by
      rcases R with ⟨_, _, c, _⟩ | ⟨_, e⟩
      · exact len_le _ _ c.nd c.rng
      · rw [e]; simp
    obtain ⟨a, ha, Fa⟩ := greach_ev l f (by omega) (fun x => by have := hn x; omega)
    obtain ⟨b, hb, Fb⟩ := rreach_ev l f (by omega) (fun x => by have := hn x; omega)
    have e : a = b := by
      rcases Fa with ⟨h0, h1, u⟩ | ⟨h, u⟩ <;> rcases Fb with ⟨k0, k1, v⟩ | ⟨k, v⟩
      · exact u.eq v
      · exact absurd ⟨h0, h1⟩ k
      · exact absurd ⟨k0, k1⟩ h
      · rw [u, v]
    subst e
    have hal : a.length ≤ l.length := by
      rcases Fa with ⟨h0, h1, u⟩ | ⟨h, u⟩
      · exact len_le _ _ u.nodup (fun x hx => rch_range h0 h1 ((u.mem x).1 hx))
      · rw [u]; simp
    have hf : graph_Find.f l root = some (firstAt (isNm root) l) := rfl
    refine ((A.and (C.and ((numbers_ev r.1 r.1 (by omega)).and (numbers_ev a a (by omega))))).and ((ha.and hb).and (rfind_ev l root hl1))).map fun k hk => ?_
    obtain ⟨⟨⟨h1, h2⟩, h3, h4, h5⟩, ⟨h6, h7⟩, h8⟩ := hk
    rw [h1, h2, hs, hr, h3, h6, hf]
    simp only [Option.bind_some, if_true, h4, h5, h7, h8, decide_true, beq_self_eq_true]
  · refine A.map fun k hk => ?_
    rw [hk.1, hk.2, eq_false_of_ne_true hs]
    simp only [Option.bind_some, Bool.false_eq_true, if_false]
end Go.Proofs.Ytndmfjdoekdleaa.Pure
