/- The pure statement of the law GraphBehind. No condition. -/
import Derived.Test.YtndmfjdoekdleaaKGraphBehindPStGraphBehind
import Derived.Test.YtndmfjdoekdleaaKGraphBehindFix
namespace Go.Proofs.Ytndmfjdoekdleaa.Pure
open Go.RowKit Go.Proofs.Ytndmfjdoekdleaa.P Go.Proofs.YtndmfjdoekdleaaW.PrintWords Go.Proofs.YtndmfjdoekdleaaW.PrintLast
set_option linter.unusedVariables false
set_option linter.unusedSimpArgs false

theorem behind_go (l : List S29) (hl : l.length < 4294967296) (hn : ∀ x, (nd_ l x).length ≤ 4294967296) (r b : List Int) (hb : b.length ≤ l.length) (e : b.length = r.length) (hr : ∀ x ∈ b, 0 ≤ x ∧ x < l.length)
    (hg : ∀ (i j : Nat) (hi : i < b.length) (hj : j < b.length), i < j → b[j] ∈ sc l b[i] → Rch (sc l) b[j] b[i]) : ∀ (d i : Nat), i + d = b.length → Evt fun k => curtilagelaw13_GraphBehind.l0 k l true r b b.reverse i = some true := by
  intro d
  induction d with
  | zero =>
    intro i hi
    refine (Evt.all (P := fun _ => True) (fun _ => trivial)).step fun k _ => ?_
    rw [curtilagelaw13_GraphBehind.l0, if_neg (by omega), if_pos rfl, e]
    simp
  | succ d ih =>
    intro i hi
    have hil : i < b.length := by omega
    have inner : ∀ (c j : Nat), j + c = b.length → i < j → Evt fun k => curtilagelaw13_GraphBehind.l1 k l true r b b.reverse i j = some true := by
      intro c
      induction c with
      | zero =>
        intro j hj hij
        have e1 : wrap64 (wrap64 ((b.reverse.length : Int) - 1) - (i : Int)) = ((b.length - 1 - i : Nat) : Int) := by simp only [List.length_reverse]; unfold wrap64; omega
        have e2 : rd b.reverse ((b.length - 1 - i : Nat) : Int) = rd b (i : Int) := by
          rw [rdI b.reverse _ (by simp; omega), rdI b i hil, List.getElem_reverse]
          congr 1; omega
        refine (ih (i + 1) (by omega)).step fun k hk => ?_
        rw [curtilagelaw13_GraphBehind.l1, if_neg (by omega), e1, if_pos (by omega), if_pos (by simp; omega), if_pos (by omega), if_pos (by omega), if_pos e2, wrap_up (by omega) (by omega)]
        exact hk
      | succ c ihc =>
        intro j hj hij
        have hjl : j < b.length := by omega
        have hxi := hr _ (List.getElem_mem hil)
        have hxj := hr _ (List.getElem_mem hjl)
        obtain ⟨s, hs, F⟩ := rreach_ev l b[j] hl hn
        have F : Far l b[j] s := by
          rcases F with ⟨_, _, h⟩ | ⟨h, _⟩
          · exact h
          · exact absurd hxj h
        have hsl : s.length ≤ l.length := len_le _ _ F.nodup (fun x hx => rch_range hxj.1 hxj.2 ((F.mem x).1 hx))
        refine ((ihc (j + 1) (by omega) (by omega)).and ((needs_ev l b[i] b[j] hxi.1 hxi.2 hl hn).and (hs.and (has_ev s b[i] (by omega))))).step fun k hk => ?_
        obtain ⟨h1, h2, h3, h4⟩ := hk
        rw [curtilagelaw13_GraphBehind.l1, if_pos (by omega), if_pos (by omega), if_pos (by omega), if_pos (by omega), rdI b i hil, rdI b j hjl, h2, h3]
        simp only [Option.bind_some]
        rw [h4]
        simp only [Option.bind_some]
        rw [wrap_up (by omega) (by omega)]
        by_cases hsc : hasI (sc l b[i]) b[j] = true
        · have := hasI_iff.2 ((F.mem b[i]).2 (hg i j hil hjl hij (hasI_iff.1 hsc)))
          rw [if_pos hsc, if_pos this]; exact h1
        · rw [if_neg hsc]; exact h1
    refine (inner (b.length - i - 1) (i + 1) (by omega) (by omega)).step fun k hk => ?_
    rw [curtilagelaw13_GraphBehind.l0, if_pos (by omega), wrap_up (by omega) (by omega)]
    exact hk
theorem GraphBehind : curtilagelaw13_GraphBehind.Pure := by
  intro l root hl ho
  have hl1 := hl.1
  refine Evt.ex ?_
  have A := awake_ev.and (short_ev l 12 hl1)
  unfold curtilagelaw13_GraphBehind.f
  by_cases hs : shortB l 12 = true
  · have hs' := of_decide_eq_true hs
    have hn := nd_le hs'.2
    obtain ⟨r, hr, R⟩ := closure_ok l root (by omega) hs'.2
    rcases R with ⟨r0, _, c, hh⟩ | ⟨r1, e⟩
    · have hrl : r.1.length ≤ l.length := len_le _ _ c.nd c.rng
      obtain ⟨b, hb, B⟩ := begs_ok l r.1 (by omega) (fun x hx => (c.rng x hx).2)
      have ibr : ∀ x, x ∈ b ↔ x ∈ r.1 := fun x => ⟨fun h => (B.rng x h).2.2, fun h => B.all x h (c.rng x h).1 (c.rng x h).2⟩
      have e2 : b.length = r.1.length := Nat.le_antisymm (len_sub B.nd (fun x hx => (ibr x).1 hx)) (len_sub c.nd (fun x hx => (ibr x).2 hx))
      have L := behind_go l (by omega) (fun x => by have := hn x; omega) r.1 b (by omega) e2 (fun x hx => ⟨(B.rng x hx).1, (B.rng x hx).2.1⟩)
        (fun i j hi hj hij h => B.good i j b[i] b[j] hij (List.getElem?_eq_getElem hi) (List.getElem?_eq_getElem hj) h) b.length 0 (by omega)
      have hb' : graph_Begin.f l r.1 = some b := hb
      have g2 : rightB b l.length = true := decide_eq_true ⟨B.nd, fun x hx => ⟨(B.rng x hx).1, (B.rng x hx).2.1⟩⟩
      have J : Evt fun k => curtilagelaw13_GraphBehind.j0 k l true r.1 b b.reverse false = some true := L.step fun k hk => by
        rw [curtilagelaw13_GraphBehind.j0, if_neg (by simp)]; exact hk
      refine (A.and ((J.and (reverse_ev b (by omega))).and (right_ev b l.length (by omega)))).map fun k hk => ?_
      obtain ⟨⟨h1, h2⟩, ⟨h3, h4⟩, h5⟩ := hk
      have he : graph_End.f k l r.1 = some b.reverse := by
        unfold graph_End.f
        rw [hb']; simp only [Option.bind_some]; rw [h4]; rfl
      rw [h1, h2, hs, hr]
      simp only [Option.bind_some, if_true]
      rw [if_pos r0, hb', he]
      simp only [Option.bind_some]
      rw [h5, g2]
      simp only [Option.bind_some, if_true]
      have : ((b.length : Int) != (b.reverse.length : Int)) = false := by simp
      rw [this]; exact h3
    · refine A.map fun k hk => ?_
      rw [hk.1, hk.2, hs, hr]
      simp only [Option.bind_some, if_true]
      rw [if_neg (by omega)]
  · refine A.map fun k hk => ?_
    rw [hk.1, hk.2, eq_false_of_ne_true hs]
    simp only [Option.bind_some, Bool.false_eq_true, if_false]
end Go.Proofs.Ytndmfjdoekdleaa.Pure
