/- The pure statement of the law DlOrder. No condition. -/
import Derived.Test.YtociaidhgefpiaaKDlOrderPStDlOrder
import Derived.Test.YtociaidhgefpiaaKDlOrderShort
namespace Go.Proofs.Ytociaidhgefpiaa.Pure
open Go.RowKit Go.Proofs.Ytociaidhgefpiaa.P Go.Proofs.YtociaidhgefpiaaW.PrintWords Go.Proofs.YtociaidhgefpiaaW.PrintLast
set_option linter.unusedVariables false
set_option linter.unusedSimpArgs false

theorem order_go (l : List S38) (hl : l.length < 4294967296) (hn : ∀ x, (nd_ l x).length ≤ 4294967296) (b O : List Int) (hb : b.length ≤ l.length) (hr : ∀ x ∈ b, 0 ≤ x ∧ x < l.length)
    (hg : ∀ (i j : Nat) (hi : i < b.length) (hj : j < b.length), i < j → b[j] ∈ sc l b[i] → Rch (sc l) b[j] b[i]) : ∀ (d i : Nat), i + d = b.length → Evt fun k => curtilagelaw21_DlOrder.l0 k l true i b O = some true := by
  intro d
  induction d with
  | zero =>
    intro i hi
    refine (Evt.all (P := fun _ => True) (fun _ => trivial)).step fun k _ => ?_
    rw [curtilagelaw21_DlOrder.l0, if_neg (by omega)]
  | succ d ih =>
    intro i hi
    have hil : i < b.length := by omega
    have inner : ∀ (c j : Nat), j + c = b.length → i < j → Evt fun k => curtilagelaw21_DlOrder.l1 k l true i j b O = some true := by
      intro c
      induction c with
      | zero =>
        intro j hj hij
        refine (ih (i + 1) (by omega)).step fun k hk => ?_
        rw [curtilagelaw21_DlOrder.l1, if_neg (by omega), wrap_up (by omega) (by omega)]
        exact hk
      | succ c ihc =>
        intro j hj hij
        have hjl : j < b.length := by omega
        have hxi := hr _ (List.getElem_mem hil)
        have hxj := hr _ (List.getElem_mem hjl)
        obtain ⟨s, hs, F⟩ := rreach_ev l b[j] hl hn
        have F : Far l b[j] s := by
          rcases F with ⟨_, _, h⟩ | ⟨h, _⟩
          · exact h
          · exact absurd hxj h
        have hsl : s.length ≤ l.length := len_le _ _ F.nodup (fun x hx => rch_range hxj.1 hxj.2 ((F.mem x).1 hx))
        refine ((ihc (j + 1) (by omega) (by omega)).and ((needs_ev l b[i] b[j] hxi.1 hxi.2 hl hn).and (hs.and (has_ev s b[i] (by omega))))).step fun k hk => ?_
        obtain ⟨h1, h2, h3, h4⟩ := hk
        rw [curtilagelaw21_DlOrder.l1, if_pos (by omega), if_pos (by omega), if_pos (by omega), if_pos (by omega), rdI b i hil, rdI b j hjl, h2, h3]
        simp only [Option.bind_some]
        rw [h4]
        simp only [Option.bind_some]
        rw [wrap_up (by omega) (by omega)]
        by_cases hsc : hasI (sc l b[i]) b[j] = true
        · have := hasI_iff.2 ((F.mem b[i]).2 (hg i j hil hjl hij (hasI_iff.1 hsc)))
          rw [if_pos hsc, if_pos this]; exact h1
        · rw [if_neg hsc]; exact h1
    refine (inner (b.length - i - 1) (i + 1) (by omega) (by omega)).step fun k hk => ?_
    rw [curtilagelaw21_DlOrder.l0, if_pos (by omega), wrap_up (by omega) (by omega)]
    exact hk
theorem DlOrder : curtilagelaw21_DlOrder.Pure := by
  intro l root ops hl _ hops
  have hl1 := hl.1
  refine Evt.ex ?_
  have A := awake_ev.and (short_ev l 12 hl1)
  have J0 : Evt fun k => curtilagelaw21_DlOrder.j0 k l root ops true true = some true :=
    (Evt.all (P := fun _ => True) (fun _ => trivial)).step fun k _ => by rw [curtilagelaw21_DlOrder.j0, if_pos rfl]
  unfold curtilagelaw21_DlOrder.f
  by_cases hs : shortB l 12 = true
  · have hs' := of_decide_eq_true hs
    have hn := nd_le hs'.2
    by_cases ho : ops.length ≤ 30
    · have J : Evt fun k => curtilagelaw21_DlOrder.j0 k l root ops true false = some true := by
        rcases made_ev l (by omega) hs'.2 root ops (by omega) with M | ⟨L, O, G, hO, M⟩
        · have J1 : Evt fun k => curtilagelaw21_DlOrder.j1 k l true true true [] [] = some true := (Evt.all (P := fun _ => True) (fun _ => trivial)).step fun k _ => by
            rw [curtilagelaw21_DlOrder.j1, if_pos rfl, if_pos rfl]
          have hr : rightB ([] : List Int) l.length = true := decide_eq_true ⟨List.nodup_nil, fun x hx => by simp at hx⟩
          refine (M.and (J1.and (right_ev [] l.length (by simp)))).step fun k hk => ?_
          rw [curtilagelaw21_DlOrder.j0, if_neg (by simp), hk.1]
          simp only [Option.bind_some]
          rw [hk.2.2, hr]
          simp only [Option.bind_some, Bool.false_eq_true, if_false]
          exact hk.2.1
        · have hlen := G.len
          have J1 : Evt fun k => curtilagelaw21_DlOrder.j1 k l true true false L O = some true := (order_go l (by omega) (fun x => by have := hn x; omega) L O hlen G.lrng (fun i j hi hj hij h => (List.pairwise_iff_getElem.1 G.ord) i j hi hj hij h) L.length 0 (by omega)).step fun k hk => by
            rw [curtilagelaw21_DlOrder.j1, if_neg (by simp)]; exact hk
          have hr : rightB L l.length = true := decide_eq_true ⟨G.nd, G.lrng⟩
          refine (M.and (J1.and (right_ev L l.length (by omega)))).step fun k hk => ?_
          rw [curtilagelaw21_DlOrder.j0, if_neg (by simp), hk.1]
          simp only [Option.bind_some]
          rw [hk.2.2, hr]
          simp only [Option.bind_some, if_true, Bool.not_true]
          exact hk.2.1
      refine (A.and J).map fun k hk => ?_
      rw [hk.1.1, hk.1.2, hs, decide_eq_false (by omega)]
      simp only [Option.bind_some, if_true]
      exact hk.2
    · refine (A.and J0).map fun k hk => ?_
      rw [hk.1.1, hk.1.2, hs, decide_eq_true (by omega)]
      simp only [Option.bind_some, if_true]
      exact hk.2
  · refine (A.and J0).map fun k hk => ?_
    rw [hk.1.1, hk.1.2, eq_false_of_ne_true hs]
    simp only [Option.bind_some, Bool.false_eq_true, if_false]
    exact hk.2
end Go.Proofs.Ytociaidhgefpiaa.Pure
