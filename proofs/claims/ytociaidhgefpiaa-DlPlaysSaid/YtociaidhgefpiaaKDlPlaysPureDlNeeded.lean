/- The pure statement of the law DlNeeded. No condition. -/
import Derived.Test.YtociaidhgefpiaaKDlPlaysPx14
import Derived.Test.YtociaidhgefpiaaKDlPlaysPOk
import Derived.Test.YtociaidhgefpiaaKDlPlaysShort
namespace Go.Proofs.Ytociaidhgefpiaa.Pure
open Go.RowKit Go.Proofs.Ytociaidhgefpiaa.P Go.Proofs.YtociaidhgefpiaaW.PrintWords Go.Proofs.YtociaidhgefpiaaW.PrintLast
set_option linter.unusedVariables false
set_option linter.unusedSimpArgs false

theorem rneeded_ev (l : List S38) (hl : l.length < 4294967296) (hn : ∀ x, (nd_ l x).length ≤ 4294967296) (O : List Int) (hO : O.length ≤ 4294967296) (y : Int) : ∀ (d i : Nat), i + d = O.length → ∃ b : Bool, (b = true ↔ Nd l (O.drop i) y) ∧ Evt fun k => curtilageref21_Needed.l0 k l O y i = some b := by
  intro d
  induction d with
  | zero =>
    intro i hi
    refine ⟨false, by rw [List.drop_eq_nil_of_le (by omega)]; simp [Nd], (Evt.all (P := fun _ => True) (fun _ => trivial)).step fun k _ => ?_⟩
    rw [curtilageref21_Needed.l0, if_neg (by omega)]
  | succ d ih =>
    intro i hi
    have hlt : i < O.length := by omega
    obtain ⟨b, hb, hE⟩ := ih (i + 1) (by omega)
    obtain ⟨s, hs, F⟩ := rreach_ev l O[i] hl hn
    have hsl : s.length ≤ 9223372036854775807 := by
      rcases F with ⟨h0, h1, F⟩ | ⟨_, rfl⟩
      · have := len_le _ _ F.nodup (fun x hx => rch_range h0 h1 ((F.mem x).1 hx)); omega
      · simp
    have hsy : hasI s y = true ↔ (0 ≤ O[i] ∧ O[i] < l.length) ∧ Rch (sc l) O[i] y := by
      rcases F with ⟨h0, h1, F⟩ | ⟨h, rfl⟩
      · rw [hasI_iff, F.mem]; exact ⟨fun h => ⟨⟨h0, h1⟩, h⟩, fun h => h.2⟩
      · rw [hasI_iff]; exact ⟨fun hm => by simp at hm, fun hm => absurd hm.1 h⟩
    have hcons : Nd l (O.drop i) y ↔ ((0 ≤ O[i] ∧ O[i] < l.length) ∧ Rch (sc l) O[i] y) ∨ Nd l (O.drop (i + 1)) y := by
      rw [List.drop_eq_getElem_cons hlt]
      unfold Nd
      simp only [List.mem_cons, exists_eq_or_imp]
    by_cases h : hasI s y = true
    · refine ⟨true, ⟨fun _ => hcons.2 (.inl (hsy.1 h)), fun _ => rfl⟩, (hs.and (has_ev s y hsl)).step fun k hk => ?_⟩
      rw [curtilageref21_Needed.l0, if_pos (by omega), if_pos (by omega), rdI O i hlt, hk.1]
      simp only [Option.bind_some]
      rw [hk.2]
      simp only [Option.bind_some]
      rw [if_pos h]
    · refine ⟨b, ⟨fun e => hcons.2 (.inr (hb.1 e)), fun e => ?_⟩, ((hs.and (has_ev s y hsl)).and hE).step fun k hk => ?_⟩
      · rcases hcons.1 e with e | e
        · exact absurd (hsy.2 e) h
        · exact hb.2 e
      · rw [curtilageref21_Needed.l0, if_pos (by omega), if_pos (by omega), rdI O i hlt, hk.1.1]
        simp only [Option.bind_some]
        rw [hk.1.2]
        simp only [Option.bind_some]
        rw [if_neg h, wrap_up (by omega) (by omega)]
        exact hk.2
end Go.Proofs.Ytociaidhgefpiaa.Pure
