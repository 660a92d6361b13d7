/- The pure statement of the law DlBack. No condition. -/
import Derived.Test.YtociaidhgefpiaaKDlBackPStDlBack
import Derived.Test.YtociaidhgefpiaaKDlBackShort
namespace Go.Proofs.Ytociaidhgefpiaa.Pure
open Go.RowKit Go.Proofs.Ytociaidhgefpiaa.P Go.Proofs.YtociaidhgefpiaaW.PrintWords Go.Proofs.YtociaidhgefpiaaW.PrintLast
set_option linter.unusedVariables false
set_option linter.unusedSimpArgs false

theorem back_l0 (l : List Int) (L O : List Int) (b : List Int) (hb : b.length ≤ 4294967296) (hL : L.length ≤ 4294967296) (hO : O.length ≤ 4294967296) : ∀ (d i : Nat), i + d = b.length → Evt fun k => curtilagelaw21_DlBack.l0 k true b b.reverse i L O L O = some true := by
  intro d
  induction d with
  | zero =>
    intro i hi
    refine ((numbers_ev L L (by omega)).and (numbers_ev O O (by omega))).step fun k hk => ?_
    rw [curtilagelaw21_DlBack.l0, if_neg (by simp; omega), if_pos rfl, hk.1]
    simp only [Option.bind_some, decide_true, if_true]
    rw [hk.2]; simp
  | succ d ih =>
    intro i hi
    refine (ih (i + 1) (by omega)).step fun k hk => ?_
    have e1 : wrap64 (wrap64 ((b.length : Int) - 1) - (i : Int)) = ((b.length - 1 - i : Nat) : Int) := by unfold wrap64; omega
    have e2 : rd b.reverse (i : Int) = rd b ((b.length - 1 - i : Nat) : Int) := by
      rw [rdI b.reverse i (by simp; omega), rdI b _ (by omega), List.getElem_reverse]
    rw [curtilagelaw21_DlBack.l0, if_pos (by simp; omega), if_pos (by omega), e1, if_pos (by omega), if_pos (by omega), if_pos e2, wrap_up (by omega) (by omega)]
    exact hk
theorem DlBack : curtilagelaw21_DlBack.Pure := by
  intro l root ops nm hl _ hops _
  have hl1 := hl.1
  refine Evt.ex ?_
  have A := awake_ev.and (short_ev l 12 hl1)
  have J0 : Evt fun k => curtilagelaw21_DlBack.j0 k l root ops nm true true = some true :=
    (Evt.all (P := fun _ => True) (fun _ => trivial)).step fun k _ => by rw [curtilagelaw21_DlBack.j0, if_pos rfl]
  unfold curtilagelaw21_DlBack.f
  by_cases hs : shortB l 12 = true
  · have hs' := of_decide_eq_true hs
    have hn := nd_le hs'.2
    by_cases ho : ops.length ≤ 30
    · have J : Evt fun k => curtilagelaw21_DlBack.j0 k l root ops nm true false = some true := by
        rcases made_ev l (by omega) hs'.2 root ops (by omega) with M | ⟨L, O, G, hO, M⟩
        · refine M.step fun k hk => ?_
          rw [curtilagelaw21_DlBack.j0, if_neg (by simp), hk]
          simp only [Option.bind_some, Bool.false_eq_true, if_false]
        · have hlen := G.len
          have hpos := G.pos
          obtain ⟨e, ⟨he, hE⟩ | ⟨he, b, hb, hE⟩⟩ := open_ev l (by omega) hs'.2 nm
          · refine ((M.and (hE L O (by omega) (by omega))).and ((numbers_ev L L (by omega)).and (numbers_ev O O (by omega)))).step fun k hk => ?_
            rw [curtilagelaw21_DlBack.j0, if_neg (by simp), hk.1.1]
            simp only [Option.bind_some, if_true]
            rw [hk.1.2]
            simp only [Option.bind_some, if_true]
            rw [if_neg he, if_pos (by simp), hk.2.1]
            simp only [Option.bind_some, decide_true, if_true]
            rw [hk.2.2]; simp
          · have G1 := G.opened hb
            have hlen1 := G1.len
            obtain ⟨r, a, hla, hC, C⟩ := close_ev l (by omega) (fun x => by have := hn x; omega) nm (L ++ b.filter (notIn L)) (O ++ [firstAt (isNm nm) l]) (by omega) (by simp; omega) (by simp)
            have hj := hb.here
            have ha : a = (O.length : Int) := by
              rcases hla with ⟨_, h⟩ | ⟨n, hn', e1, h1, h2, h3⟩
              · exact absurd (by simp) (h O.length (by simp) (by omega))
              · rw [List.length_append, List.length_singleton] at hn'
                by_cases e2 : n = O.length
                · rw [e1, e2]
                · exact absurd (by simp) (h3 O.length (by simp) (by omega))
            have hr : r = (L, O, (b.filter (notIn L)).reverse, 0) := by
              rcases C with ⟨h, _⟩ | ⟨_, n, hn', p, e1, h1, hp, rfl⟩
              · omega
              · have en : n = O.length := by omega
                subst en
                have e3 : (O ++ [firstAt (isNm nm) l]).take O.length ++ (O ++ [firstAt (isNm nm) l]).drop (O.length + 1) = O := by
                  rw [List.take_left, List.drop_eq_nil_of_le (by simp), List.append_nil]
                rw [e3] at hp
                have hpL : ∀ y ∈ L, p y = true := fun y hy => (hp y).2 ((G.mem y).1 hy)
                have hpB : ∀ y ∈ b.filter (notIn L), p y = false := fun y hy => by
                  have h := notIn_iff.1 (List.mem_filter.1 hy).2
                  cases e : p y with
                  | false => rfl
                  | true => exact absurd ((G.mem y).2 ((hp y).1 e)) h
                rw [e3, List.filter_append, List.filter_append, List.filter_eq_self.2 hpL, List.filter_eq_nil_iff.2 (fun y hy => by rw [hpB y hy]; simp), List.append_nil,
                  List.filter_eq_nil_iff.2 (fun y hy => by rw [hpL y hy]; simp), List.nil_append, List.filter_eq_self.2 (fun y hy => by rw [hpB y hy]; rfl)]
            have hbl : b.length ≤ l.length := len_le _ _ hb.nd hb.rng
            have hfl : (b.filter (notIn L)).length ≤ b.length := List.length_filter_le _ _
            have J1 : Evt fun k => curtilagelaw21_DlBack.j1 k true (b.filter (notIn L)) (b.filter (notIn L)).reverse false L O L O = some true := (back_l0 L L O (b.filter (notIn L)) (by omega) (by omega) (by omega) _ 0 (Nat.zero_add _)).step fun k hk => by
              rw [curtilagelaw21_DlBack.j1, if_neg (by simp)]; exact hk
            have hz : (((b.filter (notIn L)).length : Int) != ((b.filter (notIn L)).reverse.length : Int)) = false := by simp
            refine ((M.and (hE L O (by omega) (by omega))).and (hC.and J1)).step fun k hk => ?_
            rw [curtilagelaw21_DlBack.j0, if_neg (by simp), hk.1.1]
            simp only [Option.bind_some, if_true]
            rw [hk.1.2]
            simp only [Option.bind_some, if_true]
            rw [hk.2.1, hr]
            simp only [Option.bind_some, if_true]
            rw [hz]
            exact hk.2.2
      refine (A.and J).map fun k hk => ?_
      rw [hk.1.1, hk.1.2, hs, decide_eq_false (by omega)]
      simp only [Option.bind_some, if_true]
      exact hk.2
    · refine (A.and J0).map fun k hk => ?_
      rw [hk.1.1, hk.1.2, hs, decide_eq_true (by omega)]
      simp only [Option.bind_some, if_true]
      exact hk.2
  · refine (A.and J0).map fun k hk => ?_
    rw [hk.1.1, hk.1.2, eq_false_of_ne_true hs]
    simp only [Option.bind_some, Bool.false_eq_true, if_false]
    exact hk.2
end Go.Proofs.Ytociaidhgefpiaa.Pure
