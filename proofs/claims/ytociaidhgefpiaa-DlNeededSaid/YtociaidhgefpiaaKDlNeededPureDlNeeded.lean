/- The pure statement of the law DlNeeded. No condition. -/
import Derived.Test.YtociaidhgefpiaaKDlNeededPStDlNeeded
import Derived.Test.YtociaidhgefpiaaKDlNeededShort
namespace Go.Proofs.Ytociaidhgefpiaa.Pure
open Go.RowKit Go.Proofs.Ytociaidhgefpiaa.P Go.Proofs.YtociaidhgefpiaaW.PrintWords Go.Proofs.YtociaidhgefpiaaW.PrintLast
set_option linter.unusedVariables false
set_option linter.unusedSimpArgs false

theorem firstAt_hit {α : Type} {p : α → Bool} {l : List α} (h : 0 ≤ firstAt p l) : ∃ (n : Nat) (hn : n < l.length), firstAt p l = (n : Int) ∧ p l[n] = true := by
  unfold firstAt at h ⊢
  cases e : l.findIdx? p with
  | none => rw [e] at h; simp at h
  | some i =>
    rw [List.findIdx?_eq_some_iff_getElem] at e
    obtain ⟨hi, hp, _⟩ := e
    exact ⟨i, hi, rfl, hp⟩
theorem rneeded_ev (l : List S38) (hl : l.length < 4294967296) (hn : ∀ x, (nd_ l x).length ≤ 4294967296) (O : List Int) (hO : O.length ≤ 4294967296) (y : Int) : ∀ (d i : Nat), i + d = O.length → ∃ b : Bool, (b = true ↔ Nd l (O.drop i) y) ∧ Evt fun k => curtilageref21_Needed.l0 k l O y i = some b := by
  intro d
  induction d with
  | zero =>
    intro i hi
    refine ⟨false, by rw [List.drop_eq_nil_of_le (by omega)]; simp [Nd], (Evt.all (P := fun _ => True) (fun _ => trivial)).step fun k _ => ?_⟩
    rw [curtilageref21_Needed.l0, if_neg (by omega)]
  | succ d ih =>
    intro i hi
    have hlt : i < O.length := by omega
    obtain ⟨b, hb, hE⟩ := ih (i + 1) (by omega)
    obtain ⟨s, hs, F⟩ := rreach_ev l O[i] hl hn
    have hsl : s.length ≤ 9223372036854775807 := by
      rcases F with ⟨h0, h1, F⟩ | ⟨_, rfl⟩
      · have := len_le _ _ F.nodup (fun x hx => rch_range h0 h1 ((F.mem x).1 hx)); omega
      · simp
    have hsy : hasI s y = true ↔ (0 ≤ O[i] ∧ O[i] < l.length) ∧ Rch (sc l) O[i] y := by
      rcases F with ⟨h0, h1, F⟩ | ⟨h, rfl⟩
      · rw [hasI_iff, F.mem]; exact ⟨fun h => ⟨⟨h0, h1⟩, h⟩, fun h => h.2⟩
      · rw [hasI_iff]; exact ⟨fun hm => by simp at hm, fun hm => absurd hm.1 h⟩
    have hcons : Nd l (O.drop i) y ↔ ((0 ≤ O[i] ∧ O[i] < l.length) ∧ Rch (sc l) O[i] y) ∨ Nd l (O.drop (i + 1)) y := by
      rw [List.drop_eq_getElem_cons hlt]
      unfold Nd
      simp only [List.mem_cons, exists_eq_or_imp]
    by_cases h : hasI s y = true
    · refine ⟨true, ⟨fun _ => hcons.2 (.inl (hsy.1 h)), fun _ => rfl⟩, (hs.and (has_ev s y hsl)).step fun k hk => ?_⟩
      rw [curtilageref21_Needed.l0, if_pos (by omega), if_pos (by omega), rdI O i hlt, hk.1]
      simp only [Option.bind_some]
      rw [hk.2]
      simp only [Option.bind_some]
      rw [if_pos h]
    · refine ⟨b, ⟨fun e => hcons.2 (.inr (hb.1 e)), fun e => ?_⟩, ((hs.and (has_ev s y hsl)).and hE).step fun k hk => ?_⟩
      · rcases hcons.1 e with e | e
        · exact absurd (hsy.2 e) h
        · exact hb.2 e
      · rw [curtilageref21_Needed.l0, if_pos (by omega), if_pos (by omega), rdI O i hlt, hk.1.1]
        simp only [Option.bind_some]
        rw [hk.1.2]
        simp only [Option.bind_some]
        rw [if_neg h, wrap_up (by omega) (by omega)]
        exact hk.2
theorem need_l1 (l : List S38) (hl : l.length < 4294967296) (hn : ∀ x, (nd_ l x).length ≤ 4294967296) (root : ByteArray) (L O : List Int) (G : Good l (firstAt (isNm root) l) L O) (hO : O.length ≤ 101) : ∀ (d i : Nat), i + d = l.length → Evt fun k => curtilagelaw21_DlNeeded.l1 k l root true i L O = some true := by
  have hlen := G.len
  intro d
  induction d with
  | zero =>
    intro i hi
    refine (Evt.all (P := fun _ => True) (fun _ => trivial)).step fun k _ => ?_
    have hpos := G.pos
    have h0 : rd O 0 = firstAt (isNm root) l := by
      have := rdI O 0 hpos
      have h2 := G.hd
      rw [List.head?_eq_getElem?, List.getElem?_eq_getElem hpos] at h2
      have := Option.some.inj h2
      simp_all
    have hr := G.rng (firstAt (isNm root) l) (List.mem_of_head? G.hd)
    obtain ⟨n, hn', e, hp⟩ := firstAt_hit hr.1
    rw [curtilagelaw21_DlNeeded.l1, if_neg (by omega), if_pos rfl, if_pos (by omega), h0, if_pos hr.1, if_pos hr.2, e, rdT l n hn']
    unfold isNm at hp
    rw [hp]
  | succ d ih =>
    intro i hi
    obtain ⟨b, hb, hE⟩ := rneeded_ev l hl hn O (by omega) i O.length 0 (by omega)
    have e : hasI L i = b := by
      rw [List.drop_zero, ← G.mem, ← hasI_iff] at hb
      cases h1 : hasI L (i : Int) <;> cases h2 : b <;> simp_all
    refine ((has_ev L i (by omega)).and (hE.and (ih (i + 1) (by omega)))).step fun k hk => ?_
    have h3 : curtilageref21_Needed.f k l O i = some b := hk.2.1
    rw [curtilagelaw21_DlNeeded.l1, if_pos (by omega), hk.1, h3, e]
    simp only [Option.bind_some]
    rw [if_neg (by simp), wrap_up (by omega) (by omega)]
    exact hk.2.2
theorem need_l0 (l : List S38) (hl : l.length < 4294967296) (hn : ∀ x, (nd_ l x).length ≤ 4294967296) (root : ByteArray) (L O : List Int) (G : Good l (firstAt (isNm root) l) L O) (hO : O.length ≤ 101) : ∀ (d i : Nat), i + d = O.length → Evt fun k => curtilagelaw21_DlNeeded.l0 k l root true i L O = some true := by
  intro d
  induction d with
  | zero =>
    intro i hi
    refine (need_l1 l hl hn root L O G hO l.length 0 (by omega)).step fun k hk => ?_
    rw [curtilagelaw21_DlNeeded.l0, if_neg (by omega)]
    exact hk
  | succ d ih =>
    intro i hi
    have hlt : i < O.length := by omega
    have hr := G.rng _ (List.getElem_mem hlt)
    refine (ih (i + 1) (by omega)).step fun k hk => ?_
    rw [curtilagelaw21_DlNeeded.l0, if_pos (by omega), if_pos (by omega), rdI O i hlt, if_neg (by omega), if_neg (by omega), wrap_up (by omega) (by omega)]
    exact hk
theorem DlNeeded : curtilagelaw21_DlNeeded.Pure := by
  intro l root ops hl _ hops
  have hl1 := hl.1
  refine Evt.ex ?_
  have A := awake_ev.and (short_ev l 12 hl1)
  have J0 : Evt fun k => curtilagelaw21_DlNeeded.j0 k l root ops true true = some true :=
    (Evt.all (P := fun _ => True) (fun _ => trivial)).step fun k _ => by rw [curtilagelaw21_DlNeeded.j0, if_pos rfl]
  unfold curtilagelaw21_DlNeeded.f
  by_cases hs : shortB l 12 = true
  · have hs' := of_decide_eq_true hs
    have hn := nd_le hs'.2
    by_cases ho : ops.length ≤ 40
    · have J : Evt fun k => curtilagelaw21_DlNeeded.j0 k l root ops true false = some true := by
        rcases made_ev l (by omega) hs'.2 root ops (by omega) with M | ⟨L, O, G, hO, M⟩
        · refine M.step fun k hk => ?_
          rw [curtilagelaw21_DlNeeded.j0, if_neg (by simp), hk]
          simp only [Option.bind_some, Bool.false_eq_true, if_false]
        · have hlen := G.len
          have hpos := G.pos
          have J1 : Evt fun k => curtilagelaw21_DlNeeded.j1 k l root true false L O = some true := (need_l0 l (by omega) (fun x => by have := hn x; omega) root L O G hO O.length 0 (by omega)).step fun k hk => by
            rw [curtilagelaw21_DlNeeded.j1, if_neg (by simp)]; exact hk
          have hr : rightB L l.length = true := decide_eq_true ⟨G.nd, G.lrng⟩
          have hz : ((O.length : Int) == 0) = false := by rw [beq_eq_false_iff_ne]; omega
          refine (M.and (J1.and (right_ev L l.length (by omega)))).step fun k hk => ?_
          rw [curtilagelaw21_DlNeeded.j0, if_neg (by simp), hk.1]
          simp only [Option.bind_some, if_true]
          rw [hk.2.2, hr]
          simp only [Option.bind_some, if_true]
          rw [hz]
          exact hk.2.1
      refine (A.and J).map fun k hk => ?_
      rw [hk.1.1, hk.1.2, hs, decide_eq_false (by omega)]
      simp only [Option.bind_some, if_true]
      exact hk.2
    · refine (A.and J0).map fun k hk => ?_
      rw [hk.1.1, hk.1.2, hs, decide_eq_true (by omega)]
      simp only [Option.bind_some, if_true]
      exact hk.2
  · refine (A.and J0).map fun k hk => ?_
    rw [hk.1.1, hk.1.2, eq_false_of_ne_true hs]
    simp only [Option.bind_some, Bool.false_eq_true, if_false]
    exact hk.2
end Go.Proofs.Ytociaidhgefpiaa.Pure
