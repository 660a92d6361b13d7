/- The pure statement of the law DlPlays. No condition. -/
import Derived.Test.YtociaidhgefpiaaKDlPlaysPStDlPlays
import Derived.Test.YtociaidhgefpiaaKDlPlaysSimB
import Derived.Test.YtociaidhgefpiaaKDlPlaysPureDlEither
import Derived.Test.YtociaidhgefpiaaKDlPlaysPureDlNeeded
namespace Go.Proofs.Ytociaidhgefpiaa.Pure
open Go.RowKit Go.Proofs.Ytociaidhgefpiaa.P Go.Proofs.YtociaidhgefpiaaW.PrintWords Go.Proofs.YtociaidhgefpiaaW.PrintLast
set_option linter.unusedVariables false
set_option linter.unusedSimpArgs false

theorem ropen_go (od b L O : List Int) (hb : b.length ≤ 4294967296) (hL : L.length ≤ 4294967296) (hO : O.length ≤ 4294967296) (hp : 0 < od.length) : ∀ (d i : Nat) (x : List Int), i + d = b.length → x.length ≤ i →
    Evt fun k => curtilageref21_Open.l0 k od b x i L O = some (L ++ (x ++ (b.drop i).filter (notIn L)), O ++ [rd od 0], x ++ (b.drop i).filter (notIn L), 0) := by
  intro d
  induction d with
  | zero =>
    intro i x hi hx
    refine (Evt.all (P := fun _ => True) (fun _ => trivial)).step fun k _ => ?_
    rw [curtilageref21_Open.l0, if_neg (by omega), List.drop_eq_nil_of_le (by omega)]
    simp only [Option.bind_some, List.nil_append, List.length_nil, List.length_cons, List.filter_nil, List.append_nil]
    rw [if_pos (by omega), if_pos (by omega), if_pos (by omega), if_pos (by omega), if_pos (by omega)]
  | succ d ih =>
    intro i x hi hx
    have hlt : i < b.length := by omega
    rw [List.drop_eq_getElem_cons hlt]
    by_cases h : hasI L b[i] = true
    · have hf : notIn L b[i] = false := by unfold notIn; rw [h]; rfl
      rw [List.filter_cons_of_neg (by rw [hf]; simp)]
      refine ((has_ev L b[i] (by omega)).and (ih (i + 1) x (by omega) (by omega))).step fun k hk => ?_
      rw [curtilageref21_Open.l0, if_pos (by omega), if_pos (by omega), rdI b i hlt, hk.1]
      simp only [Option.bind_some]
      rw [if_pos h, wrap_up (by omega) (by omega)]
      exact hk.2
    · have hf : notIn L b[i] = true := by unfold notIn; rw [eq_false_of_ne_true h]; rfl
      rw [List.filter_cons_of_pos hf]
      refine ((has_ev L b[i] (by omega)).and (ih (i + 1) (x ++ [b[i]]) (by omega) (by simp; omega))).step fun k hk => ?_
      rw [curtilageref21_Open.l0, if_pos (by omega), if_pos (by omega), rdI b i hlt, hk.1]
      simp only [Option.bind_some]
      rw [if_neg h, if_pos (by simp; omega), wrap_up (by omega) (by omega)]
      have := hk.2
      rw [List.append_assoc] at this
      exact this
/-- Both open the same way. -/
theorem both_open (l : List S38) (hl : l.length ≤ 20) (ho : ∀ o ∈ l, o.f1.length ≤ 10) (nm : ByteArray) : ∃ e : Int, (e ≠ 0 ∧ ∀ L O : List Int, L.length ≤ 4294967296 → O.length ≤ 4294967296 → Evt fun k => dl_Open.f k l L O nm = some (L, O, [], e) ∧ curtilageref21_Open.f k l L O nm = some (L, O, [], e)) ∨
    (e = 0 ∧ ∃ b, Opens l (firstAt (isNm nm) l) b ∧ ∀ L O : List Int, L.length ≤ 4294967296 → O.length ≤ 4294967296 → Evt fun k => dl_Open.f k l L O nm = some (L ++ b.filter (notIn L), O ++ [firstAt (isNm nm) l], b.filter (notIn L), 0) ∧ curtilageref21_Open.f k l L O nm = some (L ++ b.filter (notIn L), O ++ [firstAt (isNm nm) l], b.filter (notIn L), 0)) := by
  obtain ⟨r, hr, R⟩ := closure_ok l nm (by omega) ho
  have hC := rclosure_ev l nm (by omega) (fun x => by have := nd_le ho x; omega) hr
  refine ⟨r.2.2, ?_⟩
  rcases R with ⟨r0, _, c, hh⟩ | ⟨r1, _⟩
  · right
    refine ⟨r0, ?_⟩
    obtain ⟨b, hb, B⟩ := begs_ok l r.1 (by omega) (fun x hx => (c.rng x hx).2)
    have hbl : b.length ≤ l.length := len_le _ _ B.nd (fun x hx => ⟨(B.rng x hx).1, (B.rng x hx).2.1⟩)
    have hpos : 0 < r.1.length := List.length_pos_of_mem c.root
    have hrd : rd r.1 0 = firstAt (isNm nm) l := by
      have := rdI r.1 0 hpos
      rw [List.head?_eq_getElem?, List.getElem?_eq_getElem hpos] at hh
      have := Option.some.inj hh
      simp_all
    have hcl : ∀ x, Rch (sc l) (firstAt (isNm nm) l) x → x ∈ r.1 := by
      intro x hx
      induction hx with
      | refl => exact c.root
      | step _ hz hz0 ih => exact c.all _ ih _ hz
    refine ⟨b, ⟨B.nd, fun y hy => ⟨(B.rng y hy).1, (B.rng y hy).2.1⟩, fun y => ⟨fun hy => c.rch y (B.rng y hy).2.2, fun hy => B.all y (hcl y hy) (c.rng y (hcl y hy)).1 (c.rng y (hcl y hy)).2⟩, ?_, c.rng _ c.root⟩, fun L O hL hO => ?_⟩
    · rw [List.pairwise_iff_getElem]
      intro i j hi hj hij h
      exact B.good i j b[i] b[j] hij (List.getElem?_eq_getElem hi) (List.getElem?_eq_getElem hj) h
    · have h1 := open_good hr hL hO r0 hpos hb (by omega)
      rw [hrd] at h1
      refine (h1.and (hC.and (ropen_go r.1 b L O (by omega) hL hO hpos b.length 0 [] (by omega) (by simp)))).map fun k hk => ⟨hk.1, ?_⟩
      unfold curtilageref21_Open.f
      have e1 : curtilageref13_Begin.f l r.1 = some b := hb
      rw [hk.2.1]; simp only [Option.bind_some]
      rw [if_pos r0, e1]; simp only [Option.bind_some]
      rw [← hrd]
      simpa using hk.2.2
  · left
    refine ⟨by omega, fun L O hL hO => ((open_bad hr hL hO (by omega)).and hC).map fun k hk => ⟨hk.1, ?_⟩⟩
    unfold curtilageref21_Open.f
    rw [hk.2]; simp only [Option.bind_some]
    rw [if_neg (by omega)]

theorem LastAt.uniq {O : List Int} {j a b : Int} (h : LastAt O j a) (k : LastAt O j b) : a = b := by
  rcases h with ⟨e, h⟩ | ⟨n, hn, e, h1, h2, h3⟩ <;> rcases k with ⟨e', k⟩ | ⟨m, hm, e', k1, k2, k3⟩
  · omega
  · exact absurd k2 (h m hm k1)
  · exact absurd h2 (k n hn h1)
  · have : n = m := by
      rcases Nat.lt_trichotomy n m with h | h | h
      · exact absurd k2 (h3 m hm h)
      · exact h
      · exact absurd h2 (k3 n hn h)
    omega
theorem rclose_l2 (l : List S38) (hl : l.length < 4294967296) (hn : ∀ x, (nd_ l x).length ≤ 4294967296) (L O O' : List Int) (hL : L.length ≤ 4294967296) (hO' : O'.length ≤ 4294967296) (p : Int → Bool) (hp : ∀ y, p y = true ↔ Nd l O' y) : ∀ (d i : Nat) (x L1 : List Int), i + d = L.length → x.length ≤ i → L1.length ≤ i →
    Evt fun k => curtilageref21_Close.l2 k l x i L O L1 O' = some (L1 ++ (L.drop i).filter p, O', ((L.drop i).filter (fun y => !p y)).reverse ++ x, 0) := by
  intro d
  induction d with
  | zero =>
    intro i x L1 hi hx h1
    refine (Evt.all (P := fun _ => True) (fun _ => trivial)).step fun k _ => ?_
    rw [curtilageref21_Close.l2, if_neg (by omega), List.drop_eq_nil_of_le (by omega)]
    simp
  | succ d ih =>
    intro i x L1 hi hx h1
    have hlt : i < L.length := by omega
    rw [List.drop_eq_getElem_cons hlt]
    obtain ⟨b, hb, hE⟩ := rneeded_ev l hl hn O' hO' L[i] O'.length 0 (by omega)
    rw [List.drop_zero] at hb
    have e : p L[i] = b := by
      have := (hp L[i]).trans hb.symm
      cases h1 : p L[i] <;> cases h2 : b <;> simp_all
    have hE' : Evt fun k => curtilageref21_Needed.f k l O' L[i] = some (p L[i]) := hE.map fun k hk => by rw [e]; exact hk
    cases h : p L[i] with
    | true =>
      rw [h] at hE'
      rw [List.filter_cons_of_pos h, List.filter_cons_of_neg (by rw [h]; simp)]
      refine (hE'.and (ih (i + 1) x (L1 ++ [L[i]]) (by omega) (by omega) (by simp; omega))).step fun k hk => ?_
      rw [curtilageref21_Close.l2, if_pos (by omega), if_pos (by omega), rdI L i hlt, hk.1]
      simp only [Option.bind_some, if_true]
      rw [if_pos (by omega), wrap_up (by omega) (by omega)]
      have := hk.2
      rw [List.append_assoc] at this
      exact this
    | false =>
      rw [h] at hE'
      rw [List.filter_cons_of_neg (by rw [h]; simp), List.filter_cons_of_pos (by rw [h]; rfl)]
      refine (hE'.and (ih (i + 1) ([L[i]] ++ x) L1 (by omega) (by simp; omega) (by omega))).step fun k hk => ?_
      rw [curtilageref21_Close.l2, if_pos (by omega), if_pos (by omega), rdI L i hlt, hk.1]
      simp only [Option.bind_some, Bool.false_eq_true, if_false]
      rw [if_pos (by simp; omega), wrap_up (by omega) (by omega)]
      rw [List.reverse_cons, List.append_assoc]
      exact hk.2
theorem rclose_l1 (l : List S38) (hl : l.length < 4294967296) (hn : ∀ x, (nd_ l x).length ≤ 4294967296) (L O : List Int) (hL : L.length ≤ 4294967296) (hO : O.length ≤ 4294967296) (n : Nat) (hno : n < O.length) (p : Int → Bool) (hp : ∀ y, p y = true ↔ Nd l (O.take n ++ O.drop (n + 1)) y) : ∀ (d i : Nat) (x : List Int), i + d = O.length → x = (if i ≤ n then O.take i else O.take n ++ (O.take i).drop (n + 1)) →
    Evt fun k => curtilageref21_Close.l1 k l n i L O x = some (L.filter p, O.take n ++ O.drop (n + 1), (L.filter (fun y => !p y)).reverse, 0) := by
  intro d
  induction d with
  | zero =>
    intro i x hi hx
    have e3 : O.take i = O := List.take_of_length_le (by omega)
    have e : x = O.take n ++ O.drop (n + 1) := by rw [hx, if_neg (by omega), e3]
    have := rclose_l2 l hl hn L O (O.take n ++ O.drop (n + 1)) hL (by simp; omega) p hp L.length 0 [] [] (by omega) (by simp) (by simp)
    refine this.step fun k hk => ?_
    rw [curtilageref21_Close.l1, if_neg (by omega), e]
    simpa using hk
  | succ d ih =>
    intro i x hi hx
    have hlt : i < O.length := by omega
    by_cases h : i = n
    · subst h
      refine (ih (i + 1) x (by omega) (by
        rw [hx, if_pos (Nat.le_refl _), if_neg (by omega), List.drop_eq_nil_of_le (by simp; omega), List.append_nil])).step fun k hk => ?_
      rw [curtilageref21_Close.l1, if_pos (by omega), if_pos rfl, wrap_up (by omega) (by omega)]
      exact hk
    · have hxl : x.length ≤ O.length + O.length := by rw [hx]; split <;> simp <;> omega
      refine (ih (i + 1) (x ++ [O[i]]) (by omega) (by
        rw [hx]
        by_cases h2 : i ≤ n
        · rw [if_pos h2, if_pos (by omega), List.take_succ_eq_append_getElem hlt]
        · rw [if_neg h2, if_neg (by omega), List.take_succ_eq_append_getElem hlt, List.drop_append_of_le_length (by simp; omega), List.append_assoc])).step fun k hk => ?_
      rw [curtilageref21_Close.l1, if_pos (by omega), if_neg (by omega), if_pos (by omega), if_pos (by omega), rdI O i hlt, wrap_up (by omega) (by omega)]
      exact hk
theorem rclose_go (l : List S38) (hl : l.length < 4294967296) (hn : ∀ x, (nd_ l x).length ≤ 4294967296) (j : Int) (L O : List Int) (hL : L.length ≤ 4294967296) (hO : O.length ≤ 4294967296) (a' : Int) (hla : LastAt O j a') (r : List Int × List Int × List Int × Int) (hC : Closes l L O j a' r) : ∀ (d i : Nat) (a : Int), i + d = O.length → 1 ≤ i →
    ((a = 0 ∧ ∀ (q : Nat) (hq : q < O.length), 1 ≤ q → q < i → O[q] ≠ j) ∨ ∃ (n : Nat) (hn : n < O.length), a = (n : Int) ∧ 1 ≤ n ∧ n < i ∧ O[n] = j ∧ ∀ (q : Nat) (hq : q < O.length), n < q → q < i → O[q] ≠ j) →
    Evt fun k => curtilageref21_Close.l0 k l j a i L O = some r := by
  intro d
  induction d with
  | zero =>
    intro i a hi h1 ha
    have ej : ∀ k, curtilageref21_Close.l0 (k + 1) l j a i L O = curtilageref21_Close.j1 k l a (decide (j < 0) || (a == 0)) L O := by
      intro k
      rw [curtilageref21_Close.l0, if_neg (by omega)]
      by_cases hj : j < 0
      · rw [if_pos hj, decide_eq_true hj, Bool.true_or]
      · rw [if_neg hj, decide_eq_false hj, Bool.false_or]
    have J : Evt fun k => curtilageref21_Close.j1 k l a (decide (j < 0) || (a == 0)) L O = some r := by
      rcases hC with ⟨hb, rfl⟩ | ⟨hj, n, hno, p, e, h2, hp, rfl⟩
      · refine (Evt.all (P := fun _ => True) (fun _ => trivial)).step fun k _ => ?_
        have hz : j < 0 ∨ a = 0 := by
          rcases hb with hb | hb
          · exact .inl hb
          · rcases ha with ⟨e, _⟩ | ⟨m, hm, e, h3, h4, h5, _⟩
            · exact .inr e
            · rcases hla with ⟨_, h⟩ | ⟨q, hq, e2, _⟩
              · exact absurd h5 (h m hm h3)
              · omega
        rw [curtilageref21_Close.j1, if_pos (by simpa using hz)]
      · have ea : a = (n : Int) := by
          rcases ha with ⟨e0, h⟩ | ⟨m, hm, e0, h3, h4, h5, h6⟩
          · rcases hla with ⟨e3, _⟩ | ⟨q, hq, e3, h7, h8, _⟩
            · omega
            · exact absurd h8 (h q hq h7 (by omega))
          · have := hla.uniq (.inr ⟨m, hm, rfl, h3, h5, fun q hq h' => h6 q hq h' (by omega)⟩)
            omega
        subst ea
        refine (rclose_l1 l hl hn L O hL hO n hno p hp O.length 0 [] (by omega) (by simp)).step fun k hk => ?_
        rw [curtilageref21_Close.j1, if_neg (by simp; omega)]
        exact hk
    exact J.step fun k hk => by rw [ej]; exact hk
  | succ d ih =>
    intro i a hi h1 ha
    have hlt : i < O.length := by omega
    by_cases h : O[i] = j
    · refine (ih (i + 1) i (by omega) (by omega) (.inr ⟨i, hlt, rfl, h1, by omega, h, fun q hq h3 h4 => by omega⟩)).step fun k hk => ?_
      rw [curtilageref21_Close.l0, if_pos (by omega), if_pos (by omega), rdI O i hlt, if_pos h, wrap_up (by omega) (by omega)]
      exact hk
    · refine (ih (i + 1) a (by omega) (by omega) (by
        rcases ha with ⟨e, h'⟩ | ⟨n, hn', e, h2, h3, h4, h5⟩
        · refine .inl ⟨e, fun q hq h3 h4 => ?_⟩
          by_cases e : q = i
          · subst e; exact h
          · exact h' q hq h3 (by omega)
        · refine .inr ⟨n, hn', e, h2, by omega, h4, fun q hq h6 h7 => ?_⟩
          by_cases e : q = i
          · subst e; exact h
          · exact h5 q hq h6 (by omega))).step fun k hk => ?_
      rw [curtilageref21_Close.l0, if_pos (by omega), if_pos (by omega), rdI O i hlt, if_neg h, wrap_up (by omega) (by omega)]
      exact hk
theorem both_close (l : List S38) (hl : l.length ≤ 20) (ho : ∀ o ∈ l, o.f1.length ≤ 10) {a0 : Int} {L O : List Int} (h : Good l a0 L O) (hO : O.length ≤ 4294967296) (nm : ByteArray) : ∃ r, (Evt fun k => dl_Close.f k l L O nm = some r ∧ curtilageref21_Close.f k l L O nm = some r) ∧ Good l a0 r.1 r.2.1 ∧ r.2.1.length ≤ O.length ∧ r.2.2.1.length ≤ L.length := by
  have hlen := h.len
  have hpos := h.pos
  have hn : ∀ x, (nd_ l x).length ≤ 4294967296 := fun x => by have := nd_le ho x; omega
  obtain ⟨r, a, hla, hE, hC⟩ := close_ev l (by omega) hn nm L O (by omega) hO h.pos
  have hR := rclose_go l (by omega) hn (firstAt (isNm nm) l) L O (by omega) hO a hla r hC (O.length - 1) 1 0 (by omega) (by omega) (.inl ⟨rfl, fun q hq h1 h2 => by omega⟩)
  refine ⟨r, (hE.and (hR.and (rfind_ev l nm (by omega)))).map fun k hk => ⟨hk.1, ?_⟩, ?_⟩
  · unfold curtilageref21_Close.f
    rw [hk.2.2]; simp only [Option.bind_some]
    exact hk.2.1
  · rcases hC with ⟨_, rfl⟩ | ⟨_, n, hn, p, _, h1, hp, rfl⟩
    · exact ⟨h, Nat.le_refl _, by simp⟩
    · exact ⟨h.closed h1 hp, by simp; omega, by rw [List.length_reverse]; exact List.length_filter_le _ _⟩

structure InR (l : List S38) (acc : List Int) : Prop where
  nd : acc.Nodup
  rng : ∀ x ∈ acc, 0 ≤ x ∧ x < l.length
theorem InR.len {l : List S38} {acc : List Int} (h : InR l acc) : acc.length ≤ l.length := len_le _ _ h.nd h.rng
theorem InR.add {l : List S38} {acc : List Int} (h : InR l acc) {x : Int} (hx : 0 ≤ x ∧ x < l.length) (hn : ¬ hasI acc x = true) : InR l (acc ++ [x]) := by
  refine ⟨?_, fun y hy => ?_⟩
  · rw [List.nodup_append]
    exact ⟨h.nd, by simp, fun a ha b hb e => by simp at hb; subst hb; subst e; exact hn (hasI_iff.2 ha)⟩
  · rcases List.mem_append.1 hy with hy | hy
    · exact h.rng y hy
    · simp at hy; subst hy; exact hx
theorem scope_go (l : List S38) (hl : l.length ≤ 20) (ho : ∀ o ∈ l, o.f1.length ≤ 10) (O : List Int) (hO : O.length ≤ 4294967296) (hr : ∀ o ∈ O, 0 ≤ o ∧ o < l.length) : ∀ (d i : Nat) (acc : List Int), i + d = O.length → InR l acc →
    ∃ out, InR l out ∧ (Evt fun k => dl_Scope.l0 k l acc O O.length i = some out) ∧ Evt fun k => curtilageref21_Scope.l0 k l O acc i = some out := by
  intro d
  induction d with
  | zero =>
    intro i acc hi h
    refine ⟨acc, h, (Evt.all (P := fun _ => True) (fun _ => trivial)).step fun k _ => ?_, (Evt.all (P := fun _ => True) (fun _ => trivial)).step fun k _ => ?_⟩
    · rw [dl_Scope.l0, if_neg (by omega)]
    · rw [curtilageref21_Scope.l0, if_neg (by omega)]
  | succ d ih =>
    intro i acc hi h
    have hlt : i < O.length := by omega
    have hoi := hr _ (List.getElem_mem hlt)
    obtain ⟨r, hc, R⟩ := closure_ok l (rd_T38 l O[i]).f0 (by omega) ho
    have hC := rclosure_ev l (rd_T38 l O[i]).f0 (by omega) (fun x => by have := nd_le ho x; omega) hc
    have hin : ∀ x ∈ r.1, 0 ≤ x ∧ x < l.length := by
      rcases R with ⟨_, _, c, _⟩ | ⟨_, e⟩
      · exact c.rng
      · rw [e]; simp
    have hrl : r.1.length ≤ l.length := by
      rcases R with ⟨_, _, c, _⟩ | ⟨_, e⟩
      · exact len_le _ _ c.nd c.rng
      · rw [e]; simp
    have inner : ∀ (c j : Nat) (acc : List Int), j + c = r.1.length → InR l acc → ∃ out, InR l out ∧ (Evt fun k => dl_Scope.l1 k l acc O O.length i r.1 r.1.length j = some out) ∧ Evt fun k => curtilageref21_Scope.l1 k l O acc i r.1 j = some out := by
      intro c
      induction c with
      | zero =>
        intro j acc hj h
        obtain ⟨out, h1, h2, h3⟩ := ih (i + 1) acc (by omega) h
        refine ⟨out, h1, h2.step fun k hk => ?_, h3.step fun k hk => ?_⟩
        · rw [dl_Scope.l1, if_neg (by omega), wrap_up (by omega) (by omega)]; exact hk
        · rw [curtilageref21_Scope.l1, if_neg (by omega), wrap_up (by omega) (by omega)]; exact hk
      | succ c ihc =>
        intro j acc hj h
        have hjl : j < r.1.length := by omega
        have hlen := h.len
        by_cases hh : hasI acc r.1[j] = true
        · obtain ⟨out, h1, h2, h3⟩ := ihc (j + 1) acc (by omega) h
          refine ⟨out, h1, ((contains_ev acc r.1[j] (by omega)).and h2).step fun k hk => ?_, ((has_ev acc r.1[j] (by omega)).and h3).step fun k hk => ?_⟩
          · rw [dl_Scope.l1, if_pos (by omega), if_pos (by omega), if_pos (by omega), rdI r.1 j hjl, hk.1]
            simp only [Option.bind_some]
            rw [if_pos hh, wrap_up (by omega) (by omega)]; exact hk.2
          · rw [curtilageref21_Scope.l1, if_pos (by omega), if_pos (by omega), rdI r.1 j hjl, hk.1]
            simp only [Option.bind_some]
            rw [if_pos hh, wrap_up (by omega) (by omega)]; exact hk.2
        · obtain ⟨out, h1, h2, h3⟩ := ihc (j + 1) (acc ++ [r.1[j]]) (by omega) (h.add (hin _ (List.getElem_mem hjl)) hh)
          refine ⟨out, h1, ((contains_ev acc r.1[j] (by omega)).and h2).step fun k hk => ?_, ((has_ev acc r.1[j] (by omega)).and h3).step fun k hk => ?_⟩
          · rw [dl_Scope.l1, if_pos (by omega), if_pos (by omega), if_pos (by omega), rdI r.1 j hjl, hk.1]
            simp only [Option.bind_some]
            rw [if_neg hh, if_pos (by omega), wrap_up (by omega) (by omega)]; exact hk.2
          · rw [curtilageref21_Scope.l1, if_pos (by omega), if_pos (by omega), rdI r.1 j hjl, hk.1]
            simp only [Option.bind_some]
            rw [if_neg hh, if_pos (by omega), wrap_up (by omega) (by omega)]; exact hk.2
    obtain ⟨out, h1, h2, h3⟩ := inner r.1.length 0 acc (by omega) h
    refine ⟨out, h1, h2.step fun k hk => ?_, (hC.and h3).step fun k hk => ?_⟩
    · rw [dl_Scope.l0, if_pos (by omega), if_pos (by omega), if_pos (by omega), rdI O i hlt, if_pos hoi.1, if_pos hoi.2, hc]
      simp only [Option.bind_some]
      exact hk
    · rw [curtilageref21_Scope.l0, if_pos (by omega), if_pos (by omega), rdI O i hlt, if_pos hoi.1, if_pos hoi.2, hk.1]
      simp only [Option.bind_some]
      exact hk.2

theorem same_ev (L O : List Int) (hL : L.length ≤ 4294967296) (hO : O.length ≤ 4294967296) : Evt fun k => curtilagelaw21_same.f k L O L O = some true := by
  refine ((numbers_ev L L (by omega)).and (numbers_ev O O (by omega))).map fun k hk => ?_
  unfold curtilagelaw21_same.f
  rw [hk.1]
  simp only [Option.bind_some, decide_true, if_true]
  rw [hk.2]; simp
theorem plays_l2 (l : List S38) (hl : l.length ≤ 20) (x17 : List Int) (L O : List Int) (hO : O.length ≤ 4294967296) (x18 : Int) (hN : Evt fun k => curtilagelaw21_DlPlays.l1 k l true x17 (wrap64 (x18 + 1)) L O L O = some true) : ∀ (d i c : Nat), i + d = O.length → c ≤ i → c + (O.drop i).count x18 = O.count x18 → Evt fun k => curtilagelaw21_DlPlays.l2 k l true x17 x18 ((O.count x18 : Nat) : Int) c i L O L O = some true := by
  intro d
  induction d with
  | zero =>
    intro i c hi hc he
    refine hN.step fun k hk => ?_
    rw [List.drop_eq_nil_of_le (by omega)] at he
    simp only [List.count_nil, Nat.add_zero] at he
    rw [curtilagelaw21_DlPlays.l2, if_neg (by omega), if_pos (by omega)]
    exact hk
  | succ d ih =>
    intro i c hi hc he
    have hlt : i < O.length := by omega
    rw [List.drop_eq_getElem_cons hlt] at he
    by_cases h : O[i] = x18
    · rw [h, List.count_cons_self] at he
      refine (ih (i + 1) (c + 1) (by omega) (by omega) (by omega)).step fun k hk => ?_
      rw [curtilagelaw21_DlPlays.l2, if_pos (by omega), if_pos (by omega), rdI O i hlt, if_pos h, wrap_up (by omega) (by omega), wrap_up (by omega) (by omega)]
      exact hk
    · rw [List.count_cons_of_ne h] at he
      refine (ih (i + 1) c (by omega) (by omega) he).step fun k hk => ?_
      rw [curtilagelaw21_DlPlays.l2, if_pos (by omega), if_pos (by omega), rdI O i hlt, if_neg h, wrap_up (by omega) (by omega)]
      exact hk
theorem plays_l1 (l : List S38) (hl : l.length ≤ 20) (out L O : List Int) (hout : out.length ≤ 4294967296) (hO : O.length ≤ 4294967296) (hS : Evt fun k => curtilageref21_Scope.f k l O = some out) : ∀ (d i : Nat), i + d = l.length → Evt fun k => curtilagelaw21_DlPlays.l1 k l true out i L O L O = some true := by
  intro d
  induction d with
  | zero =>
    intro i hi
    refine (hS.and (numbers_ev out out (by omega))).step fun k hk => ?_
    rw [curtilagelaw21_DlPlays.l1, if_neg (by omega), if_pos rfl, hk.1]
    simp only [Option.bind_some]
    rw [hk.2]; simp
  | succ d ih =>
    intro i hi
    have h2 := plays_l2 l hl out L O hO i (by rw [wrap_up (by omega) (by omega)]; exact ih (i + 1) (by omega)) O.length 0 0 (by omega) (by omega) (by simp)
    refine ((count_ev i L O hO).and h2).step fun k hk => ?_
    rw [curtilagelaw21_DlPlays.l1, if_pos (by omega), hk.1]
    simp only [Option.bind_some]
    exact hk.2
theorem plays_l0 (l : List S38) (hl : l.length ≤ 20) (ho : ∀ o ∈ l, o.f1.length ≤ 10) (ops : List S58) (hops : ops.length ≤ 100) (a0 : Int) : ∀ (d i : Nat) (L O : List Int), i + d = ops.length → Good l a0 L O → O.length ≤ i + 1 → Evt fun k => curtilagelaw21_DlPlays.l0 k l ops true i L O L O = some true := by
  intro d
  induction d with
  | zero =>
    intro i L O hi h hO
    obtain ⟨out, h1, h2, h3⟩ := scope_go l hl ho O (by omega) h.rng O.length 0 [] (by omega) ⟨by simp, by simp⟩
    have hout := h1.len
    refine (h2.and (plays_l1 l hl out L O (by omega) (by omega) (h3.map fun k hk => hk) l.length 0 (by omega))).step fun k hk => ?_
    have e : dl_Scope.f k l L O = some out := hk.1
    rw [curtilagelaw21_DlPlays.l0, if_neg (by omega), e]
    simp only [Option.bind_some]
    exact hk.2
  | succ d ih =>
    intro i L O hi h hO
    have hlt : i < ops.length := by omega
    have hlen := h.len
    -- one call: both give r
    have call : ∀ r : List Int × List Int × List Int × Int, Good l a0 r.1 r.2.1 → r.2.1.length ≤ O.length + 1 → r.2.2.1.length ≤ 100 → Evt fun k => curtilagelaw21_DlPlays.j3 k l ops true r.2.2.2 r.2.2.2 i r.2.2.1 r.2.2.1 r.1 r.2.1 r.1 r.2.1 = some true := by
      intro r hG h1 h2
      have := hG.len
      refine ((same_ev r.1 r.2.1 (by omega) (by omega)).and ((numbers_ev r.2.2.1 r.2.2.1 (by omega)).and (ih (i + 1) r.1 r.2.1 (by omega) hG (by omega)))).step fun k hk => ?_
      rw [curtilagelaw21_DlPlays.j3, if_pos rfl, hk.1]
      simp only [Option.bind_some, if_true]
      rw [hk.2.1]
      simp only [Option.bind_some, decide_true, if_true]
      rw [wrap_up (by omega) (by omega)]
      exact hk.2.2
    cases hop : ops[i].f0 with
    | true =>
      obtain ⟨r, hE, hG, h1, h2⟩ : ∃ r, (Evt fun k => dl_Open.f k l L O ops[i].f1 = some r ∧ curtilageref21_Open.f k l L O ops[i].f1 = some r) ∧ Good l a0 r.1 r.2.1 ∧ r.2.1.length ≤ O.length + 1 ∧ r.2.2.1.length ≤ 100 := by
        obtain ⟨e, ⟨_, hE⟩ | ⟨_, b, hb, hE⟩⟩ := both_open l hl ho ops[i].f1
        · exact ⟨_, hE L O (by omega) (by omega), h, by simp, by simp⟩
        · refine ⟨_, hE L O (by omega) (by omega), h.opened hb, by simp, ?_⟩
          have h1 : (b.filter (notIn L)).length ≤ b.length := List.length_filter_le _ _
          have h2 := len_le l.length b hb.nd hb.rng
          show (b.filter (notIn L)).length ≤ 100
          omega
      refine (hE.and (call r hG h1 h2)).step fun k hk => ?_
      rw [curtilagelaw21_DlPlays.l0, if_pos (by omega), if_pos (by omega), rdOp ops i hlt, if_pos hop, hk.1.1]
      simp only [Option.bind_some]
      rw [hk.1.2]
      simp only [Option.bind_some]
      exact hk.2
    | false =>
      obtain ⟨r, hE, hG, h1, h2⟩ := both_close l hl ho h (by omega) ops[i].f1
      refine (hE.and (call r hG (by omega) (by omega))).step fun k hk => ?_
      rw [curtilagelaw21_DlPlays.l0, if_pos (by omega), if_pos (by omega), rdOp ops i hlt, if_neg (by rw [hop]; simp), hk.1.1]
      simp only [Option.bind_some]
      rw [hk.1.2]
      simp only [Option.bind_some]
      exact hk.2
theorem DlPlays : curtilagelaw21_DlPlays.Pure := by
  intro l root ops hl _ hops
  have hl1 := hl.1
  refine Evt.ex ?_
  have A := awake_ev.and (short_ev l 12 hl1)
  have J0 : Evt fun k => curtilagelaw21_DlPlays.j0 k l root ops true true = some true :=
    (Evt.all (P := fun _ => True) (fun _ => trivial)).step fun k _ => by rw [curtilagelaw21_DlPlays.j0, if_pos rfl]
  unfold curtilagelaw21_DlPlays.f
  by_cases hs : shortB l 12 = true
  · have hs' := of_decide_eq_true hs
    by_cases ho : ops.length ≤ 40
    · have J : Evt fun k => curtilagelaw21_DlPlays.j0 k l root ops true false = some true := by
        obtain ⟨e, ⟨he, hE⟩ | ⟨he, b, hb, hE⟩⟩ := both_open l (by omega) hs'.2 root
        · have J1 : Evt fun k => curtilagelaw21_DlPlays.j1 k l ops true e false [] [] [] [] = some true := (Evt.all (P := fun _ => True) (fun _ => trivial)).step fun k _ => by
            rw [curtilagelaw21_DlPlays.j1, if_neg (by simp), if_neg he]
          refine ((hE [] [] (by simp) (by simp)).and ((same_ev [] [] (by simp) (by simp)).and J1)).step fun k hk => ?_
          rw [curtilagelaw21_DlPlays.j0, if_neg (by simp)]
          unfold dl_Begun.f
          rw [hk.1.1]; simp only [Option.bind_some]
          rw [hk.1.2]; simp only [Option.bind_some, if_true]
          rw [hk.2.1]; simp only [Option.bind_some, Bool.not_true]
          exact hk.2.2
        · have G := begun_good hb
          have hlen := G.len
          have J1 : Evt fun k => curtilagelaw21_DlPlays.j1 k l ops true 0 false (([] : List Int) ++ b.filter (notIn [])) (([] : List Int) ++ [firstAt (isNm root) l]) (([] : List Int) ++ b.filter (notIn [])) (([] : List Int) ++ [firstAt (isNm root) l]) = some true := (plays_l0 l (by omega) hs'.2 ops (by omega) _ ops.length 0 _ _ (by omega) G (by simp)).step fun k hk => by
            rw [curtilagelaw21_DlPlays.j1, if_neg (by simp), if_pos rfl]
            exact hk
          refine ((hE [] [] (by simp) (by simp)).and ((same_ev (([] : List Int) ++ b.filter (notIn [])) (([] : List Int) ++ [firstAt (isNm root) l]) (by omega) (by simp)).and J1)).step fun k hk => ?_
          rw [curtilagelaw21_DlPlays.j0, if_neg (by simp)]
          unfold dl_Begun.f
          rw [hk.1.1]; simp only [Option.bind_some]
          rw [hk.1.2]; simp only [Option.bind_some, if_true]
          rw [hk.2.1]; simp only [Option.bind_some, Bool.not_true]
          exact hk.2.2
      refine (A.and J).map fun k hk => ?_
      rw [hk.1.1, hk.1.2, hs, decide_eq_false (by omega)]
      simp only [Option.bind_some, if_true]
      exact hk.2
    · refine (A.and J0).map fun k hk => ?_
      rw [hk.1.1, hk.1.2, hs, decide_eq_true (by omega)]
      simp only [Option.bind_some, if_true]
      exact hk.2
  · refine (A.and J0).map fun k hk => ?_
    rw [hk.1.1, hk.1.2, eq_false_of_ne_true hs]
    simp only [Option.bind_some, Bool.false_eq_true, if_false]
    exact hk.2
end Go.Proofs.Ytociaidhgefpiaa.Pure
