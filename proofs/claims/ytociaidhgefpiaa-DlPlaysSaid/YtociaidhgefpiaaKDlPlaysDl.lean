/- What opening and closing give, in plain words. No condition. -/
import Derived.Test.YtociaidhgefpiaaKDlPlaysFix
namespace Go.Proofs.Ytociaidhgefpiaa.Pure
open Go.RowKit Go.Proofs.Ytociaidhgefpiaa.P Go.Proofs.YtociaidhgefpiaaW.PrintWords Go.Proofs.YtociaidhgefpiaaW.PrintLast
set_option linter.unusedVariables false
set_option linter.unusedSimpArgs false

def Nd (l : List S38) (O : List Int) (y : Int) : Prop := ∃ o ∈ O, (0 ≤ o ∧ o < l.length) ∧ Rch (sc l) o y
theorem firstAt_any (bs : List Bool) : decide (0 ≤ firstAt (fun b => b) bs) = bs.any id := by
  unfold firstAt
  cases h : bs.findIdx? (fun b => b) with
  | none =>
    rw [List.findIdx?_eq_none_iff] at h
    have : bs.any id = false := by
      rw [List.any_eq_false]
      intro x hx
      simp [h x hx]
    rw [this]
    exact decide_eq_false (by simp)
  | some i =>
    rw [List.findIdx?_eq_some_iff_getElem] at h
    obtain ⟨hi, hb, _⟩ := h
    have : bs.any id = true := List.any_eq_true.2 ⟨bs[i], List.getElem_mem hi, by simpa using hb⟩
    rw [this]
    exact decide_eq_true (by simp)
section
variable (l : List S38) (hl : l.length < 4294967296) (hn : ∀ x, (nd_ l x).length ≤ 4294967296)
include hl hn
theorem reaches_ev (y o : Int) : ∃ b : Bool, (b = true ↔ (0 ≤ o ∧ o < l.length) ∧ Rch (sc l) o y) ∧ Evt fun k => reaches k l y o = some b := by
  obtain ⟨r, hE, h⟩ := greach_ev l o hl hn
  have hrl : r.length ≤ 9223372036854775807 := by
    rcases h with ⟨h0, h1, F⟩ | ⟨_, rfl⟩
    · have := len_le l.length r F.nodup (fun x hx => rch_range h0 h1 ((F.mem x).1 hx)); omega
    · simp
  refine ⟨hasI r y, ?_, (hE.and (contains_ev r y hrl)).map fun k hk => ?_⟩
  · rcases h with ⟨h0, h1, F⟩ | ⟨h, rfl⟩
    · rw [hasI_iff, F.mem]; exact ⟨fun h => ⟨⟨h0, h1⟩, h⟩, fun h => h.2⟩
    · rw [hasI_iff]
      exact ⟨fun hm => by simp at hm, fun hm => absurd hm.1 h⟩
  · unfold reaches; rw [hk.1]; simp only [Option.bind_some]; exact hk.2
theorem all_ev (y : Int) : ∀ O : List Int, ∃ bs : List Bool, (bs.any id = true ↔ Nd l O y) ∧ Evt fun k => allOf (reaches k l y) O = some bs
  | [] => ⟨[], by simp [Nd], Evt.all fun k => rfl⟩
  | o :: O => by
    obtain ⟨b, hb, hE⟩ := reaches_ev l hl hn y o
    obtain ⟨bs, hbs, hE2⟩ := all_ev y O
    refine ⟨b :: bs, ?_, (hE.and hE2).map fun k hk => ?_⟩
    · rw [List.any_cons, Bool.or_eq_true, hbs]
      unfold Nd
      simp only [id, hb, List.mem_cons, exists_eq_or_imp]
    · unfold allOf
      rw [hk.1]; simp only [Option.bind_some]
      rw [hk.2]; rfl
theorem dneeded_ev (L O : List Int) (y : Int) : ∃ b : Bool, (b = true ↔ Nd l O y) ∧ Evt fun k => dl_State_needed.f k L O l y = some b := by
  obtain ⟨bs, h, hE⟩ := all_ev l hl hn y O
  refine ⟨bs.any id, h, hE.map fun k hk => ?_⟩
  unfold dl_State_needed.f
  rw [hk]; simp only [Option.bind_some]
  rw [firstAt_any]
theorem needed_fn (O : List Int) : ∃ p : Int → Bool, (∀ y, p y = true ↔ Nd l O y) ∧ ∀ L y, Evt fun k => dl_State_needed.f k L O l y = some (p y) := by
  refine ⟨fun y => @decide (Nd l O y) (Classical.propDecidable _), fun y => @decide_eq_true_iff _ (Classical.propDecidable _), fun L y => ?_⟩
  obtain ⟨b, hb, hE⟩ := dneeded_ev l hl hn L O y
  have : b = @decide (Nd l O y) (Classical.propDecidable _) := by
    cases b with
    | true => exact (@decide_eq_true _ (Classical.propDecidable _) (hb.1 rfl)).symm
    | false => exact (@decide_eq_false _ (Classical.propDecidable _) (fun h => by have := hb.2 h; cases this)).symm
  show Evt fun k => dl_State_needed.f k L O l y = some (@decide (Nd l O y) (Classical.propDecidable _))
  rw [← this]; exact hE
end

def notIn (L : List Int) (x : Int) : Bool := !hasI L x
theorem notIn_iff {L : List Int} {x : Int} : notIn L x = true ↔ x ∉ L := by
  unfold notIn
  rw [Bool.not_eq_true', hasI_no]
theorem copied_ev {L O : List Int} (hL : L.length ≤ 8589934592) (hO : O.length ≤ 8589934592) : dl_State_copied.f L O = some (L, O) := by
  unfold dl_State_copied.f
  rw [if_pos (by omega), if_pos (by omega)]
theorem open_go (b L O L1 O1 : List Int) (hb : b.length ≤ 4294967296) (hL : L.length ≤ 4294967296) (hL1 : L1.length ≤ 4294967296) : ∀ (d i : Nat) (x7 : List Int), i + d = b.length → x7.length ≤ i →
    Evt fun k => dl_Open.l0 k x7 b b.length i L O L1 O1 = some (L1 ++ (x7 ++ (b.drop i).filter (notIn L)), O1, x7 ++ (b.drop i).filter (notIn L), 0) := by
  intro d
  induction d with
  | zero =>
    intro i x7 hi hx
    refine (Evt.all (P := fun _ => True) (fun _ => trivial)).step fun k _ => ?_
    rw [dl_Open.l0, if_neg (by omega), if_pos (by omega), List.drop_eq_nil_of_le (by omega)]
    simp
  | succ d ih =>
    intro i x7 hi hx
    have hlt : i < b.length := by omega
    rw [List.drop_eq_getElem_cons hlt]
    by_cases h : hasI L b[i] = true
    · have hf : notIn L b[i] = false := by unfold notIn; rw [h]; rfl
      rw [List.filter_cons_of_neg (by rw [hf]; simp)]
      refine ((contains_ev L b[i] (by omega)).and (ih (i + 1) x7 (by omega) (by omega))).step fun k hk => ?_
      rw [dl_Open.l0, if_pos (by omega), if_pos (by omega), if_pos (by omega), rdI b i hlt, hk.1]
      simp only [Option.bind_some]
      rw [if_pos h, wrap_up (by omega) (by omega)]
      exact hk.2
    · have hf : notIn L b[i] = true := by unfold notIn; rw [eq_false_of_ne_true h]; rfl
      rw [List.filter_cons_of_pos hf]
      refine ((contains_ev L b[i] (by omega)).and (ih (i + 1) (x7 ++ [b[i]]) (by omega) (by simp; omega))).step fun k hk => ?_
      rw [dl_Open.l0, if_pos (by omega), if_pos (by omega), if_pos (by omega), rdI b i hlt, hk.1]
      simp only [Option.bind_some]
      rw [if_neg h, if_pos (by omega), wrap_up (by omega) (by omega)]
      have := hk.2
      rw [List.append_assoc] at this
      exact this
theorem open_bad {l : List S38} {nm : ByteArray} {r : List Int × ByteArray × Int} (hr : graph_Closure.f l nm = some r) {L O : List Int} (hL : L.length ≤ 4294967296) (hO : O.length ≤ 4294967296) (h : r.2.2 ≠ 0) : Evt fun k => dl_Open.f k l L O nm = some (L, O, [], r.2.2) := by
  refine Evt.all fun k => ?_
  unfold dl_Open.f
  rw [hr]; simp only [Option.bind_some]
  rw [if_neg h, copied_ev (by omega) (by omega)]
  rfl
theorem open_good {l : List S38} {nm : ByteArray} {r : List Int × ByteArray × Int} (hr : graph_Closure.f l nm = some r) {L O : List Int} (hL : L.length ≤ 4294967296) (hO : O.length ≤ 4294967296) (h : r.2.2 = 0) (hp : 0 < r.1.length) {b : List Int} (hb : begs l r.1 = some b) (hbl : b.length ≤ 4294967296) :
    Evt fun k => dl_Open.f k l L O nm = some (L ++ b.filter (notIn L), O ++ [rd r.1 0], b.filter (notIn L), 0) := by
  refine (open_go b L O L (O ++ [rd r.1 0]) hbl hL hL b.length 0 [] (by omega) (by simp)).map fun k hk => ?_
  unfold dl_Open.f
  have e1 : graph_Begin.f l r.1 = some b := hb
  rw [hr]; simp only [Option.bind_some]
  rw [if_pos h, copied_ev (by omega) (by omega)]
  simp only [Option.bind_some]
  rw [if_pos (by omega), if_pos (by omega), e1]
  simp only [Option.bind_some]
  simpa using hk

theorem close_l1 (l : List S38) (O : List Int) (p : Int → Bool) (hp : ∀ L y, Evt fun k => dl_State_needed.f k L O l y = some (p y)) (L : List Int) (hL : L.length ≤ 4294967296) : ∀ (d i : Nat) (x7 L1 : List Int), i + d = L.length → x7.length ≤ i → L1.length ≤ i →
    Evt fun k => dl_Close.l1 k l x7 L L.length i L1 O = some (L1 ++ (L.drop i).filter p, O, (x7 ++ (L.drop i).filter (fun y => !p y)).reverse, 0) := by
  intro d
  induction d with
  | zero =>
    intro i x7 L1 hi hx h1
    refine (reverse_ev x7 (by omega)).step fun k hk => ?_
    rw [dl_Close.l1, if_neg (by omega), hk, List.drop_eq_nil_of_le (by omega)]
    simp
  | succ d ih =>
    intro i x7 L1 hi hx h1
    have hlt : i < L.length := by omega
    rw [List.drop_eq_getElem_cons hlt]
    have hnd := hp L1 L[i]
    cases h : p L[i] with
    | true =>
      rw [List.filter_cons_of_pos h, List.filter_cons_of_neg (by rw [h]; simp)]
      refine (hnd.and (ih (i + 1) x7 (L1 ++ [L[i]]) (by omega) (by omega) (by simp; omega))).step fun k hk => ?_
      rw [dl_Close.l1, if_pos (by omega), if_pos (by omega), if_pos (by omega), rdI L i hlt, hk.1, h]
      simp only [Option.bind_some, if_true]
      rw [if_pos (by omega), wrap_up (by omega) (by omega)]
      have := hk.2
      rw [List.append_assoc] at this
      exact this
    | false =>
      rw [List.filter_cons_of_neg (by rw [h]; simp), List.filter_cons_of_pos (by rw [h]; rfl)]
      refine (hnd.and (ih (i + 1) (x7 ++ [L[i]]) L1 (by omega) (by simp; omega) (by omega))).step fun k hk => ?_
      rw [dl_Close.l1, if_pos (by omega), if_pos (by omega), if_pos (by omega), rdI L i hlt, hk.1, h]
      simp only [Option.bind_some, Bool.false_eq_true, if_false]
      rw [if_pos (by omega), wrap_up (by omega) (by omega)]
      have := hk.2
      rw [List.append_assoc] at this
      exact this
/-- Is this the last place, but for the first, where a list has a number? -/
def LastAt (O : List Int) (j a : Int) : Prop := (a = -1 ∧ ∀ (q : Nat) (hq : q < O.length), 1 ≤ q → O[q] ≠ j) ∨ ∃ (n : Nat) (hn : n < O.length), a = (n : Int) ∧ 1 ≤ n ∧ O[n] = j ∧ ∀ (q : Nat) (hq : q < O.length), n < q → O[q] ≠ j
/-- What a close gives. -/
def Closes (l : List S38) (L O : List Int) (j a : Int) (r : List Int × List Int × List Int × Int) : Prop := ((j < 0 ∨ a < 0) ∧ r = (L, O, [], 210)) ∨ (0 ≤ j ∧ ∃ (n : Nat) (hn : n < O.length) (p : Int → Bool), a = (n : Int) ∧ 1 ≤ n ∧ (∀ y, p y = true ↔ Nd l (O.take n ++ O.drop (n + 1)) y) ∧ r = (L.filter p, O.take n ++ O.drop (n + 1), (L.filter (fun y => !p y)).reverse, 0))
theorem close_j1 (l : List S38) (hl : l.length < 4294967296) (hn : ∀ x, (nd_ l x).length ≤ 4294967296) (j a : Int) (L O : List Int) (hL : L.length ≤ 4294967296) (hO : O.length ≤ 4294967296) (ha : LastAt O j a) : ∃ r, (Evt fun k => dl_Close.j1 k l [] a (decide (j < 0) || decide (a < 0)) L O L O = some r) ∧ Closes l L O j a r := by
  by_cases hb : j < 0 ∨ a < 0
  · refine ⟨(L, O, [], 210), (Evt.all (P := fun _ => True) (fun _ => trivial)).step fun k _ => ?_, .inl ⟨hb, rfl⟩⟩
    rw [dl_Close.j1, if_pos (by simpa using hb)]
  · rcases ha with ⟨e, _⟩ | ⟨n, hno, e, h1, _, _⟩
    · exact absurd (.inr (by omega)) hb
    · obtain ⟨p, hp, hE⟩ := needed_fn l hl hn (O.take n ++ O.drop (n + 1))
      have := close_l1 l (O.take n ++ O.drop (n + 1)) p hE L hL L.length 0 [] [] (by omega) (by simp) (by simp)
      refine ⟨_, this.step fun k hk => ?_, .inr ⟨by omega, n, hno, p, e, h1, hp, rfl⟩⟩
      have hd : slices_Delete_int_int.f O a (wrap64 (a + 1)) = some (O.take n ++ O.drop (n + 1)) := by
        unfold slices_Delete_int_int.f
        subst e
        rw [wrap_up (by omega) (by omega), if_pos (by omega), show ((n : Int) + 1).toNat = n + 1 by omega, Int.toNat_natCast]
      rw [dl_Close.j1, if_neg (by simpa using hb), hd]
      simpa using hk
theorem close_go (l : List S38) (hl : l.length < 4294967296) (hn : ∀ x, (nd_ l x).length ≤ 4294967296) (j : Int) (L O : List Int) (hL : L.length ≤ 4294967296) (hO : O.length ≤ 4294967296) : ∀ (d i : Nat) (a : Int), i + d = O.length → 1 ≤ i →
    ((a = -1 ∧ ∀ (q : Nat) (hq : q < O.length), 1 ≤ q → q < i → O[q] ≠ j) ∨ ∃ (n : Nat) (hn : n < O.length), a = (n : Int) ∧ 1 ≤ n ∧ n < i ∧ O[n] = j ∧ ∀ (q : Nat) (hq : q < O.length), n < q → q < i → O[q] ≠ j) →
    ∃ r a', LastAt O j a' ∧ (Evt fun k => dl_Close.l0 k l j a i L O L O = some r) ∧ Closes l L O j a' r := by
  intro d
  induction d with
  | zero =>
    intro i a hi h1 ha
    have hla : LastAt O j a := by
      rcases ha with ⟨e, h⟩ | ⟨n, hn', e, h2, h3, h4, h5⟩
      · exact .inl ⟨e, fun q hq h' => h q hq h' (by omega)⟩
      · exact .inr ⟨n, hn', e, h2, h4, fun q hq h' => h5 q hq h' (by omega)⟩
    obtain ⟨r, hE, hC⟩ := close_j1 l hl hn j a L O hL hO hla
    refine ⟨r, a, hla, hE.step fun k hk => ?_, hC⟩
    rw [dl_Close.l0, if_neg (by omega)]
    by_cases hj : j < 0
    · rw [if_pos hj]; rw [decide_eq_true hj, Bool.true_or] at hk; exact hk
    · rw [if_neg hj]; rw [decide_eq_false hj, Bool.false_or] at hk; exact hk
  | succ d ih =>
    intro i a hi h1 ha
    have hlt : i < O.length := by omega
    by_cases h : O[i] = j
    · obtain ⟨r, a', h2, hE, hC⟩ := ih (i + 1) i (by omega) (by omega) (.inr ⟨i, hlt, rfl, h1, by omega, h, fun q hq h3 h4 => by omega⟩)
      refine ⟨r, a', h2, hE.step fun k hk => ?_, hC⟩
      rw [dl_Close.l0, if_pos (by omega), if_pos (by omega), rdI O i hlt, if_pos h, wrap_up (by omega) (by omega)]
      exact hk
    · obtain ⟨r, a', h2, hE, hC⟩ := ih (i + 1) a (by omega) (by omega) (by
        rcases ha with ⟨e, h'⟩ | ⟨n, hn', e, h2, h3, h4, h5⟩
        · refine .inl ⟨e, fun q hq h3 h4 => ?_⟩
          by_cases e : q = i
          · subst e; exact h
          · exact h' q hq h3 (by omega)
        · refine .inr ⟨n, hn', e, h2, by omega, h4, fun q hq h6 h7 => ?_⟩
          by_cases e : q = i
          · subst e; exact h
          · exact h5 q hq h6 (by omega))
      refine ⟨r, a', h2, hE.step fun k hk => ?_, hC⟩
      rw [dl_Close.l0, if_pos (by omega), if_pos (by omega), rdI O i hlt, if_neg h, wrap_up (by omega) (by omega)]
      exact hk
theorem close_ev (l : List S38) (hl : l.length < 4294967296) (hn : ∀ x, (nd_ l x).length ≤ 4294967296) (nm : ByteArray) (L O : List Int) (hL : L.length ≤ 4294967296) (hO : O.length ≤ 4294967296) (hpos : 0 < O.length) :
    ∃ r a, LastAt O (firstAt (isNm nm) l) a ∧ (Evt fun k => dl_Close.f k l L O nm = some r) ∧ Closes l L O (firstAt (isNm nm) l) a r := by
  obtain ⟨r, a, h1, hE, hC⟩ := close_go l hl hn (firstAt (isNm nm) l) L O hL hO (O.length - 1) 1 (-1) (by omega) (by omega) (.inl ⟨rfl, fun q hq h1 h2 => by omega⟩)
  refine ⟨r, a, h1, hE.map fun k hk => ?_, hC⟩
  unfold dl_Close.f
  have e1 : graph_Find.f l nm = some (firstAt (isNm nm) l) := rfl
  rw [copied_ev (by omega) (by omega)]; simp only [Option.bind_some]
  rw [e1]; simp only [Option.bind_some]
  exact hk

structure Good (l : List S38) (a0 : Int) (L O : List Int) : Prop where
  nd : L.Nodup
  mem : ∀ y, y ∈ L ↔ Nd l O y
  rng : ∀ o ∈ O, 0 ≤ o ∧ o < l.length
  hd : O.head? = some a0
  ord : L.Pairwise fun x y => y ∈ sc l x → Rch (sc l) y x
theorem Good.pos {l : List S38} {a0 : Int} {L O : List Int} (h : Good l a0 L O) : 0 < O.length := by
  have := h.hd
  cases O with
  | nil => simp at this
  | cons o O => simp
theorem Good.lrng {l : List S38} {a0 : Int} {L O : List Int} (h : Good l a0 L O) : ∀ y ∈ L, 0 ≤ y ∧ y < l.length := by
  intro y hy
  obtain ⟨o, _, ⟨h0, h1⟩, hr⟩ := (h.mem y).1 hy
  exact rch_range h0 h1 hr
theorem Good.len {l : List S38} {a0 : Int} {L O : List Int} (h : Good l a0 L O) : L.length ≤ l.length := len_le _ _ h.nd h.lrng
theorem Nd.step {l : List S38} {O : List Int} {x z : Int} (h : Nd l O x) (hz : z ∈ sc l x) (h0 : 0 ≤ z) : Nd l O z := by
  obtain ⟨o, ho, hr, hx⟩ := h
  exact ⟨o, ho, hr, Rch.step hx hz h0⟩
/-- What an open gives: the state L, O becomes this one. -/
structure Opens (l : List S38) (a : Int) (b : List Int) : Prop where
  nd : b.Nodup
  rng : ∀ y ∈ b, 0 ≤ y ∧ y < l.length
  mem : ∀ y, y ∈ b ↔ Rch (sc l) a y
  ord : b.Pairwise fun x y => y ∈ sc l x → Rch (sc l) y x
  here : 0 ≤ a ∧ a < l.length
theorem Good.opened {l : List S38} {a0 a : Int} {L O b : List Int} (h : Good l a0 L O) (o : Opens l a b) : Good l a0 (L ++ b.filter (notIn L)) (O ++ [a]) := by
  refine ⟨?_, fun y => ?_, fun x hx => ?_, ?_, ?_⟩
  · rw [List.nodup_append]
    refine ⟨h.nd, o.nd.filter _, fun x hx y hy e => ?_⟩
    subst e
    exact notIn_iff.1 (List.mem_filter.1 hy).2 hx
  · rw [List.mem_append, List.mem_filter, h.mem, notIn_iff]
    constructor
    · rintro (⟨q, hq, hr, hx⟩ | ⟨hy, _⟩)
      · exact ⟨q, by simp [hq], hr, hx⟩
      · exact ⟨a, by simp, o.here, (o.mem y).1 hy⟩
    · rintro ⟨q, hq, hr, hx⟩
      rcases List.mem_append.1 hq with hq | hq
      · exact .inl ⟨q, hq, hr, hx⟩
      · simp at hq; subst hq
        by_cases hy : y ∈ L
        · exact .inl ((h.mem y).1 hy)
        · exact .inr ⟨(o.mem y).2 hx, hy⟩
  · rcases List.mem_append.1 hx with hx | hx
    · exact h.rng x hx
    · simp at hx; subst hx; exact o.here
  · rw [List.head?_append, h.hd]; rfl
  · rw [List.pairwise_append]
    refine ⟨h.ord, o.ord.filter _, fun x hx y hy hs => ?_⟩
    have hy' := List.mem_filter.1 hy
    exact absurd ((h.mem y).2 (((h.mem x).1 hx).step hs (o.rng y hy'.1).1)) (notIn_iff.1 hy'.2)
theorem sub_cut {O : List Int} {n : Nat} {x : Int} (h : x ∈ O.take n ++ O.drop (n + 1)) : x ∈ O := by
  rcases List.mem_append.1 h with h | h
  · exact List.mem_of_mem_take h
  · exact List.mem_of_mem_drop h
theorem Good.closed {l : List S38} {a0 : Int} {L O : List Int} (h : Good l a0 L O) {n : Nat} (h1 : 1 ≤ n) {p : Int → Bool} (hp : ∀ y, p y = true ↔ Nd l (O.take n ++ O.drop (n + 1)) y) : Good l a0 (L.filter p) (O.take n ++ O.drop (n + 1)) := by
  refine ⟨h.nd.filter _, fun y => ?_, fun x hx => h.rng x (sub_cut hx), ?_, h.ord.filter _⟩
  · rw [List.mem_filter, hp]
    refine ⟨fun h => h.2, fun hy => ⟨?_, hy⟩⟩
    obtain ⟨q, hq, hr, hx⟩ := hy
    exact (h.mem y).2 ⟨q, sub_cut hq, hr, hx⟩
  · have := h.hd
    cases O with
    | nil => simp at this
    | cons o O =>
      obtain ⟨m, rfl⟩ : ∃ m, n = m + 1 := ⟨n - 1, by omega⟩
      simpa using this
theorem rdOp (ops : List S58) (i : Nat) (h : i < ops.length) : rd_T58 ops (i : Int) = ops[i] := by simp [rd_T58, List.getD_eq_getElem?_getD, List.getElem?_eq_getElem h]
theorem begun_good {l : List S38} {a : Int} {b : List Int} (o : Opens l a b) : Good l a (([] : List Int) ++ b.filter (notIn [])) (([] : List Int) ++ [a]) := by
  have hf : b.filter (notIn []) = b := List.filter_eq_self.2 (fun x _ => by simp [notIn_iff])
  rw [hf, List.nil_append, List.nil_append]
  refine ⟨o.nd, fun y => ?_, fun x hx => by simp at hx; subst hx; exact o.here, rfl, o.ord⟩
  rw [o.mem]
  constructor
  · intro h; exact ⟨a, by simp, o.here, h⟩
  · rintro ⟨q, hq, _, hx⟩
    simp at hq; subst hq; exact hx
end Go.Proofs.Ytociaidhgefpiaa.Pure
