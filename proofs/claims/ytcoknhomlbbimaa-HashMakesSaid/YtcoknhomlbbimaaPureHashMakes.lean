/- The pure statement of the law HashMakes. No condition. -/
import Derived.Test.YtcoknhomlbbimaaPStHashMakes
import Derived.Test.YtcoknhomlbbimaaTable
namespace Go.Proofs.Ytcoknhomlbbimaa.Pure
open Go.RowKit Go.Proofs.Ytcoknhomlbbimaa.P Go.Proofs.YtcoknhomlbbimaaW.PrintWords Go.Proofs.YtcoknhomlbbimaaW.PrintLast
set_option linter.unusedVariables false
set_option linter.unusedSimpArgs false

theorem rd_cell (xs : List Int) (i : Nat) (h : i < xs.length) : rd xs (i : Int) = xs[i] := by
  unfold rd
  rw [Int.toNat_natCast, List.getD_eq_getElem?_getD, List.getElem?_eq_getElem h]; rfl
theorem equal_from (xs : List Int) (hl : xs.length ≤ 1000) : ∀ (m i : Nat), i + m = xs.length → ∀ k, m + 1 ≤ k → slices_Equal_int_int.l0 k xs xs (xs.length : Int) (i : Int) = some true
  | m, i, hm, 0, hk => by omega
  | 0, i, hm, k + 1, hk => by rw [slices_Equal_int_int.l0, if_neg (by omega)]
  | m + 1, i, hm, k + 1, hk => by
    rw [slices_Equal_int_int.l0, if_pos (by omega), if_pos (by omega), if_pos (by omega), if_pos (by omega), if_pos rfl, show wrap64 ((i : Int) + 1) = ((i + 1 : Nat) : Int) by unfold wrap64; omega]
    exact equal_from xs hl m (i + 1) (by omega) k (by omega)
theorem equal_is (xs : List Int) (hl : xs.length ≤ 1000) : Ev fun k => slices_Equal_int_int.f k xs xs = some true :=
  ⟨xs.length + 1, fun k hk => by
    show slices_Equal_int_int.f k xs xs = _
    unfold slices_Equal_int_int.f
    rw [if_pos rfl]
    exact equal_from xs hl xs.length 0 (by omega) k hk⟩
theorem numbers_from (xs ys : List Int) (hl : xs.length ≤ 1000) (he : ys.length = xs.length) (hc : ∀ i : Nat, i < xs.length → rd xs (i : Int) = rd ys (i : Int)) : ∀ (m i : Nat), i + m = xs.length → ∀ k, m + 1 ≤ k → curtilageref10_Numbers.l0 k xs ys (i : Int) = some true
  | m, i, hm, 0, hk => by omega
  | 0, i, hm, k + 1, hk => by rw [curtilageref10_Numbers.l0, if_neg (by omega)]
  | m + 1, i, hm, k + 1, hk => by
    rw [curtilageref10_Numbers.l0, if_pos (by omega), if_pos (by omega), if_pos (by omega), if_pos (hc i (by omega)), show wrap64 ((i : Int) + 1) = ((i + 1 : Nat) : Int) by unfold wrap64; omega]
    exact numbers_from xs ys hl he hc m (i + 1) (by omega) k (by omega)
theorem numbers_is (xs ys : List Int) (hl : xs.length ≤ 1000) (he : ys.length = xs.length) (hc : ∀ i : Nat, i < xs.length → rd xs (i : Int) = rd ys (i : Int)) : Ev fun k => curtilageref10_Numbers.f k xs ys = some true :=
  ⟨xs.length + 1, fun k hk => by
    show curtilageref10_Numbers.f k xs ys = _
    unfold curtilageref10_Numbers.f
    rw [if_pos (by omega)]
    exact numbers_from xs ys hl he hc xs.length 0 (by omega) k hk⟩
/-- The next one of a bucket, behind a place. -/
theorem next_is (l : List S24) (n : Nat) (h0 : 1 ≤ n) (h1 : n ≤ 64) (hl : l.length ≤ 40) (hNm : NamesOk l) (b : Nat) (hb : b < n) : ∀ (m i : Nat), i + m = l.length →
    Ev fun k => curtilageref12_Next.f k l (n : Int) (b : Int) (i : Int) = some (fst1 (inB l n b) m i : Int)
  | 0, i, hm => (Ev.all (P := fun _ => True) fun _ => trivial).step fun k _ => by
      unfold curtilageref12_Next.f
      rw [curtilageref12_Next.l0, if_neg (by omega)]; rfl
  | m + 1, i, hm => by
      have ih := next_is l n h0 h1 hl hNm b hb m (i + 1) (by omega)
      refine (ih.and (refOf_is (nm l i).f0 (nm_ok l hNm i))).step fun k ⟨hk, ho⟩ => ?_
      unfold curtilageref12_Next.f at hk ⊢
      have hw : wrap64 ((i : Int) + 1) = ((i + 1 : Nat) : Int) := by unfold wrap64; omega
      rw [curtilageref12_Next.l0, if_pos (by omega), if_pos (by omega), rd_nm, shown_is, Option.bind_some, ho, Option.bind_some, fst1_succ, show symShown (nm l i) = sh l i from rfl, hw, hk]
      by_cases hs : sh l i = true
      · rw [if_pos hs, if_neg (by omega), tmod_is _ n h0 h1,
          show wrap64 ((hN (nm l i).f0 % n : Nat) : Int) = ((bk l n i : Nat) : Int) by have : hN (nm l i).f0 % n < n := Nat.mod_lt _ (by omega); unfold bk wrap64; omega]
        by_cases hbk : bk l n i = b
        · rw [if_pos (by omega), if_pos (by unfold inB; simp [hs, hbk])]
        · rw [if_neg (by omega), if_neg (by unfold inB; simp [hs, hbk])]
      · rw [if_neg hs, if_neg (by unfold inB; simp [hs])]
theorem buckets_from (l : List S24) (n : Nat) (h0 : 1 ≤ n) (h1 : n ≤ 64) (hl : l.length ≤ 40) (hNm : NamesOk l) (B C : List Int) (T : Tab l n B C) : ∀ (m b : Nat), b + m = n →
    Ev fun k => curtilageref12_Buckets.l0 k l (n : Int) (B.take b) (b : Int) = some B
  | 0, b, hb => (Ev.all (P := fun _ => True) fun _ => trivial).step fun k _ => by
      rw [curtilageref12_Buckets.l0, if_neg (by omega), List.take_of_length_le (by rw [T.lenB]; omega)]
  | m + 1, b, hb => by
      have ih := buckets_from l n h0 h1 hl hNm B C T m (b + 1) (by omega)
      refine (ih.and (next_is l n h0 h1 hl hNm b (by omega) l.length 0 (by omega))).step fun k ⟨hk, hn⟩ => ?_
      have hlt : b < B.length := by rw [T.lenB]; omega
      rw [curtilageref12_Buckets.l0, if_pos (by omega)]
      rw [show ((0 : Nat) : Int) = 0 from rfl] at hn
      rw [hn, Option.bind_some, if_pos (by rw [List.length_take]; omega), show wrap64 ((b : Int) + 1) = ((b + 1 : Nat) : Int) by unfold wrap64; omega, ← T.atB b (by omega), rd_cell B b hlt, ← List.take_succ_eq_append_getElem hlt]
      exact hk
theorem chain_from (l : List S24) (n : Nat) (h0 : 1 ≤ n) (h1 : n ≤ 64) (hl : l.length ≤ 40) (hNm : NamesOk l) (B C : List Int) (T : Tab l n B C) : ∀ (m i : Nat), i + m = l.length →
    Ev fun k => curtilageref12_Chain.l0 k l (n : Int) (C.take i) (i : Int) = some C
  | 0, i, hm => (Ev.all (P := fun _ => True) fun _ => trivial).step fun k _ => by
      rw [curtilageref12_Chain.l0, if_neg (by omega), List.take_of_length_le (by rw [T.lenC]; omega)]
  | m + 1, i, hm => by
      have ih := chain_from l n h0 h1 hl hNm B C T m (i + 1) (by omega)
      have hbn : bk l n i < n := Nat.mod_lt _ (by omega)
      refine ((ih.and (refOf_is (nm l i).f0 (nm_ok l hNm i))).and (next_is l n h0 h1 hl hNm (bk l n i) hbn m (i + 1) (by omega))).step fun k ⟨⟨hk, ho⟩, hn⟩ => ?_
      have hlt : i < C.length := by rw [T.lenC]; omega
      have hat := T.atC i (by omega)
      rw [rd_cell C i hlt, show l.length - 1 - i = m by omega] at hat
      rw [List.take_succ_eq_append_getElem hlt, hat] at hk
      have hw : wrap64 ((i : Int) + 1) = ((i + 1 : Nat) : Int) := by unfold wrap64; omega
      have hlen : (C.take i).length < 17592186044416 := by rw [List.length_take]; omega
      rw [curtilageref12_Chain.l0, if_pos (by omega), if_pos (by omega), rd_nm, shown_is, Option.bind_some, ho, Option.bind_some, hw, show symShown (nm l i) = sh l i from rfl]
      by_cases hs : sh l i = true
      · rw [if_pos hs] at hk ⊢
        rw [if_neg (by omega), tmod_is _ n h0 h1,
          show wrap64 ((hN (nm l i).f0 % n : Nat) : Int) = ((bk l n i : Nat) : Int) by have : hN (nm l i).f0 % n < n := Nat.mod_lt _ (by omega); unfold bk wrap64; omega,
          hn, Option.bind_some, if_pos hlen]
        exact hk
      · rw [if_neg hs] at hk ⊢
        rw [if_pos hlen]; exact hk
theorem HashMakes : curtilagelaw12_HashMakes.Pure := by
  intro l n hl hn
  have hNm := namesOk_of l hl.2.2
  by_cases hg : n < 1 ∨ n > 64 ∨ l.length > 40
  · have hj : Ev fun k => curtilagelaw12_HashMakes.j0 k l n true 1 true [] [] = some true :=
      (Ev.all (P := fun _ => True) fun _ => trivial).step fun k _ => by rw [curtilagelaw12_HashMakes.j0, if_pos rfl, if_pos rfl, if_pos rfl]; rfl
    refine ((awake_is.and hj).map fun k ⟨ha, hj⟩ => ?_).ex
    unfold curtilagelaw12_HashMakes.f
    rw [ha, make_bad l n hg, Option.bind_some, Option.bind_some]
    by_cases h1 : n < 1
    · rw [if_pos h1]; exact hj
    · rw [if_neg h1]
      by_cases h4 : n > 64
      · rw [if_pos h4]; exact hj
      · rw [if_neg h4, show decide ((l.length : Int) > 40) = true by simp; omega]; exact hj
  · obtain ⟨n, rfl⟩ := Int.eq_ofNat_of_zero_le (show 0 ≤ n by omega)
    have hll : l.length ≤ 40 := by omega
    obtain ⟨b, c, hm, T⟩ := make_ok l n (by omega) (by omega) hll hNm
    have hb := buckets_from l n (by omega) (by omega) hll hNm b c T n 0 (by omega)
    have hc := chain_from l n (by omega) (by omega) hll hNm b c T l.length 0 (by omega)
    have hv : Ev fun k => hash_Valid.f k b c l = some true :=
      ((equal_is b (by rw [T.lenB]; omega)).and (equal_is c (by rw [T.lenC]; omega))).map fun k ⟨e1, e2⟩ => by
        unfold hash_Valid.f
        rw [T.lenB, hm, Option.bind_some, if_pos rfl, e1, Option.bind_some, if_pos rfl, e2, Option.bind_some]
    have hj : Ev fun k => curtilagelaw12_HashMakes.j0 k l (n : Int) true 0 false b c = some true :=
      ((((hb.and hc).and hv).and (numbers_is b b (by rw [T.lenB]; omega) rfl fun _ _ => rfl)).and (numbers_is c c (by rw [T.lenC]; omega) rfl fun _ _ => rfl)).step fun k ⟨⟨⟨⟨hb, hc⟩, hv⟩, n1⟩, n2⟩ => by
        rw [curtilagelaw12_HashMakes.j0, if_neg (by simp), hv, Option.bind_some, if_pos rfl, if_pos rfl, if_pos rfl]
        rw [show curtilageref12_Buckets.f k l (n : Int) = some b from hb, Option.bind_some, n1, Option.bind_some, if_pos rfl, show curtilageref12_Chain.f k l (n : Int) = some c from hc, Option.bind_some, n2, Option.bind_some]
    refine ((awake_is.and hj).map fun k ⟨ha, hj⟩ => ?_).ex
    unfold curtilagelaw12_HashMakes.f
    rw [ha, hm, Option.bind_some, Option.bind_some, if_neg (by omega), if_neg (by omega), show decide ((l.length : Int) > 40) = false by simp; omega]
    exact hj
end Go.Proofs.Ytcoknhomlbbimaa.Pure
