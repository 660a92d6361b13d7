/- The pure statement of the law HashValid. No condition. -/
import Derived.Test.YtcoknhomlbbimaaPStHashValid
import Derived.Test.YtcoknhomlbbimaaTable
import Derived.DataShut
namespace Go.Proofs.Ytcoknhomlbbimaa.Pure
open Go.RowKit Go.Proofs.Ytcoknhomlbbimaa.P Go.Proofs.YtcoknhomlbbimaaW.PrintWords Go.Proofs.YtcoknhomlbbimaaW.PrintLast
set_option linter.unusedVariables false
set_option linter.unusedSimpArgs false

theorem rd_at (xs : List Int) (i : Nat) (h : i < xs.length) : rd xs (i : Int) = xs[i] := by
  unfold rd
  rw [Int.toNat_natCast, List.getD_eq_getElem?_getD, List.getElem?_eq_getElem h]; rfl
theorem eq_from (xs ys : List Int) (hl : xs.length ≤ 1000) (he : ys.length = xs.length) : ∀ (m i : Nat), i + m = xs.length → ∀ k, m + 1 ≤ k → slices_Equal_int_int.l0 k xs ys (xs.length : Int) (i : Int) = some (decide (xs.drop i = ys.drop i))
  | m, i, hm, 0, hk => by omega
  | 0, i, hm, k + 1, hk => by
    rw [slices_Equal_int_int.l0, if_neg (by omega), List.drop_eq_nil_of_le (by omega), List.drop_eq_nil_of_le (by omega)]
    simp
  | m + 1, i, hm, k + 1, hk => by
    have h1 : i < xs.length := by omega
    have h2 : i < ys.length := by omega
    rw [slices_Equal_int_int.l0, if_pos (by omega), if_pos (by omega), if_pos (by omega), if_pos (by omega), show wrap64 ((i : Int) + 1) = ((i + 1 : Nat) : Int) by unfold wrap64; omega, rd_at xs i h1, rd_at ys i h2, List.drop_eq_getElem_cons h1, List.drop_eq_getElem_cons h2]
    have ih := eq_from xs ys hl he m (i + 1) (by omega) k (by omega)
    by_cases hc : xs[i] = ys[i]
    · rw [if_pos hc, ih, hc]; congr 1; exact decide_eq_decide.2 ⟨fun h => by rw [h], fun h => (List.cons.inj h).2⟩
    · rw [if_neg hc]; congr 1; exact (decide_eq_false (fun h => hc (List.cons.inj h).1)).symm
theorem eq_is (xs ys : List Int) (hl : xs.length ≤ 1000) : Ev fun k => slices_Equal_int_int.f k xs ys = some (decide (xs = ys)) := by
  refine ⟨xs.length + 1, fun k hk => ?_⟩
  show slices_Equal_int_int.f k xs ys = _
  unfold slices_Equal_int_int.f
  by_cases he : ys.length = xs.length
  · rw [if_pos (by omega)]
    have := eq_from xs ys hl he xs.length 0 (by omega) k hk
    simpa using this
  · rw [if_neg (by omega)]
    have : xs ≠ ys := fun h => he (by rw [h])
    simp [this]
theorem set_same (xs : List Int) (i : Nat) (h : i < xs.length) (v : Int) : decide (xs.set i v = xs) = (rd xs (i : Int) == v) := by
  rw [rd_at xs i h]
  by_cases hv : xs[i] = v
  · subst hv; simp
  · have : xs.set i v ≠ xs := by
      intro he
      have h2 : (xs.set i v)[i]? = xs[i]? := by rw [he]
      rw [List.getElem?_set_self h, List.getElem?_eq_getElem h] at h2
      exact hv (Option.some.inj h2).symm
    simp [this, hv]
theorem valid_is (l : List S24) (n : Nat) (b c : List Int) (hm : hash_Make.f l (n : Int) = some (b, c, 0)) (B C : List Int) (hB : B.length = n) (hb : n ≤ 1000) (hC : C.length ≤ 1000) : Ev fun k => hash_Valid.f k B C l = some (decide (B = b) && decide (C = c)) :=
  ((eq_is B b (by omega)).and (eq_is C c hC)).map fun k ⟨e1, e2⟩ => by
    unfold hash_Valid.f
    rw [hB, hm, Option.bind_some, if_pos rfl, e1, Option.bind_some, e2]
    by_cases h : B = b
    · simp [h]
    · simp [h]
theorem HashValid : curtilagelaw12_HashValid.Pure := by
  intro l n pl tv hl hn hp ht
  have hNm := namesOk_of l hl.2.2
  have hp' : -9223372036854775808 ≤ pl ∧ pl ≤ 9223372036854775807 := by
    have := (Lit.wf_int_iff .i64 pl).1 hp
    simpa [IntKind.min, IntKind.max, IntKind.signed, IntKind.bits] using this
  by_cases hg : n < 1 ∨ n > 64 ∨ l.length > 40
  · have hj : Ev fun k => curtilagelaw12_HashValid.j0 k l n pl tv true 1 true [] [] = some true :=
      (Ev.all (P := fun _ => True) fun _ => trivial).step fun k _ => by rw [curtilagelaw12_HashValid.j0, if_pos rfl, if_pos rfl]; rfl
    refine ((awake_is.and hj).map fun k ⟨ha, hj⟩ => ?_).ex
    unfold curtilagelaw12_HashValid.f
    rw [ha, make_bad l n hg, Option.bind_some, Option.bind_some, if_neg (by show ¬ ((1 : Int) = 0); omega)]
    exact hj
  · obtain ⟨n, rfl⟩ := Int.eq_ofNat_of_zero_le (show 0 ≤ n by omega)
    have hll : l.length ≤ 40 := by omega
    obtain ⟨b, c, hm, T⟩ := make_ok l n (by omega) (by omega) hll hNm
    have hless : Ev fun k => hash_Valid.f k b ([] : List Int) l = some ((l.length : Int) == 0) :=
      (valid_is l n b c hm b [] T.lenB (by omega) (by simp)).map fun k h => by
        rw [h]
        have hc : c.length = l.length := T.lenC
        cases c with
        | nil => simp at hc; simp [← hc]
        | cons x xs => simp at hc; simp [← hc]; omega
    have hj1 : ∀ u, (u = decide (pl < 0 ∨ pl ≥ (n : Int) + l.length)) → Ev fun k => curtilagelaw12_HashValid.j1 k l (n : Int) pl tv true u b c b c = some true := by
      intro u hu
      by_cases hr : pl < 0 ∨ pl ≥ (n : Int) + l.length
      · refine (Ev.all (P := fun _ => True) fun _ => trivial).step fun k _ => ?_
        rw [curtilagelaw12_HashValid.j1, hu, if_pos (by simpa using hr)]
      · have hu' : u = false := by rw [hu]; simpa using hr
        subst hu'
        obtain ⟨p, rfl⟩ := Int.eq_ofNat_of_zero_le (show 0 ≤ pl by omega)
        by_cases hin : p < n
        · refine ((valid_is l n b c hm (b.set p tv) c (by simpa using T.lenB) (by omega) (by rw [T.lenC]; omega)).and hless).step fun k ⟨h1, h2⟩ => ?_
          rw [curtilagelaw12_HashValid.j1, if_neg (by simp), if_pos (by omega), if_pos (by omega), if_pos (show (p : Int) < (b.length : Int) by rw [T.lenB]; omega), Int.toNat_natCast, h1, Option.bind_some, h2, Option.bind_some, if_pos rfl, set_same b p (by rw [T.lenB]; omega) tv]
          simp
        · obtain ⟨q, rfl⟩ : ∃ q, p = n + q := ⟨p - n, by omega⟩
          have hw : wrap64 (((n + q : Nat) : Int) - (n : Int)) = (q : Int) := by unfold wrap64; omega
          refine ((valid_is l n b c hm b (c.set q tv) T.lenB (by omega) (by rw [List.length_set, T.lenC]; omega)).and hless).step fun k ⟨h1, h2⟩ => ?_
          rw [curtilagelaw12_HashValid.j1, if_neg (by simp), if_neg (by omega), hw, if_pos (by omega), if_pos (show (q : Int) < (c.length : Int) by rw [T.lenC]; omega), Int.toNat_natCast, h1, Option.bind_some, h2, Option.bind_some, if_pos rfl, set_same c q (by rw [T.lenC]; omega) tv]
          simp
    have hj : Ev fun k => curtilagelaw12_HashValid.j0 k l (n : Int) pl tv true 0 false b c = some true := by
      by_cases hneg : pl < 0
      · refine (hj1 true (by simp [hneg])).step fun k hk => ?_
        rw [curtilagelaw12_HashValid.j0, if_neg (by simp), Option.bind_some, List.nil_append, if_pos (by rw [T.lenB]; simp; omega), Option.bind_some, Option.bind_some, List.nil_append, if_pos (by rw [T.lenC]; simp; omega), Option.bind_some, if_pos hneg]
        exact hk
      · refine (hj1 (decide (pl ≥ wrap64 ((n : Int) + (l.length : Int)))) (by rw [show wrap64 ((n : Int) + (l.length : Int)) = (n : Int) + l.length by unfold wrap64; omega]; simp [hneg])).step fun k hk => ?_
        rw [curtilagelaw12_HashValid.j0, if_neg (by simp), Option.bind_some, List.nil_append, if_pos (by rw [T.lenB]; simp; omega), Option.bind_some, Option.bind_some, List.nil_append, if_pos (by rw [T.lenC]; simp; omega), Option.bind_some, if_neg hneg]
        exact hk
    refine ((awake_is.and hj).map fun k ⟨ha, hj⟩ => ?_).ex
    unfold curtilagelaw12_HashValid.f
    rw [ha, hm, Option.bind_some, Option.bind_some, if_pos rfl, if_pos (by rw [T.lenB]), show ((c.length : Int) != (l.length : Int)) = false by rw [T.lenC]; simp]
    exact hj
end Go.Proofs.Ytcoknhomlbbimaa.Pure
