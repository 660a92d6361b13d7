/- The pure statement of the law HashMore. No condition. -/
import Derived.Test.YtcoknhomlbbimaaPStHashMore
import Derived.Test.YtcoknhomlbbimaaTable
namespace Go.Proofs.Ytcoknhomlbbimaa.Pure
open Go.RowKit Go.Proofs.Ytcoknhomlbbimaa.P Go.Proofs.YtcoknhomlbbimaaW.PrintWords Go.Proofs.YtcoknhomlbbimaaW.PrintLast
set_option linter.unusedVariables false
set_option linter.unusedSimpArgs false

theorem nm_append (l m : List S24) (i : Nat) (h : i < l.length) : nm (l ++ m) i = nm l i := by
  unfold nm rd_T24
  rw [Int.toNat_natCast, List.getD_eq_getElem?_getD, List.getD_eq_getElem?_getD, List.getElem?_append_left h]
theorem HashMore : curtilagelaw12_HashMore.Pure := by
  intro l m n name ver hl hm hn h2 h3
  by_cases hg : (l.length : Int) > 20 ∨ (m.length : Int) > 20 ∨ n < 1 ∨ n > 64
  · have hj : Ev fun k => curtilagelaw12_HashMore.j0 k l m n name ver true true = some true :=
      (Ev.all (P := fun _ => True) fun _ => trivial).step fun k _ => by rw [curtilagelaw12_HashMore.j0, if_pos rfl]
    refine ((awake_is.and hj).map fun k ⟨ha, hj⟩ => ?_).ex
    unfold curtilagelaw12_HashMore.f
    rw [ha, Option.bind_some]
    split
    · exact hj
    split
    · exact hj
    split
    · exact hj
    rw [show decide (n > 64) = true by simp; omega]; exact hj
  · obtain ⟨n, rfl⟩ := Int.eq_ofNat_of_zero_le (show 0 ≤ n by omega)
    have hNm := namesOk_of l hl.2.2
    have hN2 : NamesOk (l ++ m) := by
      intro s hs
      rcases List.mem_append.1 hs with h | h
      · exact (hl.2.2 s h).1
      · exact (hm.2.2 s h).1
    have hll : l.length ≤ 40 := by omega
    have hla : (l ++ m).length ≤ 40 := by rw [List.length_append]; omega
    obtain ⟨b, c, hmk, T⟩ := make_ok l n (by omega) (by omega) hll hNm
    obtain ⟨b2, c2, hmk2, T2⟩ := make_ok (l ++ m) n (by omega) (by omega) hla hN2
    have hfst : fst1 (isIt (l ++ m) name ver) l.length 0 = fst1 (isIt l name ver) l.length 0 :=
      fst1_congr _ _ _ _ fun j _ hj => by
        have e := nm_append l m j (by omega)
        unfold isIt sh; rw [e]
    have hall : fst1 (isIt (l ++ m) name ver) (l ++ m).length 0 = if fst1 (isIt l name ver) l.length 0 = 0 then fst1 (isIt (l ++ m) name ver) m.length l.length else fst1 (isIt l name ver) l.length 0 := by
      rw [List.length_append, fst1_add, hfst, Nat.zero_add]
    have hj1 : Ev fun k => curtilagelaw12_HashMore.j1 k l name ver true (l ++ m) false b c b2 c2 = some true :=
      ((find_is l n (by omega) (by omega) b c T hll name ver h2).and (find_is (l ++ m) n (by omega) (by omega) b2 c2 T2 hla name ver h2)).step fun k ⟨hf, hr⟩ => by
        rw [curtilagelaw12_HashMore.j1]
        rw [if_neg (by simp), hf, Option.bind_some, hr, Option.bind_some, if_pos rfl]
        unfold foundAt
        rw [hall]
        have hgt := fst1_gt (isIt (l ++ m) name ver) m.length l.length
        by_cases h0 : fst1 (isIt l name ver) l.length 0 = 0
        · rw [if_pos h0, h0, if_pos (by omega)]
          rcases hgt with h | h
          · rw [if_pos (by omega)]
          · rw [if_neg (by omega), if_pos (by omega)]
        · rw [if_neg h0, if_neg (by omega), if_pos (by omega)]; simp
    have hj : Ev fun k => curtilagelaw12_HashMore.j0 k l m (n : Int) name ver true false = some true :=
      hj1.step fun k hk => by
        rw [curtilagelaw12_HashMore.j0]
        rw [if_neg (by simp), Option.bind_some, if_pos (by simp; omega), Option.bind_some, List.nil_append, if_pos (by omega), Option.bind_some, hmk, Option.bind_some, hmk2, Option.bind_some,
          if_pos rfl, if_pos rfl, if_pos (by rw [T.lenB]), if_pos (by rw [T2.lenB]), if_pos (by rw [T.lenC]), show ((c2.length : Int) != ((l ++ m).length : Int)) = false by rw [T2.lenC]; simp]
        exact hk
    refine ((awake_is.and hj).map fun k ⟨ha, hj⟩ => ?_).ex
    unfold curtilagelaw12_HashMore.f
    rw [ha, Option.bind_some, if_neg (by omega), if_neg (by omega), if_neg (by omega), show decide ((n : Int) > 64) = false by simp; omega]
    exact hj
end Go.Proofs.Ytcoknhomlbbimaa.Pure
