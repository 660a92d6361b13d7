/- The pure statement of the law HashFinds. No condition. -/
import Derived.Test.YtcoknhomlbbimaaPStHashFinds
import Derived.Test.YtcoknhomlbbimaaTable
namespace Go.Proofs.Ytcoknhomlbbimaa.Pure
open Go.RowKit Go.Proofs.Ytcoknhomlbbimaa.P Go.Proofs.YtcoknhomlbbimaaW.PrintWords Go.Proofs.YtcoknhomlbbimaaW.PrintLast
set_option linter.unusedVariables false
set_option linter.unusedSimpArgs false

theorem HashFinds : curtilagelaw12_HashFinds.Pure := by
  intro l n name ver hl hn h2 h3
  have hNm := namesOk_of l hl.2.2
  by_cases hg : n < 1 ∨ n > 64 ∨ l.length > 40
  · have hj : Ev fun k => curtilagelaw12_HashFinds.j0 k l n name ver true 1 true [] [] = some true :=
      (Ev.all (P := fun _ => True) fun _ => trivial).step fun k _ => by rw [curtilagelaw12_HashFinds.j0, if_pos rfl]
    refine ((awake_is.and hj).map fun k ⟨ha, hj⟩ => ?_).ex
    unfold curtilagelaw12_HashFinds.f
    rw [ha, make_bad l n hg, Option.bind_some, Option.bind_some]
    by_cases h1 : n < 1
    · rw [if_pos h1]; exact hj
    · rw [if_neg h1]
      by_cases h4 : n > 64
      · rw [if_pos h4]; exact hj
      · rw [if_neg h4, show decide ((l.length : Int) > 40) = true by simp; omega]; exact hj
  · obtain ⟨n, rfl⟩ := Int.eq_ofNat_of_zero_le (show 0 ≤ n by omega)
    have hll : l.length ≤ 40 := by omega
    obtain ⟨b, c, hm, T⟩ := make_ok l n (by omega) (by omega) hll hNm
    have hnone : ∀ k, hash_Find.f k ([] : List Int) ([] : List Int) l name ver = some (-1) := fun k => by
      unfold hash_Find.f; rw [if_pos (by simp)]
    have hj1 : Ev fun k => curtilagelaw12_HashFinds.j1 k l name ver true false b c = some true :=
      ((find_is l n (by omega) (by omega) b c T hll name ver h2).and (refFind_is l hll name ver)).step fun k ⟨hf, hr⟩ => by
        rw [curtilagelaw12_HashFinds.j1]
        rw [if_neg (by simp), hf, Option.bind_some, hnone, Option.bind_some, if_pos rfl, hr, Option.bind_some, if_pos rfl]
        rfl
    have hj : Ev fun k => curtilagelaw12_HashFinds.j0 k l (n : Int) name ver true 0 false b c = some true :=
      hj1.step fun k hk => by
        rw [curtilagelaw12_HashFinds.j0]
        rw [if_neg (by simp), if_pos rfl, if_pos (by rw [T.lenB]), show ((c.length : Int) != (l.length : Int)) = false by rw [T.lenC]; simp]
        exact hk
    refine ((awake_is.and hj).map fun k ⟨ha, hj⟩ => ?_).ex
    unfold curtilagelaw12_HashFinds.f
    rw [ha, hm, Option.bind_some, Option.bind_some, if_neg (by omega), if_neg (by omega), show decide ((l.length : Int) > 40) = false by simp; omega]
    exact hj
end Go.Proofs.Ytcoknhomlbbimaa.Pure
