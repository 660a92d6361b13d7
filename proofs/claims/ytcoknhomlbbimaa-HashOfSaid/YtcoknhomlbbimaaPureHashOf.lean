/- The pure statement of the law HashOf. No condition. -/
import Derived.Test.YtcoknhomlbbimaaPStHashOf
import Derived.Test.YtcoknhomlbbimaaBase
namespace Go.Proofs.Ytcoknhomlbbimaa.Pure
open Go.RowKit Go.Proofs.Ytcoknhomlbbimaa.P Go.Proofs.YtcoknhomlbbimaaW.PrintWords Go.Proofs.YtcoknhomlbbimaaW.PrintLast

theorem HashOf : curtilagelaw12_HashOf.Pure := by
  intro y0 y1 h0 h1
  refine ((awake_is.and (refOf_is y0 h0)).map fun k ⟨ha, hr⟩ => ?_).ex
  unfold curtilagelaw12_HashOf.f
  rw [ha, Option.bind_some]
  by_cases hs : (y0.size : Int) > 1000
  · rw [if_pos hs]
  · rw [if_neg hs, Of_is y0 (by omega), Option.bind_some, hr]
    obtain ⟨r, hr, e⟩ := hashOf_nat y0
    rw [e]
    have hlt : ((r : Nat) : Int) < 268435456 := by omega
    rw [show hash_Shown.f = curtilageref12_Shown.f from rfl]
    have hS : ∃ b, curtilageref12_Shown.f y1.f0 y1.f1 y1.f2 y1.f3 y1.f4 y1.f5 y1.f6 y1.f7 = some b := by
      unfold curtilageref12_Shown.f
      split
      · split
        · exact ⟨_, rfl⟩
        · exact ⟨_, rfl⟩
      · exact ⟨_, rfl⟩
    obtain ⟨b, hb⟩ := hS
    simp [hb, hlt]
end Go.Proofs.Ytcoknhomlbbimaa.Pure
