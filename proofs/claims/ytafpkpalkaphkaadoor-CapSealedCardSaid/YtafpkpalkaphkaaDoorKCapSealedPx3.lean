/- What functions of the program, and of its laws, give, each proved of its code by a walk; no condition. -/
import Derived.Test.YtafpkpalkaphkaaDoorKCapSealedPx0
import Derived.Test.YtafpkpalkaphkaaDoorKCapSealedNum
import Derived.Lib.AppendIntMem
namespace Go.Proofs.YtafpkpalkaphkaaDoor.P
open Go.RowKit Go.Proofs.YtafpkpalkaphkaaDoorW.PrintWords Go.Proofs.YtafpkpalkaphkaaDoorW.PrintLast Go.Proofs.YtafpkpalkaphkaaDoorW.PrintMore
attribute [local go_sem] max2_int min2_int max_two min_two max_three min_three max_four min_four   -- for this text's walks alone
set_option linter.unusedVariables false
set_option linter.unusedSimpArgs false

def cap_Text_1.f (a0 : Int) : Option ByteArray := if 0 ≤ a0 ∧ a0 < 18446744073709551616 then some ⟨(Lib.itoa a0).toArray⟩ else none
theorem tab_on {P : Program} {B : Nat} {w w' : World} {name : String} {k : IntKind} {zs : List Int} (h : Lib.TabBelow P B w name k zs) (hb : Below B w w') : Lib.TabIs P w' name k zs := h w' hb
theorem below_grown (w : World) (k : Nat) (os : Array Obj) : Below w.heap.size w (Go.Sort.grow (w.drewN k) os) := Go.Lib.below_grow _ w (Nat.le_refl _) k os
theorem cap_Text_1.calls (a0 : Int) (r : ByteArray) (w : World) (h : cap_Text_1.f a0 = some r) (htab : Lib.TabIs Tryd.prog w "internal/strconv.uint64pow10" .u64 Lib.pow10Tab) :
    Calls Tryd.prog 38 #[.int .u64 a0] w fun e w' => e = .returned (.string r) ∧ Below w.heap.size w w' := by
  unfold cap_Text_1.f at h
  by_cases hr : 0 ≤ a0 ∧ a0 < 18446744073709551616
  case neg => rw [if_neg hr] at h; cases h
  rw [if_pos hr] at h
  obtain rfl := Option.some.inj h
  obtain ⟨u, rfl⟩ := Int.eq_ofNat_of_zero_le hr.1
  refine (Tryd.cap_Text_number u (by omega) w htab).mono ?_
  rintro e w' ⟨rfl, k, os, rfl⟩
  exact ⟨rfl, below_grown w k os⟩

end Go.Proofs.YtafpkpalkaphkaaDoor.P
