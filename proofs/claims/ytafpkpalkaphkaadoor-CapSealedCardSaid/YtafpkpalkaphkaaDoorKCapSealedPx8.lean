/- What functions of the program, and of its laws, give, each proved of its code by a walk; no condition. -/
import Derived.Test.YtafpkpalkaphkaaDoorKCapSealedPx0
import Derived.Test.YtafpkpalkaphkaaDoorKCapSealedPx1
import Derived.Test.YtafpkpalkaphkaaDoorKCapSealedPx3
import Derived.Test.YtafpkpalkaphkaaDoorKCapSealedPx4
import Derived.Test.YtafpkpalkaphkaaDoorKCapSealedPx5
import Derived.Test.YtafpkpalkaphkaaDoorKCapSealedPx6
import Derived.Test.YtafpkpalkaphkaaDoorKCapSealedPx7
namespace Go.Proofs.YtafpkpalkaphkaaDoor.P
open Go.RowKit Go.Proofs.YtafpkpalkaphkaaDoorW.PrintWords Go.Proofs.YtafpkpalkaphkaaDoorW.PrintLast Go.Proofs.YtafpkpalkaphkaaDoorW.PrintMore
attribute [local go_sem] max2_int min2_int max_two min_two max_three min_three max_four min_four   -- for this text's walks alone
set_option linter.unusedVariables false
set_option linter.unusedSimpArgs false

attribute [local go_sem high] eqA24
def curtilagelaw02_awake.f (k : Nat)  : Option (Bool) := (cap_Root.f 100).bind fun bt208 => ((cap_Move.f bt208.1 bt208.2.1 bt208.2.2.1 bt208.2.2.2.1 bt208.2.2.2.2.1 bt208.2.2.2.2.2 10).bind fun bt215 => ((cap_Bound.f bt215.1 bt215.2.1 bt215.2.2.1 bt215.2.2.2.1 bt215.2.2.2.2.1 bt215.2.2.2.2.2 5).bind fun bt221 => ((cap_Move.f bt208.1 bt208.2.1 bt208.2.2.1 bt208.2.2.2.1 bt208.2.2.2.2.1 bt208.2.2.2.2.2 98).bind fun bt228 => ((cap_Bound.f bt228.1 bt228.2.1 bt228.2.2.1 bt228.2.2.2.1 bt228.2.2.2.2.1 bt228.2.2.2.2.2 5).bind fun bt234 => ((cap_Check.f bt221.1 bt221.2.1 bt221.2.2.1 bt221.2.2.2.1 bt221.2.2.2.2.1 bt221.2.2.2.2.2 5 1).bind fun t241 => ((cap_Check.f bt221.1 bt221.2.1 bt221.2.2.1 bt221.2.2.2.1 bt221.2.2.2.2.1 bt221.2.2.2.2.2 6 1).bind fun t242 => ((cap_Move.f bt208.1 bt208.2.1 bt208.2.2.1 bt208.2.2.2.1 bt208.2.2.2.2.1 bt208.2.2.2.2.2 3).bind fun bt243 => ((cap_Seal.f bt208.1 bt208.2.1 bt208.2.2.1 bt208.2.2.2.1 bt208.2.2.2.2.1 bt208.2.2.2.2.2 bt243.1 bt243.2.1 bt243.2.2.1 bt243.2.2.2.1 bt243.2.2.2.2.1 bt243.2.2.2.2.2).bind fun bt249 => ((cap_Move.f bt208.1 bt208.2.1 bt208.2.2.1 bt208.2.2.2.1 bt208.2.2.2.2.1 bt208.2.2.2.2.2 3).bind fun bt256 => ((cap_Unseal.f bt249.1 bt249.2.1 bt249.2.2.1 bt249.2.2.2.1 bt249.2.2.2.2.1 bt249.2.2.2.2.2 bt256.1 bt256.2.1 bt256.2.2.1 bt256.2.2.2.1 bt256.2.2.2.2.1 bt256.2.2.2.2.2).bind fun bt262 => ((cap_Check.f bt249.1 bt249.2.1 bt249.2.2.1 bt249.2.2.2.1 bt249.2.2.2.2.1 bt249.2.2.2.2.2 1 1).bind fun t269 => ((cap_Text.f k bt208.1 bt208.2.1 bt208.2.2.1 bt208.2.2.2.1 bt208.2.2.2.2.1 bt208.2.2.2.2.2).bind fun t270 => (if (bt221.1 == 10 && (bt221.2.1 == 15 && (bt221.2.2.1 == 10 && (bt221.2.2.2.1 == 255 && (bt221.2.2.2.2.1 == (-1) && (bt221.2.2.2.2.2)))))) = true then (if bt234.2.2.2.2.2 = true then (some false) else (if t241 = 0 then (if t242 = 23 then (if (bt262.1 == bt208.1 && (bt262.2.1 == bt208.2.1 && (bt262.2.2.1 == bt208.2.2.1 && (bt262.2.2.2.1 == bt208.2.2.2.1 && (bt262.2.2.2.2.1 == bt208.2.2.2.2.1 && (bt262.2.2.2.2.2 == bt208.2.2.2.2.2)))))) = true then (if t269 = 21 then (some (t270.toList == ([43, 48, 46, 46, 49, 48, 48, 64, 48, 58, 50, 53, 53] : List UInt8))) else (some false)) else (some false)) else (some false)) else (some false))) else (some false))))))))))))))
theorem curtilagelaw02_awake.mono : ∀ k, LeO (curtilagelaw02_awake.f k ) (curtilagelaw02_awake.f (k + 1) ) := by
  intro  k
  unfold curtilagelaw02_awake.f
  repeat' first
      | (with_reducible exact cap_Text.mono _ _ _ _ _ _ _)
      | (with_reducible exact LeO.refl _)
      | (with_reducible exact LeO.none _)
      | (with_reducible refine LeO.ite ?_ ?_)
      | (with_reducible refine LeO.bind ?_ (fun _ => ?_))
      | exact cap_Text.mono _ _ _ _ _ _ _
      | exact LeO.none _
      | refine LeO.ite ?_ ?_
      | refine LeO.bind ?_ (fun _ => ?_)
set_option maxHeartbeats 8000000 in
set_option maxRecDepth 100000 in
theorem curtilagelaw02_awake.calls (k : Nat)  (r : Bool) (w : World) (h : curtilagelaw02_awake.f k  = some r) (htab : Lib.TabIs Tryd.prog w "internal/strconv.uint64pow10" .u64 Lib.pow10Tab) :
    Calls Tryd.prog 10 #[] w fun e w' => e = .returned (.bool r) ∧ Below w.heap.size w w' := by
  have HT := Aside0.mk (Option.some.inj ((more_rounds (g := curtilagelaw02_awake.f) curtilagelaw02_awake.mono k 40 r h).symm.trans (show curtilagelaw02_awake.f (k + 40) = some true by kernel_rfl)))
  have HTAB := Aside0.mk (Lib.tabBelow_of_tabIs htab)
  clear htab
  have hu24 := Tryd.underlying24
  have HB := Aside0.mk (Below.refl w.heap.size w)
  have H : ((cap_Root.f 100).bind fun bt208 => ((cap_Move.f bt208.1 bt208.2.1 bt208.2.2.1 bt208.2.2.2.1 bt208.2.2.2.2.1 bt208.2.2.2.2.2 10).bind fun bt215 => ((cap_Bound.f bt215.1 bt215.2.1 bt215.2.2.1 bt215.2.2.2.1 bt215.2.2.2.2.1 bt215.2.2.2.2.2 5).bind fun bt221 => ((cap_Move.f bt208.1 bt208.2.1 bt208.2.2.1 bt208.2.2.2.1 bt208.2.2.2.2.1 bt208.2.2.2.2.2 98).bind fun bt228 => ((cap_Bound.f bt228.1 bt228.2.1 bt228.2.2.1 bt228.2.2.2.1 bt228.2.2.2.2.1 bt228.2.2.2.2.2 5).bind fun bt234 => ((cap_Check.f bt221.1 bt221.2.1 bt221.2.2.1 bt221.2.2.2.1 bt221.2.2.2.2.1 bt221.2.2.2.2.2 5 1).bind fun t241 => ((cap_Check.f bt221.1 bt221.2.1 bt221.2.2.1 bt221.2.2.2.1 bt221.2.2.2.2.1 bt221.2.2.2.2.2 6 1).bind fun t242 => ((cap_Move.f bt208.1 bt208.2.1 bt208.2.2.1 bt208.2.2.2.1 bt208.2.2.2.2.1 bt208.2.2.2.2.2 3).bind fun bt243 => ((cap_Seal.f bt208.1 bt208.2.1 bt208.2.2.1 bt208.2.2.2.1 bt208.2.2.2.2.1 bt208.2.2.2.2.2 bt243.1 bt243.2.1 bt243.2.2.1 bt243.2.2.2.1 bt243.2.2.2.2.1 bt243.2.2.2.2.2).bind fun bt249 => ((cap_Move.f bt208.1 bt208.2.1 bt208.2.2.1 bt208.2.2.2.1 bt208.2.2.2.2.1 bt208.2.2.2.2.2 3).bind fun bt256 => ((cap_Unseal.f bt249.1 bt249.2.1 bt249.2.2.1 bt249.2.2.2.1 bt249.2.2.2.2.1 bt249.2.2.2.2.2 bt256.1 bt256.2.1 bt256.2.2.1 bt256.2.2.2.1 bt256.2.2.2.2.1 bt256.2.2.2.2.2).bind fun bt262 => ((cap_Check.f bt249.1 bt249.2.1 bt249.2.2.1 bt249.2.2.2.1 bt249.2.2.2.2.1 bt249.2.2.2.2.2 1 1).bind fun t269 => ((cap_Text.f k bt208.1 bt208.2.1 bt208.2.2.1 bt208.2.2.2.1 bt208.2.2.2.2.1 bt208.2.2.2.2.2).bind fun t270 => (if (bt221.1 == 10 && (bt221.2.1 == 15 && (bt221.2.2.1 == 10 && (bt221.2.2.2.1 == 255 && (bt221.2.2.2.2.1 == (-1) && (bt221.2.2.2.2.2)))))) = true then (if bt234.2.2.2.2.2 = true then (some false) else (if t241 = 0 then (if t242 = 23 then (if (bt262.1 == bt208.1 && (bt262.2.1 == bt208.2.1 && (bt262.2.2.1 == bt208.2.2.1 && (bt262.2.2.2.1 == bt208.2.2.2.1 && (bt262.2.2.2.2.1 == bt208.2.2.2.2.1 && (bt262.2.2.2.2.2 == bt208.2.2.2.2.2)))))) = true then (if t269 = 21 then (some (t270.toList == ([43, 48, 46, 46, 49, 48, 48, 64, 48, 58, 50, 53, 53] : List UInt8))) else (some false)) else (some false)) else (some false)) else (some false))) else (some false))))))))))))))) = some r := h
  clear h
  replace H := Option.bind_eq_some_iff.mp H
  obtain ⟨⟨t208, t209, t210, t211, t212, t213⟩, A10, H⟩ := H
  replace H : ((cap_Move.f t208 t209 t210 t211 t212 t213 10).bind fun bt215 => ((cap_Bound.f bt215.1 bt215.2.1 bt215.2.2.1 bt215.2.2.2.1 bt215.2.2.2.2.1 bt215.2.2.2.2.2 5).bind fun bt221 => ((cap_Move.f t208 t209 t210 t211 t212 t213 98).bind fun bt228 => ((cap_Bound.f bt228.1 bt228.2.1 bt228.2.2.1 bt228.2.2.2.1 bt228.2.2.2.2.1 bt228.2.2.2.2.2 5).bind fun bt234 => ((cap_Check.f bt221.1 bt221.2.1 bt221.2.2.1 bt221.2.2.2.1 bt221.2.2.2.2.1 bt221.2.2.2.2.2 5 1).bind fun t241 => ((cap_Check.f bt221.1 bt221.2.1 bt221.2.2.1 bt221.2.2.2.1 bt221.2.2.2.2.1 bt221.2.2.2.2.2 6 1).bind fun t242 => ((cap_Move.f t208 t209 t210 t211 t212 t213 3).bind fun bt243 => ((cap_Seal.f t208 t209 t210 t211 t212 t213 bt243.1 bt243.2.1 bt243.2.2.1 bt243.2.2.2.1 bt243.2.2.2.2.1 bt243.2.2.2.2.2).bind fun bt249 => ((cap_Move.f t208 t209 t210 t211 t212 t213 3).bind fun bt256 => ((cap_Unseal.f bt249.1 bt249.2.1 bt249.2.2.1 bt249.2.2.2.1 bt249.2.2.2.2.1 bt249.2.2.2.2.2 bt256.1 bt256.2.1 bt256.2.2.1 bt256.2.2.2.1 bt256.2.2.2.2.1 bt256.2.2.2.2.2).bind fun bt262 => ((cap_Check.f bt249.1 bt249.2.1 bt249.2.2.1 bt249.2.2.2.1 bt249.2.2.2.2.1 bt249.2.2.2.2.2 1 1).bind fun t269 => ((cap_Text.f k t208 t209 t210 t211 t212 t213).bind fun t270 => (if (bt221.1 == 10 && (bt221.2.1 == 15 && (bt221.2.2.1 == 10 && (bt221.2.2.2.1 == 255 && (bt221.2.2.2.2.1 == (-1) && (bt221.2.2.2.2.2)))))) = true then (if bt234.2.2.2.2.2 = true then (some false) else (if t241 = 0 then (if t242 = 23 then (if (bt262.1 == t208 && (bt262.2.1 == t209 && (bt262.2.2.1 == t210 && (bt262.2.2.2.1 == t211 && (bt262.2.2.2.2.1 == t212 && (bt262.2.2.2.2.2 == t213)))))) = true then (if t269 = 21 then (some (t270.toList == ([43, 48, 46, 46, 49, 48, 48, 64, 48, 58, 50, 53, 53] : List UInt8))) else (some false)) else (some false)) else (some false)) else (some false))) else (some false)))))))))))))) = some r := H
  have A1 := Aside0.mk A10
  clear A10
  replace H := Option.bind_eq_some_iff.mp H
  obtain ⟨⟨t215, t216, t217, t218, t219, t220⟩, A20, H⟩ := H
  replace H : ((cap_Bound.f t215 t216 t217 t218 t219 t220 5).bind fun bt221 => ((cap_Move.f t208 t209 t210 t211 t212 t213 98).bind fun bt228 => ((cap_Bound.f bt228.1 bt228.2.1 bt228.2.2.1 bt228.2.2.2.1 bt228.2.2.2.2.1 bt228.2.2.2.2.2 5).bind fun bt234 => ((cap_Check.f bt221.1 bt221.2.1 bt221.2.2.1 bt221.2.2.2.1 bt221.2.2.2.2.1 bt221.2.2.2.2.2 5 1).bind fun t241 => ((cap_Check.f bt221.1 bt221.2.1 bt221.2.2.1 bt221.2.2.2.1 bt221.2.2.2.2.1 bt221.2.2.2.2.2 6 1).bind fun t242 => ((cap_Move.f t208 t209 t210 t211 t212 t213 3).bind fun bt243 => ((cap_Seal.f t208 t209 t210 t211 t212 t213 bt243.1 bt243.2.1 bt243.2.2.1 bt243.2.2.2.1 bt243.2.2.2.2.1 bt243.2.2.2.2.2).bind fun bt249 => ((cap_Move.f t208 t209 t210 t211 t212 t213 3).bind fun bt256 => ((cap_Unseal.f bt249.1 bt249.2.1 bt249.2.2.1 bt249.2.2.2.1 bt249.2.2.2.2.1 bt249.2.2.2.2.2 bt256.1 bt256.2.1 bt256.2.2.1 bt256.2.2.2.1 bt256.2.2.2.2.1 bt256.2.2.2.2.2).bind fun bt262 => ((cap_Check.f bt249.1 bt249.2.1 bt249.2.2.1 bt249.2.2.2.1 bt249.2.2.2.2.1 bt249.2.2.2.2.2 1 1).bind fun t269 => ((cap_Text.f k t208 t209 t210 t211 t212 t213).bind fun t270 => (if (bt221.1 == 10 && (bt221.2.1 == 15 && (bt221.2.2.1 == 10 && (bt221.2.2.2.1 == 255 && (bt221.2.2.2.2.1 == (-1) && (bt221.2.2.2.2.2)))))) = true then (if bt234.2.2.2.2.2 = true then (some false) else (if t241 = 0 then (if t242 = 23 then (if (bt262.1 == t208 && (bt262.2.1 == t209 && (bt262.2.2.1 == t210 && (bt262.2.2.2.1 == t211 && (bt262.2.2.2.2.1 == t212 && (bt262.2.2.2.2.2 == t213)))))) = true then (if t269 = 21 then (some (t270.toList == ([43, 48, 46, 46, 49, 48, 48, 64, 48, 58, 50, 53, 53] : List UInt8))) else (some false)) else (some false)) else (some false)) else (some false))) else (some false))))))))))))) = some r := H
  have A2 := Aside0.mk A20
  clear A20
  replace H := Option.bind_eq_some_iff.mp H
  obtain ⟨⟨t221, t222, t223, t224, t225, t226⟩, A30, H⟩ := H
  replace H : ((cap_Move.f t208 t209 t210 t211 t212 t213 98).bind fun bt228 => ((cap_Bound.f bt228.1 bt228.2.1 bt228.2.2.1 bt228.2.2.2.1 bt228.2.2.2.2.1 bt228.2.2.2.2.2 5).bind fun bt234 => ((cap_Check.f t221 t222 t223 t224 t225 t226 5 1).bind fun t241 => ((cap_Check.f t221 t222 t223 t224 t225 t226 6 1).bind fun t242 => ((cap_Move.f t208 t209 t210 t211 t212 t213 3).bind fun bt243 => ((cap_Seal.f t208 t209 t210 t211 t212 t213 bt243.1 bt243.2.1 bt243.2.2.1 bt243.2.2.2.1 bt243.2.2.2.2.1 bt243.2.2.2.2.2).bind fun bt249 => ((cap_Move.f t208 t209 t210 t211 t212 t213 3).bind fun bt256 => ((cap_Unseal.f bt249.1 bt249.2.1 bt249.2.2.1 bt249.2.2.2.1 bt249.2.2.2.2.1 bt249.2.2.2.2.2 bt256.1 bt256.2.1 bt256.2.2.1 bt256.2.2.2.1 bt256.2.2.2.2.1 bt256.2.2.2.2.2).bind fun bt262 => ((cap_Check.f bt249.1 bt249.2.1 bt249.2.2.1 bt249.2.2.2.1 bt249.2.2.2.2.1 bt249.2.2.2.2.2 1 1).bind fun t269 => ((cap_Text.f k t208 t209 t210 t211 t212 t213).bind fun t270 => (if (t221 == 10 && (t222 == 15 && (t223 == 10 && (t224 == 255 && (t225 == (-1) && (t226)))))) = true then (if bt234.2.2.2.2.2 = true then (some false) else (if t241 = 0 then (if t242 = 23 then (if (bt262.1 == t208 && (bt262.2.1 == t209 && (bt262.2.2.1 == t210 && (bt262.2.2.2.1 == t211 && (bt262.2.2.2.2.1 == t212 && (bt262.2.2.2.2.2 == t213)))))) = true then (if t269 = 21 then (some (t270.toList == ([43, 48, 46, 46, 49, 48, 48, 64, 48, 58, 50, 53, 53] : List UInt8))) else (some false)) else (some false)) else (some false)) else (some false))) else (some false)))))))))))) = some r := H
  have A3 := Aside0.mk A30
  clear A30
  replace H := Option.bind_eq_some_iff.mp H
  obtain ⟨⟨t228, t229, t230, t231, t232, t233⟩, A40, H⟩ := H
  replace H : ((cap_Bound.f t228 t229 t230 t231 t232 t233 5).bind fun bt234 => ((cap_Check.f t221 t222 t223 t224 t225 t226 5 1).bind fun t241 => ((cap_Check.f t221 t222 t223 t224 t225 t226 6 1).bind fun t242 => ((cap_Move.f t208 t209 t210 t211 t212 t213 3).bind fun bt243 => ((cap_Seal.f t208 t209 t210 t211 t212 t213 bt243.1 bt243.2.1 bt243.2.2.1 bt243.2.2.2.1 bt243.2.2.2.2.1 bt243.2.2.2.2.2).bind fun bt249 => ((cap_Move.f t208 t209 t210 t211 t212 t213 3).bind fun bt256 => ((cap_Unseal.f bt249.1 bt249.2.1 bt249.2.2.1 bt249.2.2.2.1 bt249.2.2.2.2.1 bt249.2.2.2.2.2 bt256.1 bt256.2.1 bt256.2.2.1 bt256.2.2.2.1 bt256.2.2.2.2.1 bt256.2.2.2.2.2).bind fun bt262 => ((cap_Check.f bt249.1 bt249.2.1 bt249.2.2.1 bt249.2.2.2.1 bt249.2.2.2.2.1 bt249.2.2.2.2.2 1 1).bind fun t269 => ((cap_Text.f k t208 t209 t210 t211 t212 t213).bind fun t270 => (if (t221 == 10 && (t222 == 15 && (t223 == 10 && (t224 == 255 && (t225 == (-1) && (t226)))))) = true then (if bt234.2.2.2.2.2 = true then (some false) else (if t241 = 0 then (if t242 = 23 then (if (bt262.1 == t208 && (bt262.2.1 == t209 && (bt262.2.2.1 == t210 && (bt262.2.2.2.1 == t211 && (bt262.2.2.2.2.1 == t212 && (bt262.2.2.2.2.2 == t213)))))) = true then (if t269 = 21 then (some (t270.toList == ([43, 48, 46, 46, 49, 48, 48, 64, 48, 58, 50, 53, 53] : List UInt8))) else (some false)) else (some false)) else (some false)) else (some false))) else (some false))))))))))) = some r := H
  have A4 := Aside0.mk A40
  clear A40
  replace H := Option.bind_eq_some_iff.mp H
  obtain ⟨⟨t234, t235, t236, t237, t238, t239⟩, A50, H⟩ := H
  replace H : ((cap_Check.f t221 t222 t223 t224 t225 t226 5 1).bind fun t241 => ((cap_Check.f t221 t222 t223 t224 t225 t226 6 1).bind fun t242 => ((cap_Move.f t208 t209 t210 t211 t212 t213 3).bind fun bt243 => ((cap_Seal.f t208 t209 t210 t211 t212 t213 bt243.1 bt243.2.1 bt243.2.2.1 bt243.2.2.2.1 bt243.2.2.2.2.1 bt243.2.2.2.2.2).bind fun bt249 => ((cap_Move.f t208 t209 t210 t211 t212 t213 3).bind fun bt256 => ((cap_Unseal.f bt249.1 bt249.2.1 bt249.2.2.1 bt249.2.2.2.1 bt249.2.2.2.2.1 bt249.2.2.2.2.2 bt256.1 bt256.2.1 bt256.2.2.1 bt256.2.2.2.1 bt256.2.2.2.2.1 bt256.2.2.2.2.2).bind fun bt262 => ((cap_Check.f bt249.1 bt249.2.1 bt249.2.2.1 bt249.2.2.2.1 bt249.2.2.2.2.1 bt249.2.2.2.2.2 1 1).bind fun t269 => ((cap_Text.f k t208 t209 t210 t211 t212 t213).bind fun t270 => (if (t221 == 10 && (t222 == 15 && (t223 == 10 && (t224 == 255 && (t225 == (-1) && (t226)))))) = true then (if t239 = true then (some false) else (if t241 = 0 then (if t242 = 23 then (if (bt262.1 == t208 && (bt262.2.1 == t209 && (bt262.2.2.1 == t210 && (bt262.2.2.2.1 == t211 && (bt262.2.2.2.2.1 == t212 && (bt262.2.2.2.2.2 == t213)))))) = true then (if t269 = 21 then (some (t270.toList == ([43, 48, 46, 46, 49, 48, 48, 64, 48, 58, 50, 53, 53] : List UInt8))) else (some false)) else (some false)) else (some false)) else (some false))) else (some false)))))))))) = some r := H
  have A5 := Aside0.mk A50
  clear A50
  replace H := Option.bind_eq_some_iff.mp H
  obtain ⟨t241, A60, H⟩ := H
  replace H : ((cap_Check.f t221 t222 t223 t224 t225 t226 6 1).bind fun t242 => ((cap_Move.f t208 t209 t210 t211 t212 t213 3).bind fun bt243 => ((cap_Seal.f t208 t209 t210 t211 t212 t213 bt243.1 bt243.2.1 bt243.2.2.1 bt243.2.2.2.1 bt243.2.2.2.2.1 bt243.2.2.2.2.2).bind fun bt249 => ((cap_Move.f t208 t209 t210 t211 t212 t213 3).bind fun bt256 => ((cap_Unseal.f bt249.1 bt249.2.1 bt249.2.2.1 bt249.2.2.2.1 bt249.2.2.2.2.1 bt249.2.2.2.2.2 bt256.1 bt256.2.1 bt256.2.2.1 bt256.2.2.2.1 bt256.2.2.2.2.1 bt256.2.2.2.2.2).bind fun bt262 => ((cap_Check.f bt249.1 bt249.2.1 bt249.2.2.1 bt249.2.2.2.1 bt249.2.2.2.2.1 bt249.2.2.2.2.2 1 1).bind fun t269 => ((cap_Text.f k t208 t209 t210 t211 t212 t213).bind fun t270 => (if (t221 == 10 && (t222 == 15 && (t223 == 10 && (t224 == 255 && (t225 == (-1) && (t226)))))) = true then (if t239 = true then (some false) else (if t241 = 0 then (if t242 = 23 then (if (bt262.1 == t208 && (bt262.2.1 == t209 && (bt262.2.2.1 == t210 && (bt262.2.2.2.1 == t211 && (bt262.2.2.2.2.1 == t212 && (bt262.2.2.2.2.2 == t213)))))) = true then (if t269 = 21 then (some (t270.toList == ([43, 48, 46, 46, 49, 48, 48, 64, 48, 58, 50, 53, 53] : List UInt8))) else (some false)) else (some false)) else (some false)) else (some false))) else (some false))))))))) = some r := H
  have A6 := Aside0.mk A60
  clear A60
  replace H := Option.bind_eq_some_iff.mp H
  obtain ⟨t242, A70, H⟩ := H
  replace H : ((cap_Move.f t208 t209 t210 t211 t212 t213 3).bind fun bt243 => ((cap_Seal.f t208 t209 t210 t211 t212 t213 bt243.1 bt243.2.1 bt243.2.2.1 bt243.2.2.2.1 bt243.2.2.2.2.1 bt243.2.2.2.2.2).bind fun bt249 => ((cap_Move.f t208 t209 t210 t211 t212 t213 3).bind fun bt256 => ((cap_Unseal.f bt249.1 bt249.2.1 bt249.2.2.1 bt249.2.2.2.1 bt249.2.2.2.2.1 bt249.2.2.2.2.2 bt256.1 bt256.2.1 bt256.2.2.1 bt256.2.2.2.1 bt256.2.2.2.2.1 bt256.2.2.2.2.2).bind fun bt262 => ((cap_Check.f bt249.1 bt249.2.1 bt249.2.2.1 bt249.2.2.2.1 bt249.2.2.2.2.1 bt249.2.2.2.2.2 1 1).bind fun t269 => ((cap_Text.f k t208 t209 t210 t211 t212 t213).bind fun t270 => (if (t221 == 10 && (t222 == 15 && (t223 == 10 && (t224 == 255 && (t225 == (-1) && (t226)))))) = true then (if t239 = true then (some false) else (if t241 = 0 then (if t242 = 23 then (if (bt262.1 == t208 && (bt262.2.1 == t209 && (bt262.2.2.1 == t210 && (bt262.2.2.2.1 == t211 && (bt262.2.2.2.2.1 == t212 && (bt262.2.2.2.2.2 == t213)))))) = true then (if t269 = 21 then (some (t270.toList == ([43, 48, 46, 46, 49, 48, 48, 64, 48, 58, 50, 53, 53] : List UInt8))) else (some false)) else (some false)) else (some false)) else (some false))) else (some false)))))))) = some r := H
  have A7 := Aside0.mk A70
  clear A70
  replace H := Option.bind_eq_some_iff.mp H
  obtain ⟨⟨t243, t244, t245, t246, t247, t248⟩, A80, H⟩ := H
  replace H : ((cap_Seal.f t208 t209 t210 t211 t212 t213 t243 t244 t245 t246 t247 t248).bind fun bt249 => ((cap_Move.f t208 t209 t210 t211 t212 t213 3).bind fun bt256 => ((cap_Unseal.f bt249.1 bt249.2.1 bt249.2.2.1 bt249.2.2.2.1 bt249.2.2.2.2.1 bt249.2.2.2.2.2 bt256.1 bt256.2.1 bt256.2.2.1 bt256.2.2.2.1 bt256.2.2.2.2.1 bt256.2.2.2.2.2).bind fun bt262 => ((cap_Check.f bt249.1 bt249.2.1 bt249.2.2.1 bt249.2.2.2.1 bt249.2.2.2.2.1 bt249.2.2.2.2.2 1 1).bind fun t269 => ((cap_Text.f k t208 t209 t210 t211 t212 t213).bind fun t270 => (if (t221 == 10 && (t222 == 15 && (t223 == 10 && (t224 == 255 && (t225 == (-1) && (t226)))))) = true then (if t239 = true then (some false) else (if t241 = 0 then (if t242 = 23 then (if (bt262.1 == t208 && (bt262.2.1 == t209 && (bt262.2.2.1 == t210 && (bt262.2.2.2.1 == t211 && (bt262.2.2.2.2.1 == t212 && (bt262.2.2.2.2.2 == t213)))))) = true then (if t269 = 21 then (some (t270.toList == ([43, 48, 46, 46, 49, 48, 48, 64, 48, 58, 50, 53, 53] : List UInt8))) else (some false)) else (some false)) else (some false)) else (some false))) else (some false))))))) = some r := H
  have A8 := Aside0.mk A80
  clear A80
  replace H := Option.bind_eq_some_iff.mp H
  obtain ⟨⟨t249, t250, t251, t252, t253, t254⟩, A90, H⟩ := H
  replace H : ((cap_Move.f t208 t209 t210 t211 t212 t213 3).bind fun bt256 => ((cap_Unseal.f t249 t250 t251 t252 t253 t254 bt256.1 bt256.2.1 bt256.2.2.1 bt256.2.2.2.1 bt256.2.2.2.2.1 bt256.2.2.2.2.2).bind fun bt262 => ((cap_Check.f t249 t250 t251 t252 t253 t254 1 1).bind fun t269 => ((cap_Text.f k t208 t209 t210 t211 t212 t213).bind fun t270 => (if (t221 == 10 && (t222 == 15 && (t223 == 10 && (t224 == 255 && (t225 == (-1) && (t226)))))) = true then (if t239 = true then (some false) else (if t241 = 0 then (if t242 = 23 then (if (bt262.1 == t208 && (bt262.2.1 == t209 && (bt262.2.2.1 == t210 && (bt262.2.2.2.1 == t211 && (bt262.2.2.2.2.1 == t212 && (bt262.2.2.2.2.2 == t213)))))) = true then (if t269 = 21 then (some (t270.toList == ([43, 48, 46, 46, 49, 48, 48, 64, 48, 58, 50, 53, 53] : List UInt8))) else (some false)) else (some false)) else (some false)) else (some false))) else (some false)))))) = some r := H
  have A9 := Aside0.mk A90
  clear A90
  replace H := Option.bind_eq_some_iff.mp H
  obtain ⟨⟨t256, t257, t258, t259, t260, t261⟩, A100, H⟩ := H
  replace H : ((cap_Unseal.f t249 t250 t251 t252 t253 t254 t256 t257 t258 t259 t260 t261).bind fun bt262 => ((cap_Check.f t249 t250 t251 t252 t253 t254 1 1).bind fun t269 => ((cap_Text.f k t208 t209 t210 t211 t212 t213).bind fun t270 => (if (t221 == 10 && (t222 == 15 && (t223 == 10 && (t224 == 255 && (t225 == (-1) && (t226)))))) = true then (if t239 = true then (some false) else (if t241 = 0 then (if t242 = 23 then (if (bt262.1 == t208 && (bt262.2.1 == t209 && (bt262.2.2.1 == t210 && (bt262.2.2.2.1 == t211 && (bt262.2.2.2.2.1 == t212 && (bt262.2.2.2.2.2 == t213)))))) = true then (if t269 = 21 then (some (t270.toList == ([43, 48, 46, 46, 49, 48, 48, 64, 48, 58, 50, 53, 53] : List UInt8))) else (some false)) else (some false)) else (some false)) else (some false))) else (some false))))) = some r := H
  have A10 := Aside0.mk A100
  clear A100
  replace H := Option.bind_eq_some_iff.mp H
  obtain ⟨⟨t262, t263, t264, t265, t266, t267⟩, A110, H⟩ := H
  replace H : ((cap_Check.f t249 t250 t251 t252 t253 t254 1 1).bind fun t269 => ((cap_Text.f k t208 t209 t210 t211 t212 t213).bind fun t270 => (if (t221 == 10 && (t222 == 15 && (t223 == 10 && (t224 == 255 && (t225 == (-1) && (t226)))))) = true then (if t239 = true then (some false) else (if t241 = 0 then (if t242 = 23 then (if (t262 == t208 && (t263 == t209 && (t264 == t210 && (t265 == t211 && (t266 == t212 && (t267 == t213)))))) = true then (if t269 = 21 then (some (t270.toList == ([43, 48, 46, 46, 49, 48, 48, 64, 48, 58, 50, 53, 53] : List UInt8))) else (some false)) else (some false)) else (some false)) else (some false))) else (some false)))) = some r := H
  have A11 := Aside0.mk A110
  clear A110
  replace H := Option.bind_eq_some_iff.mp H
  obtain ⟨t269, A120, H⟩ := H
  replace H : ((cap_Text.f k t208 t209 t210 t211 t212 t213).bind fun t270 => (if (t221 == 10 && (t222 == 15 && (t223 == 10 && (t224 == 255 && (t225 == (-1) && (t226)))))) = true then (if t239 = true then (some false) else (if t241 = 0 then (if t242 = 23 then (if (t262 == t208 && (t263 == t209 && (t264 == t210 && (t265 == t211 && (t266 == t212 && (t267 == t213)))))) = true then (if t269 = 21 then (some (t270.toList == ([43, 48, 46, 46, 49, 48, 48, 64, 48, 58, 50, 53, 53] : List UInt8))) else (some false)) else (some false)) else (some false)) else (some false))) else (some false))) = some r := H
  have A12 := Aside0.mk A120
  clear A120
  replace H := Option.bind_eq_some_iff.mp H
  obtain ⟨t270, A130, H⟩ := H
  replace H : (if (t221 == 10 && (t222 == 15 && (t223 == 10 && (t224 == 255 && (t225 == (-1) && (t226)))))) = true then (if t239 = true then (some false) else (if t241 = 0 then (if t242 = 23 then (if (t262 == t208 && (t263 == t209 && (t264 == t210 && (t265 == t211 && (t266 == t212 && (t267 == t213)))))) = true then (if t269 = 21 then (some (t270.toList == ([43, 48, 46, 46, 49, 48, 48, 64, 48, 58, 50, 53, 53] : List UInt8))) else (some false)) else (some false)) else (some false)) else (some false))) else (some false)) = some r := H
  have A13 := Aside0.mk A130
  clear A130
  by_cases c14 : (t221 == 10 && (t222 == 15 && (t223 == 10 && (t224 == 255 && (t225 == (-1) && (t226)))))) = true
  · rw [if_pos c14] at H
    have c14b0 : (t221 == 10 && (t222 == 15 && (t223 == 10 && (t224 == 255 && (t225 == (-1) && (t226)))))) = true := c14
    (try (have c14b1 : decide (t221 = 10 && (t222 == 15 && (t223 == 10 && (t224 == 255 && (t225 == (-1) && (t226)))))) = true := by simpa using c14))
    (try (have c14b2 : (t221 == 10 && (t222 == 15 && (t223 == 10 && (t224 == 255 && (t225 == (-1) && (t226)))))) = true := by simpa using c14))
    clear c14
    by_cases c15 : t239 = true
    · subst c15
      have H1 : (some false) = some r := by rw [if_pos rfl] at H; exact H
      clear H
      have H := H1
      clear H1
      exact absurd ((Option.some.inj H).trans HT.out) (by decide)
    · replace c15 := Bool.eq_false_iff.mpr c15
      subst c15
      have H1 : (if t241 = 0 then (if t242 = 23 then (if (t262 == t208 && (t263 == t209 && (t264 == t210 && (t265 == t211 && (t266 == t212 && (t267 == t213)))))) = true then (if t269 = 21 then (some (t270.toList == ([43, 48, 46, 46, 49, 48, 48, 64, 48, 58, 50, 53, 53] : List UInt8))) else (some false)) else (some false)) else (some false)) else (some false)) = some r := by rw [if_neg (show ¬ (false = true) by decide)] at H; exact H
      clear H
      have H := H1
      clear H1
      by_cases c75 : t241 = 0
      · rw [if_pos c75] at H
        have c75b0 : (t241 == 0) = true := beq_iff_eq.mpr c75
        have c75b1 : (t241 != 0) = false := bne_eq_false_iff_eq.mpr c75
        clear c75
        by_cases c76 : t242 = 23
        · rw [if_pos c76] at H
          have c76b0 : (t242 == 23) = true := beq_iff_eq.mpr c76
          have c76b1 : (t242 != 23) = false := bne_eq_false_iff_eq.mpr c76
          clear c76
          by_cases c77 : (t262 == t208 && (t263 == t209 && (t264 == t210 && (t265 == t211 && (t266 == t212 && (t267 == t213)))))) = true
          · rw [if_pos c77] at H
            have c77b0 : (t262 == t208 && (t263 == t209 && (t264 == t210 && (t265 == t211 && (t266 == t212 && (t267 == t213)))))) = true := c77
            (try (have c77b1 : decide (t262 = t208 && (t263 == t209 && (t264 == t210 && (t265 == t211 && (t266 == t212 && (t267 == t213)))))) = true := by simpa using c77))
            (try (have c77b2 : (t262 == t208 && (t263 == t209 && (t264 == t210 && (t265 == t211 && (t266 == t212 && (t267 == t213)))))) = true := by simpa using c77))
            clear c77
            by_cases c78 : t269 = 21
            · rw [if_pos c78] at H
              have c78b0 : (t269 == 21) = true := beq_iff_eq.mpr c78
              have c78b1 : (t269 != 21) = false := bne_eq_false_iff_eq.mpr c78
              clear c78
              obtain rfl := Option.some.inj H
              go_enter Tryd.func10, Tryd.ntmps10
              try go_wp2_with (first | ((with_reducible refine gate_dst (N := 10) rfl ?_); (with_reducible refine gate_callee (f := 23) rfl ?_); refine goesL_ (some 10) rfl rfl Tryd.func23 (by kernel_rfl) rfl #[.int .u64 100] rfl (by (try simp only [List.map_toArray, List.map_cons, List.map_nil]); first | done | rfl | (simp only [List.length_drop, List.length_take]; rfl)) ?_; (with_reducible refine (cap_Root.calls 100 t208 t209 t210 t211 t212 t213 _ A1.out).mono ?_); rintro e w79 ⟨rfl, hb⟩; refine ⟨_, rfl, ?_⟩; have n0_ := Aside0.mk (below_step (by repeat (first | (with_reducible first | exact HB.out | apply below_alloc | apply pw_below_drewN | apply below_drew1) | exact HB.out)) hb); clear HB; have HB := n0_; clear n0_; (try clear hb); (try clear hb2); (try clear hk); (try clear hi)) | ((with_reducible refine gate_dst (N := 1) rfl ?_); refine box_event ?hg (N := 1) ?hd (cs := #[.int .u64 0, .int .u64 0, .int .u64 0, .int .i64 0, .int .i64 0, .bool false]) (t := 24) ?hr ?_; (case hd => rfl); (case hg => rfl); (case hr => first | (go_simp; done) | (go_simp; rfl)); intro gb214 hg w80 hbox hb; have n0_ := Aside0.mk (below_step (by repeat (first | (with_reducible first | exact HB.out | apply below_alloc | apply pw_below_drewN | apply below_drew1) | exact HB.out)) hb); have n1_ := Aside0.mk (hbox); have n2_ := Aside0.mk ((by rw [hg]; exact (below_size (by repeat (first | (with_reducible first | exact HB.out | apply below_alloc | apply pw_below_drewN | apply below_drew1) | exact HB.out))) : w.heap.size ≤ gb214)); have n3_ := n2_; clear HB; have HB := n0_; have BK214 := n1_; have GW214 := n2_; have GE214 := n3_; clear n0_ n1_ n2_ n3_; clear hb hbox hg; obtain ⟨hcz81_0, hcz81_1, hcz81_2, hcz81_3, hcz81_4, hcz81_5, hfz81_0, hfz81_1, hfz81_2, hfz81_3, hfz81_4, hfz81_5⟩ := cells6 BK214.out) | ((with_reducible refine gate_store (t := 24) (p := 1) rfl ?_); refine store_event (t := 24) (p := 1) (v := ?vo_w82) (w1 := ((((((w80.setCell ⟨gb214, 0, none⟩ (.int .u64 t208)).setCell ⟨gb214, 1, none⟩ (.int .u64 t209)).setCell ⟨gb214, 2, none⟩ (.int .u64 t210)).setCell ⟨gb214, 3, none⟩ (.int .i64 t211)).setCell ⟨gb214, 4, none⟩ (.int .i64 t212)).setCell ⟨gb214, 5, none⟩ (.bool t213))) ?hg ?ho ?hn ?hr ?_; (case ho => rfl); (case hg => rfl); (case hn => rfl); (case hr => first | (go_simp; done) | (go_simp; rfl)); intro w82 hw; have n0_ : Aside0 (w82.heap[gb214]? = some (.cells #[.int .u64 t208, .int .u64 t209, .int .u64 t210, .int .i64 t211, .int .i64 t212, .bool t213] 24 (0, 0))) := ⟨(by rw [hw]; exact (by (with_reducible repeat (first | refine blk_drewN ?_ _ | refine blk_drew ?_ | refine blk_alloc ?_ _)); refine blk_put (cs := #[.int .u64 t208, .int .u64 t209, .int .u64 t210, .int .i64 t211, .int .i64 t212, .bool false]) ?_ 5 _ rfl; (with_reducible repeat (first | refine blk_drewN ?_ _ | refine blk_drew ?_ | refine blk_alloc ?_ _)); refine blk_put (cs := #[.int .u64 t208, .int .u64 t209, .int .u64 t210, .int .i64 t211, .int .i64 0, .bool false]) ?_ 4 _ rfl; (with_reducible repeat (first | refine blk_drewN ?_ _ | refine blk_drew ?_ | refine blk_alloc ?_ _)); refine blk_put (cs := #[.int .u64 t208, .int .u64 t209, .int .u64 t210, .int .i64 0, .int .i64 0, .bool false]) ?_ 3 _ rfl; (with_reducible repeat (first | refine blk_drewN ?_ _ | refine blk_drew ?_ | refine blk_alloc ?_ _)); refine blk_put (cs := #[.int .u64 t208, .int .u64 t209, .int .u64 0, .int .i64 0, .int .i64 0, .bool false]) ?_ 2 _ rfl; (with_reducible repeat (first | refine blk_drewN ?_ _ | refine blk_drew ?_ | refine blk_alloc ?_ _)); refine blk_put (cs := #[.int .u64 t208, .int .u64 0, .int .u64 0, .int .i64 0, .int .i64 0, .bool false]) ?_ 1 _ rfl; (with_reducible repeat (first | refine blk_drewN ?_ _ | refine blk_drew ?_ | refine blk_alloc ?_ _)); refine blk_put (cs := #[.int .u64 0, .int .u64 0, .int .u64 0, .int .i64 0, .int .i64 0, .bool false]) ?_ 0 _ rfl; (with_reducible repeat (first | refine blk_drewN ?_ _ | refine blk_drew ?_ | refine blk_alloc ?_ _)); exact BK214.out))⟩; have n1_ : Aside0 (Below w.heap.size w w82) := ⟨(by rw [hw]; exact (by repeat (first | (with_reducible first | exact HB.out | apply below_alloc | apply pw_below_drewN | apply below_drew1 | refine below_set ?_ GE214.out) | exact HB.out)))⟩; clear hw; clear BK214; clear HB; have BK214 := n0_; have HB := n1_; clear n0_ n1_; obtain ⟨hcz83_0, hcz83_1, hcz83_2, hcz83_3, hcz83_4, hcz83_5, hfz83_0, hfz83_1, hfz83_2, hfz83_3, hfz83_4, hfz83_5⟩ := cells6 BK214.out) | ((with_reducible refine gate_dst (N := 12) rfl ?_); (with_reducible refine gate_callee (f := 18) rfl ?_); refine goesL_ (some 12) rfl rfl Tryd.func18 (by kernel_rfl) rfl #[.agg #[.int .u64 t208, .int .u64 t209, .int .u64 t210, .int .i64 t211, .int .i64 t212, .bool t213], .int .u64 10] rfl (by (try simp only [List.map_toArray, List.map_cons, List.map_nil]); first | done | rfl | (simp only [List.length_drop, List.length_take]; rfl)) ?_; (with_reducible refine (cap_Move.calls t208 t209 t210 t211 t212 t213 10 t215 t216 t217 t218 t219 t220 _ A2.out).mono ?_); rintro e w84 ⟨rfl, hb⟩; refine ⟨_, rfl, ?_⟩; have n0_ := Aside0.mk (blk_below (g := gb214) (o := .cells #[.int .u64 t208, .int .u64 t209, .int .u64 t210, .int .i64 t211, .int .i64 t212, .bool t213] 24 (0, 0)) (by (with_reducible repeat (first | refine blk_drewN ?_ _ | refine blk_drew ?_ | refine blk_alloc ?_ _)); exact BK214.out) hb); have n1_ := Aside0.mk (below_step (by repeat (first | (with_reducible first | exact HB.out | apply below_alloc | apply pw_below_drewN | apply below_drew1 | refine below_set ?_ GE214.out) | exact HB.out)) hb); clear BK214; clear HB; have BK214 := n0_; have HB := n1_; clear n0_ n1_; (try clear hb); (try clear hb2); (try clear hk); (try clear hi)) | ((with_reducible refine gate_dst (N := 13) rfl ?_); (with_reducible refine gate_callee (f := 19) rfl ?_); refine goesL_ (some 13) rfl rfl Tryd.func19 (by kernel_rfl) rfl #[.agg #[.int .u64 t215, .int .u64 t216, .int .u64 t217, .int .i64 t218, .int .i64 t219, .bool t220], .int .u64 5] rfl (by (try simp only [List.map_toArray, List.map_cons, List.map_nil]); first | done | rfl | (simp only [List.length_drop, List.length_take]; rfl)) ?_; (with_reducible refine (cap_Bound.calls t215 t216 t217 t218 t219 t220 5 t221 t222 t223 t224 t225 t226 _ A3.out).mono ?_); rintro e w85 ⟨rfl, hb⟩; refine ⟨_, rfl, ?_⟩; have n0_ := Aside0.mk (blk_below (g := gb214) (o := .cells #[.int .u64 t208, .int .u64 t209, .int .u64 t210, .int .i64 t211, .int .i64 t212, .bool t213] 24 (0, 0)) (by (with_reducible repeat (first | refine blk_drewN ?_ _ | refine blk_drew ?_ | refine blk_alloc ?_ _)); exact BK214.out) hb); have n1_ := Aside0.mk (below_step (by repeat (first | (with_reducible first | exact HB.out | apply below_alloc | apply pw_below_drewN | apply below_drew1 | refine below_set ?_ GE214.out) | exact HB.out)) hb); clear BK214; clear HB; have BK214 := n0_; have HB := n1_; clear n0_ n1_; (try clear hb); (try clear hb2); (try clear hk); (try clear hi)) | ((with_reducible refine gate_dst (N := 2) rfl ?_); refine box_event ?hg (N := 2) ?hd (cs := #[.int .u64 0, .int .u64 0, .int .u64 0, .int .i64 0, .int .i64 0, .bool false]) (t := 24) ?hr ?_; (case hd => rfl); (case hg => rfl); (case hr => first | (go_simp; done) | (go_simp; rfl)); intro gb227 hg w86 hbox hb; have n0_ := Aside0.mk (blk_below (g := gb214) (o := .cells #[.int .u64 t208, .int .u64 t209, .int .u64 t210, .int .i64 t211, .int .i64 t212, .bool t213] 24 (0, 0)) (by (with_reducible repeat (first | refine blk_drewN ?_ _ | refine blk_drew ?_ | refine blk_alloc ?_ _)); exact BK214.out) hb); have n1_ := Aside0.mk (below_step (by repeat (first | (with_reducible first | exact HB.out | apply below_alloc | apply pw_below_drewN | apply below_drew1 | refine below_set ?_ GE214.out) | exact HB.out)) hb); have n2_ := Aside0.mk (hbox); have n3_ := Aside0.mk ((by rw [hg]; exact (below_size (by repeat (first | (with_reducible first | exact HB.out | apply below_alloc | apply pw_below_drewN | apply below_drew1 | refine below_set ?_ GE214.out) | exact HB.out))) : w.heap.size ≤ gb227)); have n4_ := n3_; have n5_ := Aside0.mk ((by rw [hg]; exact Nat.ne_of_lt (blk_lt (g := gb214) (o := .cells #[.int .u64 t208, .int .u64 t209, .int .u64 t210, .int .i64 t211, .int .i64 t212, .bool t213] 24 (0, 0)) (by (with_reducible repeat (first | refine blk_drewN ?_ _ | refine blk_drew ?_ | refine blk_alloc ?_ _)); exact BK214.out)) : gb214 ≠ gb227)); have n6_ := Aside0.mk n5_.out.symm; clear BK214; clear HB; have BK214 := n0_; have HB := n1_; have BK227 := n2_; have GW227 := n3_; have GE227 := n4_; have NB214_227 := n5_; have NB227_214 := n6_; clear n0_ n1_ n2_ n3_ n4_ n5_ n6_; clear hb hbox hg; have hnb87 := NB227_214.out; have hnc87 := NB214_227.out; obtain ⟨hcz88_0, hcz88_1, hcz88_2, hcz88_3, hcz88_4, hcz88_5, hfz88_0, hfz88_1, hfz88_2, hfz88_3, hfz88_4, hfz88_5⟩ := cells6 BK227.out) | ((with_reducible refine gate_store (t := 24) (p := 2) rfl ?_); refine store_event (t := 24) (p := 2) (v := ?vo_w89) (w1 := ((((((w86.setCell ⟨gb227, 0, none⟩ (.int .u64 t221)).setCell ⟨gb227, 1, none⟩ (.int .u64 t222)).setCell ⟨gb227, 2, none⟩ (.int .u64 t223)).setCell ⟨gb227, 3, none⟩ (.int .i64 t224)).setCell ⟨gb227, 4, none⟩ (.int .i64 t225)).setCell ⟨gb227, 5, none⟩ (.bool t226))) ?hg ?ho ?hn ?hr ?_; (case ho => rfl); (case hg => rfl); (case hn => rfl); (case hr => first | (go_simp; done) | (go_simp; rfl)); intro w89 hw; have n0_ : Aside0 (w89.heap[gb214]? = some (.cells #[.int .u64 t208, .int .u64 t209, .int .u64 t210, .int .i64 t211, .int .i64 t212, .bool t213] 24 (0, 0))) := ⟨(by rw [hw]; exact (by (with_reducible repeat (first | refine blk_drewN ?_ _ | refine blk_drew ?_ | refine blk_alloc ?_ _)); refine blk_far ?_ NB214_227.out _; (with_reducible repeat (first | refine blk_drewN ?_ _ | refine blk_drew ?_ | refine blk_alloc ?_ _)); refine blk_far ?_ NB214_227.out _; (with_reducible repeat (first | refine blk_drewN ?_ _ | refine blk_drew ?_ | refine blk_alloc ?_ _)); refine blk_far ?_ NB214_227.out _; (with_reducible repeat (first | refine blk_drewN ?_ _ | refine blk_drew ?_ | refine blk_alloc ?_ _)); refine blk_far ?_ NB214_227.out _; (with_reducible repeat (first | refine blk_drewN ?_ _ | refine blk_drew ?_ | refine blk_alloc ?_ _)); refine blk_far ?_ NB214_227.out _; (with_reducible repeat (first | refine blk_drewN ?_ _ | refine blk_drew ?_ | refine blk_alloc ?_ _)); refine blk_far ?_ NB214_227.out _; (with_reducible repeat (first | refine blk_drewN ?_ _ | refine blk_drew ?_ | refine blk_alloc ?_ _)); exact BK214.out))⟩; have n1_ : Aside0 (w89.heap[gb227]? = some (.cells #[.int .u64 t221, .int .u64 t222, .int .u64 t223, .int .i64 t224, .int .i64 t225, .bool t226] 24 (0, 0))) := ⟨(by rw [hw]; exact (by (with_reducible repeat (first | refine blk_drewN ?_ _ | refine blk_drew ?_ | refine blk_alloc ?_ _)); refine blk_put (cs := #[.int .u64 t221, .int .u64 t222, .int .u64 t223, .int .i64 t224, .int .i64 t225, .bool false]) ?_ 5 _ rfl; (with_reducible repeat (first | refine blk_drewN ?_ _ | refine blk_drew ?_ | refine blk_alloc ?_ _)); refine blk_put (cs := #[.int .u64 t221, .int .u64 t222, .int .u64 t223, .int .i64 t224, .int .i64 0, .bool false]) ?_ 4 _ rfl; (with_reducible repeat (first | refine blk_drewN ?_ _ | refine blk_drew ?_ | refine blk_alloc ?_ _)); refine blk_put (cs := #[.int .u64 t221, .int .u64 t222, .int .u64 t223, .int .i64 0, .int .i64 0, .bool false]) ?_ 3 _ rfl; (with_reducible repeat (first | refine blk_drewN ?_ _ | refine blk_drew ?_ | refine blk_alloc ?_ _)); refine blk_put (cs := #[.int .u64 t221, .int .u64 t222, .int .u64 0, .int .i64 0, .int .i64 0, .bool false]) ?_ 2 _ rfl; (with_reducible repeat (first | refine blk_drewN ?_ _ | refine blk_drew ?_ | refine blk_alloc ?_ _)); refine blk_put (cs := #[.int .u64 t221, .int .u64 0, .int .u64 0, .int .i64 0, .int .i64 0, .bool false]) ?_ 1 _ rfl; (with_reducible repeat (first | refine blk_drewN ?_ _ | refine blk_drew ?_ | refine blk_alloc ?_ _)); refine blk_put (cs := #[.int .u64 0, .int .u64 0, .int .u64 0, .int .i64 0, .int .i64 0, .bool false]) ?_ 0 _ rfl; (with_reducible repeat (first | refine blk_drewN ?_ _ | refine blk_drew ?_ | refine blk_alloc ?_ _)); exact BK227.out))⟩; have n2_ : Aside0 (Below w.heap.size w w89) := ⟨(by rw [hw]; exact (by repeat (first | (with_reducible first | exact HB.out | apply below_alloc | apply pw_below_drewN | apply below_drew1 | refine below_set ?_ GE214.out | refine below_set ?_ GE227.out) | exact HB.out)))⟩; clear hw; clear BK214; clear BK227; clear HB; have BK214 := n0_; have BK227 := n1_; have HB := n2_; clear n0_ n1_ n2_; obtain ⟨hcz90_0, hcz90_1, hcz90_2, hcz90_3, hcz90_4, hcz90_5, hfz90_0, hfz90_1, hfz90_2, hfz90_3, hfz90_4, hfz90_5⟩ := cells6 BK214.out) | ((with_reducible refine gate_dst (N := 15) rfl ?_); (with_reducible refine gate_callee (f := 18) rfl ?_); refine goesL_ (some 15) rfl rfl Tryd.func18 (by kernel_rfl) rfl #[.agg #[.int .u64 t208, .int .u64 t209, .int .u64 t210, .int .i64 t211, .int .i64 t212, .bool t213], .int .u64 98] rfl (by (try simp only [List.map_toArray, List.map_cons, List.map_nil]); first | done | rfl | (simp only [List.length_drop, List.length_take]; rfl)) ?_; (with_reducible refine (cap_Move.calls t208 t209 t210 t211 t212 t213 98 t228 t229 t230 t231 t232 t233 _ A4.out).mono ?_); rintro e w91 ⟨rfl, hb⟩; refine ⟨_, rfl, ?_⟩; have n0_ := Aside0.mk (blk_below (g := gb214) (o := .cells #[.int .u64 t208, .int .u64 t209, .int .u64 t210, .int .i64 t211, .int .i64 t212, .bool t213] 24 (0, 0)) (by (with_reducible repeat (first | refine blk_drewN ?_ _ | refine blk_drew ?_ | refine blk_alloc ?_ _)); exact BK214.out) hb); have n1_ := Aside0.mk (blk_below (g := gb227) (o := .cells #[.int .u64 t221, .int .u64 t222, .int .u64 t223, .int .i64 t224, .int .i64 t225, .bool t226] 24 (0, 0)) (by (with_reducible repeat (first | refine blk_drewN ?_ _ | refine blk_drew ?_ | refine blk_alloc ?_ _)); exact BK227.out) hb); have n2_ := Aside0.mk (below_step (by repeat (first | (with_reducible first | exact HB.out | apply below_alloc | apply pw_below_drewN | apply below_drew1 | refine below_set ?_ GE214.out | refine below_set ?_ GE227.out) | exact HB.out)) hb); clear BK214; clear BK227; clear HB; have BK214 := n0_; have BK227 := n1_; have HB := n2_; clear n0_ n1_ n2_; (try clear hb); (try clear hb2); (try clear hk); (try clear hi)) | ((with_reducible refine gate_dst (N := 16) rfl ?_); (with_reducible refine gate_callee (f := 19) rfl ?_); refine goesL_ (some 16) rfl rfl Tryd.func19 (by kernel_rfl) rfl #[.agg #[.int .u64 t228, .int .u64 t229, .int .u64 t230, .int .i64 t231, .int .i64 t232, .bool t233], .int .u64 5] rfl (by (try simp only [List.map_toArray, List.map_cons, List.map_nil]); first | done | rfl | (simp only [List.length_drop, List.length_take]; rfl)) ?_; (with_reducible refine (cap_Bound.calls t228 t229 t230 t231 t232 t233 5 t234 t235 t236 t237 t238 false _ A5.out).mono ?_); rintro e w92 ⟨rfl, hb⟩; refine ⟨_, rfl, ?_⟩; have n0_ := Aside0.mk (blk_below (g := gb214) (o := .cells #[.int .u64 t208, .int .u64 t209, .int .u64 t210, .int .i64 t211, .int .i64 t212, .bool t213] 24 (0, 0)) (by (with_reducible repeat (first | refine blk_drewN ?_ _ | refine blk_drew ?_ | refine blk_alloc ?_ _)); exact BK214.out) hb); have n1_ := Aside0.mk (blk_below (g := gb227) (o := .cells #[.int .u64 t221, .int .u64 t222, .int .u64 t223, .int .i64 t224, .int .i64 t225, .bool t226] 24 (0, 0)) (by (with_reducible repeat (first | refine blk_drewN ?_ _ | refine blk_drew ?_ | refine blk_alloc ?_ _)); exact BK227.out) hb); have n2_ := Aside0.mk (below_step (by repeat (first | (with_reducible first | exact HB.out | apply below_alloc | apply pw_below_drewN | apply below_drew1 | refine below_set ?_ GE214.out | refine below_set ?_ GE227.out) | exact HB.out)) hb); clear BK214; clear BK227; clear HB; have BK214 := n0_; have BK227 := n1_; have HB := n2_; clear n0_ n1_ n2_; (try clear hb); (try clear hb2); (try clear hk); (try clear hi)) | ((with_reducible refine gate_dst (N := 3) rfl ?_); refine box_event ?hg (N := 3) ?hd (cs := #[.int .u64 0, .int .u64 0, .int .u64 0, .int .i64 0, .int .i64 0, .bool false]) (t := 24) ?hr ?_; (case hd => rfl); (case hg => rfl); (case hr => first | (go_simp; done) | (go_simp; rfl)); intro gb240 hg w93 hbox hb; have n0_ := Aside0.mk (blk_below (g := gb214) (o := .cells #[.int .u64 t208, .int .u64 t209, .int .u64 t210, .int .i64 t211, .int .i64 t212, .bool t213] 24 (0, 0)) (by (with_reducible repeat (first | refine blk_drewN ?_ _ | refine blk_drew ?_ | refine blk_alloc ?_ _)); exact BK214.out) hb); have n1_ := Aside0.mk (blk_below (g := gb227) (o := .cells #[.int .u64 t221, .int .u64 t222, .int .u64 t223, .int .i64 t224, .int .i64 t225, .bool t226] 24 (0, 0)) (by (with_reducible repeat (first | refine blk_drewN ?_ _ | refine blk_drew ?_ | refine blk_alloc ?_ _)); exact BK227.out) hb); have n2_ := Aside0.mk (below_step (by repeat (first | (with_reducible first | exact HB.out | apply below_alloc | apply pw_below_drewN | apply below_drew1 | refine below_set ?_ GE214.out | refine below_set ?_ GE227.out) | exact HB.out)) hb); have n3_ := Aside0.mk (hbox); have n4_ := Aside0.mk ((by rw [hg]; exact (below_size (by repeat (first | (with_reducible first | exact HB.out | apply below_alloc | apply pw_below_drewN | apply below_drew1 | refine below_set ?_ GE214.out | refine below_set ?_ GE227.out) | exact HB.out))) : w.heap.size ≤ gb240)); have n5_ := n4_; have n6_ := Aside0.mk ((by rw [hg]; exact Nat.ne_of_lt (blk_lt (g := gb214) (o := .cells #[.int .u64 t208, .int .u64 t209, .int .u64 t210, .int .i64 t211, .int .i64 t212, .bool t213] 24 (0, 0)) (by (with_reducible repeat (first | refine blk_drewN ?_ _ | refine blk_drew ?_ | refine blk_alloc ?_ _)); exact BK214.out)) : gb214 ≠ gb240)); have n7_ := Aside0.mk n6_.out.symm; have n8_ := Aside0.mk ((by rw [hg]; exact Nat.ne_of_lt (blk_lt (g := gb227) (o := .cells #[.int .u64 t221, .int .u64 t222, .int .u64 t223, .int .i64 t224, .int .i64 t225, .bool t226] 24 (0, 0)) (by (with_reducible repeat (first | refine blk_drewN ?_ _ | refine blk_drew ?_ | refine blk_alloc ?_ _)); exact BK227.out)) : gb227 ≠ gb240)); have n9_ := Aside0.mk n8_.out.symm; clear BK214; clear BK227; clear HB; have BK214 := n0_; have BK227 := n1_; have HB := n2_; have BK240 := n3_; have GW240 := n4_; have GE240 := n5_; have NB214_240 := n6_; have NB240_214 := n7_; have NB227_240 := n8_; have NB240_227 := n9_; clear n0_ n1_ n2_ n3_ n4_ n5_ n6_ n7_ n8_ n9_; clear hb hbox hg; have hnb94 := NB240_214.out; have hnc94 := NB214_240.out; have hnb95 := NB240_227.out; have hnc95 := NB227_240.out; obtain ⟨hcz96_0, hcz96_1, hcz96_2, hcz96_3, hcz96_4, hcz96_5, hfz96_0, hfz96_1, hfz96_2, hfz96_3, hfz96_4, hfz96_5⟩ := cells6 BK240.out) | ((with_reducible refine gate_store (t := 24) (p := 3) rfl ?_); refine store_event (t := 24) (p := 3) (v := ?vo_w97) (w1 := ((((((w93.setCell ⟨gb240, 0, none⟩ (.int .u64 t234)).setCell ⟨gb240, 1, none⟩ (.int .u64 t235)).setCell ⟨gb240, 2, none⟩ (.int .u64 t236)).setCell ⟨gb240, 3, none⟩ (.int .i64 t237)).setCell ⟨gb240, 4, none⟩ (.int .i64 t238)).setCell ⟨gb240, 5, none⟩ (.bool false))) ?hg ?ho ?hn ?hr ?_; (case ho => rfl); (case hg => rfl); (case hn => rfl); (case hr => first | (go_simp; done) | (go_simp; rfl)); intro w97 hw; have n0_ : Aside0 (w97.heap[gb214]? = some (.cells #[.int .u64 t208, .int .u64 t209, .int .u64 t210, .int .i64 t211, .int .i64 t212, .bool t213] 24 (0, 0))) := ⟨(by rw [hw]; exact (by (with_reducible repeat (first | refine blk_drewN ?_ _ | refine blk_drew ?_ | refine blk_alloc ?_ _)); refine blk_far ?_ NB214_240.out _; (with_reducible repeat (first | refine blk_drewN ?_ _ | refine blk_drew ?_ | refine blk_alloc ?_ _)); refine blk_far ?_ NB214_240.out _; (with_reducible repeat (first | refine blk_drewN ?_ _ | refine blk_drew ?_ | refine blk_alloc ?_ _)); refine blk_far ?_ NB214_240.out _; (with_reducible repeat (first | refine blk_drewN ?_ _ | refine blk_drew ?_ | refine blk_alloc ?_ _)); refine blk_far ?_ NB214_240.out _; (with_reducible repeat (first | refine blk_drewN ?_ _ | refine blk_drew ?_ | refine blk_alloc ?_ _)); refine blk_far ?_ NB214_240.out _; (with_reducible repeat (first | refine blk_drewN ?_ _ | refine blk_drew ?_ | refine blk_alloc ?_ _)); refine blk_far ?_ NB214_240.out _; (with_reducible repeat (first | refine blk_drewN ?_ _ | refine blk_drew ?_ | refine blk_alloc ?_ _)); exact BK214.out))⟩; have n1_ : Aside0 (w97.heap[gb227]? = some (.cells #[.int .u64 t221, .int .u64 t222, .int .u64 t223, .int .i64 t224, .int .i64 t225, .bool t226] 24 (0, 0))) := ⟨(by rw [hw]; exact (by (with_reducible repeat (first | refine blk_drewN ?_ _ | refine blk_drew ?_ | refine blk_alloc ?_ _)); refine blk_far ?_ NB227_240.out _; (with_reducible repeat (first | refine blk_drewN ?_ _ | refine blk_drew ?_ | refine blk_alloc ?_ _)); refine blk_far ?_ NB227_240.out _; (with_reducible repeat (first | refine blk_drewN ?_ _ | refine blk_drew ?_ | refine blk_alloc ?_ _)); refine blk_far ?_ NB227_240.out _; (with_reducible repeat (first | refine blk_drewN ?_ _ | refine blk_drew ?_ | refine blk_alloc ?_ _)); refine blk_far ?_ NB227_240.out _; (with_reducible repeat (first | refine blk_drewN ?_ _ | refine blk_drew ?_ | refine blk_alloc ?_ _)); refine blk_far ?_ NB227_240.out _; (with_reducible repeat (first | refine blk_drewN ?_ _ | refine blk_drew ?_ | refine blk_alloc ?_ _)); refine blk_far ?_ NB227_240.out _; (with_reducible repeat (first | refine blk_drewN ?_ _ | refine blk_drew ?_ | refine blk_alloc ?_ _)); exact BK227.out))⟩; have n2_ : Aside0 (w97.heap[gb240]? = some (.cells #[.int .u64 t234, .int .u64 t235, .int .u64 t236, .int .i64 t237, .int .i64 t238, .bool false] 24 (0, 0))) := ⟨(by rw [hw]; exact (by (with_reducible repeat (first | refine blk_drewN ?_ _ | refine blk_drew ?_ | refine blk_alloc ?_ _)); refine blk_put (cs := #[.int .u64 t234, .int .u64 t235, .int .u64 t236, .int .i64 t237, .int .i64 t238, .bool false]) ?_ 5 _ rfl; (with_reducible repeat (first | refine blk_drewN ?_ _ | refine blk_drew ?_ | refine blk_alloc ?_ _)); refine blk_put (cs := #[.int .u64 t234, .int .u64 t235, .int .u64 t236, .int .i64 t237, .int .i64 0, .bool false]) ?_ 4 _ rfl; (with_reducible repeat (first | refine blk_drewN ?_ _ | refine blk_drew ?_ | refine blk_alloc ?_ _)); refine blk_put (cs := #[.int .u64 t234, .int .u64 t235, .int .u64 t236, .int .i64 0, .int .i64 0, .bool false]) ?_ 3 _ rfl; (with_reducible repeat (first | refine blk_drewN ?_ _ | refine blk_drew ?_ | refine blk_alloc ?_ _)); refine blk_put (cs := #[.int .u64 t234, .int .u64 t235, .int .u64 0, .int .i64 0, .int .i64 0, .bool false]) ?_ 2 _ rfl; (with_reducible repeat (first | refine blk_drewN ?_ _ | refine blk_drew ?_ | refine blk_alloc ?_ _)); refine blk_put (cs := #[.int .u64 t234, .int .u64 0, .int .u64 0, .int .i64 0, .int .i64 0, .bool false]) ?_ 1 _ rfl; (with_reducible repeat (first | refine blk_drewN ?_ _ | refine blk_drew ?_ | refine blk_alloc ?_ _)); refine blk_put (cs := #[.int .u64 0, .int .u64 0, .int .u64 0, .int .i64 0, .int .i64 0, .bool false]) ?_ 0 _ rfl; (with_reducible repeat (first | refine blk_drewN ?_ _ | refine blk_drew ?_ | refine blk_alloc ?_ _)); exact BK240.out))⟩; have n3_ : Aside0 (Below w.heap.size w w97) := ⟨(by rw [hw]; exact (by repeat (first | (with_reducible first | exact HB.out | apply below_alloc | apply pw_below_drewN | apply below_drew1 | refine below_set ?_ GE214.out | refine below_set ?_ GE227.out | refine below_set ?_ GE240.out) | exact HB.out)))⟩; clear hw; clear BK214; clear BK227; clear BK240; clear HB; have BK214 := n0_; have BK227 := n1_; have BK240 := n2_; have HB := n3_; clear n0_ n1_ n2_ n3_; obtain ⟨hcz98_0, hcz98_1, hcz98_2, hcz98_3, hcz98_4, hcz98_5, hfz98_0, hfz98_1, hfz98_2, hfz98_3, hfz98_4, hfz98_5⟩ := cells6 BK227.out) | ((with_reducible refine gate_dst (N := 18) rfl ?_); (with_reducible refine gate_callee (f := 17) rfl ?_); refine goesL_ (some 18) rfl rfl Tryd.func17 (by kernel_rfl) rfl #[.agg #[.int .u64 t221, .int .u64 t222, .int .u64 t223, .int .i64 t224, .int .i64 t225, .bool t226], .int .u64 5, .int .i64 1] rfl (by (try simp only [List.map_toArray, List.map_cons, List.map_nil]); first | done | rfl | (simp only [List.length_drop, List.length_take]; rfl)) ?_; (with_reducible refine (cap_Check.calls t221 t222 t223 t224 t225 t226 5 1 t241 _ A6.out).mono ?_); rintro e w99 ⟨rfl, hb⟩; refine ⟨_, rfl, ?_⟩; have n0_ := Aside0.mk (blk_below (g := gb214) (o := .cells #[.int .u64 t208, .int .u64 t209, .int .u64 t210, .int .i64 t211, .int .i64 t212, .bool t213] 24 (0, 0)) (by (with_reducible repeat (first | refine blk_drewN ?_ _ | refine blk_drew ?_ | refine blk_alloc ?_ _)); exact BK214.out) hb); have n1_ := Aside0.mk (blk_below (g := gb227) (o := .cells #[.int .u64 t221, .int .u64 t222, .int .u64 t223, .int .i64 t224, .int .i64 t225, .bool t226] 24 (0, 0)) (by (with_reducible repeat (first | refine blk_drewN ?_ _ | refine blk_drew ?_ | refine blk_alloc ?_ _)); exact BK227.out) hb); have n2_ := Aside0.mk (blk_below (g := gb240) (o := .cells #[.int .u64 t234, .int .u64 t235, .int .u64 t236, .int .i64 t237, .int .i64 t238, .bool false] 24 (0, 0)) (by (with_reducible repeat (first | refine blk_drewN ?_ _ | refine blk_drew ?_ | refine blk_alloc ?_ _)); exact BK240.out) hb); have n3_ := Aside0.mk (below_step (by repeat (first | (with_reducible first | exact HB.out | apply below_alloc | apply pw_below_drewN | apply below_drew1 | refine below_set ?_ GE214.out | refine below_set ?_ GE227.out | refine below_set ?_ GE240.out) | exact HB.out)) hb); clear BK214; clear BK227; clear BK240; clear HB; have BK214 := n0_; have BK227 := n1_; have BK240 := n2_; have HB := n3_; clear n0_ n1_ n2_ n3_; (try clear hb); (try clear hb2); (try clear hk); (try clear hi); obtain ⟨hcz100_0, hcz100_1, hcz100_2, hcz100_3, hcz100_4, hcz100_5, hfz100_0, hfz100_1, hfz100_2, hfz100_3, hfz100_4, hfz100_5⟩ := cells6 BK227.out) | ((with_reducible refine gate_dst (N := 20) rfl ?_); (with_reducible refine gate_callee (f := 17) rfl ?_); refine goesL_ (some 20) rfl rfl Tryd.func17 (by kernel_rfl) rfl #[.agg #[.int .u64 t221, .int .u64 t222, .int .u64 t223, .int .i64 t224, .int .i64 t225, .bool t226], .int .u64 6, .int .i64 1] rfl (by (try simp only [List.map_toArray, List.map_cons, List.map_nil]); first | done | rfl | (simp only [List.length_drop, List.length_take]; rfl)) ?_; (with_reducible refine (cap_Check.calls t221 t222 t223 t224 t225 t226 6 1 t242 _ A7.out).mono ?_); rintro e w101 ⟨rfl, hb⟩; refine ⟨_, rfl, ?_⟩; have n0_ := Aside0.mk (blk_below (g := gb214) (o := .cells #[.int .u64 t208, .int .u64 t209, .int .u64 t210, .int .i64 t211, .int .i64 t212, .bool t213] 24 (0, 0)) (by (with_reducible repeat (first | refine blk_drewN ?_ _ | refine blk_drew ?_ | refine blk_alloc ?_ _)); exact BK214.out) hb); have n1_ := Aside0.mk (blk_below (g := gb227) (o := .cells #[.int .u64 t221, .int .u64 t222, .int .u64 t223, .int .i64 t224, .int .i64 t225, .bool t226] 24 (0, 0)) (by (with_reducible repeat (first | refine blk_drewN ?_ _ | refine blk_drew ?_ | refine blk_alloc ?_ _)); exact BK227.out) hb); have n2_ := Aside0.mk (blk_below (g := gb240) (o := .cells #[.int .u64 t234, .int .u64 t235, .int .u64 t236, .int .i64 t237, .int .i64 t238, .bool false] 24 (0, 0)) (by (with_reducible repeat (first | refine blk_drewN ?_ _ | refine blk_drew ?_ | refine blk_alloc ?_ _)); exact BK240.out) hb); have n3_ := Aside0.mk (below_step (by repeat (first | (with_reducible first | exact HB.out | apply below_alloc | apply pw_below_drewN | apply below_drew1 | refine below_set ?_ GE214.out | refine below_set ?_ GE227.out | refine below_set ?_ GE240.out) | exact HB.out)) hb); clear BK214; clear BK227; clear BK240; clear HB; have BK214 := n0_; have BK227 := n1_; have BK240 := n2_; have HB := n3_; clear n0_ n1_ n2_ n3_; (try clear hb); (try clear hb2); (try clear hk); (try clear hi)))
              have n0_ := Aside0.mk (blk_drew BK214.out)
              have n1_ := Aside0.mk (blk_drew BK227.out)
              have n2_ := Aside0.mk (blk_drew BK240.out)
              have n3_ := Aside0.mk (below_drew1 HB.out)
              clear BK214
              clear BK227
              clear BK240
              clear HB
              have BK214 := n0_
              have BK227 := n1_
              have BK240 := n2_
              have HB := n3_
              clear n0_ n1_ n2_ n3_
              refine start_ (n := 6) (S := fun w' => w'.cell? ⟨gb214, 0, none⟩ = some (.int .u64 t208) ∧ w'.cell? ⟨gb214, 1, none⟩ = some (.int .u64 t209) ∧ w'.cell? ⟨gb214, 2, none⟩ = some (.int .u64 t210) ∧ w'.cell? ⟨gb214, 3, none⟩ = some (.int .i64 t211) ∧ w'.cell? ⟨gb214, 4, none⟩ = some (.int .i64 t212) ∧ w'.cell? ⟨gb214, 5, none⟩ = some (.bool t213)) (ds := []) #[false, false, false, false, false, false] (by kernel_rfl) rfl rfl ⟨(blk_cell BK214.out 0).trans rfl, (blk_cell BK214.out 1).trans rfl, (blk_cell BK214.out 2).trans rfl, (blk_cell BK214.out 3).trans rfl, (blk_cell BK214.out 4).trans rfl, (blk_cell BK214.out 5).trans rfl⟩ (fun hHeld => ?_)
              generalize w101.drew = w102 at BK214 BK227 BK240 HB hHeld ⊢
              refine take_ (i := 0) (N := some 21) (v := ?_) (a' := ?_) #[true, false, false, false, false, false] rfl rfl (by kernel_rfl) (fun _ _ _ h => h) (Or.inl ⟨by rfl, ?_⟩) hHeld ?_ ?_
              rotate_left
              · rintro w' ⟨s0, s1, s2, s3, s4, s5⟩
                go_simp
                with_reducible rfl
              rotate_left
              · simp only [Act.put, List.setIfInBounds_toArray, List.set_cons_zero, List.set_cons_succ, i64_w, i32_w]
                rfl
              refine take_ (i := 1) (N := some 22) (v := ?_) (a' := ?_) #[true, true, false, false, false, false] rfl rfl (by kernel_rfl) (fun _ _ _ h => h) (Or.inl ⟨by rfl, ?_⟩) hHeld ?_ ?_
              rotate_left
              · rintro w' ⟨s0, s1, s2, s3, s4, s5⟩
                go_simp
                with_reducible rfl
              rotate_left
              · simp only [Act.put, List.setIfInBounds_toArray, List.set_cons_zero, List.set_cons_succ, i64_w, i32_w]
                rfl
              refine join_ (σ := Nat) 1 #[true, true, true, true, true, false] (fun s_ => [(23, .agg #[.int .u64 t243, .int .u64 t244, .int .u64 t245, .int .i64 t246, .int .i64 t247, .bool t248]), (24, .agg #[.int .u64 t249, .int .u64 t250, .int .u64 t251, .int .i64 t252, .int .i64 t253, .bool t254]), (6, .pointer (some ⟨s_, 0, none⟩))]) (fun s_ w' => (w'.cell? ⟨gb214, 0, none⟩ = some (.int .u64 t208) ∧ w'.cell? ⟨gb214, 1, none⟩ = some (.int .u64 t209) ∧ w'.cell? ⟨gb214, 2, none⟩ = some (.int .u64 t210) ∧ w'.cell? ⟨gb214, 3, none⟩ = some (.int .i64 t211) ∧ w'.cell? ⟨gb214, 4, none⟩ = some (.int .i64 t212) ∧ w'.cell? ⟨gb214, 5, none⟩ = some (.bool t213)) ∧ (w'.heap[gb214]? = some (.cells #[.int .u64 t208, .int .u64 t209, .int .u64 t210, .int .i64 t211, .int .i64 t212, .bool t213] 24 (0, 0))) ∧ (w'.heap[gb227]? = some (.cells #[.int .u64 t221, .int .u64 t222, .int .u64 t223, .int .i64 t224, .int .i64 t225, .bool t226] 24 (0, 0))) ∧ (w'.heap[gb240]? = some (.cells #[.int .u64 t234, .int .u64 t235, .int .u64 t236, .int .i64 t237, .int .i64 t238, .bool false] 24 (0, 0))) ∧ (w'.heap[s_]? = some (.cells #[.int .u64 0, .int .u64 0, .int .u64 0, .int .i64 0, .int .i64 0, .bool false] 24 (0, 0))) ∧ (w.heap.size ≤ s_) ∧ (w.heap.size ≤ s_) ∧ (gb214 ≠ s_) ∧ (s_ ≠ gb214) ∧ (gb227 ≠ s_) ∧ (s_ ≠ gb227) ∧ (gb240 ≠ s_) ∧ (s_ ≠ gb240) ∧ (Below w.heap.size w w')) ?_ ?_
              rotate_left
              · intro hCont
                refine two_ (i := 2) (j := 4) (Ni := some 23) (Nj := some 6) #[true, true, true, false, false, false] #[true, true, false, false, true, false] rfl rfl rfl rfl (by kernel_rfl) (by decide) (by decide) (fun K hK => ?_) (fun K hK => ?_)
                · skip
                  refine goes_ Tryd.func18 (by kernel_rfl) rfl #[.agg #[.int .u64 t208, .int .u64 t209, .int .u64 t210, .int .i64 t211, .int .i64 t212, .bool t213], .int .u64 3] (by rfl) rfl rfl (by (try simp only [List.map_toArray, List.map_cons, List.map_nil]); first | done | rfl | (simp only [List.length_drop, List.length_take]; rfl)) ?_
                  with_reducible refine (cap_Move.calls t208 t209 t210 t211 t212 t213 3 t243 t244 t245 t246 t247 t248 _ A8.out).mono ?_
                  rintro e w103 ⟨rfl, hb⟩
                  refine ⟨_, rfl, ?_⟩
                  have n0_ := Aside0.mk (blk_below (g := gb214) (o := .cells #[.int .u64 t208, .int .u64 t209, .int .u64 t210, .int .i64 t211, .int .i64 t212, .bool t213] 24 (0, 0)) (by (with_reducible repeat (first | refine blk_drewN ?_ _ | refine blk_drew ?_ | refine blk_alloc ?_ _)); exact BK214.out) hb)
                  have n1_ := Aside0.mk (blk_below (g := gb227) (o := .cells #[.int .u64 t221, .int .u64 t222, .int .u64 t223, .int .i64 t224, .int .i64 t225, .bool t226] 24 (0, 0)) (by (with_reducible repeat (first | refine blk_drewN ?_ _ | refine blk_drew ?_ | refine blk_alloc ?_ _)); exact BK227.out) hb)
                  have n2_ := Aside0.mk (blk_below (g := gb240) (o := .cells #[.int .u64 t234, .int .u64 t235, .int .u64 t236, .int .i64 t237, .int .i64 t238, .bool false] 24 (0, 0)) (by (with_reducible repeat (first | refine blk_drewN ?_ _ | refine blk_drew ?_ | refine blk_alloc ?_ _)); exact BK240.out) hb)
                  have n3_ := Aside0.mk (below_step (by repeat (first | (with_reducible first | exact HB.out | apply below_alloc | apply pw_below_drewN | apply below_drew1 | refine below_set ?_ GE214.out | refine below_set ?_ GE227.out | refine below_set ?_ GE240.out) | exact HB.out)) hb)
                  clear BK214
                  clear BK227
                  clear BK240
                  clear HB
                  have BK214 := n0_
                  have BK227 := n1_
                  have BK240 := n2_
                  have HB := n3_
                  clear n0_ n1_ n2_ n3_
                  (try clear hb)
                  (try clear hb2)
                  (try clear hk)
                  (try clear hi)
                  refine hK.out _ _ ⟨(blk_cell BK214.out 0).trans rfl, (blk_cell BK214.out 1).trans rfl, (blk_cell BK214.out 2).trans rfl, (blk_cell BK214.out 3).trans rfl, (blk_cell BK214.out 4).trans rfl, (blk_cell BK214.out 5).trans rfl⟩ (fun hHeld => ?_)
                  clear hK K
                  refine norm_ (a' := ?_) ?_ ?_
                  rotate_left
                  · show Act.put _ (some 23) _ = _
                    simp only [Act.put, List.setIfInBounds_toArray, List.set_cons_zero, List.set_cons_succ, i64_w, i32_w]
                    rfl
                  refine two_ (i := 3) (j := 4) (Ni := some 24) (Nj := some 6) #[true, true, true, true, false, false] #[true, true, true, false, true, false] rfl rfl rfl rfl (by kernel_rfl) (by decide) (by decide) (fun K hK => ?_) (fun K hK => ?_)
                  · skip
                    refine goes_ Tryd.func12 (by kernel_rfl) rfl #[.agg #[.int .u64 t208, .int .u64 t209, .int .u64 t210, .int .i64 t211, .int .i64 t212, .bool t213], .agg #[.int .u64 t243, .int .u64 t244, .int .u64 t245, .int .i64 t246, .int .i64 t247, .bool t248]] (by rfl) rfl rfl (by (try simp only [List.map_toArray, List.map_cons, List.map_nil]); first | done | rfl | (simp only [List.length_drop, List.length_take]; rfl)) ?_
                    with_reducible refine (cap_Seal.calls t208 t209 t210 t211 t212 t213 t243 t244 t245 t246 t247 t248 t249 t250 t251 t252 t253 t254 _ A9.out).mono ?_
                    rintro e w104 ⟨rfl, hb⟩
                    refine ⟨_, rfl, ?_⟩
                    have n0_ := Aside0.mk (blk_below (g := gb214) (o := .cells #[.int .u64 t208, .int .u64 t209, .int .u64 t210, .int .i64 t211, .int .i64 t212, .bool t213] 24 (0, 0)) (by (with_reducible repeat (first | refine blk_drewN ?_ _ | refine blk_drew ?_ | refine blk_alloc ?_ _)); exact BK214.out) hb)
                    have n1_ := Aside0.mk (blk_below (g := gb227) (o := .cells #[.int .u64 t221, .int .u64 t222, .int .u64 t223, .int .i64 t224, .int .i64 t225, .bool t226] 24 (0, 0)) (by (with_reducible repeat (first | refine blk_drewN ?_ _ | refine blk_drew ?_ | refine blk_alloc ?_ _)); exact BK227.out) hb)
                    have n2_ := Aside0.mk (blk_below (g := gb240) (o := .cells #[.int .u64 t234, .int .u64 t235, .int .u64 t236, .int .i64 t237, .int .i64 t238, .bool false] 24 (0, 0)) (by (with_reducible repeat (first | refine blk_drewN ?_ _ | refine blk_drew ?_ | refine blk_alloc ?_ _)); exact BK240.out) hb)
                    have n3_ := Aside0.mk (below_step (by repeat (first | (with_reducible first | exact HB.out | apply below_alloc | apply pw_below_drewN | apply below_drew1 | refine below_set ?_ GE214.out | refine below_set ?_ GE227.out | refine below_set ?_ GE240.out) | exact HB.out)) hb)
                    clear BK214
                    clear BK227
                    clear BK240
                    clear HB
                    have BK214 := n0_
                    have BK227 := n1_
                    have BK240 := n2_
                    have HB := n3_
                    clear n0_ n1_ n2_ n3_
                    (try clear hb)
                    (try clear hb2)
                    (try clear hk)
                    (try clear hi)
                    refine hK.out _ _ ⟨(blk_cell BK214.out 0).trans rfl, (blk_cell BK214.out 1).trans rfl, (blk_cell BK214.out 2).trans rfl, (blk_cell BK214.out 3).trans rfl, (blk_cell BK214.out 4).trans rfl, (blk_cell BK214.out 5).trans rfl⟩ (fun hHeld => ?_)
                    clear hK K
                    refine norm_ (a' := ?_) ?_ ?_
                    rotate_left
                    · show Act.put _ (some 24) _ = _
                      simp only [Act.put, List.setIfInBounds_toArray, List.set_cons_zero, List.set_cons_succ, i64_w, i32_w]
                      rfl
                    refine one_ (i := 4) (N := some 6) #[true, true, true, true, true, false] rfl rfl (by kernel_rfl) (by decide) (fun K hK => ?_)
                    refine box_step ?hg (N := 6) ?hd (cs := #[.int .u64 0, .int .u64 0, .int .u64 0, .int .i64 0, .int .i64 0, .bool false]) (t := 24) ?hr ?_; (case hd => rfl); (case hg => rfl); (case hr => first | (go_simp; done) | (go_simp; rfl))
                    intro gb255 hg w105 hbox hb
                    have n0_ := Aside0.mk (blk_below (g := gb214) (o := .cells #[.int .u64 t208, .int .u64 t209, .int .u64 t210, .int .i64 t211, .int .i64 t212, .bool t213] 24 (0, 0)) (by (with_reducible repeat (first | refine blk_drewN ?_ _ | refine blk_drew ?_ | refine blk_alloc ?_ _)); exact BK214.out) hb)
                    have n1_ := Aside0.mk (blk_below (g := gb227) (o := .cells #[.int .u64 t221, .int .u64 t222, .int .u64 t223, .int .i64 t224, .int .i64 t225, .bool t226] 24 (0, 0)) (by (with_reducible repeat (first | refine blk_drewN ?_ _ | refine blk_drew ?_ | refine blk_alloc ?_ _)); exact BK227.out) hb)
                    have n2_ := Aside0.mk (blk_below (g := gb240) (o := .cells #[.int .u64 t234, .int .u64 t235, .int .u64 t236, .int .i64 t237, .int .i64 t238, .bool false] 24 (0, 0)) (by (with_reducible repeat (first | refine blk_drewN ?_ _ | refine blk_drew ?_ | refine blk_alloc ?_ _)); exact BK240.out) hb)
                    have n3_ := Aside0.mk (below_step (by repeat (first | (with_reducible first | exact HB.out | apply below_alloc | apply pw_below_drewN | apply below_drew1 | refine below_set ?_ GE214.out | refine below_set ?_ GE227.out | refine below_set ?_ GE240.out) | exact HB.out)) hb)
                    have n4_ := Aside0.mk (hbox)
                    have n5_ := Aside0.mk ((by rw [hg]; exact (below_size (by repeat (first | (with_reducible first | exact HB.out | apply below_alloc | apply pw_below_drewN | apply below_drew1 | refine below_set ?_ GE214.out | refine below_set ?_ GE227.out | refine below_set ?_ GE240.out) | exact HB.out))) : w.heap.size ≤ gb255))
                    have n6_ := Aside0.mk ((by rw [hg]; exact (below_size (by repeat (first | (with_reducible first | exact HB.out | apply below_alloc | apply pw_below_drewN | apply below_drew1 | refine below_set ?_ GE214.out | refine below_set ?_ GE227.out | refine below_set ?_ GE240.out) | exact HB.out))) : w.heap.size ≤ gb255))
                    have n7_ := Aside0.mk ((by rw [hg]; exact Nat.ne_of_lt (blk_lt (g := gb214) (o := .cells #[.int .u64 t208, .int .u64 t209, .int .u64 t210, .int .i64 t211, .int .i64 t212, .bool t213] 24 (0, 0)) (by (with_reducible repeat (first | refine blk_drewN ?_ _ | refine blk_drew ?_ | refine blk_alloc ?_ _)); exact BK214.out)) : gb214 ≠ gb255))
                    have n8_ := Aside0.mk ((by rw [hg]; exact Nat.ne_of_gt (blk_lt (g := gb214) (o := .cells #[.int .u64 t208, .int .u64 t209, .int .u64 t210, .int .i64 t211, .int .i64 t212, .bool t213] 24 (0, 0)) (by (with_reducible repeat (first | refine blk_drewN ?_ _ | refine blk_drew ?_ | refine blk_alloc ?_ _)); exact BK214.out)) : gb255 ≠ gb214))
                    have n9_ := Aside0.mk ((by rw [hg]; exact Nat.ne_of_lt (blk_lt (g := gb227) (o := .cells #[.int .u64 t221, .int .u64 t222, .int .u64 t223, .int .i64 t224, .int .i64 t225, .bool t226] 24 (0, 0)) (by (with_reducible repeat (first | refine blk_drewN ?_ _ | refine blk_drew ?_ | refine blk_alloc ?_ _)); exact BK227.out)) : gb227 ≠ gb255))
                    have n10_ := Aside0.mk ((by rw [hg]; exact Nat.ne_of_gt (blk_lt (g := gb227) (o := .cells #[.int .u64 t221, .int .u64 t222, .int .u64 t223, .int .i64 t224, .int .i64 t225, .bool t226] 24 (0, 0)) (by (with_reducible repeat (first | refine blk_drewN ?_ _ | refine blk_drew ?_ | refine blk_alloc ?_ _)); exact BK227.out)) : gb255 ≠ gb227))
                    have n11_ := Aside0.mk ((by rw [hg]; exact Nat.ne_of_lt (blk_lt (g := gb240) (o := .cells #[.int .u64 t234, .int .u64 t235, .int .u64 t236, .int .i64 t237, .int .i64 t238, .bool false] 24 (0, 0)) (by (with_reducible repeat (first | refine blk_drewN ?_ _ | refine blk_drew ?_ | refine blk_alloc ?_ _)); exact BK240.out)) : gb240 ≠ gb255))
                    have n12_ := Aside0.mk ((by rw [hg]; exact Nat.ne_of_gt (blk_lt (g := gb240) (o := .cells #[.int .u64 t234, .int .u64 t235, .int .u64 t236, .int .i64 t237, .int .i64 t238, .bool false] 24 (0, 0)) (by (with_reducible repeat (first | refine blk_drewN ?_ _ | refine blk_drew ?_ | refine blk_alloc ?_ _)); exact BK240.out)) : gb255 ≠ gb240))
                    clear BK214
                    clear BK227
                    clear BK240
                    clear HB
                    have BK214 := n0_
                    have BK227 := n1_
                    have BK240 := n2_
                    have HB := n3_
                    have BK255 := n4_
                    have GW255 := n5_
                    have GE255 := n6_
                    have NB214_255 := n7_
                    have NB255_214 := n8_
                    have NB227_255 := n9_
                    have NB255_227 := n10_
                    have NB240_255 := n11_
                    have NB255_240 := n12_
                    clear n0_ n1_ n2_ n3_ n4_ n5_ n6_ n7_ n8_ n9_ n10_ n11_ n12_
                    clear hb hbox hg
                    refine hK.out _ _ ⟨(blk_cell BK214.out 0).trans rfl, (blk_cell BK214.out 1).trans rfl, (blk_cell BK214.out 2).trans rfl, (blk_cell BK214.out 3).trans rfl, (blk_cell BK214.out 4).trans rfl, (blk_cell BK214.out 5).trans rfl⟩ (fun hHeld => ?_)
                    clear hK K
                    refine norm_ (a' := ?_) ?_ ?_
                    rotate_left
                    · show Act.put _ (some 6) _ = _
                      simp only [Act.put, List.setIfInBounds_toArray, List.set_cons_zero, List.set_cons_succ, i64_w, i32_w]
                      rfl
                    exact norm_ (by simp only [putAll, Act.put, List.setIfInBounds_toArray, List.set_cons_zero, List.set_cons_succ]) (hCont (gb255) _ ⟨hHeld, (by (with_reducible repeat (first | refine blk_drewN ?_ _ | refine blk_drew ?_ | refine blk_alloc ?_ _)); exact BK214.out), (by (with_reducible repeat (first | refine blk_drewN ?_ _ | refine blk_drew ?_ | refine blk_alloc ?_ _)); exact BK227.out), (by (with_reducible repeat (first | refine blk_drewN ?_ _ | refine blk_drew ?_ | refine blk_alloc ?_ _)); exact BK240.out), (by (with_reducible repeat (first | refine blk_drewN ?_ _ | refine blk_drew ?_ | refine blk_alloc ?_ _)); exact BK255.out), GW255.out, GE255.out, NB214_255.out, NB255_214.out, NB227_255.out, NB255_227.out, NB240_255.out, NB255_240.out, (by repeat (first | (with_reducible first | exact HB.out | apply below_alloc | apply pw_below_drewN | apply below_drew1 | refine below_set ?_ GE214.out | refine below_set ?_ GE227.out | refine below_set ?_ GE240.out | refine below_set ?_ GE255.out) | exact HB.out))⟩)
                  · skip
                    refine box_step ?hg (N := 6) ?hd (cs := #[.int .u64 0, .int .u64 0, .int .u64 0, .int .i64 0, .int .i64 0, .bool false]) (t := 24) ?hr ?_; (case hd => rfl); (case hg => rfl); (case hr => first | (go_simp; done) | (go_simp; rfl))
                    intro gb255 hg w104 hbox hb
                    have n0_ := Aside0.mk (blk_below (g := gb214) (o := .cells #[.int .u64 t208, .int .u64 t209, .int .u64 t210, .int .i64 t211, .int .i64 t212, .bool t213] 24 (0, 0)) (by (with_reducible repeat (first | refine blk_drewN ?_ _ | refine blk_drew ?_ | refine blk_alloc ?_ _)); exact BK214.out) hb)
                    have n1_ := Aside0.mk (blk_below (g := gb227) (o := .cells #[.int .u64 t221, .int .u64 t222, .int .u64 t223, .int .i64 t224, .int .i64 t225, .bool t226] 24 (0, 0)) (by (with_reducible repeat (first | refine blk_drewN ?_ _ | refine blk_drew ?_ | refine blk_alloc ?_ _)); exact BK227.out) hb)
                    have n2_ := Aside0.mk (blk_below (g := gb240) (o := .cells #[.int .u64 t234, .int .u64 t235, .int .u64 t236, .int .i64 t237, .int .i64 t238, .bool false] 24 (0, 0)) (by (with_reducible repeat (first | refine blk_drewN ?_ _ | refine blk_drew ?_ | refine blk_alloc ?_ _)); exact BK240.out) hb)
                    have n3_ := Aside0.mk (below_step (by repeat (first | (with_reducible first | exact HB.out | apply below_alloc | apply pw_below_drewN | apply below_drew1 | refine below_set ?_ GE214.out | refine below_set ?_ GE227.out | refine below_set ?_ GE240.out) | exact HB.out)) hb)
                    have n4_ := Aside0.mk (hbox)
                    have n5_ := Aside0.mk ((by rw [hg]; exact (below_size (by repeat (first | (with_reducible first | exact HB.out | apply below_alloc | apply pw_below_drewN | apply below_drew1 | refine below_set ?_ GE214.out | refine below_set ?_ GE227.out | refine below_set ?_ GE240.out) | exact HB.out))) : w.heap.size ≤ gb255))
                    have n6_ := Aside0.mk ((by rw [hg]; exact (below_size (by repeat (first | (with_reducible first | exact HB.out | apply below_alloc | apply pw_below_drewN | apply below_drew1 | refine below_set ?_ GE214.out | refine below_set ?_ GE227.out | refine below_set ?_ GE240.out) | exact HB.out))) : w.heap.size ≤ gb255))
                    have n7_ := Aside0.mk ((by rw [hg]; exact Nat.ne_of_lt (blk_lt (g := gb214) (o := .cells #[.int .u64 t208, .int .u64 t209, .int .u64 t210, .int .i64 t211, .int .i64 t212, .bool t213] 24 (0, 0)) (by (with_reducible repeat (first | refine blk_drewN ?_ _ | refine blk_drew ?_ | refine blk_alloc ?_ _)); exact BK214.out)) : gb214 ≠ gb255))
                    have n8_ := Aside0.mk ((by rw [hg]; exact Nat.ne_of_gt (blk_lt (g := gb214) (o := .cells #[.int .u64 t208, .int .u64 t209, .int .u64 t210, .int .i64 t211, .int .i64 t212, .bool t213] 24 (0, 0)) (by (with_reducible repeat (first | refine blk_drewN ?_ _ | refine blk_drew ?_ | refine blk_alloc ?_ _)); exact BK214.out)) : gb255 ≠ gb214))
                    have n9_ := Aside0.mk ((by rw [hg]; exact Nat.ne_of_lt (blk_lt (g := gb227) (o := .cells #[.int .u64 t221, .int .u64 t222, .int .u64 t223, .int .i64 t224, .int .i64 t225, .bool t226] 24 (0, 0)) (by (with_reducible repeat (first | refine blk_drewN ?_ _ | refine blk_drew ?_ | refine blk_alloc ?_ _)); exact BK227.out)) : gb227 ≠ gb255))
                    have n10_ := Aside0.mk ((by rw [hg]; exact Nat.ne_of_gt (blk_lt (g := gb227) (o := .cells #[.int .u64 t221, .int .u64 t222, .int .u64 t223, .int .i64 t224, .int .i64 t225, .bool t226] 24 (0, 0)) (by (with_reducible repeat (first | refine blk_drewN ?_ _ | refine blk_drew ?_ | refine blk_alloc ?_ _)); exact BK227.out)) : gb255 ≠ gb227))
                    have n11_ := Aside0.mk ((by rw [hg]; exact Nat.ne_of_lt (blk_lt (g := gb240) (o := .cells #[.int .u64 t234, .int .u64 t235, .int .u64 t236, .int .i64 t237, .int .i64 t238, .bool false] 24 (0, 0)) (by (with_reducible repeat (first | refine blk_drewN ?_ _ | refine blk_drew ?_ | refine blk_alloc ?_ _)); exact BK240.out)) : gb240 ≠ gb255))
                    have n12_ := Aside0.mk ((by rw [hg]; exact Nat.ne_of_gt (blk_lt (g := gb240) (o := .cells #[.int .u64 t234, .int .u64 t235, .int .u64 t236, .int .i64 t237, .int .i64 t238, .bool false] 24 (0, 0)) (by (with_reducible repeat (first | refine blk_drewN ?_ _ | refine blk_drew ?_ | refine blk_alloc ?_ _)); exact BK240.out)) : gb255 ≠ gb240))
                    clear BK214
                    clear BK227
                    clear BK240
                    clear HB
                    have BK214 := n0_
                    have BK227 := n1_
                    have BK240 := n2_
                    have HB := n3_
                    have BK255 := n4_
                    have GW255 := n5_
                    have GE255 := n6_
                    have NB214_255 := n7_
                    have NB255_214 := n8_
                    have NB227_255 := n9_
                    have NB255_227 := n10_
                    have NB240_255 := n11_
                    have NB255_240 := n12_
                    clear n0_ n1_ n2_ n3_ n4_ n5_ n6_ n7_ n8_ n9_ n10_ n11_ n12_
                    clear hb hbox hg
                    refine hK.out _ _ ⟨(blk_cell BK214.out 0).trans rfl, (blk_cell BK214.out 1).trans rfl, (blk_cell BK214.out 2).trans rfl, (blk_cell BK214.out 3).trans rfl, (blk_cell BK214.out 4).trans rfl, (blk_cell BK214.out 5).trans rfl⟩ (fun hHeld => ?_)
                    clear hK K
                    refine norm_ (a' := ?_) ?_ ?_
                    rotate_left
                    · show Act.put _ (some 6) _ = _
                      simp only [Act.put, List.setIfInBounds_toArray, List.set_cons_zero, List.set_cons_succ, i64_w, i32_w]
                      rfl
                    refine one_ (i := 3) (N := some 24) #[true, true, true, true, true, false] rfl rfl (by kernel_rfl) (by decide) (fun K hK => ?_)
                    refine goes_ Tryd.func12 (by kernel_rfl) rfl #[.agg #[.int .u64 t208, .int .u64 t209, .int .u64 t210, .int .i64 t211, .int .i64 t212, .bool t213], .agg #[.int .u64 t243, .int .u64 t244, .int .u64 t245, .int .i64 t246, .int .i64 t247, .bool t248]] (by rfl) rfl rfl (by (try simp only [List.map_toArray, List.map_cons, List.map_nil]); first | done | rfl | (simp only [List.length_drop, List.length_take]; rfl)) ?_
                    with_reducible refine (cap_Seal.calls t208 t209 t210 t211 t212 t213 t243 t244 t245 t246 t247 t248 t249 t250 t251 t252 t253 t254 _ A9.out).mono ?_
                    rintro e w105 ⟨rfl, hb⟩
                    refine ⟨_, rfl, ?_⟩
                    have n0_ := Aside0.mk (blk_below (g := gb214) (o := .cells #[.int .u64 t208, .int .u64 t209, .int .u64 t210, .int .i64 t211, .int .i64 t212, .bool t213] 24 (0, 0)) (by (with_reducible repeat (first | refine blk_drewN ?_ _ | refine blk_drew ?_ | refine blk_alloc ?_ _)); exact BK214.out) hb)
                    have n1_ := Aside0.mk (blk_below (g := gb227) (o := .cells #[.int .u64 t221, .int .u64 t222, .int .u64 t223, .int .i64 t224, .int .i64 t225, .bool t226] 24 (0, 0)) (by (with_reducible repeat (first | refine blk_drewN ?_ _ | refine blk_drew ?_ | refine blk_alloc ?_ _)); exact BK227.out) hb)
                    have n2_ := Aside0.mk (blk_below (g := gb240) (o := .cells #[.int .u64 t234, .int .u64 t235, .int .u64 t236, .int .i64 t237, .int .i64 t238, .bool false] 24 (0, 0)) (by (with_reducible repeat (first | refine blk_drewN ?_ _ | refine blk_drew ?_ | refine blk_alloc ?_ _)); exact BK240.out) hb)
                    have n3_ := Aside0.mk (blk_below (g := gb255) (o := .cells #[.int .u64 0, .int .u64 0, .int .u64 0, .int .i64 0, .int .i64 0, .bool false] 24 (0, 0)) (by (with_reducible repeat (first | refine blk_drewN ?_ _ | refine blk_drew ?_ | refine blk_alloc ?_ _)); exact BK255.out) hb)
                    have n4_ := Aside0.mk (below_step (by repeat (first | (with_reducible first | exact HB.out | apply below_alloc | apply pw_below_drewN | apply below_drew1 | refine below_set ?_ GE214.out | refine below_set ?_ GE227.out | refine below_set ?_ GE240.out | refine below_set ?_ GE255.out) | exact HB.out)) hb)
                    clear BK214
                    clear BK227
                    clear BK240
                    clear BK255
                    clear HB
                    have BK214 := n0_
                    have BK227 := n1_
                    have BK240 := n2_
                    have BK255 := n3_
                    have HB := n4_
                    clear n0_ n1_ n2_ n3_ n4_
                    (try clear hb)
                    (try clear hb2)
                    (try clear hk)
                    (try clear hi)
                    refine hK.out _ _ ⟨(blk_cell BK214.out 0).trans rfl, (blk_cell BK214.out 1).trans rfl, (blk_cell BK214.out 2).trans rfl, (blk_cell BK214.out 3).trans rfl, (blk_cell BK214.out 4).trans rfl, (blk_cell BK214.out 5).trans rfl⟩ (fun hHeld => ?_)
                    clear hK K
                    refine norm_ (a' := ?_) ?_ ?_
                    rotate_left
                    · show Act.put _ (some 24) _ = _
                      simp only [Act.put, List.setIfInBounds_toArray, List.set_cons_zero, List.set_cons_succ, i64_w, i32_w]
                      rfl
                    exact norm_ (by simp only [putAll, Act.put, List.setIfInBounds_toArray, List.set_cons_zero, List.set_cons_succ]) (hCont (gb255) _ ⟨hHeld, (by (with_reducible repeat (first | refine blk_drewN ?_ _ | refine blk_drew ?_ | refine blk_alloc ?_ _)); exact BK214.out), (by (with_reducible repeat (first | refine blk_drewN ?_ _ | refine blk_drew ?_ | refine blk_alloc ?_ _)); exact BK227.out), (by (with_reducible repeat (first | refine blk_drewN ?_ _ | refine blk_drew ?_ | refine blk_alloc ?_ _)); exact BK240.out), (by (with_reducible repeat (first | refine blk_drewN ?_ _ | refine blk_drew ?_ | refine blk_alloc ?_ _)); exact BK255.out), GW255.out, GE255.out, NB214_255.out, NB255_214.out, NB227_255.out, NB255_227.out, NB240_255.out, NB255_240.out, (by repeat (first | (with_reducible first | exact HB.out | apply below_alloc | apply pw_below_drewN | apply below_drew1 | refine below_set ?_ GE214.out | refine below_set ?_ GE227.out | refine below_set ?_ GE240.out | refine below_set ?_ GE255.out) | exact HB.out))⟩)
                · skip
                  refine box_step ?hg (N := 6) ?hd (cs := #[.int .u64 0, .int .u64 0, .int .u64 0, .int .i64 0, .int .i64 0, .bool false]) (t := 24) ?hr ?_; (case hd => rfl); (case hg => rfl); (case hr => first | (go_simp; done) | (go_simp; rfl))
                  intro gb255 hg w103 hbox hb
                  have n0_ := Aside0.mk (blk_below (g := gb214) (o := .cells #[.int .u64 t208, .int .u64 t209, .int .u64 t210, .int .i64 t211, .int .i64 t212, .bool t213] 24 (0, 0)) (by (with_reducible repeat (first | refine blk_drewN ?_ _ | refine blk_drew ?_ | refine blk_alloc ?_ _)); exact BK214.out) hb)
                  have n1_ := Aside0.mk (blk_below (g := gb227) (o := .cells #[.int .u64 t221, .int .u64 t222, .int .u64 t223, .int .i64 t224, .int .i64 t225, .bool t226] 24 (0, 0)) (by (with_reducible repeat (first | refine blk_drewN ?_ _ | refine blk_drew ?_ | refine blk_alloc ?_ _)); exact BK227.out) hb)
                  have n2_ := Aside0.mk (blk_below (g := gb240) (o := .cells #[.int .u64 t234, .int .u64 t235, .int .u64 t236, .int .i64 t237, .int .i64 t238, .bool false] 24 (0, 0)) (by (with_reducible repeat (first | refine blk_drewN ?_ _ | refine blk_drew ?_ | refine blk_alloc ?_ _)); exact BK240.out) hb)
                  have n3_ := Aside0.mk (below_step (by repeat (first | (with_reducible first | exact HB.out | apply below_alloc | apply pw_below_drewN | apply below_drew1 | refine below_set ?_ GE214.out | refine below_set ?_ GE227.out | refine below_set ?_ GE240.out) | exact HB.out)) hb)
                  have n4_ := Aside0.mk (hbox)
                  have n5_ := Aside0.mk ((by rw [hg]; exact (below_size (by repeat (first | (with_reducible first | exact HB.out | apply below_alloc | apply pw_below_drewN | apply below_drew1 | refine below_set ?_ GE214.out | refine below_set ?_ GE227.out | refine below_set ?_ GE240.out) | exact HB.out))) : w.heap.size ≤ gb255))
                  have n6_ := Aside0.mk ((by rw [hg]; exact (below_size (by repeat (first | (with_reducible first | exact HB.out | apply below_alloc | apply pw_below_drewN | apply below_drew1 | refine below_set ?_ GE214.out | refine below_set ?_ GE227.out | refine below_set ?_ GE240.out) | exact HB.out))) : w.heap.size ≤ gb255))
                  have n7_ := Aside0.mk ((by rw [hg]; exact Nat.ne_of_lt (blk_lt (g := gb214) (o := .cells #[.int .u64 t208, .int .u64 t209, .int .u64 t210, .int .i64 t211, .int .i64 t212, .bool t213] 24 (0, 0)) (by (with_reducible repeat (first | refine blk_drewN ?_ _ | refine blk_drew ?_ | refine blk_alloc ?_ _)); exact BK214.out)) : gb214 ≠ gb255))
                  have n8_ := Aside0.mk ((by rw [hg]; exact Nat.ne_of_gt (blk_lt (g := gb214) (o := .cells #[.int .u64 t208, .int .u64 t209, .int .u64 t210, .int .i64 t211, .int .i64 t212, .bool t213] 24 (0, 0)) (by (with_reducible repeat (first | refine blk_drewN ?_ _ | refine blk_drew ?_ | refine blk_alloc ?_ _)); exact BK214.out)) : gb255 ≠ gb214))
                  have n9_ := Aside0.mk ((by rw [hg]; exact Nat.ne_of_lt (blk_lt (g := gb227) (o := .cells #[.int .u64 t221, .int .u64 t222, .int .u64 t223, .int .i64 t224, .int .i64 t225, .bool t226] 24 (0, 0)) (by (with_reducible repeat (first | refine blk_drewN ?_ _ | refine blk_drew ?_ | refine blk_alloc ?_ _)); exact BK227.out)) : gb227 ≠ gb255))
                  have n10_ := Aside0.mk ((by rw [hg]; exact Nat.ne_of_gt (blk_lt (g := gb227) (o := .cells #[.int .u64 t221, .int .u64 t222, .int .u64 t223, .int .i64 t224, .int .i64 t225, .bool t226] 24 (0, 0)) (by (with_reducible repeat (first | refine blk_drewN ?_ _ | refine blk_drew ?_ | refine blk_alloc ?_ _)); exact BK227.out)) : gb255 ≠ gb227))
                  have n11_ := Aside0.mk ((by rw [hg]; exact Nat.ne_of_lt (blk_lt (g := gb240) (o := .cells #[.int .u64 t234, .int .u64 t235, .int .u64 t236, .int .i64 t237, .int .i64 t238, .bool false] 24 (0, 0)) (by (with_reducible repeat (first | refine blk_drewN ?_ _ | refine blk_drew ?_ | refine blk_alloc ?_ _)); exact BK240.out)) : gb240 ≠ gb255))
                  have n12_ := Aside0.mk ((by rw [hg]; exact Nat.ne_of_gt (blk_lt (g := gb240) (o := .cells #[.int .u64 t234, .int .u64 t235, .int .u64 t236, .int .i64 t237, .int .i64 t238, .bool false] 24 (0, 0)) (by (with_reducible repeat (first | refine blk_drewN ?_ _ | refine blk_drew ?_ | refine blk_alloc ?_ _)); exact BK240.out)) : gb255 ≠ gb240))
                  clear BK214
                  clear BK227
                  clear BK240
                  clear HB
                  have BK214 := n0_
                  have BK227 := n1_
                  have BK240 := n2_
                  have HB := n3_
                  have BK255 := n4_
                  have GW255 := n5_
                  have GE255 := n6_
                  have NB214_255 := n7_
                  have NB255_214 := n8_
                  have NB227_255 := n9_
                  have NB255_227 := n10_
                  have NB240_255 := n11_
                  have NB255_240 := n12_
                  clear n0_ n1_ n2_ n3_ n4_ n5_ n6_ n7_ n8_ n9_ n10_ n11_ n12_
                  clear hb hbox hg
                  refine hK.out _ _ ⟨(blk_cell BK214.out 0).trans rfl, (blk_cell BK214.out 1).trans rfl, (blk_cell BK214.out 2).trans rfl, (blk_cell BK214.out 3).trans rfl, (blk_cell BK214.out 4).trans rfl, (blk_cell BK214.out 5).trans rfl⟩ (fun hHeld => ?_)
                  clear hK K
                  refine norm_ (a' := ?_) ?_ ?_
                  rotate_left
                  · show Act.put _ (some 6) _ = _
                    simp only [Act.put, List.setIfInBounds_toArray, List.set_cons_zero, List.set_cons_succ, i64_w, i32_w]
                    rfl
                  refine one_ (i := 2) (N := some 23) #[true, true, true, false, true, false] rfl rfl (by kernel_rfl) (by decide) (fun K hK => ?_)
                  refine goes_ Tryd.func18 (by kernel_rfl) rfl #[.agg #[.int .u64 t208, .int .u64 t209, .int .u64 t210, .int .i64 t211, .int .i64 t212, .bool t213], .int .u64 3] (by rfl) rfl rfl (by (try simp only [List.map_toArray, List.map_cons, List.map_nil]); first | done | rfl | (simp only [List.length_drop, List.length_take]; rfl)) ?_
                  with_reducible refine (cap_Move.calls t208 t209 t210 t211 t212 t213 3 t243 t244 t245 t246 t247 t248 _ A8.out).mono ?_
                  rintro e w104 ⟨rfl, hb⟩
                  refine ⟨_, rfl, ?_⟩
                  have n0_ := Aside0.mk (blk_below (g := gb214) (o := .cells #[.int .u64 t208, .int .u64 t209, .int .u64 t210, .int .i64 t211, .int .i64 t212, .bool t213] 24 (0, 0)) (by (with_reducible repeat (first | refine blk_drewN ?_ _ | refine blk_drew ?_ | refine blk_alloc ?_ _)); exact BK214.out) hb)
                  have n1_ := Aside0.mk (blk_below (g := gb227) (o := .cells #[.int .u64 t221, .int .u64 t222, .int .u64 t223, .int .i64 t224, .int .i64 t225, .bool t226] 24 (0, 0)) (by (with_reducible repeat (first | refine blk_drewN ?_ _ | refine blk_drew ?_ | refine blk_alloc ?_ _)); exact BK227.out) hb)
                  have n2_ := Aside0.mk (blk_below (g := gb240) (o := .cells #[.int .u64 t234, .int .u64 t235, .int .u64 t236, .int .i64 t237, .int .i64 t238, .bool false] 24 (0, 0)) (by (with_reducible repeat (first | refine blk_drewN ?_ _ | refine blk_drew ?_ | refine blk_alloc ?_ _)); exact BK240.out) hb)
                  have n3_ := Aside0.mk (blk_below (g := gb255) (o := .cells #[.int .u64 0, .int .u64 0, .int .u64 0, .int .i64 0, .int .i64 0, .bool false] 24 (0, 0)) (by (with_reducible repeat (first | refine blk_drewN ?_ _ | refine blk_drew ?_ | refine blk_alloc ?_ _)); exact BK255.out) hb)
                  have n4_ := Aside0.mk (below_step (by repeat (first | (with_reducible first | exact HB.out | apply below_alloc | apply pw_below_drewN | apply below_drew1 | refine below_set ?_ GE214.out | refine below_set ?_ GE227.out | refine below_set ?_ GE240.out | refine below_set ?_ GE255.out) | exact HB.out)) hb)
                  clear BK214
                  clear BK227
                  clear BK240
                  clear BK255
                  clear HB
                  have BK214 := n0_
                  have BK227 := n1_
                  have BK240 := n2_
                  have BK255 := n3_
                  have HB := n4_
                  clear n0_ n1_ n2_ n3_ n4_
                  (try clear hb)
                  (try clear hb2)
                  (try clear hk)
                  (try clear hi)
                  refine hK.out _ _ ⟨(blk_cell BK214.out 0).trans rfl, (blk_cell BK214.out 1).trans rfl, (blk_cell BK214.out 2).trans rfl, (blk_cell BK214.out 3).trans rfl, (blk_cell BK214.out 4).trans rfl, (blk_cell BK214.out 5).trans rfl⟩ (fun hHeld => ?_)
                  clear hK K
                  refine norm_ (a' := ?_) ?_ ?_
                  rotate_left
                  · show Act.put _ (some 23) _ = _
                    simp only [Act.put, List.setIfInBounds_toArray, List.set_cons_zero, List.set_cons_succ, i64_w, i32_w]
                    rfl
                  refine one_ (i := 3) (N := some 24) #[true, true, true, true, true, false] rfl rfl (by kernel_rfl) (by decide) (fun K hK => ?_)
                  refine goes_ Tryd.func12 (by kernel_rfl) rfl #[.agg #[.int .u64 t208, .int .u64 t209, .int .u64 t210, .int .i64 t211, .int .i64 t212, .bool t213], .agg #[.int .u64 t243, .int .u64 t244, .int .u64 t245, .int .i64 t246, .int .i64 t247, .bool t248]] (by rfl) rfl rfl (by (try simp only [List.map_toArray, List.map_cons, List.map_nil]); first | done | rfl | (simp only [List.length_drop, List.length_take]; rfl)) ?_
                  with_reducible refine (cap_Seal.calls t208 t209 t210 t211 t212 t213 t243 t244 t245 t246 t247 t248 t249 t250 t251 t252 t253 t254 _ A9.out).mono ?_
                  rintro e w105 ⟨rfl, hb⟩
                  refine ⟨_, rfl, ?_⟩
                  have n0_ := Aside0.mk (blk_below (g := gb214) (o := .cells #[.int .u64 t208, .int .u64 t209, .int .u64 t210, .int .i64 t211, .int .i64 t212, .bool t213] 24 (0, 0)) (by (with_reducible repeat (first | refine blk_drewN ?_ _ | refine blk_drew ?_ | refine blk_alloc ?_ _)); exact BK214.out) hb)
                  have n1_ := Aside0.mk (blk_below (g := gb227) (o := .cells #[.int .u64 t221, .int .u64 t222, .int .u64 t223, .int .i64 t224, .int .i64 t225, .bool t226] 24 (0, 0)) (by (with_reducible repeat (first | refine blk_drewN ?_ _ | refine blk_drew ?_ | refine blk_alloc ?_ _)); exact BK227.out) hb)
                  have n2_ := Aside0.mk (blk_below (g := gb240) (o := .cells #[.int .u64 t234, .int .u64 t235, .int .u64 t236, .int .i64 t237, .int .i64 t238, .bool false] 24 (0, 0)) (by (with_reducible repeat (first | refine blk_drewN ?_ _ | refine blk_drew ?_ | refine blk_alloc ?_ _)); exact BK240.out) hb)
                  have n3_ := Aside0.mk (blk_below (g := gb255) (o := .cells #[.int .u64 0, .int .u64 0, .int .u64 0, .int .i64 0, .int .i64 0, .bool false] 24 (0, 0)) (by (with_reducible repeat (first | refine blk_drewN ?_ _ | refine blk_drew ?_ | refine blk_alloc ?_ _)); exact BK255.out) hb)
                  have n4_ := Aside0.mk (below_step (by repeat (first | (with_reducible first | exact HB.out | apply below_alloc | apply pw_below_drewN | apply below_drew1 | refine below_set ?_ GE214.out | refine below_set ?_ GE227.out | refine below_set ?_ GE240.out | refine below_set ?_ GE255.out) | exact HB.out)) hb)
                  clear BK214
                  clear BK227
                  clear BK240
                  clear BK255
                  clear HB
                  have BK214 := n0_
                  have BK227 := n1_
                  have BK240 := n2_
                  have BK255 := n3_
                  have HB := n4_
                  clear n0_ n1_ n2_ n3_ n4_
                  (try clear hb)
                  (try clear hb2)
                  (try clear hk)
                  (try clear hi)
                  refine hK.out _ _ ⟨(blk_cell BK214.out 0).trans rfl, (blk_cell BK214.out 1).trans rfl, (blk_cell BK214.out 2).trans rfl, (blk_cell BK214.out 3).trans rfl, (blk_cell BK214.out 4).trans rfl, (blk_cell BK214.out 5).trans rfl⟩ (fun hHeld => ?_)
                  clear hK K
                  refine norm_ (a' := ?_) ?_ ?_
                  rotate_left
                  · show Act.put _ (some 24) _ = _
                    simp only [Act.put, List.setIfInBounds_toArray, List.set_cons_zero, List.set_cons_succ, i64_w, i32_w]
                    rfl
                  exact norm_ (by simp only [putAll, Act.put, List.setIfInBounds_toArray, List.set_cons_zero, List.set_cons_succ]) (hCont (gb255) _ ⟨hHeld, (by (with_reducible repeat (first | refine blk_drewN ?_ _ | refine blk_drew ?_ | refine blk_alloc ?_ _)); exact BK214.out), (by (with_reducible repeat (first | refine blk_drewN ?_ _ | refine blk_drew ?_ | refine blk_alloc ?_ _)); exact BK227.out), (by (with_reducible repeat (first | refine blk_drewN ?_ _ | refine blk_drew ?_ | refine blk_alloc ?_ _)); exact BK240.out), (by (with_reducible repeat (first | refine blk_drewN ?_ _ | refine blk_drew ?_ | refine blk_alloc ?_ _)); exact BK255.out), GW255.out, GE255.out, NB214_255.out, NB255_214.out, NB227_255.out, NB255_227.out, NB240_255.out, NB255_240.out, (by repeat (first | (with_reducible first | exact HB.out | apply below_alloc | apply pw_below_drewN | apply below_drew1 | refine below_set ?_ GE214.out | refine below_set ?_ GE227.out | refine below_set ?_ GE240.out | refine below_set ?_ GE255.out) | exact HB.out))⟩)
              rintro gb255 w106 ⟨hS_, h0_, h1_, h2_, h3_, h4_, h5_, h6_, h7_, h8_, h9_, h10_, h11_, h12_⟩
              have n0_ : Aside0 (w106.heap[gb214]? = some (.cells #[.int .u64 t208, .int .u64 t209, .int .u64 t210, .int .i64 t211, .int .i64 t212, .bool t213] 24 (0, 0))) := ⟨h0_⟩
              have n1_ : Aside0 (w106.heap[gb227]? = some (.cells #[.int .u64 t221, .int .u64 t222, .int .u64 t223, .int .i64 t224, .int .i64 t225, .bool t226] 24 (0, 0))) := ⟨h1_⟩
              have n2_ : Aside0 (w106.heap[gb240]? = some (.cells #[.int .u64 t234, .int .u64 t235, .int .u64 t236, .int .i64 t237, .int .i64 t238, .bool false] 24 (0, 0))) := ⟨h2_⟩
              have n3_ : Aside0 (w106.heap[gb255]? = some (.cells #[.int .u64 0, .int .u64 0, .int .u64 0, .int .i64 0, .int .i64 0, .bool false] 24 (0, 0))) := ⟨h3_⟩
              have n4_ : Aside0 (w.heap.size ≤ gb255) := ⟨h4_⟩
              have n5_ : Aside0 (w.heap.size ≤ gb255) := ⟨h5_⟩
              have n6_ : Aside0 (gb214 ≠ gb255) := ⟨h6_⟩
              have n7_ : Aside0 (gb255 ≠ gb214) := ⟨h7_⟩
              have n8_ : Aside0 (gb227 ≠ gb255) := ⟨h8_⟩
              have n9_ : Aside0 (gb255 ≠ gb227) := ⟨h9_⟩
              have n10_ : Aside0 (gb240 ≠ gb255) := ⟨h10_⟩
              have n11_ : Aside0 (gb255 ≠ gb240) := ⟨h11_⟩
              have n12_ : Aside0 (Below w.heap.size w w106) := ⟨h12_⟩
              clear BK214
              clear BK227
              clear BK240
              clear HB
              clear h0_ h1_ h2_ h3_ h4_ h5_ h6_ h7_ h8_ h9_ h10_ h11_ h12_
              have BK214 := n0_
              have BK227 := n1_
              have BK240 := n2_
              have BK255 := n3_
              have GW255 := n4_
              have GE255 := n5_
              have NB214_255 := n6_
              have NB255_214 := n7_
              have NB227_255 := n8_
              have NB255_227 := n9_
              have NB240_255 := n10_
              have NB255_240 := n11_
              have HB := n12_
              clear n0_ n1_ n2_ n3_ n4_ n5_ n6_ n7_ n8_ n9_ n10_ n11_ n12_
              have hHeld : w106.cell? ⟨gb214, 0, none⟩ = some (.int .u64 t208) ∧ w106.cell? ⟨gb214, 1, none⟩ = some (.int .u64 t209) ∧ w106.cell? ⟨gb214, 2, none⟩ = some (.int .u64 t210) ∧ w106.cell? ⟨gb214, 3, none⟩ = some (.int .i64 t211) ∧ w106.cell? ⟨gb214, 4, none⟩ = some (.int .i64 t212) ∧ w106.cell? ⟨gb214, 5, none⟩ = some (.bool t213) := hS_
              refine norm_ (a' := ?_) ?_ ?_
              rotate_left
              · simp only [putAll, Act.put, List.setIfInBounds_toArray, List.set_cons_zero, List.set_cons_succ]
                rfl
              refine one_ (i := 5) (N := none) #[true, true, true, true, true, true] rfl rfl (by kernel_rfl) (by decide) (fun K hK => ?_)
              have hs107 : w106.cell? ⟨gb255, 0, none⟩ = some (.int .u64 0) := (blk_cell BK255.out 0).trans rfl
              have hfs107 := blk_frozen BK255.out 0
              have hns107_0 := NB214_255.out
              have hns107_1 := NB227_255.out
              have hns107_2 := NB240_255.out
              have hms107_0 := NB255_214.out
              have hms107_1 := NB255_227.out
              have hms107_2 := NB255_240.out
              have hs108 : w106.cell? ⟨gb255, 1, none⟩ = some (.int .u64 0) := (blk_cell BK255.out 1).trans rfl
              have hfs108 := blk_frozen BK255.out 1
              have hns108_0 := NB214_255.out
              have hns108_1 := NB227_255.out
              have hns108_2 := NB240_255.out
              have hms108_0 := NB255_214.out
              have hms108_1 := NB255_227.out
              have hms108_2 := NB255_240.out
              have hs109 : w106.cell? ⟨gb255, 2, none⟩ = some (.int .u64 0) := (blk_cell BK255.out 2).trans rfl
              have hfs109 := blk_frozen BK255.out 2
              have hns109_0 := NB214_255.out
              have hns109_1 := NB227_255.out
              have hns109_2 := NB240_255.out
              have hms109_0 := NB255_214.out
              have hms109_1 := NB255_227.out
              have hms109_2 := NB255_240.out
              have hs110 : w106.cell? ⟨gb255, 3, none⟩ = some (.int .i64 0) := (blk_cell BK255.out 3).trans rfl
              have hfs110 := blk_frozen BK255.out 3
              have hns110_0 := NB214_255.out
              have hns110_1 := NB227_255.out
              have hns110_2 := NB240_255.out
              have hms110_0 := NB255_214.out
              have hms110_1 := NB255_227.out
              have hms110_2 := NB255_240.out
              have hs111 : w106.cell? ⟨gb255, 4, none⟩ = some (.int .i64 0) := (blk_cell BK255.out 4).trans rfl
              have hfs111 := blk_frozen BK255.out 4
              have hns111_0 := NB214_255.out
              have hns111_1 := NB227_255.out
              have hns111_2 := NB240_255.out
              have hms111_0 := NB255_214.out
              have hms111_1 := NB255_227.out
              have hms111_2 := NB255_240.out
              have hs112 : w106.cell? ⟨gb255, 5, none⟩ = some (.bool false) := (blk_cell BK255.out 5).trans rfl
              have hfs112 := blk_frozen BK255.out 5
              have hns112_0 := NB214_255.out
              have hns112_1 := NB227_255.out
              have hns112_2 := NB240_255.out
              have hms112_0 := NB255_214.out
              have hms112_1 := NB255_227.out
              have hms112_2 := NB255_240.out
              refine skip_ (w1 := ?_) (by rfl) rfl ?_ ?_
              rotate_left
              · go_simp
                rfl
              refine hK.out _ _ ⟨((cell_far (p := ⟨gb255, _, none⟩) NB214_255.out _).trans (((cell_far (p := ⟨gb255, _, none⟩) NB214_255.out _).trans (((cell_far (p := ⟨gb255, _, none⟩) NB214_255.out _).trans (((cell_far (p := ⟨gb255, _, none⟩) NB214_255.out _).trans (((cell_far (p := ⟨gb255, _, none⟩) NB214_255.out _).trans (((cell_far (p := ⟨gb255, _, none⟩) NB214_255.out _).trans (hHeld.1)))))))))))), ((cell_far (p := ⟨gb255, _, none⟩) NB214_255.out _).trans (((cell_far (p := ⟨gb255, _, none⟩) NB214_255.out _).trans (((cell_far (p := ⟨gb255, _, none⟩) NB214_255.out _).trans (((cell_far (p := ⟨gb255, _, none⟩) NB214_255.out _).trans (((cell_far (p := ⟨gb255, _, none⟩) NB214_255.out _).trans (((cell_far (p := ⟨gb255, _, none⟩) NB214_255.out _).trans (hHeld.2.1)))))))))))), ((cell_far (p := ⟨gb255, _, none⟩) NB214_255.out _).trans (((cell_far (p := ⟨gb255, _, none⟩) NB214_255.out _).trans (((cell_far (p := ⟨gb255, _, none⟩) NB214_255.out _).trans (((cell_far (p := ⟨gb255, _, none⟩) NB214_255.out _).trans (((cell_far (p := ⟨gb255, _, none⟩) NB214_255.out _).trans (((cell_far (p := ⟨gb255, _, none⟩) NB214_255.out _).trans (hHeld.2.2.1)))))))))))), ((cell_far (p := ⟨gb255, _, none⟩) NB214_255.out _).trans (((cell_far (p := ⟨gb255, _, none⟩) NB214_255.out _).trans (((cell_far (p := ⟨gb255, _, none⟩) NB214_255.out _).trans (((cell_far (p := ⟨gb255, _, none⟩) NB214_255.out _).trans (((cell_far (p := ⟨gb255, _, none⟩) NB214_255.out _).trans (((cell_far (p := ⟨gb255, _, none⟩) NB214_255.out _).trans (hHeld.2.2.2.1)))))))))))), ((cell_far (p := ⟨gb255, _, none⟩) NB214_255.out _).trans (((cell_far (p := ⟨gb255, _, none⟩) NB214_255.out _).trans (((cell_far (p := ⟨gb255, _, none⟩) NB214_255.out _).trans (((cell_far (p := ⟨gb255, _, none⟩) NB214_255.out _).trans (((cell_far (p := ⟨gb255, _, none⟩) NB214_255.out _).trans (((cell_far (p := ⟨gb255, _, none⟩) NB214_255.out _).trans (hHeld.2.2.2.2.1)))))))))))), ((cell_far (p := ⟨gb255, _, none⟩) NB214_255.out _).trans (((cell_far (p := ⟨gb255, _, none⟩) NB214_255.out _).trans (((cell_far (p := ⟨gb255, _, none⟩) NB214_255.out _).trans (((cell_far (p := ⟨gb255, _, none⟩) NB214_255.out _).trans (((cell_far (p := ⟨gb255, _, none⟩) NB214_255.out _).trans (((cell_far (p := ⟨gb255, _, none⟩) NB214_255.out _).trans (hHeld.2.2.2.2.2))))))))))))⟩ (fun hHeld => ?_)
              clear hK K
              refine done_ (by kernel_rfl) ?_
              try go_wp2
              have n0_ : Aside0 (((((((w106.setCell ⟨gb255, 0, none⟩ (.int .u64 t249)).setCell ⟨gb255, 1, none⟩ (.int .u64 t250)).setCell ⟨gb255, 2, none⟩ (.int .u64 t251)).setCell ⟨gb255, 3, none⟩ (.int .i64 t252)).setCell ⟨gb255, 4, none⟩ (.int .i64 t253)).setCell ⟨gb255, 5, none⟩ (.bool t254)).heap[gb214]? = some (.cells #[.int .u64 t208, .int .u64 t209, .int .u64 t210, .int .i64 t211, .int .i64 t212, .bool t213] 24 (0, 0))) := ⟨by (with_reducible repeat (first | refine blk_drewN ?_ _ | refine blk_drew ?_ | refine blk_alloc ?_ _)); refine blk_far ?_ NB214_255.out _; (with_reducible repeat (first | refine blk_drewN ?_ _ | refine blk_drew ?_ | refine blk_alloc ?_ _)); refine blk_far ?_ NB214_255.out _; (with_reducible repeat (first | refine blk_drewN ?_ _ | refine blk_drew ?_ | refine blk_alloc ?_ _)); refine blk_far ?_ NB214_255.out _; (with_reducible repeat (first | refine blk_drewN ?_ _ | refine blk_drew ?_ | refine blk_alloc ?_ _)); refine blk_far ?_ NB214_255.out _; (with_reducible repeat (first | refine blk_drewN ?_ _ | refine blk_drew ?_ | refine blk_alloc ?_ _)); refine blk_far ?_ NB214_255.out _; (with_reducible repeat (first | refine blk_drewN ?_ _ | refine blk_drew ?_ | refine blk_alloc ?_ _)); refine blk_far ?_ NB214_255.out _; (with_reducible repeat (first | refine blk_drewN ?_ _ | refine blk_drew ?_ | refine blk_alloc ?_ _)); exact BK214.out⟩
              have n1_ : Aside0 (((((((w106.setCell ⟨gb255, 0, none⟩ (.int .u64 t249)).setCell ⟨gb255, 1, none⟩ (.int .u64 t250)).setCell ⟨gb255, 2, none⟩ (.int .u64 t251)).setCell ⟨gb255, 3, none⟩ (.int .i64 t252)).setCell ⟨gb255, 4, none⟩ (.int .i64 t253)).setCell ⟨gb255, 5, none⟩ (.bool t254)).heap[gb227]? = some (.cells #[.int .u64 t221, .int .u64 t222, .int .u64 t223, .int .i64 t224, .int .i64 t225, .bool t226] 24 (0, 0))) := ⟨by (with_reducible repeat (first | refine blk_drewN ?_ _ | refine blk_drew ?_ | refine blk_alloc ?_ _)); refine blk_far ?_ NB227_255.out _; (with_reducible repeat (first | refine blk_drewN ?_ _ | refine blk_drew ?_ | refine blk_alloc ?_ _)); refine blk_far ?_ NB227_255.out _; (with_reducible repeat (first | refine blk_drewN ?_ _ | refine blk_drew ?_ | refine blk_alloc ?_ _)); refine blk_far ?_ NB227_255.out _; (with_reducible repeat (first | refine blk_drewN ?_ _ | refine blk_drew ?_ | refine blk_alloc ?_ _)); refine blk_far ?_ NB227_255.out _; (with_reducible repeat (first | refine blk_drewN ?_ _ | refine blk_drew ?_ | refine blk_alloc ?_ _)); refine blk_far ?_ NB227_255.out _; (with_reducible repeat (first | refine blk_drewN ?_ _ | refine blk_drew ?_ | refine blk_alloc ?_ _)); refine blk_far ?_ NB227_255.out _; (with_reducible repeat (first | refine blk_drewN ?_ _ | refine blk_drew ?_ | refine blk_alloc ?_ _)); exact BK227.out⟩
              have n2_ : Aside0 (((((((w106.setCell ⟨gb255, 0, none⟩ (.int .u64 t249)).setCell ⟨gb255, 1, none⟩ (.int .u64 t250)).setCell ⟨gb255, 2, none⟩ (.int .u64 t251)).setCell ⟨gb255, 3, none⟩ (.int .i64 t252)).setCell ⟨gb255, 4, none⟩ (.int .i64 t253)).setCell ⟨gb255, 5, none⟩ (.bool t254)).heap[gb240]? = some (.cells #[.int .u64 t234, .int .u64 t235, .int .u64 t236, .int .i64 t237, .int .i64 t238, .bool false] 24 (0, 0))) := ⟨by (with_reducible repeat (first | refine blk_drewN ?_ _ | refine blk_drew ?_ | refine blk_alloc ?_ _)); refine blk_far ?_ NB240_255.out _; (with_reducible repeat (first | refine blk_drewN ?_ _ | refine blk_drew ?_ | refine blk_alloc ?_ _)); refine blk_far ?_ NB240_255.out _; (with_reducible repeat (first | refine blk_drewN ?_ _ | refine blk_drew ?_ | refine blk_alloc ?_ _)); refine blk_far ?_ NB240_255.out _; (with_reducible repeat (first | refine blk_drewN ?_ _ | refine blk_drew ?_ | refine blk_alloc ?_ _)); refine blk_far ?_ NB240_255.out _; (with_reducible repeat (first | refine blk_drewN ?_ _ | refine blk_drew ?_ | refine blk_alloc ?_ _)); refine blk_far ?_ NB240_255.out _; (with_reducible repeat (first | refine blk_drewN ?_ _ | refine blk_drew ?_ | refine blk_alloc ?_ _)); refine blk_far ?_ NB240_255.out _; (with_reducible repeat (first | refine blk_drewN ?_ _ | refine blk_drew ?_ | refine blk_alloc ?_ _)); exact BK240.out⟩
              have n3_ : Aside0 (((((((w106.setCell ⟨gb255, 0, none⟩ (.int .u64 t249)).setCell ⟨gb255, 1, none⟩ (.int .u64 t250)).setCell ⟨gb255, 2, none⟩ (.int .u64 t251)).setCell ⟨gb255, 3, none⟩ (.int .i64 t252)).setCell ⟨gb255, 4, none⟩ (.int .i64 t253)).setCell ⟨gb255, 5, none⟩ (.bool t254)).heap[gb255]? = some (.cells #[.int .u64 t249, .int .u64 t250, .int .u64 t251, .int .i64 t252, .int .i64 t253, .bool t254] 24 (0, 0))) := ⟨by (with_reducible repeat (first | refine blk_drewN ?_ _ | refine blk_drew ?_ | refine blk_alloc ?_ _)); refine blk_put (cs := #[.int .u64 t249, .int .u64 t250, .int .u64 t251, .int .i64 t252, .int .i64 t253, .bool false]) ?_ 5 _ rfl; (with_reducible repeat (first | refine blk_drewN ?_ _ | refine blk_drew ?_ | refine blk_alloc ?_ _)); refine blk_put (cs := #[.int .u64 t249, .int .u64 t250, .int .u64 t251, .int .i64 t252, .int .i64 0, .bool false]) ?_ 4 _ rfl; (with_reducible repeat (first | refine blk_drewN ?_ _ | refine blk_drew ?_ | refine blk_alloc ?_ _)); refine blk_put (cs := #[.int .u64 t249, .int .u64 t250, .int .u64 t251, .int .i64 0, .int .i64 0, .bool false]) ?_ 3 _ rfl; (with_reducible repeat (first | refine blk_drewN ?_ _ | refine blk_drew ?_ | refine blk_alloc ?_ _)); refine blk_put (cs := #[.int .u64 t249, .int .u64 t250, .int .u64 0, .int .i64 0, .int .i64 0, .bool false]) ?_ 2 _ rfl; (with_reducible repeat (first | refine blk_drewN ?_ _ | refine blk_drew ?_ | refine blk_alloc ?_ _)); refine blk_put (cs := #[.int .u64 t249, .int .u64 0, .int .u64 0, .int .i64 0, .int .i64 0, .bool false]) ?_ 1 _ rfl; (with_reducible repeat (first | refine blk_drewN ?_ _ | refine blk_drew ?_ | refine blk_alloc ?_ _)); refine blk_put (cs := #[.int .u64 0, .int .u64 0, .int .u64 0, .int .i64 0, .int .i64 0, .bool false]) ?_ 0 _ rfl; (with_reducible repeat (first | refine blk_drewN ?_ _ | refine blk_drew ?_ | refine blk_alloc ?_ _)); exact BK255.out⟩
              have n4_ : Aside0 (Below w.heap.size w ((((((w106.setCell ⟨gb255, 0, none⟩ (.int .u64 t249)).setCell ⟨gb255, 1, none⟩ (.int .u64 t250)).setCell ⟨gb255, 2, none⟩ (.int .u64 t251)).setCell ⟨gb255, 3, none⟩ (.int .i64 t252)).setCell ⟨gb255, 4, none⟩ (.int .i64 t253)).setCell ⟨gb255, 5, none⟩ (.bool t254))) := ⟨by repeat (first | (with_reducible first | exact HB.out | apply below_alloc | apply pw_below_drewN | apply below_drew1 | refine below_set ?_ GE214.out | refine below_set ?_ GE227.out | refine below_set ?_ GE240.out | refine below_set ?_ GE255.out) | exact HB.out)⟩
              (try clear BK214)
              (try clear BK227)
              (try clear BK240)
              (try clear BK255)
              (try clear HB)
              generalize ((((((w106.setCell ⟨gb255, 0, none⟩ (.int .u64 t249)).setCell ⟨gb255, 1, none⟩ (.int .u64 t250)).setCell ⟨gb255, 2, none⟩ (.int .u64 t251)).setCell ⟨gb255, 3, none⟩ (.int .i64 t252)).setCell ⟨gb255, 4, none⟩ (.int .i64 t253)).setCell ⟨gb255, 5, none⟩ (.bool t254)) = w113 at n0_ n1_ n2_ n3_ n4_ ⊢
              have BK214 := n0_
              have BK227 := n1_
              have BK240 := n2_
              have BK255 := n3_
              have HB := n4_
              clear n0_ n1_ n2_ n3_ n4_
              have n0_ := Aside0.mk (blk_drew BK214.out)
              have n1_ := Aside0.mk (blk_drew BK227.out)
              have n2_ := Aside0.mk (blk_drew BK240.out)
              have n3_ := Aside0.mk (blk_drew BK255.out)
              have n4_ := Aside0.mk (below_drew1 HB.out)
              clear BK214
              clear BK227
              clear BK240
              clear BK255
              clear HB
              have BK214 := n0_
              have BK227 := n1_
              have BK240 := n2_
              have BK255 := n3_
              have HB := n4_
              clear n0_ n1_ n2_ n3_ n4_
              refine start_ (n := 6) (S := fun w' => w'.cell? ⟨gb255, 0, none⟩ = some (.int .u64 t249) ∧ w'.cell? ⟨gb255, 1, none⟩ = some (.int .u64 t250) ∧ w'.cell? ⟨gb255, 2, none⟩ = some (.int .u64 t251) ∧ w'.cell? ⟨gb255, 3, none⟩ = some (.int .i64 t252) ∧ w'.cell? ⟨gb255, 4, none⟩ = some (.int .i64 t253) ∧ w'.cell? ⟨gb255, 5, none⟩ = some (.bool t254) ∧ w'.cell? ⟨gb214, 0, none⟩ = some (.int .u64 t208) ∧ w'.cell? ⟨gb214, 1, none⟩ = some (.int .u64 t209) ∧ w'.cell? ⟨gb214, 2, none⟩ = some (.int .u64 t210) ∧ w'.cell? ⟨gb214, 3, none⟩ = some (.int .i64 t211) ∧ w'.cell? ⟨gb214, 4, none⟩ = some (.int .i64 t212) ∧ w'.cell? ⟨gb214, 5, none⟩ = some (.bool t213)) (ds := []) #[false, false, false, false, false, false] (by kernel_rfl) rfl rfl ⟨(blk_cell BK255.out 0).trans rfl, (blk_cell BK255.out 1).trans rfl, (blk_cell BK255.out 2).trans rfl, (blk_cell BK255.out 3).trans rfl, (blk_cell BK255.out 4).trans rfl, (blk_cell BK255.out 5).trans rfl, (blk_cell BK214.out 0).trans rfl, (blk_cell BK214.out 1).trans rfl, (blk_cell BK214.out 2).trans rfl, (blk_cell BK214.out 3).trans rfl, (blk_cell BK214.out 4).trans rfl, (blk_cell BK214.out 5).trans rfl⟩ (fun hHeld => ?_)
              generalize w113.drew = w114 at BK214 BK227 BK240 BK255 HB hHeld ⊢
              refine take_ (i := 0) (N := some 25) (v := ?_) (a' := ?_) #[true, false, false, false, false, false] rfl rfl (by kernel_rfl) (fun _ _ _ h => h) (Or.inl ⟨by rfl, ?_⟩) hHeld ?_ ?_
              rotate_left
              · rintro w' ⟨s0, s1, s2, s3, s4, s5, s6, s7, s8, s9, s10, s11⟩
                go_simp
                with_reducible rfl
              rotate_left
              · simp only [Act.put, List.setIfInBounds_toArray, List.set_cons_zero, List.set_cons_succ, i64_w, i32_w]
                rfl
              refine take_ (i := 1) (N := some 26) (v := ?_) (a' := ?_) #[true, true, false, false, false, false] rfl rfl (by kernel_rfl) (fun _ _ _ h => h) (Or.inl ⟨by rfl, ?_⟩) hHeld ?_ ?_
              rotate_left
              · rintro w' ⟨s0, s1, s2, s3, s4, s5, s6, s7, s8, s9, s10, s11⟩
                go_simp
                with_reducible rfl
              rotate_left
              · simp only [Act.put, List.setIfInBounds_toArray, List.set_cons_zero, List.set_cons_succ, i64_w, i32_w]
                rfl
              refine join_ (σ := Nat) 1 #[true, true, true, true, true, false] (fun s_ => [(27, .agg #[.int .u64 t256, .int .u64 t257, .int .u64 t258, .int .i64 t259, .int .i64 t260, .bool t261]), (28, .agg #[.int .u64 t262, .int .u64 t263, .int .u64 t264, .int .i64 t265, .int .i64 t266, .bool t267]), (7, .pointer (some ⟨s_, 0, none⟩))]) (fun s_ w' => (w'.cell? ⟨gb255, 0, none⟩ = some (.int .u64 t249) ∧ w'.cell? ⟨gb255, 1, none⟩ = some (.int .u64 t250) ∧ w'.cell? ⟨gb255, 2, none⟩ = some (.int .u64 t251) ∧ w'.cell? ⟨gb255, 3, none⟩ = some (.int .i64 t252) ∧ w'.cell? ⟨gb255, 4, none⟩ = some (.int .i64 t253) ∧ w'.cell? ⟨gb255, 5, none⟩ = some (.bool t254) ∧ w'.cell? ⟨gb214, 0, none⟩ = some (.int .u64 t208) ∧ w'.cell? ⟨gb214, 1, none⟩ = some (.int .u64 t209) ∧ w'.cell? ⟨gb214, 2, none⟩ = some (.int .u64 t210) ∧ w'.cell? ⟨gb214, 3, none⟩ = some (.int .i64 t211) ∧ w'.cell? ⟨gb214, 4, none⟩ = some (.int .i64 t212) ∧ w'.cell? ⟨gb214, 5, none⟩ = some (.bool t213)) ∧ (w'.heap[gb214]? = some (.cells #[.int .u64 t208, .int .u64 t209, .int .u64 t210, .int .i64 t211, .int .i64 t212, .bool t213] 24 (0, 0))) ∧ (w'.heap[gb227]? = some (.cells #[.int .u64 t221, .int .u64 t222, .int .u64 t223, .int .i64 t224, .int .i64 t225, .bool t226] 24 (0, 0))) ∧ (w'.heap[gb240]? = some (.cells #[.int .u64 t234, .int .u64 t235, .int .u64 t236, .int .i64 t237, .int .i64 t238, .bool false] 24 (0, 0))) ∧ (w'.heap[gb255]? = some (.cells #[.int .u64 t249, .int .u64 t250, .int .u64 t251, .int .i64 t252, .int .i64 t253, .bool t254] 24 (0, 0))) ∧ (w'.heap[s_]? = some (.cells #[.int .u64 0, .int .u64 0, .int .u64 0, .int .i64 0, .int .i64 0, .bool false] 24 (0, 0))) ∧ (w.heap.size ≤ s_) ∧ (w.heap.size ≤ s_) ∧ (gb214 ≠ s_) ∧ (s_ ≠ gb214) ∧ (gb227 ≠ s_) ∧ (s_ ≠ gb227) ∧ (gb240 ≠ s_) ∧ (s_ ≠ gb240) ∧ (gb255 ≠ s_) ∧ (s_ ≠ gb255) ∧ (Below w.heap.size w w')) ?_ ?_
              rotate_left
              · intro hCont
                refine two_ (i := 2) (j := 4) (Ni := some 27) (Nj := some 7) #[true, true, true, false, false, false] #[true, true, false, false, true, false] rfl rfl rfl rfl (by kernel_rfl) (by decide) (by decide) (fun K hK => ?_) (fun K hK => ?_)
                · skip
                  refine goes_ Tryd.func18 (by kernel_rfl) rfl #[.agg #[.int .u64 t208, .int .u64 t209, .int .u64 t210, .int .i64 t211, .int .i64 t212, .bool t213], .int .u64 3] (by rfl) rfl rfl (by (try simp only [List.map_toArray, List.map_cons, List.map_nil]); first | done | rfl | (simp only [List.length_drop, List.length_take]; rfl)) ?_
                  with_reducible refine (cap_Move.calls t208 t209 t210 t211 t212 t213 3 t256 t257 t258 t259 t260 t261 _ A10.out).mono ?_
                  rintro e w115 ⟨rfl, hb⟩
                  refine ⟨_, rfl, ?_⟩
                  have n0_ := Aside0.mk (blk_below (g := gb214) (o := .cells #[.int .u64 t208, .int .u64 t209, .int .u64 t210, .int .i64 t211, .int .i64 t212, .bool t213] 24 (0, 0)) (by (with_reducible repeat (first | refine blk_drewN ?_ _ | refine blk_drew ?_ | refine blk_alloc ?_ _)); exact BK214.out) hb)
                  have n1_ := Aside0.mk (blk_below (g := gb227) (o := .cells #[.int .u64 t221, .int .u64 t222, .int .u64 t223, .int .i64 t224, .int .i64 t225, .bool t226] 24 (0, 0)) (by (with_reducible repeat (first | refine blk_drewN ?_ _ | refine blk_drew ?_ | refine blk_alloc ?_ _)); exact BK227.out) hb)
                  have n2_ := Aside0.mk (blk_below (g := gb240) (o := .cells #[.int .u64 t234, .int .u64 t235, .int .u64 t236, .int .i64 t237, .int .i64 t238, .bool false] 24 (0, 0)) (by (with_reducible repeat (first | refine blk_drewN ?_ _ | refine blk_drew ?_ | refine blk_alloc ?_ _)); exact BK240.out) hb)
                  have n3_ := Aside0.mk (blk_below (g := gb255) (o := .cells #[.int .u64 t249, .int .u64 t250, .int .u64 t251, .int .i64 t252, .int .i64 t253, .bool t254] 24 (0, 0)) (by (with_reducible repeat (first | refine blk_drewN ?_ _ | refine blk_drew ?_ | refine blk_alloc ?_ _)); exact BK255.out) hb)
                  have n4_ := Aside0.mk (below_step (by repeat (first | (with_reducible first | exact HB.out | apply below_alloc | apply pw_below_drewN | apply below_drew1 | refine below_set ?_ GE214.out | refine below_set ?_ GE227.out | refine below_set ?_ GE240.out | refine below_set ?_ GE255.out) | exact HB.out)) hb)
                  clear BK214
                  clear BK227
                  clear BK240
                  clear BK255
                  clear HB
                  have BK214 := n0_
                  have BK227 := n1_
                  have BK240 := n2_
                  have BK255 := n3_
                  have HB := n4_
                  clear n0_ n1_ n2_ n3_ n4_
                  (try clear hb)
                  (try clear hb2)
                  (try clear hk)
                  (try clear hi)
                  refine hK.out _ _ ⟨(blk_cell BK255.out 0).trans rfl, (blk_cell BK255.out 1).trans rfl, (blk_cell BK255.out 2).trans rfl, (blk_cell BK255.out 3).trans rfl, (blk_cell BK255.out 4).trans rfl, (blk_cell BK255.out 5).trans rfl, (blk_cell BK214.out 0).trans rfl, (blk_cell BK214.out 1).trans rfl, (blk_cell BK214.out 2).trans rfl, (blk_cell BK214.out 3).trans rfl, (blk_cell BK214.out 4).trans rfl, (blk_cell BK214.out 5).trans rfl⟩ (fun hHeld => ?_)
                  clear hK K
                  refine norm_ (a' := ?_) ?_ ?_
                  rotate_left
                  · show Act.put _ (some 27) _ = _
                    simp only [Act.put, List.setIfInBounds_toArray, List.set_cons_zero, List.set_cons_succ, i64_w, i32_w]
                    rfl
                  refine two_ (i := 3) (j := 4) (Ni := some 28) (Nj := some 7) #[true, true, true, true, false, false] #[true, true, true, false, true, false] rfl rfl rfl rfl (by kernel_rfl) (by decide) (by decide) (fun K hK => ?_) (fun K hK => ?_)
                  · skip
                    refine goes_ Tryd.func13 (by kernel_rfl) rfl #[.agg #[.int .u64 t249, .int .u64 t250, .int .u64 t251, .int .i64 t252, .int .i64 t253, .bool t254], .agg #[.int .u64 t256, .int .u64 t257, .int .u64 t258, .int .i64 t259, .int .i64 t260, .bool t261]] (by rfl) rfl rfl (by (try simp only [List.map_toArray, List.map_cons, List.map_nil]); first | done | rfl | (simp only [List.length_drop, List.length_take]; rfl)) ?_
                    with_reducible refine (cap_Unseal.calls t249 t250 t251 t252 t253 t254 t256 t257 t258 t259 t260 t261 t262 t263 t264 t265 t266 t267 _ A11.out).mono ?_
                    rintro e w116 ⟨rfl, hb⟩
                    refine ⟨_, rfl, ?_⟩
                    have n0_ := Aside0.mk (blk_below (g := gb214) (o := .cells #[.int .u64 t208, .int .u64 t209, .int .u64 t210, .int .i64 t211, .int .i64 t212, .bool t213] 24 (0, 0)) (by (with_reducible repeat (first | refine blk_drewN ?_ _ | refine blk_drew ?_ | refine blk_alloc ?_ _)); exact BK214.out) hb)
                    have n1_ := Aside0.mk (blk_below (g := gb227) (o := .cells #[.int .u64 t221, .int .u64 t222, .int .u64 t223, .int .i64 t224, .int .i64 t225, .bool t226] 24 (0, 0)) (by (with_reducible repeat (first | refine blk_drewN ?_ _ | refine blk_drew ?_ | refine blk_alloc ?_ _)); exact BK227.out) hb)
                    have n2_ := Aside0.mk (blk_below (g := gb240) (o := .cells #[.int .u64 t234, .int .u64 t235, .int .u64 t236, .int .i64 t237, .int .i64 t238, .bool false] 24 (0, 0)) (by (with_reducible repeat (first | refine blk_drewN ?_ _ | refine blk_drew ?_ | refine blk_alloc ?_ _)); exact BK240.out) hb)
                    have n3_ := Aside0.mk (blk_below (g := gb255) (o := .cells #[.int .u64 t249, .int .u64 t250, .int .u64 t251, .int .i64 t252, .int .i64 t253, .bool t254] 24 (0, 0)) (by (with_reducible repeat (first | refine blk_drewN ?_ _ | refine blk_drew ?_ | refine blk_alloc ?_ _)); exact BK255.out) hb)
                    have n4_ := Aside0.mk (below_step (by repeat (first | (with_reducible first | exact HB.out | apply below_alloc | apply pw_below_drewN | apply below_drew1 | refine below_set ?_ GE214.out | refine below_set ?_ GE227.out | refine below_set ?_ GE240.out | refine below_set ?_ GE255.out) | exact HB.out)) hb)
                    clear BK214
                    clear BK227
                    clear BK240
                    clear BK255
                    clear HB
                    have BK214 := n0_
                    have BK227 := n1_
                    have BK240 := n2_
                    have BK255 := n3_
                    have HB := n4_
                    clear n0_ n1_ n2_ n3_ n4_
                    (try clear hb)
                    (try clear hb2)
                    (try clear hk)
                    (try clear hi)
                    refine hK.out _ _ ⟨(blk_cell BK255.out 0).trans rfl, (blk_cell BK255.out 1).trans rfl, (blk_cell BK255.out 2).trans rfl, (blk_cell BK255.out 3).trans rfl, (blk_cell BK255.out 4).trans rfl, (blk_cell BK255.out 5).trans rfl, (blk_cell BK214.out 0).trans rfl, (blk_cell BK214.out 1).trans rfl, (blk_cell BK214.out 2).trans rfl, (blk_cell BK214.out 3).trans rfl, (blk_cell BK214.out 4).trans rfl, (blk_cell BK214.out 5).trans rfl⟩ (fun hHeld => ?_)
                    clear hK K
                    refine norm_ (a' := ?_) ?_ ?_
                    rotate_left
                    · show Act.put _ (some 28) _ = _
                      simp only [Act.put, List.setIfInBounds_toArray, List.set_cons_zero, List.set_cons_succ, i64_w, i32_w]
                      rfl
                    refine one_ (i := 4) (N := some 7) #[true, true, true, true, true, false] rfl rfl (by kernel_rfl) (by decide) (fun K hK => ?_)
                    refine box_step ?hg (N := 7) ?hd (cs := #[.int .u64 0, .int .u64 0, .int .u64 0, .int .i64 0, .int .i64 0, .bool false]) (t := 24) ?hr ?_; (case hd => rfl); (case hg => rfl); (case hr => first | (go_simp; done) | (go_simp; rfl))
                    intro gb268 hg w117 hbox hb
                    have n0_ := Aside0.mk (blk_below (g := gb214) (o := .cells #[.int .u64 t208, .int .u64 t209, .int .u64 t210, .int .i64 t211, .int .i64 t212, .bool t213] 24 (0, 0)) (by (with_reducible repeat (first | refine blk_drewN ?_ _ | refine blk_drew ?_ | refine blk_alloc ?_ _)); exact BK214.out) hb)
                    have n1_ := Aside0.mk (blk_below (g := gb227) (o := .cells #[.int .u64 t221, .int .u64 t222, .int .u64 t223, .int .i64 t224, .int .i64 t225, .bool t226] 24 (0, 0)) (by (with_reducible repeat (first | refine blk_drewN ?_ _ | refine blk_drew ?_ | refine blk_alloc ?_ _)); exact BK227.out) hb)
                    have n2_ := Aside0.mk (blk_below (g := gb240) (o := .cells #[.int .u64 t234, .int .u64 t235, .int .u64 t236, .int .i64 t237, .int .i64 t238, .bool false] 24 (0, 0)) (by (with_reducible repeat (first | refine blk_drewN ?_ _ | refine blk_drew ?_ | refine blk_alloc ?_ _)); exact BK240.out) hb)
                    have n3_ := Aside0.mk (blk_below (g := gb255) (o := .cells #[.int .u64 t249, .int .u64 t250, .int .u64 t251, .int .i64 t252, .int .i64 t253, .bool t254] 24 (0, 0)) (by (with_reducible repeat (first | refine blk_drewN ?_ _ | refine blk_drew ?_ | refine blk_alloc ?_ _)); exact BK255.out) hb)
                    have n4_ := Aside0.mk (below_step (by repeat (first | (with_reducible first | exact HB.out | apply below_alloc | apply pw_below_drewN | apply below_drew1 | refine below_set ?_ GE214.out | refine below_set ?_ GE227.out | refine below_set ?_ GE240.out | refine below_set ?_ GE255.out) | exact HB.out)) hb)
                    have n5_ := Aside0.mk (hbox)
                    have n6_ := Aside0.mk ((by rw [hg]; exact (below_size (by repeat (first | (with_reducible first | exact HB.out | apply below_alloc | apply pw_below_drewN | apply below_drew1 | refine below_set ?_ GE214.out | refine below_set ?_ GE227.out | refine below_set ?_ GE240.out | refine below_set ?_ GE255.out) | exact HB.out))) : w.heap.size ≤ gb268))
                    have n7_ := Aside0.mk ((by rw [hg]; exact (below_size (by repeat (first | (with_reducible first | exact HB.out | apply below_alloc | apply pw_below_drewN | apply below_drew1 | refine below_set ?_ GE214.out | refine below_set ?_ GE227.out | refine below_set ?_ GE240.out | refine below_set ?_ GE255.out) | exact HB.out))) : w.heap.size ≤ gb268))
                    have n8_ := Aside0.mk ((by rw [hg]; exact Nat.ne_of_lt (blk_lt (g := gb214) (o := .cells #[.int .u64 t208, .int .u64 t209, .int .u64 t210, .int .i64 t211, .int .i64 t212, .bool t213] 24 (0, 0)) (by (with_reducible repeat (first | refine blk_drewN ?_ _ | refine blk_drew ?_ | refine blk_alloc ?_ _)); exact BK214.out)) : gb214 ≠ gb268))
                    have n9_ := Aside0.mk ((by rw [hg]; exact Nat.ne_of_gt (blk_lt (g := gb214) (o := .cells #[.int .u64 t208, .int .u64 t209, .int .u64 t210, .int .i64 t211, .int .i64 t212, .bool t213] 24 (0, 0)) (by (with_reducible repeat (first | refine blk_drewN ?_ _ | refine blk_drew ?_ | refine blk_alloc ?_ _)); exact BK214.out)) : gb268 ≠ gb214))
                    have n10_ := Aside0.mk ((by rw [hg]; exact Nat.ne_of_lt (blk_lt (g := gb227) (o := .cells #[.int .u64 t221, .int .u64 t222, .int .u64 t223, .int .i64 t224, .int .i64 t225, .bool t226] 24 (0, 0)) (by (with_reducible repeat (first | refine blk_drewN ?_ _ | refine blk_drew ?_ | refine blk_alloc ?_ _)); exact BK227.out)) : gb227 ≠ gb268))
                    have n11_ := Aside0.mk ((by rw [hg]; exact Nat.ne_of_gt (blk_lt (g := gb227) (o := .cells #[.int .u64 t221, .int .u64 t222, .int .u64 t223, .int .i64 t224, .int .i64 t225, .bool t226] 24 (0, 0)) (by (with_reducible repeat (first | refine blk_drewN ?_ _ | refine blk_drew ?_ | refine blk_alloc ?_ _)); exact BK227.out)) : gb268 ≠ gb227))
                    have n12_ := Aside0.mk ((by rw [hg]; exact Nat.ne_of_lt (blk_lt (g := gb240) (o := .cells #[.int .u64 t234, .int .u64 t235, .int .u64 t236, .int .i64 t237, .int .i64 t238, .bool false] 24 (0, 0)) (by (with_reducible repeat (first | refine blk_drewN ?_ _ | refine blk_drew ?_ | refine blk_alloc ?_ _)); exact BK240.out)) : gb240 ≠ gb268))
                    have n13_ := Aside0.mk ((by rw [hg]; exact Nat.ne_of_gt (blk_lt (g := gb240) (o := .cells #[.int .u64 t234, .int .u64 t235, .int .u64 t236, .int .i64 t237, .int .i64 t238, .bool false] 24 (0, 0)) (by (with_reducible repeat (first | refine blk_drewN ?_ _ | refine blk_drew ?_ | refine blk_alloc ?_ _)); exact BK240.out)) : gb268 ≠ gb240))
                    have n14_ := Aside0.mk ((by rw [hg]; exact Nat.ne_of_lt (blk_lt (g := gb255) (o := .cells #[.int .u64 t249, .int .u64 t250, .int .u64 t251, .int .i64 t252, .int .i64 t253, .bool t254] 24 (0, 0)) (by (with_reducible repeat (first | refine blk_drewN ?_ _ | refine blk_drew ?_ | refine blk_alloc ?_ _)); exact BK255.out)) : gb255 ≠ gb268))
                    have n15_ := Aside0.mk ((by rw [hg]; exact Nat.ne_of_gt (blk_lt (g := gb255) (o := .cells #[.int .u64 t249, .int .u64 t250, .int .u64 t251, .int .i64 t252, .int .i64 t253, .bool t254] 24 (0, 0)) (by (with_reducible repeat (first | refine blk_drewN ?_ _ | refine blk_drew ?_ | refine blk_alloc ?_ _)); exact BK255.out)) : gb268 ≠ gb255))
                    clear BK214
                    clear BK227
                    clear BK240
                    clear BK255
                    clear HB
                    have BK214 := n0_
                    have BK227 := n1_
                    have BK240 := n2_
                    have BK255 := n3_
                    have HB := n4_
                    have BK268 := n5_
                    have GW268 := n6_
                    have GE268 := n7_
                    have NB214_268 := n8_
                    have NB268_214 := n9_
                    have NB227_268 := n10_
                    have NB268_227 := n11_
                    have NB240_268 := n12_
                    have NB268_240 := n13_
                    have NB255_268 := n14_
                    have NB268_255 := n15_
                    clear n0_ n1_ n2_ n3_ n4_ n5_ n6_ n7_ n8_ n9_ n10_ n11_ n12_ n13_ n14_ n15_
                    clear hb hbox hg
                    refine hK.out _ _ ⟨(blk_cell BK255.out 0).trans rfl, (blk_cell BK255.out 1).trans rfl, (blk_cell BK255.out 2).trans rfl, (blk_cell BK255.out 3).trans rfl, (blk_cell BK255.out 4).trans rfl, (blk_cell BK255.out 5).trans rfl, (blk_cell BK214.out 0).trans rfl, (blk_cell BK214.out 1).trans rfl, (blk_cell BK214.out 2).trans rfl, (blk_cell BK214.out 3).trans rfl, (blk_cell BK214.out 4).trans rfl, (blk_cell BK214.out 5).trans rfl⟩ (fun hHeld => ?_)
                    clear hK K
                    refine norm_ (a' := ?_) ?_ ?_
                    rotate_left
                    · show Act.put _ (some 7) _ = _
                      simp only [Act.put, List.setIfInBounds_toArray, List.set_cons_zero, List.set_cons_succ, i64_w, i32_w]
                      rfl
                    exact norm_ (by simp only [putAll, Act.put, List.setIfInBounds_toArray, List.set_cons_zero, List.set_cons_succ]) (hCont (gb268) _ ⟨hHeld, (by (with_reducible repeat (first | refine blk_drewN ?_ _ | refine blk_drew ?_ | refine blk_alloc ?_ _)); exact BK214.out), (by (with_reducible repeat (first | refine blk_drewN ?_ _ | refine blk_drew ?_ | refine blk_alloc ?_ _)); exact BK227.out), (by (with_reducible repeat (first | refine blk_drewN ?_ _ | refine blk_drew ?_ | refine blk_alloc ?_ _)); exact BK240.out), (by (with_reducible repeat (first | refine blk_drewN ?_ _ | refine blk_drew ?_ | refine blk_alloc ?_ _)); exact BK255.out), (by (with_reducible repeat (first | refine blk_drewN ?_ _ | refine blk_drew ?_ | refine blk_alloc ?_ _)); exact BK268.out), GW268.out, GE268.out, NB214_268.out, NB268_214.out, NB227_268.out, NB268_227.out, NB240_268.out, NB268_240.out, NB255_268.out, NB268_255.out, (by repeat (first | (with_reducible first | exact HB.out | apply below_alloc | apply pw_below_drewN | apply below_drew1 | refine below_set ?_ GE214.out | refine below_set ?_ GE227.out | refine below_set ?_ GE240.out | refine below_set ?_ GE255.out | refine below_set ?_ GE268.out) | exact HB.out))⟩)
                  · skip
                    refine box_step ?hg (N := 7) ?hd (cs := #[.int .u64 0, .int .u64 0, .int .u64 0, .int .i64 0, .int .i64 0, .bool false]) (t := 24) ?hr ?_; (case hd => rfl); (case hg => rfl); (case hr => first | (go_simp; done) | (go_simp; rfl))
                    intro gb268 hg w116 hbox hb
                    have n0_ := Aside0.mk (blk_below (g := gb214) (o := .cells #[.int .u64 t208, .int .u64 t209, .int .u64 t210, .int .i64 t211, .int .i64 t212, .bool t213] 24 (0, 0)) (by (with_reducible repeat (first | refine blk_drewN ?_ _ | refine blk_drew ?_ | refine blk_alloc ?_ _)); exact BK214.out) hb)
                    have n1_ := Aside0.mk (blk_below (g := gb227) (o := .cells #[.int .u64 t221, .int .u64 t222, .int .u64 t223, .int .i64 t224, .int .i64 t225, .bool t226] 24 (0, 0)) (by (with_reducible repeat (first | refine blk_drewN ?_ _ | refine blk_drew ?_ | refine blk_alloc ?_ _)); exact BK227.out) hb)
                    have n2_ := Aside0.mk (blk_below (g := gb240) (o := .cells #[.int .u64 t234, .int .u64 t235, .int .u64 t236, .int .i64 t237, .int .i64 t238, .bool false] 24 (0, 0)) (by (with_reducible repeat (first | refine blk_drewN ?_ _ | refine blk_drew ?_ | refine blk_alloc ?_ _)); exact BK240.out) hb)
                    have n3_ := Aside0.mk (blk_below (g := gb255) (o := .cells #[.int .u64 t249, .int .u64 t250, .int .u64 t251, .int .i64 t252, .int .i64 t253, .bool t254] 24 (0, 0)) (by (with_reducible repeat (first | refine blk_drewN ?_ _ | refine blk_drew ?_ | refine blk_alloc ?_ _)); exact BK255.out) hb)
                    have n4_ := Aside0.mk (below_step (by repeat (first | (with_reducible first | exact HB.out | apply below_alloc | apply pw_below_drewN | apply below_drew1 | refine below_set ?_ GE214.out | refine below_set ?_ GE227.out | refine below_set ?_ GE240.out | refine below_set ?_ GE255.out) | exact HB.out)) hb)
                    have n5_ := Aside0.mk (hbox)
                    have n6_ := Aside0.mk ((by rw [hg]; exact (below_size (by repeat (first | (with_reducible first | exact HB.out | apply below_alloc | apply pw_below_drewN | apply below_drew1 | refine below_set ?_ GE214.out | refine below_set ?_ GE227.out | refine below_set ?_ GE240.out | refine below_set ?_ GE255.out) | exact HB.out))) : w.heap.size ≤ gb268))
                    have n7_ := Aside0.mk ((by rw [hg]; exact (below_size (by repeat (first | (with_reducible first | exact HB.out | apply below_alloc | apply pw_below_drewN | apply below_drew1 | refine below_set ?_ GE214.out | refine below_set ?_ GE227.out | refine below_set ?_ GE240.out | refine below_set ?_ GE255.out) | exact HB.out))) : w.heap.size ≤ gb268))
                    have n8_ := Aside0.mk ((by rw [hg]; exact Nat.ne_of_lt (blk_lt (g := gb214) (o := .cells #[.int .u64 t208, .int .u64 t209, .int .u64 t210, .int .i64 t211, .int .i64 t212, .bool t213] 24 (0, 0)) (by (with_reducible repeat (first | refine blk_drewN ?_ _ | refine blk_drew ?_ | refine blk_alloc ?_ _)); exact BK214.out)) : gb214 ≠ gb268))
                    have n9_ := Aside0.mk ((by rw [hg]; exact Nat.ne_of_gt (blk_lt (g := gb214) (o := .cells #[.int .u64 t208, .int .u64 t209, .int .u64 t210, .int .i64 t211, .int .i64 t212, .bool t213] 24 (0, 0)) (by (with_reducible repeat (first | refine blk_drewN ?_ _ | refine blk_drew ?_ | refine blk_alloc ?_ _)); exact BK214.out)) : gb268 ≠ gb214))
                    have n10_ := Aside0.mk ((by rw [hg]; exact Nat.ne_of_lt (blk_lt (g := gb227) (o := .cells #[.int .u64 t221, .int .u64 t222, .int .u64 t223, .int .i64 t224, .int .i64 t225, .bool t226] 24 (0, 0)) (by (with_reducible repeat (first | refine blk_drewN ?_ _ | refine blk_drew ?_ | refine blk_alloc ?_ _)); exact BK227.out)) : gb227 ≠ gb268))
                    have n11_ := Aside0.mk ((by rw [hg]; exact Nat.ne_of_gt (blk_lt (g := gb227) (o := .cells #[.int .u64 t221, .int .u64 t222, .int .u64 t223, .int .i64 t224, .int .i64 t225, .bool t226] 24 (0, 0)) (by (with_reducible repeat (first | refine blk_drewN ?_ _ | refine blk_drew ?_ | refine blk_alloc ?_ _)); exact BK227.out)) : gb268 ≠ gb227))
                    have n12_ := Aside0.mk ((by rw [hg]; exact Nat.ne_of_lt (blk_lt (g := gb240) (o := .cells #[.int .u64 t234, .int .u64 t235, .int .u64 t236, .int .i64 t237, .int .i64 t238, .bool false] 24 (0, 0)) (by (with_reducible repeat (first | refine blk_drewN ?_ _ | refine blk_drew ?_ | refine blk_alloc ?_ _)); exact BK240.out)) : gb240 ≠ gb268))
                    have n13_ := Aside0.mk ((by rw [hg]; exact Nat.ne_of_gt (blk_lt (g := gb240) (o := .cells #[.int .u64 t234, .int .u64 t235, .int .u64 t236, .int .i64 t237, .int .i64 t238, .bool false] 24 (0, 0)) (by (with_reducible repeat (first | refine blk_drewN ?_ _ | refine blk_drew ?_ | refine blk_alloc ?_ _)); exact BK240.out)) : gb268 ≠ gb240))
                    have n14_ := Aside0.mk ((by rw [hg]; exact Nat.ne_of_lt (blk_lt (g := gb255) (o := .cells #[.int .u64 t249, .int .u64 t250, .int .u64 t251, .int .i64 t252, .int .i64 t253, .bool t254] 24 (0, 0)) (by (with_reducible repeat (first | refine blk_drewN ?_ _ | refine blk_drew ?_ | refine blk_alloc ?_ _)); exact BK255.out)) : gb255 ≠ gb268))
                    have n15_ := Aside0.mk ((by rw [hg]; exact Nat.ne_of_gt (blk_lt (g := gb255) (o := .cells #[.int .u64 t249, .int .u64 t250, .int .u64 t251, .int .i64 t252, .int .i64 t253, .bool t254] 24 (0, 0)) (by (with_reducible repeat (first | refine blk_drewN ?_ _ | refine blk_drew ?_ | refine blk_alloc ?_ _)); exact BK255.out)) : gb268 ≠ gb255))
                    clear BK214
                    clear BK227
                    clear BK240
                    clear BK255
                    clear HB
                    have BK214 := n0_
                    have BK227 := n1_
                    have BK240 := n2_
                    have BK255 := n3_
                    have HB := n4_
                    have BK268 := n5_
                    have GW268 := n6_
                    have GE268 := n7_
                    have NB214_268 := n8_
                    have NB268_214 := n9_
                    have NB227_268 := n10_
                    have NB268_227 := n11_
                    have NB240_268 := n12_
                    have NB268_240 := n13_
                    have NB255_268 := n14_
                    have NB268_255 := n15_
                    clear n0_ n1_ n2_ n3_ n4_ n5_ n6_ n7_ n8_ n9_ n10_ n11_ n12_ n13_ n14_ n15_
                    clear hb hbox hg
                    refine hK.out _ _ ⟨(blk_cell BK255.out 0).trans rfl, (blk_cell BK255.out 1).trans rfl, (blk_cell BK255.out 2).trans rfl, (blk_cell BK255.out 3).trans rfl, (blk_cell BK255.out 4).trans rfl, (blk_cell BK255.out 5).trans rfl, (blk_cell BK214.out 0).trans rfl, (blk_cell BK214.out 1).trans rfl, (blk_cell BK214.out 2).trans rfl, (blk_cell BK214.out 3).trans rfl, (blk_cell BK214.out 4).trans rfl, (blk_cell BK214.out 5).trans rfl⟩ (fun hHeld => ?_)
                    clear hK K
                    refine norm_ (a' := ?_) ?_ ?_
                    rotate_left
                    · show Act.put _ (some 7) _ = _
                      simp only [Act.put, List.setIfInBounds_toArray, List.set_cons_zero, List.set_cons_succ, i64_w, i32_w]
                      rfl
                    refine one_ (i := 3) (N := some 28) #[true, true, true, true, true, false] rfl rfl (by kernel_rfl) (by decide) (fun K hK => ?_)
                    refine goes_ Tryd.func13 (by kernel_rfl) rfl #[.agg #[.int .u64 t249, .int .u64 t250, .int .u64 t251, .int .i64 t252, .int .i64 t253, .bool t254], .agg #[.int .u64 t256, .int .u64 t257, .int .u64 t258, .int .i64 t259, .int .i64 t260, .bool t261]] (by rfl) rfl rfl (by (try simp only [List.map_toArray, List.map_cons, List.map_nil]); first | done | rfl | (simp only [List.length_drop, List.length_take]; rfl)) ?_
                    with_reducible refine (cap_Unseal.calls t249 t250 t251 t252 t253 t254 t256 t257 t258 t259 t260 t261 t262 t263 t264 t265 t266 t267 _ A11.out).mono ?_
                    rintro e w117 ⟨rfl, hb⟩
                    refine ⟨_, rfl, ?_⟩
                    have n0_ := Aside0.mk (blk_below (g := gb214) (o := .cells #[.int .u64 t208, .int .u64 t209, .int .u64 t210, .int .i64 t211, .int .i64 t212, .bool t213] 24 (0, 0)) (by (with_reducible repeat (first | refine blk_drewN ?_ _ | refine blk_drew ?_ | refine blk_alloc ?_ _)); exact BK214.out) hb)
                    have n1_ := Aside0.mk (blk_below (g := gb227) (o := .cells #[.int .u64 t221, .int .u64 t222, .int .u64 t223, .int .i64 t224, .int .i64 t225, .bool t226] 24 (0, 0)) (by (with_reducible repeat (first | refine blk_drewN ?_ _ | refine blk_drew ?_ | refine blk_alloc ?_ _)); exact BK227.out) hb)
                    have n2_ := Aside0.mk (blk_below (g := gb240) (o := .cells #[.int .u64 t234, .int .u64 t235, .int .u64 t236, .int .i64 t237, .int .i64 t238, .bool false] 24 (0, 0)) (by (with_reducible repeat (first | refine blk_drewN ?_ _ | refine blk_drew ?_ | refine blk_alloc ?_ _)); exact BK240.out) hb)
                    have n3_ := Aside0.mk (blk_below (g := gb255) (o := .cells #[.int .u64 t249, .int .u64 t250, .int .u64 t251, .int .i64 t252, .int .i64 t253, .bool t254] 24 (0, 0)) (by (with_reducible repeat (first | refine blk_drewN ?_ _ | refine blk_drew ?_ | refine blk_alloc ?_ _)); exact BK255.out) hb)
                    have n4_ := Aside0.mk (blk_below (g := gb268) (o := .cells #[.int .u64 0, .int .u64 0, .int .u64 0, .int .i64 0, .int .i64 0, .bool false] 24 (0, 0)) (by (with_reducible repeat (first | refine blk_drewN ?_ _ | refine blk_drew ?_ | refine blk_alloc ?_ _)); exact BK268.out) hb)
                    have n5_ := Aside0.mk (below_step (by repeat (first | (with_reducible first | exact HB.out | apply below_alloc | apply pw_below_drewN | apply below_drew1 | refine below_set ?_ GE214.out | refine below_set ?_ GE227.out | refine below_set ?_ GE240.out | refine below_set ?_ GE255.out | refine below_set ?_ GE268.out) | exact HB.out)) hb)
                    clear BK214
                    clear BK227
                    clear BK240
                    clear BK255
                    clear BK268
                    clear HB
                    have BK214 := n0_
                    have BK227 := n1_
                    have BK240 := n2_
                    have BK255 := n3_
                    have BK268 := n4_
                    have HB := n5_
                    clear n0_ n1_ n2_ n3_ n4_ n5_
                    (try clear hb)
                    (try clear hb2)
                    (try clear hk)
                    (try clear hi)
                    refine hK.out _ _ ⟨(blk_cell BK255.out 0).trans rfl, (blk_cell BK255.out 1).trans rfl, (blk_cell BK255.out 2).trans rfl, (blk_cell BK255.out 3).trans rfl, (blk_cell BK255.out 4).trans rfl, (blk_cell BK255.out 5).trans rfl, (blk_cell BK214.out 0).trans rfl, (blk_cell BK214.out 1).trans rfl, (blk_cell BK214.out 2).trans rfl, (blk_cell BK214.out 3).trans rfl, (blk_cell BK214.out 4).trans rfl, (blk_cell BK214.out 5).trans rfl⟩ (fun hHeld => ?_)
                    clear hK K
                    refine norm_ (a' := ?_) ?_ ?_
                    rotate_left
                    · show Act.put _ (some 28) _ = _
                      simp only [Act.put, List.setIfInBounds_toArray, List.set_cons_zero, List.set_cons_succ, i64_w, i32_w]
                      rfl
                    exact norm_ (by simp only [putAll, Act.put, List.setIfInBounds_toArray, List.set_cons_zero, List.set_cons_succ]) (hCont (gb268) _ ⟨hHeld, (by (with_reducible repeat (first | refine blk_drewN ?_ _ | refine blk_drew ?_ | refine blk_alloc ?_ _)); exact BK214.out), (by (with_reducible repeat (first | refine blk_drewN ?_ _ | refine blk_drew ?_ | refine blk_alloc ?_ _)); exact BK227.out), (by (with_reducible repeat (first | refine blk_drewN ?_ _ | refine blk_drew ?_ | refine blk_alloc ?_ _)); exact BK240.out), (by (with_reducible repeat (first | refine blk_drewN ?_ _ | refine blk_drew ?_ | refine blk_alloc ?_ _)); exact BK255.out), (by (with_reducible repeat (first | refine blk_drewN ?_ _ | refine blk_drew ?_ | refine blk_alloc ?_ _)); exact BK268.out), GW268.out, GE268.out, NB214_268.out, NB268_214.out, NB227_268.out, NB268_227.out, NB240_268.out, NB268_240.out, NB255_268.out, NB268_255.out, (by repeat (first | (with_reducible first | exact HB.out | apply below_alloc | apply pw_below_drewN | apply below_drew1 | refine below_set ?_ GE214.out | refine below_set ?_ GE227.out | refine below_set ?_ GE240.out | refine below_set ?_ GE255.out | refine below_set ?_ GE268.out) | exact HB.out))⟩)
                · skip
                  refine box_step ?hg (N := 7) ?hd (cs := #[.int .u64 0, .int .u64 0, .int .u64 0, .int .i64 0, .int .i64 0, .bool false]) (t := 24) ?hr ?_; (case hd => rfl); (case hg => rfl); (case hr => first | (go_simp; done) | (go_simp; rfl))
                  intro gb268 hg w115 hbox hb
                  have n0_ := Aside0.mk (blk_below (g := gb214) (o := .cells #[.int .u64 t208, .int .u64 t209, .int .u64 t210, .int .i64 t211, .int .i64 t212, .bool t213] 24 (0, 0)) (by (with_reducible repeat (first | refine blk_drewN ?_ _ | refine blk_drew ?_ | refine blk_alloc ?_ _)); exact BK214.out) hb)
                  have n1_ := Aside0.mk (blk_below (g := gb227) (o := .cells #[.int .u64 t221, .int .u64 t222, .int .u64 t223, .int .i64 t224, .int .i64 t225, .bool t226] 24 (0, 0)) (by (with_reducible repeat (first | refine blk_drewN ?_ _ | refine blk_drew ?_ | refine blk_alloc ?_ _)); exact BK227.out) hb)
                  have n2_ := Aside0.mk (blk_below (g := gb240) (o := .cells #[.int .u64 t234, .int .u64 t235, .int .u64 t236, .int .i64 t237, .int .i64 t238, .bool false] 24 (0, 0)) (by (with_reducible repeat (first | refine blk_drewN ?_ _ | refine blk_drew ?_ | refine blk_alloc ?_ _)); exact BK240.out) hb)
                  have n3_ := Aside0.mk (blk_below (g := gb255) (o := .cells #[.int .u64 t249, .int .u64 t250, .int .u64 t251, .int .i64 t252, .int .i64 t253, .bool t254] 24 (0, 0)) (by (with_reducible repeat (first | refine blk_drewN ?_ _ | refine blk_drew ?_ | refine blk_alloc ?_ _)); exact BK255.out) hb)
                  have n4_ := Aside0.mk (below_step (by repeat (first | (with_reducible first | exact HB.out | apply below_alloc | apply pw_below_drewN | apply below_drew1 | refine below_set ?_ GE214.out | refine below_set ?_ GE227.out | refine below_set ?_ GE240.out | refine below_set ?_ GE255.out) | exact HB.out)) hb)
                  have n5_ := Aside0.mk (hbox)
                  have n6_ := Aside0.mk ((by rw [hg]; exact (below_size (by repeat (first | (with_reducible first | exact HB.out | apply below_alloc | apply pw_below_drewN | apply below_drew1 | refine below_set ?_ GE214.out | refine below_set ?_ GE227.out | refine below_set ?_ GE240.out | refine below_set ?_ GE255.out) | exact HB.out))) : w.heap.size ≤ gb268))
                  have n7_ := Aside0.mk ((by rw [hg]; exact (below_size (by repeat (first | (with_reducible first | exact HB.out | apply below_alloc | apply pw_below_drewN | apply below_drew1 | refine below_set ?_ GE214.out | refine below_set ?_ GE227.out | refine below_set ?_ GE240.out | refine below_set ?_ GE255.out) | exact HB.out))) : w.heap.size ≤ gb268))
                  have n8_ := Aside0.mk ((by rw [hg]; exact Nat.ne_of_lt (blk_lt (g := gb214) (o := .cells #[.int .u64 t208, .int .u64 t209, .int .u64 t210, .int .i64 t211, .int .i64 t212, .bool t213] 24 (0, 0)) (by (with_reducible repeat (first | refine blk_drewN ?_ _ | refine blk_drew ?_ | refine blk_alloc ?_ _)); exact BK214.out)) : gb214 ≠ gb268))
                  have n9_ := Aside0.mk ((by rw [hg]; exact Nat.ne_of_gt (blk_lt (g := gb214) (o := .cells #[.int .u64 t208, .int .u64 t209, .int .u64 t210, .int .i64 t211, .int .i64 t212, .bool t213] 24 (0, 0)) (by (with_reducible repeat (first | refine blk_drewN ?_ _ | refine blk_drew ?_ | refine blk_alloc ?_ _)); exact BK214.out)) : gb268 ≠ gb214))
                  have n10_ := Aside0.mk ((by rw [hg]; exact Nat.ne_of_lt (blk_lt (g := gb227) (o := .cells #[.int .u64 t221, .int .u64 t222, .int .u64 t223, .int .i64 t224, .int .i64 t225, .bool t226] 24 (0, 0)) (by (with_reducible repeat (first | refine blk_drewN ?_ _ | refine blk_drew ?_ | refine blk_alloc ?_ _)); exact BK227.out)) : gb227 ≠ gb268))
                  have n11_ := Aside0.mk ((by rw [hg]; exact Nat.ne_of_gt (blk_lt (g := gb227) (o := .cells #[.int .u64 t221, .int .u64 t222, .int .u64 t223, .int .i64 t224, .int .i64 t225, .bool t226] 24 (0, 0)) (by (with_reducible repeat (first | refine blk_drewN ?_ _ | refine blk_drew ?_ | refine blk_alloc ?_ _)); exact BK227.out)) : gb268 ≠ gb227))
                  have n12_ := Aside0.mk ((by rw [hg]; exact Nat.ne_of_lt (blk_lt (g := gb240) (o := .cells #[.int .u64 t234, .int .u64 t235, .int .u64 t236, .int .i64 t237, .int .i64 t238, .bool false] 24 (0, 0)) (by (with_reducible repeat (first | refine blk_drewN ?_ _ | refine blk_drew ?_ | refine blk_alloc ?_ _)); exact BK240.out)) : gb240 ≠ gb268))
                  have n13_ := Aside0.mk ((by rw [hg]; exact Nat.ne_of_gt (blk_lt (g := gb240) (o := .cells #[.int .u64 t234, .int .u64 t235, .int .u64 t236, .int .i64 t237, .int .i64 t238, .bool false] 24 (0, 0)) (by (with_reducible repeat (first | refine blk_drewN ?_ _ | refine blk_drew ?_ | refine blk_alloc ?_ _)); exact BK240.out)) : gb268 ≠ gb240))
                  have n14_ := Aside0.mk ((by rw [hg]; exact Nat.ne_of_lt (blk_lt (g := gb255) (o := .cells #[.int .u64 t249, .int .u64 t250, .int .u64 t251, .int .i64 t252, .int .i64 t253, .bool t254] 24 (0, 0)) (by (with_reducible repeat (first | refine blk_drewN ?_ _ | refine blk_drew ?_ | refine blk_alloc ?_ _)); exact BK255.out)) : gb255 ≠ gb268))
                  have n15_ := Aside0.mk ((by rw [hg]; exact Nat.ne_of_gt (blk_lt (g := gb255) (o := .cells #[.int .u64 t249, .int .u64 t250, .int .u64 t251, .int .i64 t252, .int .i64 t253, .bool t254] 24 (0, 0)) (by (with_reducible repeat (first | refine blk_drewN ?_ _ | refine blk_drew ?_ | refine blk_alloc ?_ _)); exact BK255.out)) : gb268 ≠ gb255))
                  clear BK214
                  clear BK227
                  clear BK240
                  clear BK255
                  clear HB
                  have BK214 := n0_
                  have BK227 := n1_
                  have BK240 := n2_
                  have BK255 := n3_
                  have HB := n4_
                  have BK268 := n5_
                  have GW268 := n6_
                  have GE268 := n7_
                  have NB214_268 := n8_
                  have NB268_214 := n9_
                  have NB227_268 := n10_
                  have NB268_227 := n11_
                  have NB240_268 := n12_
                  have NB268_240 := n13_
                  have NB255_268 := n14_
                  have NB268_255 := n15_
                  clear n0_ n1_ n2_ n3_ n4_ n5_ n6_ n7_ n8_ n9_ n10_ n11_ n12_ n13_ n14_ n15_
                  clear hb hbox hg
                  refine hK.out _ _ ⟨(blk_cell BK255.out 0).trans rfl, (blk_cell BK255.out 1).trans rfl, (blk_cell BK255.out 2).trans rfl, (blk_cell BK255.out 3).trans rfl, (blk_cell BK255.out 4).trans rfl, (blk_cell BK255.out 5).trans rfl, (blk_cell BK214.out 0).trans rfl, (blk_cell BK214.out 1).trans rfl, (blk_cell BK214.out 2).trans rfl, (blk_cell BK214.out 3).trans rfl, (blk_cell BK214.out 4).trans rfl, (blk_cell BK214.out 5).trans rfl⟩ (fun hHeld => ?_)
                  clear hK K
                  refine norm_ (a' := ?_) ?_ ?_
                  rotate_left
                  · show Act.put _ (some 7) _ = _
                    simp only [Act.put, List.setIfInBounds_toArray, List.set_cons_zero, List.set_cons_succ, i64_w, i32_w]
                    rfl
                  refine one_ (i := 2) (N := some 27) #[true, true, true, false, true, false] rfl rfl (by kernel_rfl) (by decide) (fun K hK => ?_)
                  refine goes_ Tryd.func18 (by kernel_rfl) rfl #[.agg #[.int .u64 t208, .int .u64 t209, .int .u64 t210, .int .i64 t211, .int .i64 t212, .bool t213], .int .u64 3] (by rfl) rfl rfl (by (try simp only [List.map_toArray, List.map_cons, List.map_nil]); first | done | rfl | (simp only [List.length_drop, List.length_take]; rfl)) ?_
                  with_reducible refine (cap_Move.calls t208 t209 t210 t211 t212 t213 3 t256 t257 t258 t259 t260 t261 _ A10.out).mono ?_
                  rintro e w116 ⟨rfl, hb⟩
                  refine ⟨_, rfl, ?_⟩
                  have n0_ := Aside0.mk (blk_below (g := gb214) (o := .cells #[.int .u64 t208, .int .u64 t209, .int .u64 t210, .int .i64 t211, .int .i64 t212, .bool t213] 24 (0, 0)) (by (with_reducible repeat (first | refine blk_drewN ?_ _ | refine blk_drew ?_ | refine blk_alloc ?_ _)); exact BK214.out) hb)
                  have n1_ := Aside0.mk (blk_below (g := gb227) (o := .cells #[.int .u64 t221, .int .u64 t222, .int .u64 t223, .int .i64 t224, .int .i64 t225, .bool t226] 24 (0, 0)) (by (with_reducible repeat (first | refine blk_drewN ?_ _ | refine blk_drew ?_ | refine blk_alloc ?_ _)); exact BK227.out) hb)
                  have n2_ := Aside0.mk (blk_below (g := gb240) (o := .cells #[.int .u64 t234, .int .u64 t235, .int .u64 t236, .int .i64 t237, .int .i64 t238, .bool false] 24 (0, 0)) (by (with_reducible repeat (first | refine blk_drewN ?_ _ | refine blk_drew ?_ | refine blk_alloc ?_ _)); exact BK240.out) hb)
                  have n3_ := Aside0.mk (blk_below (g := gb255) (o := .cells #[.int .u64 t249, .int .u64 t250, .int .u64 t251, .int .i64 t252, .int .i64 t253, .bool t254] 24 (0, 0)) (by (with_reducible repeat (first | refine blk_drewN ?_ _ | refine blk_drew ?_ | refine blk_alloc ?_ _)); exact BK255.out) hb)
                  have n4_ := Aside0.mk (blk_below (g := gb268) (o := .cells #[.int .u64 0, .int .u64 0, .int .u64 0, .int .i64 0, .int .i64 0, .bool false] 24 (0, 0)) (by (with_reducible repeat (first | refine blk_drewN ?_ _ | refine blk_drew ?_ | refine blk_alloc ?_ _)); exact BK268.out) hb)
                  have n5_ := Aside0.mk (below_step (by repeat (first | (with_reducible first | exact HB.out | apply below_alloc | apply pw_below_drewN | apply below_drew1 | refine below_set ?_ GE214.out | refine below_set ?_ GE227.out | refine below_set ?_ GE240.out | refine below_set ?_ GE255.out | refine below_set ?_ GE268.out) | exact HB.out)) hb)
                  clear BK214
                  clear BK227
                  clear BK240
                  clear BK255
                  clear BK268
                  clear HB
                  have BK214 := n0_
                  have BK227 := n1_
                  have BK240 := n2_
                  have BK255 := n3_
                  have BK268 := n4_
                  have HB := n5_
                  clear n0_ n1_ n2_ n3_ n4_ n5_
                  (try clear hb)
                  (try clear hb2)
                  (try clear hk)
                  (try clear hi)
                  refine hK.out _ _ ⟨(blk_cell BK255.out 0).trans rfl, (blk_cell BK255.out 1).trans rfl, (blk_cell BK255.out 2).trans rfl, (blk_cell BK255.out 3).trans rfl, (blk_cell BK255.out 4).trans rfl, (blk_cell BK255.out 5).trans rfl, (blk_cell BK214.out 0).trans rfl, (blk_cell BK214.out 1).trans rfl, (blk_cell BK214.out 2).trans rfl, (blk_cell BK214.out 3).trans rfl, (blk_cell BK214.out 4).trans rfl, (blk_cell BK214.out 5).trans rfl⟩ (fun hHeld => ?_)
                  clear hK K
                  refine norm_ (a' := ?_) ?_ ?_
                  rotate_left
                  · show Act.put _ (some 27) _ = _
                    simp only [Act.put, List.setIfInBounds_toArray, List.set_cons_zero, List.set_cons_succ, i64_w, i32_w]
                    rfl
                  refine one_ (i := 3) (N := some 28) #[true, true, true, true, true, false] rfl rfl (by kernel_rfl) (by decide) (fun K hK => ?_)
                  refine goes_ Tryd.func13 (by kernel_rfl) rfl #[.agg #[.int .u64 t249, .int .u64 t250, .int .u64 t251, .int .i64 t252, .int .i64 t253, .bool t254], .agg #[.int .u64 t256, .int .u64 t257, .int .u64 t258, .int .i64 t259, .int .i64 t260, .bool t261]] (by rfl) rfl rfl (by (try simp only [List.map_toArray, List.map_cons, List.map_nil]); first | done | rfl | (simp only [List.length_drop, List.length_take]; rfl)) ?_
                  with_reducible refine (cap_Unseal.calls t249 t250 t251 t252 t253 t254 t256 t257 t258 t259 t260 t261 t262 t263 t264 t265 t266 t267 _ A11.out).mono ?_
                  rintro e w117 ⟨rfl, hb⟩
                  refine ⟨_, rfl, ?_⟩
                  have n0_ := Aside0.mk (blk_below (g := gb214) (o := .cells #[.int .u64 t208, .int .u64 t209, .int .u64 t210, .int .i64 t211, .int .i64 t212, .bool t213] 24 (0, 0)) (by (with_reducible repeat (first | refine blk_drewN ?_ _ | refine blk_drew ?_ | refine blk_alloc ?_ _)); exact BK214.out) hb)
                  have n1_ := Aside0.mk (blk_below (g := gb227) (o := .cells #[.int .u64 t221, .int .u64 t222, .int .u64 t223, .int .i64 t224, .int .i64 t225, .bool t226] 24 (0, 0)) (by (with_reducible repeat (first | refine blk_drewN ?_ _ | refine blk_drew ?_ | refine blk_alloc ?_ _)); exact BK227.out) hb)
                  have n2_ := Aside0.mk (blk_below (g := gb240) (o := .cells #[.int .u64 t234, .int .u64 t235, .int .u64 t236, .int .i64 t237, .int .i64 t238, .bool false] 24 (0, 0)) (by (with_reducible repeat (first | refine blk_drewN ?_ _ | refine blk_drew ?_ | refine blk_alloc ?_ _)); exact BK240.out) hb)
                  have n3_ := Aside0.mk (blk_below (g := gb255) (o := .cells #[.int .u64 t249, .int .u64 t250, .int .u64 t251, .int .i64 t252, .int .i64 t253, .bool t254] 24 (0, 0)) (by (with_reducible repeat (first | refine blk_drewN ?_ _ | refine blk_drew ?_ | refine blk_alloc ?_ _)); exact BK255.out) hb)
                  have n4_ := Aside0.mk (blk_below (g := gb268) (o := .cells #[.int .u64 0, .int .u64 0, .int .u64 0, .int .i64 0, .int .i64 0, .bool false] 24 (0, 0)) (by (with_reducible repeat (first | refine blk_drewN ?_ _ | refine blk_drew ?_ | refine blk_alloc ?_ _)); exact BK268.out) hb)
                  have n5_ := Aside0.mk (below_step (by repeat (first | (with_reducible first | exact HB.out | apply below_alloc | apply pw_below_drewN | apply below_drew1 | refine below_set ?_ GE214.out | refine below_set ?_ GE227.out | refine below_set ?_ GE240.out | refine below_set ?_ GE255.out | refine below_set ?_ GE268.out) | exact HB.out)) hb)
                  clear BK214
                  clear BK227
                  clear BK240
                  clear BK255
                  clear BK268
                  clear HB
                  have BK214 := n0_
                  have BK227 := n1_
                  have BK240 := n2_
                  have BK255 := n3_
                  have BK268 := n4_
                  have HB := n5_
                  clear n0_ n1_ n2_ n3_ n4_ n5_
                  (try clear hb)
                  (try clear hb2)
                  (try clear hk)
                  (try clear hi)
                  refine hK.out _ _ ⟨(blk_cell BK255.out 0).trans rfl, (blk_cell BK255.out 1).trans rfl, (blk_cell BK255.out 2).trans rfl, (blk_cell BK255.out 3).trans rfl, (blk_cell BK255.out 4).trans rfl, (blk_cell BK255.out 5).trans rfl, (blk_cell BK214.out 0).trans rfl, (blk_cell BK214.out 1).trans rfl, (blk_cell BK214.out 2).trans rfl, (blk_cell BK214.out 3).trans rfl, (blk_cell BK214.out 4).trans rfl, (blk_cell BK214.out 5).trans rfl⟩ (fun hHeld => ?_)
                  clear hK K
                  refine norm_ (a' := ?_) ?_ ?_
                  rotate_left
                  · show Act.put _ (some 28) _ = _
                    simp only [Act.put, List.setIfInBounds_toArray, List.set_cons_zero, List.set_cons_succ, i64_w, i32_w]
                    rfl
                  exact norm_ (by simp only [putAll, Act.put, List.setIfInBounds_toArray, List.set_cons_zero, List.set_cons_succ]) (hCont (gb268) _ ⟨hHeld, (by (with_reducible repeat (first | refine blk_drewN ?_ _ | refine blk_drew ?_ | refine blk_alloc ?_ _)); exact BK214.out), (by (with_reducible repeat (first | refine blk_drewN ?_ _ | refine blk_drew ?_ | refine blk_alloc ?_ _)); exact BK227.out), (by (with_reducible repeat (first | refine blk_drewN ?_ _ | refine blk_drew ?_ | refine blk_alloc ?_ _)); exact BK240.out), (by (with_reducible repeat (first | refine blk_drewN ?_ _ | refine blk_drew ?_ | refine blk_alloc ?_ _)); exact BK255.out), (by (with_reducible repeat (first | refine blk_drewN ?_ _ | refine blk_drew ?_ | refine blk_alloc ?_ _)); exact BK268.out), GW268.out, GE268.out, NB214_268.out, NB268_214.out, NB227_268.out, NB268_227.out, NB240_268.out, NB268_240.out, NB255_268.out, NB268_255.out, (by repeat (first | (with_reducible first | exact HB.out | apply below_alloc | apply pw_below_drewN | apply below_drew1 | refine below_set ?_ GE214.out | refine below_set ?_ GE227.out | refine below_set ?_ GE240.out | refine below_set ?_ GE255.out | refine below_set ?_ GE268.out) | exact HB.out))⟩)
              rintro gb268 w118 ⟨hS_, h0_, h1_, h2_, h3_, h4_, h5_, h6_, h7_, h8_, h9_, h10_, h11_, h12_, h13_, h14_, h15_⟩
              have n0_ : Aside0 (w118.heap[gb214]? = some (.cells #[.int .u64 t208, .int .u64 t209, .int .u64 t210, .int .i64 t211, .int .i64 t212, .bool t213] 24 (0, 0))) := ⟨h0_⟩
              have n1_ : Aside0 (w118.heap[gb227]? = some (.cells #[.int .u64 t221, .int .u64 t222, .int .u64 t223, .int .i64 t224, .int .i64 t225, .bool t226] 24 (0, 0))) := ⟨h1_⟩
              have n2_ : Aside0 (w118.heap[gb240]? = some (.cells #[.int .u64 t234, .int .u64 t235, .int .u64 t236, .int .i64 t237, .int .i64 t238, .bool false] 24 (0, 0))) := ⟨h2_⟩
              have n3_ : Aside0 (w118.heap[gb255]? = some (.cells #[.int .u64 t249, .int .u64 t250, .int .u64 t251, .int .i64 t252, .int .i64 t253, .bool t254] 24 (0, 0))) := ⟨h3_⟩
              have n4_ : Aside0 (w118.heap[gb268]? = some (.cells #[.int .u64 0, .int .u64 0, .int .u64 0, .int .i64 0, .int .i64 0, .bool false] 24 (0, 0))) := ⟨h4_⟩
              have n5_ : Aside0 (w.heap.size ≤ gb268) := ⟨h5_⟩
              have n6_ : Aside0 (w.heap.size ≤ gb268) := ⟨h6_⟩
              have n7_ : Aside0 (gb214 ≠ gb268) := ⟨h7_⟩
              have n8_ : Aside0 (gb268 ≠ gb214) := ⟨h8_⟩
              have n9_ : Aside0 (gb227 ≠ gb268) := ⟨h9_⟩
              have n10_ : Aside0 (gb268 ≠ gb227) := ⟨h10_⟩
              have n11_ : Aside0 (gb240 ≠ gb268) := ⟨h11_⟩
              have n12_ : Aside0 (gb268 ≠ gb240) := ⟨h12_⟩
              have n13_ : Aside0 (gb255 ≠ gb268) := ⟨h13_⟩
              have n14_ : Aside0 (gb268 ≠ gb255) := ⟨h14_⟩
              have n15_ : Aside0 (Below w.heap.size w w118) := ⟨h15_⟩
              clear BK214
              clear BK227
              clear BK240
              clear BK255
              clear HB
              clear h0_ h1_ h2_ h3_ h4_ h5_ h6_ h7_ h8_ h9_ h10_ h11_ h12_ h13_ h14_ h15_
              have BK214 := n0_
              have BK227 := n1_
              have BK240 := n2_
              have BK255 := n3_
              have BK268 := n4_
              have GW268 := n5_
              have GE268 := n6_
              have NB214_268 := n7_
              have NB268_214 := n8_
              have NB227_268 := n9_
              have NB268_227 := n10_
              have NB240_268 := n11_
              have NB268_240 := n12_
              have NB255_268 := n13_
              have NB268_255 := n14_
              have HB := n15_
              clear n0_ n1_ n2_ n3_ n4_ n5_ n6_ n7_ n8_ n9_ n10_ n11_ n12_ n13_ n14_ n15_
              have hHeld : w118.cell? ⟨gb255, 0, none⟩ = some (.int .u64 t249) ∧ w118.cell? ⟨gb255, 1, none⟩ = some (.int .u64 t250) ∧ w118.cell? ⟨gb255, 2, none⟩ = some (.int .u64 t251) ∧ w118.cell? ⟨gb255, 3, none⟩ = some (.int .i64 t252) ∧ w118.cell? ⟨gb255, 4, none⟩ = some (.int .i64 t253) ∧ w118.cell? ⟨gb255, 5, none⟩ = some (.bool t254) ∧ w118.cell? ⟨gb214, 0, none⟩ = some (.int .u64 t208) ∧ w118.cell? ⟨gb214, 1, none⟩ = some (.int .u64 t209) ∧ w118.cell? ⟨gb214, 2, none⟩ = some (.int .u64 t210) ∧ w118.cell? ⟨gb214, 3, none⟩ = some (.int .i64 t211) ∧ w118.cell? ⟨gb214, 4, none⟩ = some (.int .i64 t212) ∧ w118.cell? ⟨gb214, 5, none⟩ = some (.bool t213) := hS_
              refine norm_ (a' := ?_) ?_ ?_
              rotate_left
              · simp only [putAll, Act.put, List.setIfInBounds_toArray, List.set_cons_zero, List.set_cons_succ]
                rfl
              refine one_ (i := 5) (N := none) #[true, true, true, true, true, true] rfl rfl (by kernel_rfl) (by decide) (fun K hK => ?_)
              have hs119 : w118.cell? ⟨gb268, 0, none⟩ = some (.int .u64 0) := (blk_cell BK268.out 0).trans rfl
              have hfs119 := blk_frozen BK268.out 0
              have hns119_0 := NB214_268.out
              have hns119_1 := NB227_268.out
              have hns119_2 := NB240_268.out
              have hns119_3 := NB255_268.out
              have hms119_0 := NB268_214.out
              have hms119_1 := NB268_227.out
              have hms119_2 := NB268_240.out
              have hms119_3 := NB268_255.out
              have hs120 : w118.cell? ⟨gb268, 1, none⟩ = some (.int .u64 0) := (blk_cell BK268.out 1).trans rfl
              have hfs120 := blk_frozen BK268.out 1
              have hns120_0 := NB214_268.out
              have hns120_1 := NB227_268.out
              have hns120_2 := NB240_268.out
              have hns120_3 := NB255_268.out
              have hms120_0 := NB268_214.out
              have hms120_1 := NB268_227.out
              have hms120_2 := NB268_240.out
              have hms120_3 := NB268_255.out
              have hs121 : w118.cell? ⟨gb268, 2, none⟩ = some (.int .u64 0) := (blk_cell BK268.out 2).trans rfl
              have hfs121 := blk_frozen BK268.out 2
              have hns121_0 := NB214_268.out
              have hns121_1 := NB227_268.out
              have hns121_2 := NB240_268.out
              have hns121_3 := NB255_268.out
              have hms121_0 := NB268_214.out
              have hms121_1 := NB268_227.out
              have hms121_2 := NB268_240.out
              have hms121_3 := NB268_255.out
              have hs122 : w118.cell? ⟨gb268, 3, none⟩ = some (.int .i64 0) := (blk_cell BK268.out 3).trans rfl
              have hfs122 := blk_frozen BK268.out 3
              have hns122_0 := NB214_268.out
              have hns122_1 := NB227_268.out
              have hns122_2 := NB240_268.out
              have hns122_3 := NB255_268.out
              have hms122_0 := NB268_214.out
              have hms122_1 := NB268_227.out
              have hms122_2 := NB268_240.out
              have hms122_3 := NB268_255.out
              have hs123 : w118.cell? ⟨gb268, 4, none⟩ = some (.int .i64 0) := (blk_cell BK268.out 4).trans rfl
              have hfs123 := blk_frozen BK268.out 4
              have hns123_0 := NB214_268.out
              have hns123_1 := NB227_268.out
              have hns123_2 := NB240_268.out
              have hns123_3 := NB255_268.out
              have hms123_0 := NB268_214.out
              have hms123_1 := NB268_227.out
              have hms123_2 := NB268_240.out
              have hms123_3 := NB268_255.out
              have hs124 : w118.cell? ⟨gb268, 5, none⟩ = some (.bool false) := (blk_cell BK268.out 5).trans rfl
              have hfs124 := blk_frozen BK268.out 5
              have hns124_0 := NB214_268.out
              have hns124_1 := NB227_268.out
              have hns124_2 := NB240_268.out
              have hns124_3 := NB255_268.out
              have hms124_0 := NB268_214.out
              have hms124_1 := NB268_227.out
              have hms124_2 := NB268_240.out
              have hms124_3 := NB268_255.out
              refine skip_ (w1 := ?_) (by rfl) rfl ?_ ?_
              rotate_left
              · go_simp
                rfl
              refine hK.out _ _ ⟨((cell_far (p := ⟨gb268, _, none⟩) NB255_268.out _).trans (((cell_far (p := ⟨gb268, _, none⟩) NB255_268.out _).trans (((cell_far (p := ⟨gb268, _, none⟩) NB255_268.out _).trans (((cell_far (p := ⟨gb268, _, none⟩) NB255_268.out _).trans (((cell_far (p := ⟨gb268, _, none⟩) NB255_268.out _).trans (((cell_far (p := ⟨gb268, _, none⟩) NB255_268.out _).trans (hHeld.1)))))))))))), ((cell_far (p := ⟨gb268, _, none⟩) NB255_268.out _).trans (((cell_far (p := ⟨gb268, _, none⟩) NB255_268.out _).trans (((cell_far (p := ⟨gb268, _, none⟩) NB255_268.out _).trans (((cell_far (p := ⟨gb268, _, none⟩) NB255_268.out _).trans (((cell_far (p := ⟨gb268, _, none⟩) NB255_268.out _).trans (((cell_far (p := ⟨gb268, _, none⟩) NB255_268.out _).trans (hHeld.2.1)))))))))))), ((cell_far (p := ⟨gb268, _, none⟩) NB255_268.out _).trans (((cell_far (p := ⟨gb268, _, none⟩) NB255_268.out _).trans (((cell_far (p := ⟨gb268, _, none⟩) NB255_268.out _).trans (((cell_far (p := ⟨gb268, _, none⟩) NB255_268.out _).trans (((cell_far (p := ⟨gb268, _, none⟩) NB255_268.out _).trans (((cell_far (p := ⟨gb268, _, none⟩) NB255_268.out _).trans (hHeld.2.2.1)))))))))))), ((cell_far (p := ⟨gb268, _, none⟩) NB255_268.out _).trans (((cell_far (p := ⟨gb268, _, none⟩) NB255_268.out _).trans (((cell_far (p := ⟨gb268, _, none⟩) NB255_268.out _).trans (((cell_far (p := ⟨gb268, _, none⟩) NB255_268.out _).trans (((cell_far (p := ⟨gb268, _, none⟩) NB255_268.out _).trans (((cell_far (p := ⟨gb268, _, none⟩) NB255_268.out _).trans (hHeld.2.2.2.1)))))))))))), ((cell_far (p := ⟨gb268, _, none⟩) NB255_268.out _).trans (((cell_far (p := ⟨gb268, _, none⟩) NB255_268.out _).trans (((cell_far (p := ⟨gb268, _, none⟩) NB255_268.out _).trans (((cell_far (p := ⟨gb268, _, none⟩) NB255_268.out _).trans (((cell_far (p := ⟨gb268, _, none⟩) NB255_268.out _).trans (((cell_far (p := ⟨gb268, _, none⟩) NB255_268.out _).trans (hHeld.2.2.2.2.1)))))))))))), ((cell_far (p := ⟨gb268, _, none⟩) NB255_268.out _).trans (((cell_far (p := ⟨gb268, _, none⟩) NB255_268.out _).trans (((cell_far (p := ⟨gb268, _, none⟩) NB255_268.out _).trans (((cell_far (p := ⟨gb268, _, none⟩) NB255_268.out _).trans (((cell_far (p := ⟨gb268, _, none⟩) NB255_268.out _).trans (((cell_far (p := ⟨gb268, _, none⟩) NB255_268.out _).trans (hHeld.2.2.2.2.2.1)))))))))))), ((cell_far (p := ⟨gb268, _, none⟩) NB214_268.out _).trans (((cell_far (p := ⟨gb268, _, none⟩) NB214_268.out _).trans (((cell_far (p := ⟨gb268, _, none⟩) NB214_268.out _).trans (((cell_far (p := ⟨gb268, _, none⟩) NB214_268.out _).trans (((cell_far (p := ⟨gb268, _, none⟩) NB214_268.out _).trans (((cell_far (p := ⟨gb268, _, none⟩) NB214_268.out _).trans (hHeld.2.2.2.2.2.2.1)))))))))))), ((cell_far (p := ⟨gb268, _, none⟩) NB214_268.out _).trans (((cell_far (p := ⟨gb268, _, none⟩) NB214_268.out _).trans (((cell_far (p := ⟨gb268, _, none⟩) NB214_268.out _).trans (((cell_far (p := ⟨gb268, _, none⟩) NB214_268.out _).trans (((cell_far (p := ⟨gb268, _, none⟩) NB214_268.out _).trans (((cell_far (p := ⟨gb268, _, none⟩) NB214_268.out _).trans (hHeld.2.2.2.2.2.2.2.1)))))))))))), ((cell_far (p := ⟨gb268, _, none⟩) NB214_268.out _).trans (((cell_far (p := ⟨gb268, _, none⟩) NB214_268.out _).trans (((cell_far (p := ⟨gb268, _, none⟩) NB214_268.out _).trans (((cell_far (p := ⟨gb268, _, none⟩) NB214_268.out _).trans (((cell_far (p := ⟨gb268, _, none⟩) NB214_268.out _).trans (((cell_far (p := ⟨gb268, _, none⟩) NB214_268.out _).trans (hHeld.2.2.2.2.2.2.2.2.1)))))))))))), ((cell_far (p := ⟨gb268, _, none⟩) NB214_268.out _).trans (((cell_far (p := ⟨gb268, _, none⟩) NB214_268.out _).trans (((cell_far (p := ⟨gb268, _, none⟩) NB214_268.out _).trans (((cell_far (p := ⟨gb268, _, none⟩) NB214_268.out _).trans (((cell_far (p := ⟨gb268, _, none⟩) NB214_268.out _).trans (((cell_far (p := ⟨gb268, _, none⟩) NB214_268.out _).trans (hHeld.2.2.2.2.2.2.2.2.2.1)))))))))))), ((cell_far (p := ⟨gb268, _, none⟩) NB214_268.out _).trans (((cell_far (p := ⟨gb268, _, none⟩) NB214_268.out _).trans (((cell_far (p := ⟨gb268, _, none⟩) NB214_268.out _).trans (((cell_far (p := ⟨gb268, _, none⟩) NB214_268.out _).trans (((cell_far (p := ⟨gb268, _, none⟩) NB214_268.out _).trans (((cell_far (p := ⟨gb268, _, none⟩) NB214_268.out _).trans (hHeld.2.2.2.2.2.2.2.2.2.2.1)))))))))))), ((cell_far (p := ⟨gb268, _, none⟩) NB214_268.out _).trans (((cell_far (p := ⟨gb268, _, none⟩) NB214_268.out _).trans (((cell_far (p := ⟨gb268, _, none⟩) NB214_268.out _).trans (((cell_far (p := ⟨gb268, _, none⟩) NB214_268.out _).trans (((cell_far (p := ⟨gb268, _, none⟩) NB214_268.out _).trans (((cell_far (p := ⟨gb268, _, none⟩) NB214_268.out _).trans (hHeld.2.2.2.2.2.2.2.2.2.2.2))))))))))))⟩ (fun hHeld => ?_)
              clear hK K
              refine done_ (by kernel_rfl) ?_
              have hnb125 := NB255_214.out
              have hnc125 := NB214_255.out
              have hnb126 := NB255_227.out
              have hnc126 := NB227_255.out
              have hnb127 := NB255_240.out
              have hnc127 := NB240_255.out
              have hnb128 := NB255_268.out
              have hnc128 := NB268_255.out
              have hcz129_0 : w118.cell? ⟨gb255, 0, none⟩ = some (.int .u64 t249) := (blk_cell BK255.out 0).trans rfl
              have hcz129_1 : w118.cell? ⟨gb255, 1, none⟩ = some (.int .u64 t250) := (blk_cell BK255.out 1).trans rfl
              have hcz129_2 : w118.cell? ⟨gb255, 2, none⟩ = some (.int .u64 t251) := (blk_cell BK255.out 2).trans rfl
              have hcz129_3 : w118.cell? ⟨gb255, 3, none⟩ = some (.int .i64 t252) := (blk_cell BK255.out 3).trans rfl
              have hcz129_4 : w118.cell? ⟨gb255, 4, none⟩ = some (.int .i64 t253) := (blk_cell BK255.out 4).trans rfl
              have hcz129_5 : w118.cell? ⟨gb255, 5, none⟩ = some (.bool t254) := (blk_cell BK255.out 5).trans rfl
              have hfz129_0 := blk_frozen BK255.out 0
              have hfz129_1 := blk_frozen BK255.out 1
              have hfz129_2 := blk_frozen BK255.out 2
              have hfz129_3 := blk_frozen BK255.out 3
              have hfz129_4 := blk_frozen BK255.out 4
              have hfz129_5 := blk_frozen BK255.out 5
              try go_wp2_with (first | ((with_reducible refine gate_dst (N := 30) rfl ?_); (with_reducible refine gate_callee (f := 17) rfl ?_); refine goesL_ (some 30) rfl rfl Tryd.func17 (by kernel_rfl) rfl #[.agg #[.int .u64 t249, .int .u64 t250, .int .u64 t251, .int .i64 t252, .int .i64 t253, .bool t254], .int .u64 1, .int .i64 1] rfl (by (try simp only [List.map_toArray, List.map_cons, List.map_nil]); first | done | rfl | (simp only [List.length_drop, List.length_take]; rfl)) ?_; (with_reducible refine (cap_Check.calls t249 t250 t251 t252 t253 t254 1 1 t269 _ A12.out).mono ?_); rintro e w130 ⟨rfl, hb⟩; refine ⟨_, rfl, ?_⟩; have n0_ := Aside0.mk (blk_below (g := gb214) (o := .cells #[.int .u64 t208, .int .u64 t209, .int .u64 t210, .int .i64 t211, .int .i64 t212, .bool t213] 24 (0, 0)) (by (with_reducible repeat (first | refine blk_drewN ?_ _ | refine blk_drew ?_ | refine blk_alloc ?_ _)); refine blk_far ?_ NB214_268.out _; (with_reducible repeat (first | refine blk_drewN ?_ _ | refine blk_drew ?_ | refine blk_alloc ?_ _)); refine blk_far ?_ NB214_268.out _; (with_reducible repeat (first | refine blk_drewN ?_ _ | refine blk_drew ?_ | refine blk_alloc ?_ _)); refine blk_far ?_ NB214_268.out _; (with_reducible repeat (first | refine blk_drewN ?_ _ | refine blk_drew ?_ | refine blk_alloc ?_ _)); refine blk_far ?_ NB214_268.out _; (with_reducible repeat (first | refine blk_drewN ?_ _ | refine blk_drew ?_ | refine blk_alloc ?_ _)); refine blk_far ?_ NB214_268.out _; (with_reducible repeat (first | refine blk_drewN ?_ _ | refine blk_drew ?_ | refine blk_alloc ?_ _)); refine blk_far ?_ NB214_268.out _; (with_reducible repeat (first | refine blk_drewN ?_ _ | refine blk_drew ?_ | refine blk_alloc ?_ _)); exact BK214.out) hb); have n1_ := Aside0.mk (blk_below (g := gb227) (o := .cells #[.int .u64 t221, .int .u64 t222, .int .u64 t223, .int .i64 t224, .int .i64 t225, .bool t226] 24 (0, 0)) (by (with_reducible repeat (first | refine blk_drewN ?_ _ | refine blk_drew ?_ | refine blk_alloc ?_ _)); refine blk_far ?_ NB227_268.out _; (with_reducible repeat (first | refine blk_drewN ?_ _ | refine blk_drew ?_ | refine blk_alloc ?_ _)); refine blk_far ?_ NB227_268.out _; (with_reducible repeat (first | refine blk_drewN ?_ _ | refine blk_drew ?_ | refine blk_alloc ?_ _)); refine blk_far ?_ NB227_268.out _; (with_reducible repeat (first | refine blk_drewN ?_ _ | refine blk_drew ?_ | refine blk_alloc ?_ _)); refine blk_far ?_ NB227_268.out _; (with_reducible repeat (first | refine blk_drewN ?_ _ | refine blk_drew ?_ | refine blk_alloc ?_ _)); refine blk_far ?_ NB227_268.out _; (with_reducible repeat (first | refine blk_drewN ?_ _ | refine blk_drew ?_ | refine blk_alloc ?_ _)); refine blk_far ?_ NB227_268.out _; (with_reducible repeat (first | refine blk_drewN ?_ _ | refine blk_drew ?_ | refine blk_alloc ?_ _)); exact BK227.out) hb); have n2_ := Aside0.mk (blk_below (g := gb240) (o := .cells #[.int .u64 t234, .int .u64 t235, .int .u64 t236, .int .i64 t237, .int .i64 t238, .bool false] 24 (0, 0)) (by (with_reducible repeat (first | refine blk_drewN ?_ _ | refine blk_drew ?_ | refine blk_alloc ?_ _)); refine blk_far ?_ NB240_268.out _; (with_reducible repeat (first | refine blk_drewN ?_ _ | refine blk_drew ?_ | refine blk_alloc ?_ _)); refine blk_far ?_ NB240_268.out _; (with_reducible repeat (first | refine blk_drewN ?_ _ | refine blk_drew ?_ | refine blk_alloc ?_ _)); refine blk_far ?_ NB240_268.out _; (with_reducible repeat (first | refine blk_drewN ?_ _ | refine blk_drew ?_ | refine blk_alloc ?_ _)); refine blk_far ?_ NB240_268.out _; (with_reducible repeat (first | refine blk_drewN ?_ _ | refine blk_drew ?_ | refine blk_alloc ?_ _)); refine blk_far ?_ NB240_268.out _; (with_reducible repeat (first | refine blk_drewN ?_ _ | refine blk_drew ?_ | refine blk_alloc ?_ _)); refine blk_far ?_ NB240_268.out _; (with_reducible repeat (first | refine blk_drewN ?_ _ | refine blk_drew ?_ | refine blk_alloc ?_ _)); exact BK240.out) hb); have n3_ := Aside0.mk (blk_below (g := gb255) (o := .cells #[.int .u64 t249, .int .u64 t250, .int .u64 t251, .int .i64 t252, .int .i64 t253, .bool t254] 24 (0, 0)) (by (with_reducible repeat (first | refine blk_drewN ?_ _ | refine blk_drew ?_ | refine blk_alloc ?_ _)); refine blk_far ?_ NB255_268.out _; (with_reducible repeat (first | refine blk_drewN ?_ _ | refine blk_drew ?_ | refine blk_alloc ?_ _)); refine blk_far ?_ NB255_268.out _; (with_reducible repeat (first | refine blk_drewN ?_ _ | refine blk_drew ?_ | refine blk_alloc ?_ _)); refine blk_far ?_ NB255_268.out _; (with_reducible repeat (first | refine blk_drewN ?_ _ | refine blk_drew ?_ | refine blk_alloc ?_ _)); refine blk_far ?_ NB255_268.out _; (with_reducible repeat (first | refine blk_drewN ?_ _ | refine blk_drew ?_ | refine blk_alloc ?_ _)); refine blk_far ?_ NB255_268.out _; (with_reducible repeat (first | refine blk_drewN ?_ _ | refine blk_drew ?_ | refine blk_alloc ?_ _)); refine blk_far ?_ NB255_268.out _; (with_reducible repeat (first | refine blk_drewN ?_ _ | refine blk_drew ?_ | refine blk_alloc ?_ _)); exact BK255.out) hb); have n4_ := Aside0.mk (blk_below (g := gb268) (o := .cells #[.int .u64 t262, .int .u64 t263, .int .u64 t264, .int .i64 t265, .int .i64 t266, .bool t267] 24 (0, 0)) (by (with_reducible repeat (first | refine blk_drewN ?_ _ | refine blk_drew ?_ | refine blk_alloc ?_ _)); refine blk_put (cs := #[.int .u64 t262, .int .u64 t263, .int .u64 t264, .int .i64 t265, .int .i64 t266, .bool false]) ?_ 5 _ rfl; (with_reducible repeat (first | refine blk_drewN ?_ _ | refine blk_drew ?_ | refine blk_alloc ?_ _)); refine blk_put (cs := #[.int .u64 t262, .int .u64 t263, .int .u64 t264, .int .i64 t265, .int .i64 0, .bool false]) ?_ 4 _ rfl; (with_reducible repeat (first | refine blk_drewN ?_ _ | refine blk_drew ?_ | refine blk_alloc ?_ _)); refine blk_put (cs := #[.int .u64 t262, .int .u64 t263, .int .u64 t264, .int .i64 0, .int .i64 0, .bool false]) ?_ 3 _ rfl; (with_reducible repeat (first | refine blk_drewN ?_ _ | refine blk_drew ?_ | refine blk_alloc ?_ _)); refine blk_put (cs := #[.int .u64 t262, .int .u64 t263, .int .u64 0, .int .i64 0, .int .i64 0, .bool false]) ?_ 2 _ rfl; (with_reducible repeat (first | refine blk_drewN ?_ _ | refine blk_drew ?_ | refine blk_alloc ?_ _)); refine blk_put (cs := #[.int .u64 t262, .int .u64 0, .int .u64 0, .int .i64 0, .int .i64 0, .bool false]) ?_ 1 _ rfl; (with_reducible repeat (first | refine blk_drewN ?_ _ | refine blk_drew ?_ | refine blk_alloc ?_ _)); refine blk_put (cs := #[.int .u64 0, .int .u64 0, .int .u64 0, .int .i64 0, .int .i64 0, .bool false]) ?_ 0 _ rfl; (with_reducible repeat (first | refine blk_drewN ?_ _ | refine blk_drew ?_ | refine blk_alloc ?_ _)); exact BK268.out) hb); have n5_ := Aside0.mk (below_step (by repeat (first | (with_reducible first | exact HB.out | apply below_alloc | apply pw_below_drewN | apply below_drew1 | refine below_set ?_ GE214.out | refine below_set ?_ GE227.out | refine below_set ?_ GE240.out | refine below_set ?_ GE255.out | refine below_set ?_ GE268.out) | exact HB.out)) hb); clear BK214; clear BK227; clear BK240; clear BK255; clear BK268; clear HB; have BK214 := n0_; have BK227 := n1_; have BK240 := n2_; have BK255 := n3_; have BK268 := n4_; have HB := n5_; clear n0_ n1_ n2_ n3_ n4_ n5_; (try clear hb); (try clear hb2); (try clear hk); (try clear hi); have hnb131 := NB214_268.out; have hnc131 := NB268_214.out; obtain ⟨hcz132_0, hcz132_1, hcz132_2, hcz132_3, hcz132_4, hcz132_5, hfz132_0, hfz132_1, hfz132_2, hfz132_3, hfz132_4, hfz132_5⟩ := cells6 BK214.out) | ((with_reducible refine gate_dst (N := 32) rfl ?_); (with_reducible refine gate_callee (f := 16) rfl ?_); refine goesL_ (some 32) rfl rfl Tryd.func16 (by kernel_rfl) rfl #[.agg #[.int .u64 t208, .int .u64 t209, .int .u64 t210, .int .i64 t211, .int .i64 t212, .bool t213]] rfl (by (try simp only [List.map_toArray, List.map_cons, List.map_nil]); first | done | rfl | (simp only [List.length_drop, List.length_take]; rfl)) ?_; (with_reducible refine (cap_Text.calls k t208 t209 t210 t211 t212 t213 t270 _ A13.out (tab_on HTAB.out (by repeat (first | (with_reducible first | exact HB.out | apply below_alloc | apply pw_below_drewN | apply below_drew1 | refine below_set ?_ GE214.out | refine below_set ?_ GE227.out | refine below_set ?_ GE240.out | refine below_set ?_ GE255.out | refine below_set ?_ GE268.out) | exact HB.out)))).mono ?_); rintro e w133 ⟨rfl, hb⟩; refine ⟨_, rfl, ?_⟩; have n0_ := Aside0.mk (blk_below (g := gb214) (o := .cells #[.int .u64 t208, .int .u64 t209, .int .u64 t210, .int .i64 t211, .int .i64 t212, .bool t213] 24 (0, 0)) (by (with_reducible repeat (first | refine blk_drewN ?_ _ | refine blk_drew ?_ | refine blk_alloc ?_ _)); exact BK214.out) hb); have n1_ := Aside0.mk (blk_below (g := gb227) (o := .cells #[.int .u64 t221, .int .u64 t222, .int .u64 t223, .int .i64 t224, .int .i64 t225, .bool t226] 24 (0, 0)) (by (with_reducible repeat (first | refine blk_drewN ?_ _ | refine blk_drew ?_ | refine blk_alloc ?_ _)); exact BK227.out) hb); have n2_ := Aside0.mk (blk_below (g := gb240) (o := .cells #[.int .u64 t234, .int .u64 t235, .int .u64 t236, .int .i64 t237, .int .i64 t238, .bool false] 24 (0, 0)) (by (with_reducible repeat (first | refine blk_drewN ?_ _ | refine blk_drew ?_ | refine blk_alloc ?_ _)); exact BK240.out) hb); have n3_ := Aside0.mk (blk_below (g := gb255) (o := .cells #[.int .u64 t249, .int .u64 t250, .int .u64 t251, .int .i64 t252, .int .i64 t253, .bool t254] 24 (0, 0)) (by (with_reducible repeat (first | refine blk_drewN ?_ _ | refine blk_drew ?_ | refine blk_alloc ?_ _)); exact BK255.out) hb); have n4_ := Aside0.mk (blk_below (g := gb268) (o := .cells #[.int .u64 t262, .int .u64 t263, .int .u64 t264, .int .i64 t265, .int .i64 t266, .bool t267] 24 (0, 0)) (by (with_reducible repeat (first | refine blk_drewN ?_ _ | refine blk_drew ?_ | refine blk_alloc ?_ _)); exact BK268.out) hb); have n5_ := Aside0.mk (below_step (by repeat (first | (with_reducible first | exact HB.out | apply below_alloc | apply pw_below_drewN | apply below_drew1 | refine below_set ?_ GE214.out | refine below_set ?_ GE227.out | refine below_set ?_ GE240.out | refine below_set ?_ GE255.out | refine below_set ?_ GE268.out) | exact HB.out)) hb); clear BK214; clear BK227; clear BK240; clear BK255; clear BK268; clear HB; have BK214 := n0_; have BK227 := n1_; have BK240 := n2_; have BK255 := n3_; have BK268 := n4_; have HB := n5_; clear n0_ n1_ n2_ n3_ n4_ n5_; (try clear hb); (try clear hb2); (try clear hk); (try clear hi); have hnb134 := NB227_268.out; have hnc134 := NB268_227.out; obtain ⟨hcz135_0, hcz135_1, hcz135_2, hcz135_3, hcz135_4, hcz135_5, hfz135_0, hfz135_1, hfz135_2, hfz135_3, hfz135_4, hfz135_5⟩ := cells6 BK227.out; have hnb136 := NB240_268.out; have hnc136 := NB268_240.out; obtain ⟨hcz137_0, hcz137_1, hcz137_2, hcz137_3, hcz137_4, hcz137_5, hfz137_0, hfz137_1, hfz137_2, hfz137_3, hfz137_4, hfz137_5⟩ := cells6 BK240.out; obtain ⟨hcz138_0, hcz138_1, hcz138_2, hcz138_3, hcz138_4, hcz138_5, hfz138_0, hfz138_1, hfz138_2, hfz138_3, hfz138_4, hfz138_5⟩ := cells6 BK268.out; obtain ⟨hcz139_0, hcz139_1, hcz139_2, hcz139_3, hcz139_4, hcz139_5, hfz139_0, hfz139_1, hfz139_2, hfz139_3, hfz139_4, hfz139_5⟩ := cells6 BK214.out))
              go_ret
              exact ⟨by first | rfl | (simp [errW_none, errW_some] <;> rfl) | (simp [*, errW_none, errW_some] <;> rfl), by repeat (first | (with_reducible first | exact HB.out | apply below_alloc | apply pw_below_drewN | apply below_drew1 | refine below_set ?_ GE214.out | refine below_set ?_ GE227.out | refine below_set ?_ GE240.out | refine below_set ?_ GE255.out | refine below_set ?_ GE268.out) | exact HB.out)⟩
            · rw [if_neg c78] at H
              have c78b0 : (t269 == 21) = false := beq_eq_false_iff_ne.mpr c78
              have c78b1 : (t269 != 21) = true := bne_iff_ne.mpr c78
              exact absurd ((Option.some.inj H).trans HT.out) (by decide)
          · rw [if_neg c77] at H
            have c77b0 : (t262 == t208 && (t263 == t209 && (t264 == t210 && (t265 == t211 && (t266 == t212 && (t267 == t213)))))) = false := by simpa using c77
            (try (have c77b1 : decide (t262 = t208 && (t263 == t209 && (t264 == t210 && (t265 == t211 && (t266 == t212 && (t267 == t213)))))) = false := by simpa using c77))
            (try (have c77b2 : (t262 == t208 && (t263 == t209 && (t264 == t210 && (t265 == t211 && (t266 == t212 && (t267 == t213)))))) = false := by simpa using c77))
            (try (have c77b3 : ¬ (t262 = t208 && (t263 == t209 && (t264 == t210 && (t265 == t211 && (t266 == t212 && (t267 == t213)))))) := by simpa using c77))
            clear c77
            exact absurd ((Option.some.inj H).trans HT.out) (by decide)
        · rw [if_neg c76] at H
          have c76b0 : (t242 == 23) = false := beq_eq_false_iff_ne.mpr c76
          have c76b1 : (t242 != 23) = true := bne_iff_ne.mpr c76
          exact absurd ((Option.some.inj H).trans HT.out) (by decide)
      · rw [if_neg c75] at H
        have c75b0 : (t241 == 0) = false := beq_eq_false_iff_ne.mpr c75
        have c75b1 : (t241 != 0) = true := bne_iff_ne.mpr c75
        exact absurd ((Option.some.inj H).trans HT.out) (by decide)
  · rw [if_neg c14] at H
    have c14b0 : (t221 == 10 && (t222 == 15 && (t223 == 10 && (t224 == 255 && (t225 == (-1) && (t226)))))) = false := by simpa using c14
    (try (have c14b1 : decide (t221 = 10 && (t222 == 15 && (t223 == 10 && (t224 == 255 && (t225 == (-1) && (t226)))))) = false := by simpa using c14))
    (try (have c14b2 : (t221 == 10 && (t222 == 15 && (t223 == 10 && (t224 == 255 && (t225 == (-1) && (t226)))))) = false := by simpa using c14))
    (try (have c14b3 : ¬ (t221 = 10 && (t222 == 15 && (t223 == 10 && (t224 == 255 && (t225 == (-1) && (t226)))))) := by simpa using c14))
    clear c14
    exact absurd ((Option.some.inj H).trans HT.out) (by decide)

end Go.Proofs.YtafpkpalkaphkaaDoor.P
