/- The law TableCaps holds of the given program for every input: the row, out of the pure statement and the contracts. No condition. -/
import Derived.Test.YtlbfeklpncoccaaRows
import Derived.Test.YtlbfeklpncoccaaKTableCapsPureTableCaps
import Derived.WalkKit
import Derived.ProofKit
import Derived.OpenShut
import Derived.ShutString
import Derived.ChangeOld
import Derived.Below
import Derived.SizedLaws
import Derived.Carry
namespace Go.Proofs.Ytlbfeklpncoccaa.tableCaps
open Go.ChangeShapes Go.WideShapes Go.ChangeAt Go.RowKit
open Go.ChangeMaps (open_string shut_string)
open Go.Proofs.YtlbfeklpncoccaaW.PrintWords Go.Proofs.YtlbfeklpncoccaaW.Open Go.Proofs.Ytlbfeklpncoccaa.P
set_option linter.unusedVariables false
theorem own : ownKnob Try.prog.godebug = none := by kernel_rfl
theorem laidOut : laidOutB Try.prog = true := by kernel_rfl
set_option maxRecDepth 100000 in
theorem lifted (os : Os) (started : os.Started) (H : Type) (enc : TypeId × Value → H) :
    ReturnsInHanded {} Try.checked os 3 .any (Rows.tableCapsSpec.pre6 enc Try.prog Try.f3 Rows.tableCapsRow.domain false) (Rows.tableCapsSpec.post enc Try.prog Try.f3 false true false false) := by
  refine returnsInHanded_of_change_sized (C := Try.checked) own started (by kernel_rfl) Try.func3
    (ChangeSpec.witness6 (enc := enc) (C := Try.checked) false ⟨#[], #[.agg #[.string ByteArray.empty, .slice none 0 0, .slice none 0 0, .slice none 0 0, .slice none 0 0, .slice none 0 0, .slice none 0 0], .int .u64 0, .int .i64 0, .int .i64 0], []⟩ 8 (by kernel_rfl) (by kernel_rfl) (by kernel_rfl) (by kernel_rfl)) ?_
  intro W base args ds gs before hval0 hW hcnd hsz0 _
  have hsz : (DataW.weightsEach Try.prog (Try.f3.params.toList ++ Rows.tableCapsSpec.plain.varTypes Try.prog) (ds ++ gs)).all (· ≤ reachBytes) = true := hsz0
  have hval : ∀ (j : Nat) t v, Try.f3.params[j]? = some t → args[j]? = some v → Value.okWide Try.prog W .any base t v := hval0
  have hW' := hW
  obtain ⟨p, q, hA0, hV, rfl, hfz, hnd⟩ := hW
  have hA : DataW.TrodAll enc Try.prog W 0 (fun _ => true) true Try.f3.params.toList args.toList ds p := hA0
  rw [Try.params3] at hA hval hsz
  obtain ⟨v0, vs0, d0, ds0, p0, q0, hargs, rfl, rfl, h0, r0⟩ := trodAll_cons hA
  obtain ⟨v1, vs1, d1, ds1, p1, q1, rfl, rfl, rfl, h1, r1⟩ := trodAll_cons r0
  obtain ⟨v2, vs2, d2, ds2, p2, q2, rfl, rfl, rfl, h2, r2⟩ := trodAll_cons r1
  obtain ⟨v3, vs3, d3, ds3, p3, q3, rfl, rfl, rfl, h3, r3⟩ := trodAll_cons r2
  obtain ⟨rfl, rfl, rfl⟩ := trodAll_nil r3
  obtain rfl : args = #[v0, v1, v2, v3] := by cases args; simp_all
  obtain ⟨rfl, rfl⟩ := trodVars_none hV
  have lt0 : ∀ x ∈ p0, x.block < W.heap.size := by obtain ⟨m, hm⟩ := h0; exact DataW.trod_lt m _ _ _ hm
  obtain ⟨y0, hk0, ok0⟩ := (opens28).arg (t := 28) hsz (j := 0) rfl rfl h0
  obtain ⟨cs0, rfl, _⟩ := okWide_struct Try.underlying28 (hval 0 28 v0 rfl rfl)
  obtain ⟨A0_1, c0_1, A0_2, c0_2, A0_3, c0_3, A0_4, c0_4, A0_5, c0_5, A0_6, c0_6, he0, hc0_1, hr0_1, hc0_2, hr0_2, hc0_3, hr0_3, hc0_4, hr0_4, hc0_5, hr0_5, hc0_6, hr0_6⟩ := k28_open hk0
  obtain rfl : cs0 = #[.string y0.f0, .slice A0_1 y0.f1.length c0_1, .slice A0_2 y0.f2.length c0_2, .slice A0_3 y0.f3.length c0_3, .slice A0_4 y0.f4.length c0_4, .slice A0_5 y0.f5.length c0_5, .slice A0_6 y0.f6.length c0_6] := Array.toList_inj.1 he0
  obtain ⟨y1, rfl, rfl, rfl, ok1⟩ := open_int Try.underlying29 (hval 1 29 v1 rfl rfl) h1
  obtain ⟨y2, rfl, rfl, rfl, ok2⟩ := open_int Try.underlying3 (hval 2 3 v2 rfl rfl) h2
  obtain ⟨y3, rfl, rfl, rfl, ok3⟩ := open_int Try.underlying3 (hval 3 3 v3 rfl rfl) h3
  clear hA0 hval0 hsz0 hsz
  obtain ⟨k, hP⟩ := Pure.TableCaps y0 y1 y2 y3 ok0 ok1 ok2 ok3
  refine (curtilagelaw18_TableCaps.calls k y0.f0 _ _ y0.f1 _ _ y0.f2 _ _ y0.f3 _ _ y0.f4 _ _ y0.f5 _ _ y0.f6 y1 y2 y3 true W hr0_1 hc0_1 hr0_2 hc0_2 hr0_3 hc0_3 hr0_4 hc0_4 hr0_5 hc0_5 hr0_6 hc0_6 hP rfl).mono ?_
  rintro e W' ⟨he, bel0⟩
  have bel := bel0
  subst he
  exact ⟨_, rfl, _, _, _, [], _, [], hW', trodAll_mk1 (shut_bool Try.underlying4 _), (trodAll_cons_mk (Below.trod laidOut (by kernel_rfl) (of_decide_eq_true (by kernel_rfl)) h0 bel lt0) (trodAll_cons_mk (shut_int Try.underlying29 ok1) (trodAll_cons_mk (shut_int Try.underlying3 ok2) (trodAll_cons_mk (shut_int Try.underlying3 ok3) trodAll_mk0)))), rfl, bel.frame _, fun h => by cases h⟩
theorem over : Rows.tableCapsRow.holds Try.pinned (OpenSpec.ofChange Rows.tableCapsSpec) :=
  OpenClaim.holds_of_wide 3 Try.f3 rfl rfl rfl rfl rfl rfl rfl ⟨rfl, rfl, rfl, rfl, rfl⟩ rfl rfl rfl rfl rfl (by kernel_rfl) Try.func3 (by kernel_rfl)
    (of_decide_eq_true (by kernel_rfl)) (by unfold Func.isWrapper; first | (rw [if_pos (by decide +kernel)]; kernel_rfl) | (rw [if_neg (by decide +kernel)]; exact ⟨rfl, rfl⟩))
    (fun os started H enc _ => lifted os started H enc)
theorem proved : Rows.TableCapsSaid := over
#print axioms proved
end Go.Proofs.Ytlbfeklpncoccaa.tableCaps
namespace Go.Proofs.Ytlbfeklpncoccaa
/-- The row, under a short name, for the claim. -/
theorem tableCaps_holds : Rows.TableCapsSaid := tableCaps.proved
end Go.Proofs.Ytlbfeklpncoccaa
