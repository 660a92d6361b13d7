/- The law TagmemEither holds of the given program for every input: the row, out of the pure statement and the contracts. No condition. -/
import Derived.Test.YtkppgepljjgjhaaRows
import Derived.Test.YtkppgepljjgjhaaKTagmemEitherPureTagmemEither
import Derived.WalkKit
import Derived.ProofKit
import Derived.OpenShut
import Derived.ShutString
import Derived.ChangeOld
import Derived.Below
import Derived.SizedLaws
import Derived.Carry
namespace Go.Proofs.Ytkppgepljjgjhaa.tagmemEither
open Go.ChangeShapes Go.WideShapes Go.ChangeAt Go.RowKit
open Go.ChangeMaps (open_string shut_string)
open Go.Proofs.YtkppgepljjgjhaaW.PrintWords Go.Proofs.YtkppgepljjgjhaaW.Open Go.Proofs.Ytkppgepljjgjhaa.P
set_option linter.unusedVariables false
theorem own : ownKnob Try.prog.godebug = none := by kernel_rfl
theorem laidOut : laidOutB Try.prog = true := by kernel_rfl
set_option maxRecDepth 100000 in
theorem lifted (os : Os) (started : os.Started) (H : Type) (enc : TypeId × Value → H) :
    ReturnsInHanded {} Try.checked os 9 .any (Rows.tagmemEitherSpec.pre6 enc Try.prog Try.f9 Rows.tagmemEitherRow.domain false) (Rows.tagmemEitherSpec.post enc Try.prog Try.f9 false true false false) := by
  refine returnsInHanded_of_change_sized (C := Try.checked) own started (by kernel_rfl) Try.func9
    (ChangeSpec.witness6 (enc := enc) (C := Try.checked) false ⟨#[], #[.int .i64 0, .slice none 0 0, .int .u64 0, .int .u64 0, .int .u64 0, .int .u64 0], []⟩ 8 (by kernel_rfl) (by kernel_rfl) (by kernel_rfl) (by kernel_rfl)) ?_
  intro W base args ds gs before hval0 hW hcnd hsz0 _
  have hsz : (DataW.weightsEach Try.prog (Try.f9.params.toList ++ Rows.tagmemEitherSpec.plain.varTypes Try.prog) (ds ++ gs)).all (· ≤ reachBytes) = true := hsz0
  have hval : ∀ (j : Nat) t v, Try.f9.params[j]? = some t → args[j]? = some v → Value.okWide Try.prog W .any base t v := hval0
  have hW' := hW
  obtain ⟨p, q, hA0, hV, rfl, hfz, hnd⟩ := hW
  have hA : DataW.TrodAll enc Try.prog W 0 (fun _ => true) true Try.f9.params.toList args.toList ds p := hA0
  rw [Try.params9] at hA hval hsz
  obtain ⟨v0, vs0, d0, ds0, p0, q0, hargs, rfl, rfl, h0, r0⟩ := trodAll_cons hA
  obtain ⟨v1, vs1, d1, ds1, p1, q1, rfl, rfl, rfl, h1, r1⟩ := trodAll_cons r0
  obtain ⟨v2, vs2, d2, ds2, p2, q2, rfl, rfl, rfl, h2, r2⟩ := trodAll_cons r1
  obtain ⟨v3, vs3, d3, ds3, p3, q3, rfl, rfl, rfl, h3, r3⟩ := trodAll_cons r2
  obtain ⟨v4, vs4, d4, ds4, p4, q4, rfl, rfl, rfl, h4, r4⟩ := trodAll_cons r3
  obtain ⟨v5, vs5, d5, ds5, p5, q5, rfl, rfl, rfl, h5, r5⟩ := trodAll_cons r4
  obtain ⟨rfl, rfl, rfl⟩ := trodAll_nil r5
  obtain rfl : args = #[v0, v1, v2, v3, v4, v5] := by cases args; simp_all
  obtain ⟨rfl, rfl⟩ := trodVars_none hV
  obtain ⟨y0, rfl, rfl, rfl, ok0⟩ := open_int Try.underlying3 (hval 0 3 v0 rfl rfl) h0
  have lt1 : ∀ x ∈ p1, x.block < W.heap.size := by obtain ⟨m, hm⟩ := h1; exact DataW.trod_lt m _ _ _ hm
  obtain ⟨y1, hk1, ok1⟩ := (Opens.slice 104 Try.underlying22 (by kernel_rfl) (by kernel_rfl) opens53).arg (t := 22) hsz (j := 1) rfl rfl h1
  obtain ⟨a1, len1, cap1, rfl⟩ := okWide_slice Try.underlying22 (hval 1 22 v1 rfl rfl)
  obtain ⟨A1, c1, he1, hc1, hr1⟩ := hk1
  obtain ⟨rfl, rfl, rfl⟩ : a1 = A1 ∧ len1 = y1.length ∧ cap1 = c1 := by simpa [Value.cells] using he1
  obtain ⟨y2, rfl, rfl, rfl, ok2⟩ := open_int Try.underlying39 (hval 2 39 v2 rfl rfl) h2
  obtain ⟨y3, rfl, rfl, rfl, ok3⟩ := open_int Try.underlying39 (hval 3 39 v3 rfl rfl) h3
  obtain ⟨y4, rfl, rfl, rfl, ok4⟩ := open_int Try.underlying39 (hval 4 39 v4 rfl rfl) h4
  obtain ⟨y5, rfl, rfl, rfl, ok5⟩ := open_int Try.underlying39 (hval 5 39 v5 rfl rfl) h5
  clear hA0 hval0 hsz0 hsz
  obtain ⟨hx, hy2, hy3, hP⟩ := Pure.TagmemEither y0 y1 y2 y3 y4 y5 ok0 ok1 ok2 ok3 ok4 ok5
  refine (curtilagelaw03_TagmemEither.calls y0 _ _ y1 y2 y3 y4 y5 W hr1 hx hy2.1 hy2.2 hy3.1 hy3.2 hP).mono ?_
  rintro e W' ⟨he, bel0⟩
  have bel := bel0
  subst he
  exact ⟨_, rfl, _, _, _, [], _, [], hW', trodAll_mk1 (shut_bool Try.underlying4 _), (trodAll_cons_mk (shut_int Try.underlying3 ok0) (trodAll_cons_mk (Below.trod laidOut (by kernel_rfl) (of_decide_eq_true (by kernel_rfl)) h1 bel lt1) (trodAll_cons_mk (shut_int Try.underlying39 ok2) (trodAll_cons_mk (shut_int Try.underlying39 ok3) (trodAll_cons_mk (shut_int Try.underlying39 ok4) (trodAll_cons_mk (shut_int Try.underlying39 ok5) trodAll_mk0)))))), rfl, bel.frame _, fun h => by cases h⟩
theorem over : Rows.tagmemEitherRow.holds Try.pinned (OpenSpec.ofChange Rows.tagmemEitherSpec) :=
  OpenClaim.holds_of_wide 9 Try.f9 rfl rfl rfl rfl rfl rfl rfl ⟨rfl, rfl, rfl, rfl, rfl⟩ rfl rfl rfl rfl rfl (by kernel_rfl) Try.func9 (by kernel_rfl)
    (of_decide_eq_true (by kernel_rfl)) (by unfold Func.isWrapper; first | (rw [if_pos (by decide +kernel)]; kernel_rfl) | (rw [if_neg (by decide +kernel)]; exact ⟨rfl, rfl⟩))
    (fun os started H enc _ => lifted os started H enc)
theorem proved : Rows.TagmemEitherSaid := over
#print axioms proved
end Go.Proofs.Ytkppgepljjgjhaa.tagmemEither
namespace Go.Proofs.Ytkppgepljjgjhaa
/-- The row, under a short name, for the claim. -/
theorem tagmemEither_holds : Rows.TagmemEitherSaid := tagmemEither.proved
end Go.Proofs.Ytkppgepljjgjhaa
