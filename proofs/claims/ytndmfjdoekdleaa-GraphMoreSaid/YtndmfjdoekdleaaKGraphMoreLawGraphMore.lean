/- The law GraphMore holds of the given program for every input: the row, out of the pure statement and the contracts. No condition. -/
import Derived.Test.YtndmfjdoekdleaaRows
import Derived.Test.YtndmfjdoekdleaaKGraphMorePureGraphMore
import Derived.WalkKit
import Derived.ProofKit
import Derived.OpenShut
import Derived.ShutString
import Derived.ChangeOld
import Derived.Below
import Derived.SizedLaws
import Derived.Carry
namespace Go.Proofs.Ytndmfjdoekdleaa.graphMore
open Go.ChangeShapes Go.WideShapes Go.ChangeAt Go.RowKit
open Go.ChangeMaps (open_string shut_string)
open Go.Proofs.YtndmfjdoekdleaaW.PrintWords Go.Proofs.YtndmfjdoekdleaaW.Open Go.Proofs.Ytndmfjdoekdleaa.P
set_option linter.unusedVariables false
theorem own : ownKnob Try.prog.godebug = none := by kernel_rfl
theorem laidOut : laidOutB Try.prog = true := by kernel_rfl
set_option maxRecDepth 100000 in
theorem lifted (os : Os) (started : os.Started) (H : Type) (enc : TypeId × Value → H) :
    ReturnsInHanded {} Try.checked os 3 .any (Rows.graphMoreSpec.pre6 enc Try.prog Try.f3 Rows.graphMoreRow.domain false) (Rows.graphMoreSpec.post enc Try.prog Try.f3 false true false false) := by
  refine returnsInHanded_of_change_sized (C := Try.checked) own started (by kernel_rfl) Try.func3
    (ChangeSpec.witness6 (enc := enc) (C := Try.checked) false ⟨#[], #[.slice none 0 0, .string ByteArray.empty, .agg #[.string ByteArray.empty, .slice none 0 0, .slice none 0 0, .slice none 0 0, .slice none 0 0, .slice none 0 0, .slice none 0 0]], []⟩ 8 (by kernel_rfl) (by kernel_rfl) (by kernel_rfl) (by kernel_rfl)) ?_
  intro W base args ds gs before hval0 hW hcnd hsz0 _
  have hsz : (DataW.weightsEach Try.prog (Try.f3.params.toList ++ Rows.graphMoreSpec.plain.varTypes Try.prog) (ds ++ gs)).all (· ≤ reachBytes) = true := hsz0
  have hval : ∀ (j : Nat) t v, Try.f3.params[j]? = some t → args[j]? = some v → Value.okWide Try.prog W .any base t v := hval0
  have hW' := hW
  obtain ⟨p, q, hA0, hV, rfl, hfz, hnd⟩ := hW
  have hA : DataW.TrodAll enc Try.prog W 0 (fun _ => true) true Try.f3.params.toList args.toList ds p := hA0
  rw [Try.params3] at hA hval hsz
  obtain ⟨v0, vs0, d0, ds0, p0, q0, hargs, rfl, rfl, h0, r0⟩ := trodAll_cons hA
  obtain ⟨v1, vs1, d1, ds1, p1, q1, rfl, rfl, rfl, h1, r1⟩ := trodAll_cons r0
  obtain ⟨v2, vs2, d2, ds2, p2, q2, rfl, rfl, rfl, h2, r2⟩ := trodAll_cons r1
  obtain ⟨rfl, rfl, rfl⟩ := trodAll_nil r2
  obtain rfl : args = #[v0, v1, v2] := by cases args; simp_all
  obtain ⟨rfl, rfl⟩ := trodVars_none hV
  have lt0 : ∀ x ∈ p0, x.block < W.heap.size := by obtain ⟨m, hm⟩ := h0; exact DataW.trod_lt m _ _ _ hm
  obtain ⟨y0, hk0, ok0⟩ := (Opens.slice 160 Try.underlying22 (by kernel_rfl) (by kernel_rfl) opens29).arg (t := 22) hsz (j := 0) rfl rfl h0
  obtain ⟨a0, len0, cap0, rfl⟩ := okWide_slice Try.underlying22 (hval 0 22 v0 rfl rfl)
  obtain ⟨A0, c0, he0, hc0, hr0⟩ := hk0
  obtain ⟨rfl, rfl, rfl⟩ : a0 = A0 ∧ len0 = y0.length ∧ cap0 = c0 := by simpa [Value.cells] using he0
  obtain ⟨y1, rfl, rfl, rfl, z1⟩ := open_string Try.underlying9 (hval 1 9 v1 rfl rfl) h1
  have ok1 : y1.size ≤ 140737488351232 := by
    have z := sized_string hsz (j := 1) (t := 9) rfl rfl
    rw [Array.length_toList] at z
    exact z
  have lt2 : ∀ x ∈ p2, x.block < W.heap.size := by obtain ⟨m, hm⟩ := h2; exact DataW.trod_lt m _ _ _ hm
  obtain ⟨y2, hk2, ok2⟩ := (opens29).arg (t := 29) hsz (j := 2) rfl rfl h2
  obtain ⟨cs2, rfl, _⟩ := okWide_struct Try.underlying29 (hval 2 29 v2 rfl rfl)
  obtain ⟨A2_1, c2_1, A2_2, c2_2, A2_3, c2_3, A2_4, c2_4, A2_5, c2_5, A2_6, c2_6, he2, hc2_1, hr2_1, hc2_2, hr2_2, hc2_3, hr2_3, hc2_4, hr2_4, hc2_5, hr2_5, hc2_6, hr2_6⟩ := k29_open hk2
  obtain rfl : cs2 = #[.string y2.f0, .slice A2_1 y2.f1.length c2_1, .slice A2_2 y2.f2.length c2_2, .slice A2_3 y2.f3.length c2_3, .slice A2_4 y2.f4.length c2_4, .slice A2_5 y2.f5.length c2_5, .slice A2_6 y2.f6.length c2_6] := Array.toList_inj.1 he2
  clear hA0 hval0 hsz0 hsz
  obtain ⟨k, hP⟩ := Pure.GraphMore y0 y1 y2 ok0 ok1 ok2
  refine (curtilagelaw13_GraphMore.calls k _ _ y0 y1 y2.f0 _ _ y2.f1 _ _ y2.f2 _ _ y2.f3 _ _ y2.f4 _ _ y2.f5 _ _ y2.f6 true W hr0 hc0 hr2_1 hc2_1 hr2_2 hc2_2 hr2_3 hc2_3 hr2_4 hc2_4 hr2_5 hc2_5 hr2_6 hc2_6 hP rfl).mono ?_
  rintro e W' ⟨he, bel0⟩
  have bel := bel0
  subst he
  exact ⟨_, rfl, _, _, _, [], _, [], hW', trodAll_mk1 (shut_bool Try.underlying4 _), (trodAll_cons_mk (Below.trod laidOut (by kernel_rfl) (of_decide_eq_true (by kernel_rfl)) h0 bel lt0) (trodAll_cons_mk (shut_string Try.underlying9 z1) (trodAll_cons_mk (Below.trod laidOut (by kernel_rfl) (of_decide_eq_true (by kernel_rfl)) h2 bel lt2) trodAll_mk0))), rfl, bel.frame _, fun h => by cases h⟩
theorem over : Rows.graphMoreRow.holds Try.pinned (OpenSpec.ofChange Rows.graphMoreSpec) :=
  OpenClaim.holds_of_wide 3 Try.f3 rfl rfl rfl rfl rfl rfl rfl ⟨rfl, rfl, rfl, rfl, rfl⟩ rfl rfl rfl rfl rfl (by kernel_rfl) Try.func3 (by kernel_rfl)
    (of_decide_eq_true (by kernel_rfl)) (by unfold Func.isWrapper; first | (rw [if_pos (by decide +kernel)]; kernel_rfl) | (rw [if_neg (by decide +kernel)]; exact ⟨rfl, rfl⟩))
    (fun os started H enc _ => lifted os started H enc)
theorem proved : Rows.GraphMoreSaid := over
#print axioms proved
end Go.Proofs.Ytndmfjdoekdleaa.graphMore
namespace Go.Proofs.Ytndmfjdoekdleaa
/-- The row, under a short name, for the claim. -/
theorem graphMore_holds : Rows.GraphMoreSaid := graphMore.proved
end Go.Proofs.Ytndmfjdoekdleaa
