/- The law CapSealed holds of the given program for every input: the row, out of the pure statement and the contracts. No condition. -/
import Derived.Test.YtafpkpalkaphkaaDoorRows
import Derived.Test.YtafpkpalkaphkaaDoorKCapSealedPureCapSealed
import Derived.WalkKit
import Derived.ProofKit
import Derived.OpenShut
import Derived.ShutString
import Derived.ChangeOld
import Derived.Below
import Derived.SizedLaws
import Derived.Carry
import Derived.Test.YtafpkpalkaphkaaDoorTie
import Derived.Test.YtafpkpalkaphkaaDoorCards
import Derived.LaidMore
import Derived.Lay
import Derived.SevenTiedAt
import Derived.Stop.Joined
import Derived.Lib.LaidTab
import Derived.Lib.AppendIntMem
namespace Go.Proofs.YtafpkpalkaphkaaDoor.capSealed
open Go.ChangeShapes Go.WideShapes Go.ChangeAt Go.RowKit
open Go.ChangeMaps (open_string shut_string)
open Go.Proofs.YtafpkpalkaphkaaDoorW.PrintWords Go.Proofs.YtafpkpalkaphkaaDoorW.Open Go.Proofs.YtafpkpalkaphkaaDoor.P
set_option linter.unusedVariables false
theorem own : ownKnob Tryd.prog.godebug = none := by kernel_rfl
theorem laidOut : laidOutB Tryd.prog = true := by kernel_rfl
theorem tabOf {W : World} (h : laidMetH Tryd.prog Rows.capSealedRow.laid W) : Lib.TabIs Tryd.prog W "internal/strconv.uint64pow10" .u64 Lib.pow10Tab := by
  rw [MakeChecks.laidMetH_plain _ _ _ (by kernel_rfl)] at h
  obtain ⟨ps, h, _⟩ := h
  obtain ⟨_, _, _, _, _, _, _, _, _, _, h, _⟩ := h
  obtain ⟨_, _, _, _, _, _, _, _, _, _, h, _⟩ := h
  obtain ⟨g, t, cs, fuel, p, q, hg, ht, hvar, hd, _, _⟩ := h
  obtain rfl := Option.some.inj ((show Tryd.prog.globalNamed "internal/strconv.uint64pow10" = some 0 by kernel_rfl).symm.trans hg)
  obtain rfl := Option.some.inj ((show (Tryd.prog.globals[0]?).map (·.type) = some 55 by kernel_rfl).symm.trans ht)
  have e := Lib.cells_of_tab Tryd.underlying55 Tryd.underlying22 (by kernel_rfl) (by kernel_rfl) (show DataW.trod (fun _ => ()) Tryd.prog W 0 (fun _ => true) false fuel 55 cs.toList = some (Lib.tabData .u64 Lib.pow10Tab, p) from hd)
  unfold Lib.TabIs
  rw [hvar, ← e]
set_option maxRecDepth 100000 in
theorem lifted (os : Os) (started : os.Started) (H : Type) (enc : TypeId × Value → H) :
    ReturnsInHanded {} Tryd.checked os 5 .any (fun w args => (Rows.capSealedSpec.pre enc Tryd.prog Tryd.f5 Rows.capSealedRow.domain false w args ∧ laidMetH Tryd.prog Rows.capSealedRow.laid w) ∧ sizedMet enc Tryd.prog Tryd.f5 (OpenSpec.ofChange Rows.capSealedSpec) false w args) (Rows.capSealedSpec.post enc Tryd.prog Tryd.f5 false true false false) := by
  refine returnsInHanded_of_change_and (C := Tryd.checked) (X := fun w _ => laidMetH Tryd.prog Rows.capSealedRow.laid w) (fun _ _ _ hh h => h.of_heap hh) own started (by kernel_rfl) Tryd.func5
    (ChangeSpec.witness_shaped (enc := enc) (C := Tryd.checked) (os := os) (X := fun w _ => laidMetH Tryd.prog Rows.capSealedRow.laid w) false (World.laidAll Tryd.prog os Rows.capSealedRow.laid) #[.agg #[.int .u64 0, .int .u64 0, .int .u64 0, .int .i64 0, .int .i64 0, .bool false], .agg #[.int .u64 0, .int .u64 0, .int .u64 0, .int .i64 0, .int .i64 0, .bool false], .int .u64 0, .int .i64 0] 8 (World.laidAll_os _ _ _)
      (World.shaped_of_ZipB (by kernel_rfl) (by kernel_rfl)) (by kernel_rfl) (by kernel_rfl) (by kernel_rfl)
      (by rw [MakeChecks.laidMetH_plain _ _ _ (by kernel_rfl)]; exact laidMet_laidAll _ (by kernel_rfl) (by kernel_rfl))) ?_
  intro W base args ds gs before hval0 hW hcnd hsz0 hL _
  have htab := tabOf hL
  clear hL
  have hsz : (DataW.weightsEach Tryd.prog (Tryd.f5.params.toList ++ Rows.capSealedSpec.plain.varTypes Tryd.prog) (ds ++ gs)).all (· ≤ reachBytes) = true := hsz0
  have hval : ∀ (j : Nat) t v, Tryd.f5.params[j]? = some t → args[j]? = some v → Value.okWide Tryd.prog W .any base t v := hval0
  have hW' := hW
  obtain ⟨p, q, hA0, hV, rfl, hfz, hnd⟩ := hW
  have hA : DataW.TrodAll enc Tryd.prog W 0 (fun _ => true) true Tryd.f5.params.toList args.toList ds p := hA0
  rw [Tryd.params5] at hA hval hsz
  obtain ⟨v0, vs0, d0, ds0, p0, q0, hargs, rfl, rfl, h0, r0⟩ := trodAll_cons hA
  obtain ⟨v1, vs1, d1, ds1, p1, q1, rfl, rfl, rfl, h1, r1⟩ := trodAll_cons r0
  obtain ⟨v2, vs2, d2, ds2, p2, q2, rfl, rfl, rfl, h2, r2⟩ := trodAll_cons r1
  obtain ⟨v3, vs3, d3, ds3, p3, q3, rfl, rfl, rfl, h3, r3⟩ := trodAll_cons r2
  obtain ⟨rfl, rfl, rfl⟩ := trodAll_nil r3
  obtain rfl : args = #[v0, v1, v2, v3] := by cases args; simp_all
  obtain ⟨rfl, rfl⟩ := trodVars_none hV
  have lt0 : ∀ x ∈ p0, x.block < W.heap.size := by obtain ⟨m, hm⟩ := h0; exact DataW.trod_lt m _ _ _ hm
  obtain ⟨y0, hk0, ok0⟩ := (opens24).arg (t := 24) hsz (j := 0) rfl rfl h0
  obtain ⟨cs0, rfl, _⟩ := okWide_struct Tryd.underlying24 (hval 0 24 v0 rfl rfl)
  obtain he0 := k24_open hk0
  obtain rfl : cs0 = #[.int .u64 y0.f0, .int .u64 y0.f1, .int .u64 y0.f2, .int .i64 y0.f3, .int .i64 y0.f4, .bool y0.f5] := Array.toList_inj.1 he0
  have lt1 : ∀ x ∈ p1, x.block < W.heap.size := by obtain ⟨m, hm⟩ := h1; exact DataW.trod_lt m _ _ _ hm
  obtain ⟨y1, hk1, ok1⟩ := (opens24).arg (t := 24) hsz (j := 1) rfl rfl h1
  obtain ⟨cs1, rfl, _⟩ := okWide_struct Tryd.underlying24 (hval 1 24 v1 rfl rfl)
  obtain he1 := k24_open hk1
  obtain rfl : cs1 = #[.int .u64 y1.f0, .int .u64 y1.f1, .int .u64 y1.f2, .int .i64 y1.f3, .int .i64 y1.f4, .bool y1.f5] := Array.toList_inj.1 he1
  obtain ⟨y2, rfl, rfl, rfl, ok2⟩ := open_int Tryd.underlying22 (hval 2 22 v2 rfl rfl) h2
  obtain ⟨y3, rfl, rfl, rfl, ok3⟩ := open_int Tryd.underlying3 (hval 3 3 v3 rfl rfl) h3
  clear hA0 hval0 hsz0 hsz
  obtain ⟨k, hP⟩ := Pure.CapSealed y0 y1 y2 y3 ok0 ok1 ok2 ok3
  refine (curtilagelaw02_CapSealed.calls k y0.f0 y0.f1 y0.f2 y0.f3 y0.f4 y0.f5 y1.f0 y1.f1 y1.f2 y1.f3 y1.f4 y1.f5 y2 y3 true W hP htab rfl).mono ?_
  rintro e W' ⟨he, bel0⟩
  have bel := bel0
  subst he
  exact ⟨_, rfl, _, _, _, [], _, [], hW', trodAll_mk1 (shut_bool Tryd.underlying4 _), (trodAll_cons_mk (Below.trod laidOut (by kernel_rfl) (of_decide_eq_true (by kernel_rfl)) h0 bel lt0) (trodAll_cons_mk (Below.trod laidOut (by kernel_rfl) (of_decide_eq_true (by kernel_rfl)) h1 bel lt1) (trodAll_cons_mk (shut_int Tryd.underlying22 ok2) (trodAll_cons_mk (shut_int Tryd.underlying3 ok3) trodAll_mk0)))), rfl, bel.frame _, fun h => by cases h⟩
theorem over : Rows.capSealedRow.holds Tryd.pinned (OpenSpec.ofChange Rows.capSealedSpec) :=
  OpenClaim.holds_of_wide 5 Tryd.f5 rfl rfl rfl rfl rfl rfl rfl ⟨rfl, rfl, rfl, rfl, rfl⟩ rfl rfl rfl rfl rfl (by kernel_rfl) Tryd.func5 (by kernel_rfl)
    (of_decide_eq_true (by kernel_rfl)) (by unfold Func.isWrapper; first | (rw [if_pos (by decide +kernel)]; kernel_rfl) | (rw [if_neg (by decide +kernel)]; exact ⟨rfl, rfl⟩))
    (fun os started H enc _ => lifted os started H enc)
theorem proved : Rows.CapSealedSaid := over
theorem card : Rows.CapSealedCardSaid :=
  Claim7.holds_tied_plain_at .later [] [.data, .data, .data] true (true, "c4880d9b0cc92c62ae9d8954902971f19306cd5ad3a9aa973a00cc8082746241") false
    proved (fun _ h => by cases h) (by kernel_rfl) (fun _ h => by cases h) capSealed_row_tie rfl ⟨rfl, rfl⟩ (by kernel_rfl) rfl
    (fun f fn hf hfn => by
      obtain rfl : f = 5 := Option.some.inj ((show Tryd.prog.funcNamed "curtilage/curtilagelaw02.CapSealed" = some 5 by kernel_rfl).symm.trans hf) |>.symm
      obtain rfl : fn = Tryd.f5 := (Option.some.inj (Tryd.func5.symm.trans hfn)).symm
      exact ⟨by kernel_rfl, fun j t ht => by
        rw [Tryd.params5] at ht
        have hw : ∀ t ∈ [24, 22, 3], Tryd.prog.wantsStandIn t = false := by
          intro t h
          simp only [List.mem_cons, List.not_mem_nil, or_false] at h
          rcases h with rfl | rfl | rfl <;> kernel_rfl
        refine hw t ?_
        have hm : t ∈ (#[24, 24, 22, 3] : Array TypeId) := Array.mem_of_getElem? ht
        simpa using hm⟩)
    (by kernel_rfl)
#print axioms card
end Go.Proofs.YtafpkpalkaphkaaDoor.capSealed
namespace Go.Proofs.YtafpkpalkaphkaaDoor
/-- The card, under a short name, for the claim. -/
theorem capSealed_holds : Rows.CapSealedCardSaid := capSealed.card
end Go.Proofs.YtafpkpalkaphkaaDoor
