/- What functions of the program, and of its laws, give, each proved of its code by a walk; no condition. -/
import Derived.Test.YtlbfeklpncoccaaKTableLessPx0
import Derived.Test.YtlbfeklpncoccaaKTableLessPx8
import Derived.Test.YtlbfeklpncoccaaKTableLessPx11
import Derived.Test.YtlbfeklpncoccaaKTableLessSq
import Derived.Test.YtlbfeklpncoccaaKTableLessUsh
import Derived.Test.YtlbfeklpncoccaaKTableLessUs4
namespace Go.Proofs.Ytlbfeklpncoccaa.P
open Go.RowKit Go.Proofs.YtlbfeklpncoccaaW.PrintWords Go.Proofs.YtlbfeklpncoccaaW.PrintLast Go.Proofs.YtlbfeklpncoccaaW.PrintMore
attribute [local go_sem] max2_int min2_int max_two min_two max_three min_three max_four min_four   -- for this text's walks alone
set_option linter.unusedVariables false
set_option linter.unusedSimpArgs false

mutual
def curtilageref10_symbol.j0 : Nat → Bool → Bool → ByteArray → List ByteArray → List (S67) → List (S35) → List (S72) → List Int → List Int → ByteArray → ByteArray → Int → Int → Int → Int → Int → Bool → Option (Bool)
  | 0, _, _, _, _, _, _, _, _, _, _, _, _, _, _, _, _, _ => none
  | k + 1, x5, x6, x413000, x413001, x413002, x413003, x413004, x413005, x413006, x414000, x414001, x414002, x414003, x414004, x414005, x414006, x414007 => if x5 = true then (curtilageref10_symbol.j1 k (!x6) x413000 x413001 x413002 x413003 x413004 x413005 x413006 x414000 x414001 x414002 x414003 x414004 x414005 x414006 x414007) else (curtilageref10_symbol.j1 k true x413000 x413001 x413002 x413003 x413004 x413005 x413006 x414000 x414001 x414002 x414003 x414004 x414005 x414006 x414007)
def curtilageref10_symbol.j1 : Nat → Bool → ByteArray → List ByteArray → List (S67) → List (S35) → List (S72) → List Int → List Int → ByteArray → ByteArray → Int → Int → Int → Int → Int → Bool → Option (Bool)
  | 0, _, _, _, _, _, _, _, _, _, _, _, _, _, _, _, _ => none
  | k + 1, x25, x413000, x413001, x413002, x413003, x413004, x413005, x413006, x414000, x414001, x414002, x414003, x414004, x414005, x414006, x414007 => if x25 = true then (some false) else (if x414004 = 1 then (if x414005 = 1 then (if x414006 = 1 then (curtilageref10_symbol.j2 k false x413000 x413001 x413002 x413003 x413004 x413005 x413006 x414000 x414001 x414002 x414003 x414004 x414005 x414006 x414007) else (curtilageref10_symbol.j2 k (x414006 != 2) x413000 x413001 x413002 x413003 x413004 x413005 x413006 x414000 x414001 x414002 x414003 x414004 x414005 x414006 x414007)) else (if x414005 = 2 then (if x414006 = 1 then (curtilageref10_symbol.j2 k false x413000 x413001 x413002 x413003 x413004 x413005 x413006 x414000 x414001 x414002 x414003 x414004 x414005 x414006 x414007) else (curtilageref10_symbol.j2 k (x414006 != 2) x413000 x413001 x413002 x413003 x413004 x413005 x413006 x414000 x414001 x414002 x414003 x414004 x414005 x414006 x414007)) else (if x414005 = 3 then (if x414006 = 1 then (curtilageref10_symbol.j2 k false x413000 x413001 x413002 x413003 x413004 x413005 x413006 x414000 x414001 x414002 x414003 x414004 x414005 x414006 x414007) else (curtilageref10_symbol.j2 k (x414006 != 2) x413000 x413001 x413002 x413003 x413004 x413005 x413006 x414000 x414001 x414002 x414003 x414004 x414005 x414006 x414007)) else (curtilageref10_symbol.j2 k true x413000 x413001 x413002 x413003 x413004 x413005 x413006 x414000 x414001 x414002 x414003 x414004 x414005 x414006 x414007)))) else (if x414004 = 2 then (if x414005 = 1 then (if x414006 = 1 then (curtilageref10_symbol.j2 k false x413000 x413001 x413002 x413003 x413004 x413005 x413006 x414000 x414001 x414002 x414003 x414004 x414005 x414006 x414007) else (curtilageref10_symbol.j2 k (x414006 != 2) x413000 x413001 x413002 x413003 x413004 x413005 x413006 x414000 x414001 x414002 x414003 x414004 x414005 x414006 x414007)) else (if x414005 = 2 then (if x414006 = 1 then (curtilageref10_symbol.j2 k false x413000 x413001 x413002 x413003 x413004 x413005 x413006 x414000 x414001 x414002 x414003 x414004 x414005 x414006 x414007) else (curtilageref10_symbol.j2 k (x414006 != 2) x413000 x413001 x413002 x413003 x413004 x413005 x413006 x414000 x414001 x414002 x414003 x414004 x414005 x414006 x414007)) else (if x414005 = 3 then (if x414006 = 1 then (curtilageref10_symbol.j2 k false x413000 x413001 x413002 x413003 x413004 x413005 x413006 x414000 x414001 x414002 x414003 x414004 x414005 x414006 x414007) else (curtilageref10_symbol.j2 k (x414006 != 2) x413000 x413001 x413002 x413003 x413004 x413005 x413006 x414000 x414001 x414002 x414003 x414004 x414005 x414006 x414007)) else (curtilageref10_symbol.j2 k true x413000 x413001 x413002 x413003 x413004 x413005 x413006 x414000 x414001 x414002 x414003 x414004 x414005 x414006 x414007)))) else (curtilageref10_symbol.j2 k true x413000 x413001 x413002 x413003 x413004 x413005 x413006 x414000 x414001 x414002 x414003 x414004 x414005 x414006 x414007)))
def curtilageref10_symbol.j2 : Nat → Bool → ByteArray → List ByteArray → List (S67) → List (S35) → List (S72) → List Int → List Int → ByteArray → ByteArray → Int → Int → Int → Int → Int → Bool → Option (Bool)
  | 0, _, _, _, _, _, _, _, _, _, _, _, _, _, _, _, _ => none
  | k + 1, x58, x413000, x413001, x413002, x413003, x413004, x413005, x413006, x414000, x414001, x414002, x414003, x414004, x414005, x414006, x414007 => if x58 = true then (some false) else (if x414007 = true then ((curtilageref10_At.f k x413000 x413001 x413002 x413003 x413004 x413005 x413006 x414002 x414003).bind fun t416 => (if t416 < 0 then (some false) else (if 0 ≤ t416 then (if t416 < (x413002.length : Int) then (if x414004 = 1 then (if ((rd_T67 x413002 t416).f2) ≥ 4 then (if (Int.tmod x414002 4) = 0 then (some (decide (x414003 > 0))) else (some false)) else (some false)) else (some (!(decide (((rd_T67 x413002 t416).f2) ≥ 4))))) else (none)) else (none)))) else (if x414002 = 0 then (if x414003 = 0 then (if x414005 = 1 then (some false) else (some (x414006 == 1))) else (some false)) else (some false)))
end
def curtilageref10_symbol.f (k : Nat) (a0_0 : ByteArray) (l0_1 : List ByteArray) (l0_2 : List (S67)) (l0_3 : List (S35)) (l0_4 : List (S72)) (l0_5 : List Int) (l0_6 : List Int) (a1_0 : ByteArray) (a1_1 : ByteArray) (a1_2 : Int) (a1_3 : Int) (a1_4 : Int) (a1_5 : Int) (a1_6 : Int) (a1_7 : Bool) : Option (Bool) := (curtilageref10_Name.f k a1_0).bind fun t414 => (if a1_1.toList = ([] : List UInt8) then (curtilageref10_symbol.j0 k t414 true a0_0 l0_1 l0_2 l0_3 l0_4 l0_5 l0_6 a1_0 a1_1 a1_2 a1_3 a1_4 a1_5 a1_6 a1_7) else ((curtilageref10_Name.f k a1_1).bind fun t415 => (curtilageref10_symbol.j0 k t414 t415 a0_0 l0_1 l0_2 l0_3 l0_4 l0_5 l0_6 a1_0 a1_1 a1_2 a1_3 a1_4 a1_5 a1_6 a1_7)))
theorem curtilageref10_symbol.mono_l : ∀ k, (∀ y0 y1 y2 y3 y4 y5 y6 y7 y8 y9 y10 y11 y12 y13 y14 y15 y16, LeO (curtilageref10_symbol.j0 k y0 y1 y2 y3 y4 y5 y6 y7 y8 y9 y10 y11 y12 y13 y14 y15 y16) (curtilageref10_symbol.j0 (k + 1) y0 y1 y2 y3 y4 y5 y6 y7 y8 y9 y10 y11 y12 y13 y14 y15 y16)) ∧ (∀ y0 y1 y2 y3 y4 y5 y6 y7 y8 y9 y10 y11 y12 y13 y14 y15, LeO (curtilageref10_symbol.j1 k y0 y1 y2 y3 y4 y5 y6 y7 y8 y9 y10 y11 y12 y13 y14 y15) (curtilageref10_symbol.j1 (k + 1) y0 y1 y2 y3 y4 y5 y6 y7 y8 y9 y10 y11 y12 y13 y14 y15)) ∧ (∀ y0 y1 y2 y3 y4 y5 y6 y7 y8 y9 y10 y11 y12 y13 y14 y15, LeO (curtilageref10_symbol.j2 k y0 y1 y2 y3 y4 y5 y6 y7 y8 y9 y10 y11 y12 y13 y14 y15) (curtilageref10_symbol.j2 (k + 1) y0 y1 y2 y3 y4 y5 y6 y7 y8 y9 y10 y11 y12 y13 y14 y15))
  | 0 => ⟨fun _ _ _ _ _ _ _ _ _ _ _ _ _ _ _ _ _ r h => by simp [curtilageref10_symbol.j0] at h, fun _ _ _ _ _ _ _ _ _ _ _ _ _ _ _ _ r h => by simp [curtilageref10_symbol.j1] at h, fun _ _ _ _ _ _ _ _ _ _ _ _ _ _ _ _ r h => by simp [curtilageref10_symbol.j2] at h⟩
  | k + 1 => by
    obtain ⟨ih0, ih1, ih2⟩ := curtilageref10_symbol.mono_l k
    refine ⟨?_, ?_, ?_⟩
    · intro y0 y1 y2 y3 y4 y5 y6 y7 y8 y9 y10 y11 y12 y13 y14 y15 y16
      unfold curtilageref10_symbol.j0
      repeat' first
      | (with_reducible exact ih0 _ _ _ _ _ _ _ _ _ _ _ _ _ _ _ _ _)
      | (with_reducible exact ih1 _ _ _ _ _ _ _ _ _ _ _ _ _ _ _ _)
      | (with_reducible exact ih2 _ _ _ _ _ _ _ _ _ _ _ _ _ _ _ _)
      | (with_reducible exact curtilageref10_At.mono _ _ _ _ _ _ _ _ _ _)
      | (with_reducible exact curtilageref10_Name.mono _ _)
      | (with_reducible exact LeO.refl _)
      | (with_reducible exact LeO.none _)
      | (with_reducible refine LeO.ite ?_ ?_)
      | (with_reducible refine LeO.bind ?_ (fun _ => ?_))
      | exact ih0 _ _ _ _ _ _ _ _ _ _ _ _ _ _ _ _ _
      | exact ih1 _ _ _ _ _ _ _ _ _ _ _ _ _ _ _ _
      | exact ih2 _ _ _ _ _ _ _ _ _ _ _ _ _ _ _ _
      | exact curtilageref10_At.mono _ _ _ _ _ _ _ _ _ _
      | exact curtilageref10_Name.mono _ _
      | exact LeO.none _
      | refine LeO.ite ?_ ?_
      | refine LeO.bind ?_ (fun _ => ?_)
    · intro y0 y1 y2 y3 y4 y5 y6 y7 y8 y9 y10 y11 y12 y13 y14 y15
      unfold curtilageref10_symbol.j1
      repeat' first
      | (with_reducible exact ih0 _ _ _ _ _ _ _ _ _ _ _ _ _ _ _ _ _)
      | (with_reducible exact ih1 _ _ _ _ _ _ _ _ _ _ _ _ _ _ _ _)
      | (with_reducible exact ih2 _ _ _ _ _ _ _ _ _ _ _ _ _ _ _ _)
      | (with_reducible exact curtilageref10_At.mono _ _ _ _ _ _ _ _ _ _)
      | (with_reducible exact curtilageref10_Name.mono _ _)
      | (with_reducible exact LeO.refl _)
      | (with_reducible exact LeO.none _)
      | (with_reducible refine LeO.ite ?_ ?_)
      | (with_reducible refine LeO.bind ?_ (fun _ => ?_))
      | exact ih0 _ _ _ _ _ _ _ _ _ _ _ _ _ _ _ _ _
      | exact ih1 _ _ _ _ _ _ _ _ _ _ _ _ _ _ _ _
      | exact ih2 _ _ _ _ _ _ _ _ _ _ _ _ _ _ _ _
      | exact curtilageref10_At.mono _ _ _ _ _ _ _ _ _ _
      | exact curtilageref10_Name.mono _ _
      | exact LeO.none _
      | refine LeO.ite ?_ ?_
      | refine LeO.bind ?_ (fun _ => ?_)
    · intro y0 y1 y2 y3 y4 y5 y6 y7 y8 y9 y10 y11 y12 y13 y14 y15
      unfold curtilageref10_symbol.j2
      repeat' first
      | (with_reducible exact ih0 _ _ _ _ _ _ _ _ _ _ _ _ _ _ _ _ _)
      | (with_reducible exact ih1 _ _ _ _ _ _ _ _ _ _ _ _ _ _ _ _)
      | (with_reducible exact ih2 _ _ _ _ _ _ _ _ _ _ _ _ _ _ _ _)
      | (with_reducible exact curtilageref10_At.mono _ _ _ _ _ _ _ _ _ _)
      | (with_reducible exact curtilageref10_Name.mono _ _)
      | (with_reducible exact LeO.refl _)
      | (with_reducible exact LeO.none _)
      | (with_reducible refine LeO.ite ?_ ?_)
      | (with_reducible refine LeO.bind ?_ (fun _ => ?_))
      | exact ih0 _ _ _ _ _ _ _ _ _ _ _ _ _ _ _ _ _
      | exact ih1 _ _ _ _ _ _ _ _ _ _ _ _ _ _ _ _
      | exact ih2 _ _ _ _ _ _ _ _ _ _ _ _ _ _ _ _
      | exact curtilageref10_At.mono _ _ _ _ _ _ _ _ _ _
      | exact curtilageref10_Name.mono _ _
      | exact LeO.none _
      | refine LeO.ite ?_ ?_
      | refine LeO.bind ?_ (fun _ => ?_)
theorem curtilageref10_symbol.mono : ∀ a0 a1 a2 a3 a4 a5 a6 a7 a8 a9 a10 a11 a12 a13 a14 k, LeO (curtilageref10_symbol.f k a0 a1 a2 a3 a4 a5 a6 a7 a8 a9 a10 a11 a12 a13 a14) (curtilageref10_symbol.f (k + 1) a0 a1 a2 a3 a4 a5 a6 a7 a8 a9 a10 a11 a12 a13 a14) := by
  intro a0 a1 a2 a3 a4 a5 a6 a7 a8 a9 a10 a11 a12 a13 a14 k
  obtain ⟨ih0, ih1, ih2⟩ := curtilageref10_symbol.mono_l k
  unfold curtilageref10_symbol.f
  repeat' first
      | (with_reducible exact ih0 _ _ _ _ _ _ _ _ _ _ _ _ _ _ _ _ _)
      | (with_reducible exact ih1 _ _ _ _ _ _ _ _ _ _ _ _ _ _ _ _)
      | (with_reducible exact ih2 _ _ _ _ _ _ _ _ _ _ _ _ _ _ _ _)
      | (with_reducible exact curtilageref10_At.mono _ _ _ _ _ _ _ _ _ _)
      | (with_reducible exact curtilageref10_Name.mono _ _)
      | (with_reducible exact LeO.refl _)
      | (with_reducible exact LeO.none _)
      | (with_reducible refine LeO.ite ?_ ?_)
      | (with_reducible refine LeO.bind ?_ (fun _ => ?_))
      | exact ih0 _ _ _ _ _ _ _ _ _ _ _ _ _ _ _ _ _
      | exact ih1 _ _ _ _ _ _ _ _ _ _ _ _ _ _ _ _
      | exact ih2 _ _ _ _ _ _ _ _ _ _ _ _ _ _ _ _
      | exact curtilageref10_At.mono _ _ _ _ _ _ _ _ _ _
      | exact curtilageref10_Name.mono _ _
      | exact LeO.none _
      | refine LeO.ite ?_ ?_
      | refine LeO.bind ?_ (fun _ => ?_)
set_option maxHeartbeats 8000000 in
set_option maxRecDepth 100000 in
theorem curtilageref10_symbol.calls (k : Nat) (a0_0 : ByteArray) (A0_1 : Option Addr) (c0_1 : Nat) (l0_1 : List ByteArray) (A0_2 : Option Addr) (c0_2 : Nat) (l0_2 : List (S67)) (A0_3 : Option Addr) (c0_3 : Nat) (l0_3 : List (S35)) (A0_4 : Option Addr) (c0_4 : Nat) (l0_4 : List (S72)) (A0_5 : Option Addr) (c0_5 : Nat) (l0_5 : List Int) (A0_6 : Option Addr) (c0_6 : Nat) (l0_6 : List Int) (a1_0 : ByteArray) (a1_1 : ByteArray) (a1_2 : Int) (a1_3 : Int) (a1_4 : Int) (a1_5 : Int) (a1_6 : Int) (a1_7 : Bool) (r : Bool) (w : World) (hr0_1 : Kd.C Kd.string w A0_1 l0_1.length l0_1) (hc0_1 : l0_1.length ≤ c0_1) (hr0_2 : Kd.C k67 w A0_2 l0_2.length l0_2) (hc0_2 : l0_2.length ≤ c0_2) (hr0_3 : Kd.C k35 w A0_3 l0_3.length l0_3) (hc0_3 : l0_3.length ≤ c0_3) (hr0_4 : Kd.C k72 w A0_4 l0_4.length l0_4) (hc0_4 : l0_4.length ≤ c0_4) (hr0_5 : Kd.C (Kd.int .i64) w A0_5 l0_5.length l0_5) (hc0_5 : l0_5.length ≤ c0_5) (hr0_6 : Kd.C (Kd.int .i64) w A0_6 l0_6.length l0_6) (hc0_6 : l0_6.length ≤ c0_6) (h : curtilageref10_symbol.f k a0_0 l0_1 l0_2 l0_3 l0_4 l0_5 l0_6 a1_0 a1_1 a1_2 a1_3 a1_4 a1_5 a1_6 a1_7 = some r) :
  Calls Try.prog 42 #[.agg #[.string a0_0, .slice A0_1 l0_1.length c0_1, .slice A0_2 l0_2.length c0_2, .slice A0_3 l0_3.length c0_3, .slice A0_4 l0_4.length c0_4, .slice A0_5 l0_5.length c0_5, .slice A0_6 l0_6.length c0_6], .agg #[.string a1_0, .string a1_1, .int .u64 a1_2, .int .u64 a1_3, .int .i64 a1_4, .int .i64 a1_5, .int .i64 a1_6, .bool a1_7]] w fun e w' => e = .returned (.bool r) ∧ Below w.heap.size w w' := by
 have hu28 := Try.underlying28
 have hu35 := Try.underlying35
 have HR0_1 := am hr0_1
 have HC0_1 := am hc0_1
 clear hr0_1 hc0_1
 have HR0_2 := am hr0_2
 have HC0_2 := am hc0_2
 clear hr0_2 hc0_2
 have HR0_3 := am hr0_3
 have HC0_3 := am hc0_3
 clear hr0_3 hc0_3
 have HR0_4 := am hr0_4
 have HC0_4 := am hc0_4
 clear hr0_4 hc0_4
 have HR0_5 := am hr0_5
 have HC0_5 := am hc0_5
 clear hr0_5 hc0_5
 have HR0_6 := am hr0_6
 have HC0_6 := am hc0_6
 clear hr0_6 hc0_6
 have HB := am (Below.refl w.heap.size w)
 have H : ((curtilageref10_Name.f k a1_0).bind fun t414 => (if a1_1.toList = ([] : List UInt8) then (curtilageref10_symbol.j0 k t414 true a0_0 l0_1 l0_2 l0_3 l0_4 l0_5 l0_6 a1_0 a1_1 a1_2 a1_3 a1_4 a1_5 a1_6 a1_7) else ((curtilageref10_Name.f k a1_1).bind fun t415 => (curtilageref10_symbol.j0 k t414 t415 a0_0 l0_1 l0_2 l0_3 l0_4 l0_5 l0_6 a1_0 a1_1 a1_2 a1_3 a1_4 a1_5 a1_6 a1_7)))) = some r := h
 clear h
 replace H := Option.bind_eq_some_iff.mp H
 obtain ⟨t414, A30, H⟩ := H
 replace H : (if a1_1.toList = ([] : List UInt8) then (curtilageref10_symbol.j0 k t414 true a0_0 l0_1 l0_2 l0_3 l0_4 l0_5 l0_6 a1_0 a1_1 a1_2 a1_3 a1_4 a1_5 a1_6 a1_7) else ((curtilageref10_Name.f k a1_1).bind fun t415 => (curtilageref10_symbol.j0 k t414 t415 a0_0 l0_1 l0_2 l0_3 l0_4 l0_5 l0_6 a1_0 a1_1 a1_2 a1_3 a1_4 a1_5 a1_6 a1_7))) = some r := H
 have A3 := am A30
 clear A30
 have HC4 := am H
 clear H
 go_enter Try.func42, Try.ntmps42
 go_upto_region 2 with (first | ((with_reducible refine gate_dst (N := 2) rfl ?_); refine box_event ?hg (N := 2) ?hd (cs := #[.string a0_0, .slice A0_1 l0_1.length c0_1, .slice A0_2 l0_2.length c0_2, .slice A0_3 l0_3.length c0_3, .slice A0_4 l0_4.length c0_4, .slice A0_5 l0_5.length c0_5, .slice A0_6 l0_6.length c0_6]) (t := 28) ?hr ?_; (case hd => rfl); (case hg => rfl); (case hr => first | (go_simp; done) | (go_simp; rfl)); intro gb412 hg w5 hbox hb; have n0_ := bs HB hb; have n1_ := am (hbox); have n2_ := nz HB hg; have n3_ := nz HB hg; revert n0_ n1_ n2_ n3_; clear HB; intro HB BK412 GW412 GE412; clear hb hbox hg) | ((with_reducible refine gate_dst (N := 3) rfl ?_); refine box_event ?hg (N := 3) ?hd (cs := #[.string a1_0, .string a1_1, .int .u64 a1_2, .int .u64 a1_3, .int .i64 a1_4, .int .i64 a1_5, .int .i64 a1_6, .bool a1_7]) (t := 35) ?hr ?_; (case hd => rfl); (case hg => rfl); (case hr => first | (go_simp; done) | (go_simp; rfl)); intro gb413 hg w6 hbox hb; have n0_ := bw BK412 hb; have n1_ := bs HB hb; have n2_ := am (hbox); have n3_ := nz HB hg; have n4_ := nz HB hg; have n5_ := nl BK412 hg; have n6_ := nr BK412 hg; revert n0_ n1_ n2_ n3_ n4_ n5_ n6_; clear BK412 HB; intro BK412 HB BK413 GW413 GE413 NB412_413 NB413_412; clear hb hbox hg; have hnb7 := NB413_412.out; have hnc7 := NB412_413.out; obtain ⟨hcz8_0, hcz8_1, hcz8_2, hcz8_3, hcz8_4, hcz8_5, hcz8_6, hcz8_7, hfz8_0, hfz8_1, hfz8_2, hfz8_3, hfz8_4, hfz8_5, hfz8_6, hfz8_7⟩ := cells8 BK413.out) | ((with_reducible refine gate_dst (N := 11) rfl ?_); (with_reducible refine gate_callee (f := 58) rfl ?_); refine gl (some 11) Try.func58 #[.string a1_0] ?_; (with_reducible refine (curtilageref10_Name.calls k a1_0 t414 _ A3.out).mono ?_); rintro e w' ⟨rfl, ⟨nd, rfl⟩⟩; refine ⟨_, rfl, ?_⟩))
 (try simp only [Act.put, List.setIfInBounds_toArray, List.set_cons_zero, List.set_cons_succ])
 go_cut [6] (fun v6 wc => ∃ (kq : Nat) (x6_3 : Bool), v6 = .bool x6_3 ∧ Aside0 (curtilageref10_symbol.j0 kq t414 x6_3 a0_0 l0_1 l0_2 l0_3 l0_4 l0_5 l0_6 a1_0 a1_1 a1_2 a1_3 a1_4 a1_5 a1_6 a1_7 = some r) ∧ Aside0 (kq ≤ k) ∧ Aside0 (wc.heap[gb412]? = some (.cells #[.string a0_0, (.slice A0_1 l0_1.length c0_1), (.slice A0_2 l0_2.length c0_2), (.slice A0_3 l0_3.length c0_3), (.slice A0_4 l0_4.length c0_4), (.slice A0_5 l0_5.length c0_5), (.slice A0_6 l0_6.length c0_6)] 28 (0, 0))) ∧ Aside0 (wc.heap[gb413]? = some (.cells #[.string a1_0, .string a1_1, .int .u64 a1_2, .int .u64 a1_3, .int .i64 a1_4, .int .i64 a1_5, .int .i64 a1_6, .bool a1_7] 35 (0, 0))) ∧ Aside0 (Below w.heap.size w wc))
 case first =>
  have H := HC4.out
  clear HC4
  by_cases c9 : a1_1.toList = ([] : List UInt8)
  ·rw [if_pos c9] at H
   have c9b0 := beq_iff_eq.mpr c9
   have c9b1 := bne_eq_false_iff_eq.mpr c9
   clear c9
   (first | rw [c9b0] | (simp only [i64_w, i32_w]; rw [c9b0]) | skip)
   have H' := am H
   clear H
   have hnb10 := NB413_412.out
   have hnc10 := NB412_413.out
   obtain ⟨hcz11_0, hcz11_1, hcz11_2, hcz11_3, hcz11_4, hcz11_5, hcz11_6, hcz11_7, hfz11_0, hfz11_1, hfz11_2, hfz11_3, hfz11_4, hfz11_5, hfz11_6, hfz11_7⟩ := cl8 BK413
   go_wp2
   go_meet
   case rel => exact ⟨_, (true), uf, H', ⟨by first | omega | exact Nat.le_refl _⟩, ⟨ub BK412.out⟩, ⟨ub BK413.out⟩, ⟨uc HB.out⟩⟩
  ·rw [if_neg c9] at H
   have c9b0 := beq_eq_false_iff_ne.mpr c9
   have c9b1 := bne_iff_ne.mpr c9
   (first | rw [c9b0] | (simp only [i64_w, i32_w]; rw [c9b0]) | skip)
   replace H := Option.bind_eq_some_iff.mp H
   obtain ⟨t415, A120, H⟩ := H
   replace H : (curtilageref10_symbol.j0 k t414 t415 a0_0 l0_1 l0_2 l0_3 l0_4 l0_5 l0_6 a1_0 a1_1 a1_2 a1_3 a1_4 a1_5 a1_6 a1_7) = some r := H
   have A12 := am A120
   clear A120
   have H' := am H
   clear H
   have hnb13 := NB413_412.out
   have hnc13 := NB412_413.out
   obtain ⟨hcz14_0, hcz14_1, hcz14_2, hcz14_3, hcz14_4, hcz14_5, hcz14_6, hcz14_7, hfz14_0, hfz14_1, hfz14_2, hfz14_3, hfz14_4, hfz14_5, hfz14_6, hfz14_7⟩ := cl8 BK413
   go_wp2_with (first | (go_at_call 58; (with_reducible refine (curtilageref10_Name.calls k a1_1 t415 _ A12.out).mono ?_); rintro e w' ⟨rfl, ⟨nd, rfl⟩⟩))
   go_meet
   case rel => exact ⟨_, (t415), uf, H', ⟨by first | omega | exact Nat.le_refl _⟩, ⟨ub BK412.out⟩, ⟨ub BK413.out⟩, ⟨uc HB.out⟩⟩
 case rest =>
  clear HC4
  clear hcz8_0 hcz8_1 hcz8_2 hcz8_3 hcz8_4 hcz8_5 hcz8_6 hcz8_7 hfz8_0 hfz8_1 hfz8_2 hfz8_3 hfz8_4 hfz8_5 hfz8_6 hfz8_7
  obtain ⟨kq, x6_3, rfl, HA, HJ3, BK412, BK413, HB⟩ := hcut
  cases kq with
  | zero => exact absurd HA.out (by simp [curtilageref10_symbol.j0])
  | succ kj3 =>
   have H := HA.out
   clear HA
   simp only [curtilageref10_symbol.j0] at H
   have HC15 := am H
   clear H
   go_upto_region 3 with (fail)
   go_cut [25] (fun v25 wc => ∃ (kq : Nat) (x25_14 : Bool), v25 = .bool x25_14 ∧ Aside0 (curtilageref10_symbol.j1 kq x25_14 a0_0 l0_1 l0_2 l0_3 l0_4 l0_5 l0_6 a1_0 a1_1 a1_2 a1_3 a1_4 a1_5 a1_6 a1_7 = some r) ∧ Aside0 (kq ≤ kj3) ∧ Aside0 (wc.heap[gb412]? = some (.cells #[.string a0_0, (.slice A0_1 l0_1.length c0_1), (.slice A0_2 l0_2.length c0_2), (.slice A0_3 l0_3.length c0_3), (.slice A0_4 l0_4.length c0_4), (.slice A0_5 l0_5.length c0_5), (.slice A0_6 l0_6.length c0_6)] 28 (0, 0))) ∧ Aside0 (wc.heap[gb413]? = some (.cells #[.string a1_0, .string a1_1, .int .u64 a1_2, .int .u64 a1_3, .int .i64 a1_4, .int .i64 a1_5, .int .i64 a1_6, .bool a1_7] 35 (0, 0))) ∧ Aside0 (Below w.heap.size w wc))
   case first =>
    have H := HC15.out
    clear HC15
    by_cases c16 : t414 = true
    ·subst c16
     have H1 : (curtilageref10_symbol.j1 kj3 (!x6_3) a0_0 l0_1 l0_2 l0_3 l0_4 l0_5 l0_6 a1_0 a1_1 a1_2 a1_3 a1_4 a1_5 a1_6 a1_7) = some r := by rw [if_pos rfl] at H; exact H
     clear H
     have H := H1
     clear H1
     have H' := am H
     clear H
     go_wp2
     go_meet
     case rel => exact ⟨_, (!x6_3), uf, H', ⟨by have := HJ3.out; first | omega | exact Nat.le_refl _⟩, ⟨ub BK412.out⟩, ⟨ub BK413.out⟩, ⟨uc HB.out⟩⟩
    ·replace c16 := Bool.eq_false_iff.mpr c16
     subst c16
     have H1 : (curtilageref10_symbol.j1 kj3 true a0_0 l0_1 l0_2 l0_3 l0_4 l0_5 l0_6 a1_0 a1_1 a1_2 a1_3 a1_4 a1_5 a1_6 a1_7) = some r := by rw [if_neg (show ¬ (false = true) by decide)] at H; exact H
     clear H
     have H := H1
     clear H1
     have H' := am H
     clear H
     go_wp2
     go_meet
     case rel => exact ⟨_, (true), uf, H', ⟨by have := HJ3.out; first | omega | exact Nat.le_refl _⟩, ⟨ub BK412.out⟩, ⟨ub BK413.out⟩, ⟨uc HB.out⟩⟩
   case rest =>
    clear HC15
    obtain ⟨kq, x25_14, rfl, HA, HJ14, BK412, BK413, HB⟩ := hcut
    cases kq with
    | zero => exact absurd HA.out (by simp [curtilageref10_symbol.j1])
    | succ kj14 =>
     have H := HA.out
     clear HA
     simp only [curtilageref10_symbol.j1] at H
     by_cases c17 : x25_14 = true
     ·subst c17
      have H1 : (some false) = some r := by rw [if_pos rfl] at H; exact H
      clear H
      have H := H1
      clear H1
      obtain rfl := Option.some.inj H
      go_wp2
      go_ret
      exact ur (uc HB.out)
     ·replace c17 := Bool.eq_false_iff.mpr c17
      subst c17
      have H1 : (if a1_4 = 1 then (if a1_5 = 1 then (if a1_6 = 1 then (curtilageref10_symbol.j2 kj14 false a0_0 l0_1 l0_2 l0_3 l0_4 l0_5 l0_6 a1_0 a1_1 a1_2 a1_3 a1_4 a1_5 a1_6 a1_7) else (curtilageref10_symbol.j2 kj14 (a1_6 != 2) a0_0 l0_1 l0_2 l0_3 l0_4 l0_5 l0_6 a1_0 a1_1 a1_2 a1_3 a1_4 a1_5 a1_6 a1_7)) else (if a1_5 = 2 then (if a1_6 = 1 then (curtilageref10_symbol.j2 kj14 false a0_0 l0_1 l0_2 l0_3 l0_4 l0_5 l0_6 a1_0 a1_1 a1_2 a1_3 a1_4 a1_5 a1_6 a1_7) else (curtilageref10_symbol.j2 kj14 (a1_6 != 2) a0_0 l0_1 l0_2 l0_3 l0_4 l0_5 l0_6 a1_0 a1_1 a1_2 a1_3 a1_4 a1_5 a1_6 a1_7)) else (if a1_5 = 3 then (if a1_6 = 1 then (curtilageref10_symbol.j2 kj14 false a0_0 l0_1 l0_2 l0_3 l0_4 l0_5 l0_6 a1_0 a1_1 a1_2 a1_3 a1_4 a1_5 a1_6 a1_7) else (curtilageref10_symbol.j2 kj14 (a1_6 != 2) a0_0 l0_1 l0_2 l0_3 l0_4 l0_5 l0_6 a1_0 a1_1 a1_2 a1_3 a1_4 a1_5 a1_6 a1_7)) else (curtilageref10_symbol.j2 kj14 true a0_0 l0_1 l0_2 l0_3 l0_4 l0_5 l0_6 a1_0 a1_1 a1_2 a1_3 a1_4 a1_5 a1_6 a1_7)))) else (if a1_4 = 2 then (if a1_5 = 1 then (if a1_6 = 1 then (curtilageref10_symbol.j2 kj14 false a0_0 l0_1 l0_2 l0_3 l0_4 l0_5 l0_6 a1_0 a1_1 a1_2 a1_3 a1_4 a1_5 a1_6 a1_7) else (curtilageref10_symbol.j2 kj14 (a1_6 != 2) a0_0 l0_1 l0_2 l0_3 l0_4 l0_5 l0_6 a1_0 a1_1 a1_2 a1_3 a1_4 a1_5 a1_6 a1_7)) else (if a1_5 = 2 then (if a1_6 = 1 then (curtilageref10_symbol.j2 kj14 false a0_0 l0_1 l0_2 l0_3 l0_4 l0_5 l0_6 a1_0 a1_1 a1_2 a1_3 a1_4 a1_5 a1_6 a1_7) else (curtilageref10_symbol.j2 kj14 (a1_6 != 2) a0_0 l0_1 l0_2 l0_3 l0_4 l0_5 l0_6 a1_0 a1_1 a1_2 a1_3 a1_4 a1_5 a1_6 a1_7)) else (if a1_5 = 3 then (if a1_6 = 1 then (curtilageref10_symbol.j2 kj14 false a0_0 l0_1 l0_2 l0_3 l0_4 l0_5 l0_6 a1_0 a1_1 a1_2 a1_3 a1_4 a1_5 a1_6 a1_7) else (curtilageref10_symbol.j2 kj14 (a1_6 != 2) a0_0 l0_1 l0_2 l0_3 l0_4 l0_5 l0_6 a1_0 a1_1 a1_2 a1_3 a1_4 a1_5 a1_6 a1_7)) else (curtilageref10_symbol.j2 kj14 true a0_0 l0_1 l0_2 l0_3 l0_4 l0_5 l0_6 a1_0 a1_1 a1_2 a1_3 a1_4 a1_5 a1_6 a1_7)))) else (curtilageref10_symbol.j2 kj14 true a0_0 l0_1 l0_2 l0_3 l0_4 l0_5 l0_6 a1_0 a1_1 a1_2 a1_3 a1_4 a1_5 a1_6 a1_7))) = some r := by rw [if_neg (show ¬ (false = true) by decide)] at H; exact H
      clear H
      have H := H1
      clear H1
      have HC18 := am H
      clear H
      go_upto_region 5 with (fail)
      go_cut [58] (fun v58 wc => ∃ (kq : Nat) (x58_17 : Bool), v58 = .bool x58_17 ∧ Aside0 (curtilageref10_symbol.j2 kq x58_17 a0_0 l0_1 l0_2 l0_3 l0_4 l0_5 l0_6 a1_0 a1_1 a1_2 a1_3 a1_4 a1_5 a1_6 a1_7 = some r) ∧ Aside0 (kq ≤ kj14) ∧ Aside0 (wc.heap[gb412]? = some (.cells #[.string a0_0, (.slice A0_1 l0_1.length c0_1), (.slice A0_2 l0_2.length c0_2), (.slice A0_3 l0_3.length c0_3), (.slice A0_4 l0_4.length c0_4), (.slice A0_5 l0_5.length c0_5), (.slice A0_6 l0_6.length c0_6)] 28 (0, 0))) ∧ Aside0 (wc.heap[gb413]? = some (.cells #[.string a1_0, .string a1_1, .int .u64 a1_2, .int .u64 a1_3, .int .i64 a1_4, .int .i64 a1_5, .int .i64 a1_6, .bool a1_7] 35 (0, 0))) ∧ Aside0 (Below w.heap.size w wc))
      case first =>
       have H := HC18.out
       clear HC18
       by_cases c19 : a1_4 = 1
       ·rw [if_pos c19] at H
        have c19b0 := beq_iff_eq.mpr c19
        have c19b1 := bne_eq_false_iff_eq.mpr c19
        clear c19
        (first | rw [c19b0] | (simp only [i64_w, i32_w]; rw [c19b0]) | skip)
        by_cases c20 : a1_5 = 1
        ·rw [if_pos c20] at H
         have c20b0 := beq_iff_eq.mpr c20
         have c20b1 := bne_eq_false_iff_eq.mpr c20
         clear c20
         by_cases c21 : a1_6 = 1
         ·rw [if_pos c21] at H
          have c21b0 := beq_iff_eq.mpr c21
          have c21b1 := bne_eq_false_iff_eq.mpr c21
          clear c21
          have H' := am H
          clear H
          have hnb22 := NB413_412.out
          have hnc22 := NB412_413.out
          obtain ⟨hcz23_0, hcz23_1, hcz23_2, hcz23_3, hcz23_4, hcz23_5, hcz23_6, hcz23_7, hfz23_0, hfz23_1, hfz23_2, hfz23_3, hfz23_4, hfz23_5, hfz23_6, hfz23_7⟩ := cl8 BK413
          go_wp2
          go_meet
          case rel => exact ⟨_, (false), uf, H', ⟨by have := HJ3.out; have := HJ14.out; first | omega | exact Nat.le_refl _⟩, ⟨ub BK412.out⟩, ⟨ub BK413.out⟩, ⟨uc HB.out⟩⟩
         ·rw [if_neg c21] at H
          have c21b0 := beq_eq_false_iff_ne.mpr c21
          have c21b1 := bne_iff_ne.mpr c21
          have H' := am H
          clear H
          have hnb24 := NB413_412.out
          have hnc24 := NB412_413.out
          obtain ⟨hcz25_0, hcz25_1, hcz25_2, hcz25_3, hcz25_4, hcz25_5, hcz25_6, hcz25_7, hfz25_0, hfz25_1, hfz25_2, hfz25_3, hfz25_4, hfz25_5, hfz25_6, hfz25_7⟩ := cl8 BK413
          go_wp2
          go_meet
          case rel => exact ⟨_, ((a1_6 != 2)), uf, H', ⟨by have := HJ3.out; have := HJ14.out; first | omega | exact Nat.le_refl _⟩, ⟨ub BK412.out⟩, ⟨ub BK413.out⟩, ⟨uc HB.out⟩⟩
        ·rw [if_neg c20] at H
         have c20b0 := beq_eq_false_iff_ne.mpr c20
         have c20b1 := bne_iff_ne.mpr c20
         by_cases c26 : a1_5 = 2
         ·rw [if_pos c26] at H
          have c26b0 := beq_iff_eq.mpr c26
          have c26b1 := bne_eq_false_iff_eq.mpr c26
          clear c26
          by_cases c27 : a1_6 = 1
          ·rw [if_pos c27] at H
           have c27b0 := beq_iff_eq.mpr c27
           have c27b1 := bne_eq_false_iff_eq.mpr c27
           clear c27
           have H' := am H
           clear H
           have hnb28 := NB413_412.out
           have hnc28 := NB412_413.out
           obtain ⟨hcz29_0, hcz29_1, hcz29_2, hcz29_3, hcz29_4, hcz29_5, hcz29_6, hcz29_7, hfz29_0, hfz29_1, hfz29_2, hfz29_3, hfz29_4, hfz29_5, hfz29_6, hfz29_7⟩ := cl8 BK413
           go_wp2
           go_meet
           case rel => exact ⟨_, (false), uf, H', ⟨by have := HJ3.out; have := HJ14.out; first | omega | exact Nat.le_refl _⟩, ⟨ub BK412.out⟩, ⟨ub BK413.out⟩, ⟨uc HB.out⟩⟩
          ·rw [if_neg c27] at H
           have c27b0 := beq_eq_false_iff_ne.mpr c27
           have c27b1 := bne_iff_ne.mpr c27
           have H' := am H
           clear H
           have hnb30 := NB413_412.out
           have hnc30 := NB412_413.out
           obtain ⟨hcz31_0, hcz31_1, hcz31_2, hcz31_3, hcz31_4, hcz31_5, hcz31_6, hcz31_7, hfz31_0, hfz31_1, hfz31_2, hfz31_3, hfz31_4, hfz31_5, hfz31_6, hfz31_7⟩ := cl8 BK413
           go_wp2
           go_meet
           case rel => exact ⟨_, ((a1_6 != 2)), uf, H', ⟨by have := HJ3.out; have := HJ14.out; first | omega | exact Nat.le_refl _⟩, ⟨ub BK412.out⟩, ⟨ub BK413.out⟩, ⟨uc HB.out⟩⟩
         ·rw [if_neg c26] at H
          have c26b0 := beq_eq_false_iff_ne.mpr c26
          have c26b1 := bne_iff_ne.mpr c26
          by_cases c32 : a1_5 = 3
          ·rw [if_pos c32] at H
           have c32b0 := beq_iff_eq.mpr c32
           have c32b1 := bne_eq_false_iff_eq.mpr c32
           clear c32
           by_cases c33 : a1_6 = 1
           ·rw [if_pos c33] at H
            have c33b0 := beq_iff_eq.mpr c33
            have c33b1 := bne_eq_false_iff_eq.mpr c33
            clear c33
            have H' := am H
            clear H
            have hnb34 := NB413_412.out
            have hnc34 := NB412_413.out
            obtain ⟨hcz35_0, hcz35_1, hcz35_2, hcz35_3, hcz35_4, hcz35_5, hcz35_6, hcz35_7, hfz35_0, hfz35_1, hfz35_2, hfz35_3, hfz35_4, hfz35_5, hfz35_6, hfz35_7⟩ := cl8 BK413
            go_wp2
            go_meet
            case rel => exact ⟨_, (false), uf, H', ⟨by have := HJ3.out; have := HJ14.out; first | omega | exact Nat.le_refl _⟩, ⟨ub BK412.out⟩, ⟨ub BK413.out⟩, ⟨uc HB.out⟩⟩
           ·rw [if_neg c33] at H
            have c33b0 := beq_eq_false_iff_ne.mpr c33
            have c33b1 := bne_iff_ne.mpr c33
            have H' := am H
            clear H
            have hnb36 := NB413_412.out
            have hnc36 := NB412_413.out
            obtain ⟨hcz37_0, hcz37_1, hcz37_2, hcz37_3, hcz37_4, hcz37_5, hcz37_6, hcz37_7, hfz37_0, hfz37_1, hfz37_2, hfz37_3, hfz37_4, hfz37_5, hfz37_6, hfz37_7⟩ := cl8 BK413
            go_wp2
            go_meet
            case rel => exact ⟨_, ((a1_6 != 2)), uf, H', ⟨by have := HJ3.out; have := HJ14.out; first | omega | exact Nat.le_refl _⟩, ⟨ub BK412.out⟩, ⟨ub BK413.out⟩, ⟨uc HB.out⟩⟩
          ·rw [if_neg c32] at H
           have c32b0 := beq_eq_false_iff_ne.mpr c32
           have c32b1 := bne_iff_ne.mpr c32
           have H' := am H
           clear H
           have hnb38 := NB413_412.out
           have hnc38 := NB412_413.out
           obtain ⟨hcz39_0, hcz39_1, hcz39_2, hcz39_3, hcz39_4, hcz39_5, hcz39_6, hcz39_7, hfz39_0, hfz39_1, hfz39_2, hfz39_3, hfz39_4, hfz39_5, hfz39_6, hfz39_7⟩ := cl8 BK413
           go_wp2
           go_meet
           case rel => exact ⟨_, (true), uf, H', ⟨by have := HJ3.out; have := HJ14.out; first | omega | exact Nat.le_refl _⟩, ⟨ub BK412.out⟩, ⟨ub BK413.out⟩, ⟨uc HB.out⟩⟩
       ·rw [if_neg c19] at H
        have c19b0 := beq_eq_false_iff_ne.mpr c19
        have c19b1 := bne_iff_ne.mpr c19
        (first | rw [c19b0] | (simp only [i64_w, i32_w]; rw [c19b0]) | skip)
        by_cases c40 : a1_4 = 2
        ·rw [if_pos c40] at H
         have c40b0 := beq_iff_eq.mpr c40
         have c40b1 := bne_eq_false_iff_eq.mpr c40
         clear c40
         by_cases c41 : a1_5 = 1
         ·rw [if_pos c41] at H
          have c41b0 := beq_iff_eq.mpr c41
          have c41b1 := bne_eq_false_iff_eq.mpr c41
          clear c41
          by_cases c42 : a1_6 = 1
          ·rw [if_pos c42] at H
           have c42b0 := beq_iff_eq.mpr c42
           have c42b1 := bne_eq_false_iff_eq.mpr c42
           clear c42
           have H' := am H
           clear H
           have hnb43 := NB413_412.out
           have hnc43 := NB412_413.out
           obtain ⟨hcz44_0, hcz44_1, hcz44_2, hcz44_3, hcz44_4, hcz44_5, hcz44_6, hcz44_7, hfz44_0, hfz44_1, hfz44_2, hfz44_3, hfz44_4, hfz44_5, hfz44_6, hfz44_7⟩ := cl8 BK413
           go_wp2
           go_meet
           case rel => exact ⟨_, (false), uf, H', ⟨by have := HJ3.out; have := HJ14.out; first | omega | exact Nat.le_refl _⟩, ⟨ub BK412.out⟩, ⟨ub BK413.out⟩, ⟨uc HB.out⟩⟩
          ·rw [if_neg c42] at H
           have c42b0 := beq_eq_false_iff_ne.mpr c42
           have c42b1 := bne_iff_ne.mpr c42
           have H' := am H
           clear H
           have hnb45 := NB413_412.out
           have hnc45 := NB412_413.out
           obtain ⟨hcz46_0, hcz46_1, hcz46_2, hcz46_3, hcz46_4, hcz46_5, hcz46_6, hcz46_7, hfz46_0, hfz46_1, hfz46_2, hfz46_3, hfz46_4, hfz46_5, hfz46_6, hfz46_7⟩ := cl8 BK413
           go_wp2
           go_meet
           case rel => exact ⟨_, ((a1_6 != 2)), uf, H', ⟨by have := HJ3.out; have := HJ14.out; first | omega | exact Nat.le_refl _⟩, ⟨ub BK412.out⟩, ⟨ub BK413.out⟩, ⟨uc HB.out⟩⟩
         ·rw [if_neg c41] at H
          have c41b0 := beq_eq_false_iff_ne.mpr c41
          have c41b1 := bne_iff_ne.mpr c41
          by_cases c47 : a1_5 = 2
          ·rw [if_pos c47] at H
           have c47b0 := beq_iff_eq.mpr c47
           have c47b1 := bne_eq_false_iff_eq.mpr c47
           clear c47
           by_cases c48 : a1_6 = 1
           ·rw [if_pos c48] at H
            have c48b0 := beq_iff_eq.mpr c48
            have c48b1 := bne_eq_false_iff_eq.mpr c48
            clear c48
            have H' := am H
            clear H
            have hnb49 := NB413_412.out
            have hnc49 := NB412_413.out
            obtain ⟨hcz50_0, hcz50_1, hcz50_2, hcz50_3, hcz50_4, hcz50_5, hcz50_6, hcz50_7, hfz50_0, hfz50_1, hfz50_2, hfz50_3, hfz50_4, hfz50_5, hfz50_6, hfz50_7⟩ := cl8 BK413
            go_wp2
            go_meet
            case rel => exact ⟨_, (false), uf, H', ⟨by have := HJ3.out; have := HJ14.out; first | omega | exact Nat.le_refl _⟩, ⟨ub BK412.out⟩, ⟨ub BK413.out⟩, ⟨uc HB.out⟩⟩
           ·rw [if_neg c48] at H
            have c48b0 := beq_eq_false_iff_ne.mpr c48
            have c48b1 := bne_iff_ne.mpr c48
            have H' := am H
            clear H
            have hnb51 := NB413_412.out
            have hnc51 := NB412_413.out
            obtain ⟨hcz52_0, hcz52_1, hcz52_2, hcz52_3, hcz52_4, hcz52_5, hcz52_6, hcz52_7, hfz52_0, hfz52_1, hfz52_2, hfz52_3, hfz52_4, hfz52_5, hfz52_6, hfz52_7⟩ := cl8 BK413
            go_wp2
            go_meet
            case rel => exact ⟨_, ((a1_6 != 2)), uf, H', ⟨by have := HJ3.out; have := HJ14.out; first | omega | exact Nat.le_refl _⟩, ⟨ub BK412.out⟩, ⟨ub BK413.out⟩, ⟨uc HB.out⟩⟩
          ·rw [if_neg c47] at H
           have c47b0 := beq_eq_false_iff_ne.mpr c47
           have c47b1 := bne_iff_ne.mpr c47
           by_cases c53 : a1_5 = 3
           ·rw [if_pos c53] at H
            have c53b0 := beq_iff_eq.mpr c53
            have c53b1 := bne_eq_false_iff_eq.mpr c53
            clear c53
            by_cases c54 : a1_6 = 1
            ·rw [if_pos c54] at H
             have c54b0 := beq_iff_eq.mpr c54
             have c54b1 := bne_eq_false_iff_eq.mpr c54
             clear c54
             have H' := am H
             clear H
             have hnb55 := NB413_412.out
             have hnc55 := NB412_413.out
             obtain ⟨hcz56_0, hcz56_1, hcz56_2, hcz56_3, hcz56_4, hcz56_5, hcz56_6, hcz56_7, hfz56_0, hfz56_1, hfz56_2, hfz56_3, hfz56_4, hfz56_5, hfz56_6, hfz56_7⟩ := cl8 BK413
             go_wp2
             go_meet
             case rel => exact ⟨_, (false), uf, H', ⟨by have := HJ3.out; have := HJ14.out; first | omega | exact Nat.le_refl _⟩, ⟨ub BK412.out⟩, ⟨ub BK413.out⟩, ⟨uc HB.out⟩⟩
            ·rw [if_neg c54] at H
             have c54b0 := beq_eq_false_iff_ne.mpr c54
             have c54b1 := bne_iff_ne.mpr c54
             have H' := am H
             clear H
             have hnb57 := NB413_412.out
             have hnc57 := NB412_413.out
             obtain ⟨hcz58_0, hcz58_1, hcz58_2, hcz58_3, hcz58_4, hcz58_5, hcz58_6, hcz58_7, hfz58_0, hfz58_1, hfz58_2, hfz58_3, hfz58_4, hfz58_5, hfz58_6, hfz58_7⟩ := cl8 BK413
             go_wp2
             go_meet
             case rel => exact ⟨_, ((a1_6 != 2)), uf, H', ⟨by have := HJ3.out; have := HJ14.out; first | omega | exact Nat.le_refl _⟩, ⟨ub BK412.out⟩, ⟨ub BK413.out⟩, ⟨uc HB.out⟩⟩
           ·rw [if_neg c53] at H
            have c53b0 := beq_eq_false_iff_ne.mpr c53
            have c53b1 := bne_iff_ne.mpr c53
            have H' := am H
            clear H
            have hnb59 := NB413_412.out
            have hnc59 := NB412_413.out
            obtain ⟨hcz60_0, hcz60_1, hcz60_2, hcz60_3, hcz60_4, hcz60_5, hcz60_6, hcz60_7, hfz60_0, hfz60_1, hfz60_2, hfz60_3, hfz60_4, hfz60_5, hfz60_6, hfz60_7⟩ := cl8 BK413
            go_wp2
            go_meet
            case rel => exact ⟨_, (true), uf, H', ⟨by have := HJ3.out; have := HJ14.out; first | omega | exact Nat.le_refl _⟩, ⟨ub BK412.out⟩, ⟨ub BK413.out⟩, ⟨uc HB.out⟩⟩
        ·rw [if_neg c40] at H
         have c40b0 := beq_eq_false_iff_ne.mpr c40
         have c40b1 := bne_iff_ne.mpr c40
         have H' := am H
         clear H
         have hnb61 := NB413_412.out
         have hnc61 := NB412_413.out
         obtain ⟨hcz62_0, hcz62_1, hcz62_2, hcz62_3, hcz62_4, hcz62_5, hcz62_6, hcz62_7, hfz62_0, hfz62_1, hfz62_2, hfz62_3, hfz62_4, hfz62_5, hfz62_6, hfz62_7⟩ := cl8 BK413
         go_wp2
         go_meet
         case rel => exact ⟨_, (true), uf, H', ⟨by have := HJ3.out; have := HJ14.out; first | omega | exact Nat.le_refl _⟩, ⟨ub BK412.out⟩, ⟨ub BK413.out⟩, ⟨uc HB.out⟩⟩
      case rest =>
       clear HC18
       obtain ⟨kq, x58_17, rfl, HA, HJ17, BK412, BK413, HB⟩ := hcut
       cases kq with
       | zero => exact absurd HA.out (by simp [curtilageref10_symbol.j2])
       | succ kj17 =>
        have H := HA.out
        clear HA
        simp only [curtilageref10_symbol.j2] at H
        by_cases c63 : x58_17 = true
        ·subst c63
         have H1 : (some false) = some r := by rw [if_pos rfl] at H; exact H
         clear H
         have H := H1
         clear H1
         obtain rfl := Option.some.inj H
         go_wp2
         go_ret
         exact ur (uc HB.out)
        ·replace c63 := Bool.eq_false_iff.mpr c63
         subst c63
         have H1 : (if a1_7 = true then ((curtilageref10_At.f kj17 a0_0 l0_1 l0_2 l0_3 l0_4 l0_5 l0_6 a1_2 a1_3).bind fun t416 => (if t416 < 0 then (some false) else (if 0 ≤ t416 then (if t416 < (l0_2.length : Int) then (if a1_4 = 1 then (if ((rd_T67 l0_2 t416).f2) ≥ 4 then (if (Int.tmod a1_2 4) = 0 then (some (decide (a1_3 > 0))) else (some false)) else (some false)) else (some (!(decide (((rd_T67 l0_2 t416).f2) ≥ 4))))) else (none)) else (none)))) else (if a1_2 = 0 then (if a1_3 = 0 then (if a1_5 = 1 then (some false) else (some (a1_6 == 1))) else (some false)) else (some false))) = some r := by rw [if_neg (show ¬ (false = true) by decide)] at H; exact H
         clear H
         have H := H1
         clear H1
         by_cases c64 : a1_7 = true
         ·subst c64
          have H1 : ((curtilageref10_At.f kj17 a0_0 l0_1 l0_2 l0_3 l0_4 l0_5 l0_6 a1_2 a1_3).bind fun t416 => (if t416 < 0 then (some false) else (if 0 ≤ t416 then (if t416 < (l0_2.length : Int) then (if a1_4 = 1 then (if ((rd_T67 l0_2 t416).f2) ≥ 4 then (if (Int.tmod a1_2 4) = 0 then (some (decide (a1_3 > 0))) else (some false)) else (some false)) else (some (!(decide (((rd_T67 l0_2 t416).f2) ≥ 4))))) else (none)) else (none)))) = some r := by rw [if_pos rfl] at H; exact H
          clear H
          have H := H1
          clear H1
          replace H := Option.bind_eq_some_iff.mp H
          obtain ⟨t416, A650, H⟩ := H
          replace H : (if t416 < 0 then (some false) else (if 0 ≤ t416 then (if t416 < (l0_2.length : Int) then (if a1_4 = 1 then (if ((rd_T67 l0_2 t416).f2) ≥ 4 then (if (Int.tmod a1_2 4) = 0 then (some (decide (a1_3 > 0))) else (some false)) else (some false)) else (some (!(decide (((rd_T67 l0_2 t416).f2) ≥ 4))))) else (none)) else (none))) = some r := H
          have A65 := am A650
          clear A650
          by_cases c66 : t416 < 0
          ·rw [if_pos c66] at H
           have c66b0 := decide_eq_true c66
           clear c66
           obtain rfl := Option.some.inj H
           have hnb67 := NB413_412.out
           have hnc67 := NB412_413.out
           obtain ⟨hcz68_0, hcz68_1, hcz68_2, hcz68_3, hcz68_4, hcz68_5, hcz68_6, hcz68_7, hfz68_0, hfz68_1, hfz68_2, hfz68_3, hfz68_4, hfz68_5, hfz68_6, hfz68_7⟩ := cl8 BK413
           obtain ⟨hcz69_0, hcz69_1, hcz69_2, hcz69_3, hcz69_4, hcz69_5, hcz69_6, hfz69_0, hfz69_1, hfz69_2, hfz69_3, hfz69_4, hfz69_5, hfz69_6⟩ := cl7 BK412
           go_wp2_with (first | ((with_reducible refine gate_dst (N := 85) rfl ?_); (with_reducible refine gate_callee (f := 28) rfl ?_); refine gl (some 85) Try.func28 #[.agg #[.string a0_0, .slice A0_1 l0_1.length c0_1, .slice A0_2 l0_2.length c0_2, .slice A0_3 l0_3.length c0_3, .slice A0_4 l0_4.length c0_4, .slice A0_5 l0_5.length c0_5, .slice A0_6 l0_6.length c0_6], .int .u64 a1_2, .int .u64 a1_3] ?_; (with_reducible refine (curtilageref10_At.calls kj17 a0_0 _ _ l0_1 _ _ l0_2 _ _ l0_3 _ _ l0_4 _ _ l0_5 _ _ l0_6 a1_2 a1_3 t416 _ ?side1 ?side2 ?side3 ?side4 ?side5 ?side6 ?side7 ?side8 ?side9 ?side10 ?side11 ?side12 A65.out).mono ?_); (case side1 => exact us (Kd.C_below HR0_1.out HB.out)); (case side2 => exact HC0_1.out); (case side3 => exact us (Kd.C_below HR0_2.out HB.out)); (case side4 => exact HC0_2.out); (case side5 => exact us (Kd.C_below HR0_3.out HB.out)); (case side6 => exact HC0_3.out); (case side7 => exact us (Kd.C_below HR0_4.out HB.out)); (case side8 => exact HC0_4.out); (case side9 => exact us (Kd.C_below HR0_5.out HB.out)); (case side10 => exact HC0_5.out); (case side11 => exact us (Kd.C_below HR0_6.out HB.out)); (case side12 => exact HC0_6.out); rintro e w70 ⟨rfl, hb⟩; refine ⟨_, rfl, ?_⟩; have n0_ := bw BK412 hb; have n1_ := bw BK413 hb; have n2_ := bs HB hb; revert n0_ n1_ n2_; clear BK412 BK413 HB; intro BK412 BK413 HB; (try clear hb)))
           go_ret
           exact ur (uc HB.out)
          ·rw [if_neg c66] at H
           have c66b0 := decide_eq_false c66
           clear c66
           obtain ⟨c71, H⟩ := ic H
           have c71b0 : decide (0 ≤ t416) = true := decide_eq_true c71
           clear c71
           obtain ⟨c72, H⟩ := ic H
           have c72b0 : decide (t416 < (l0_2.length : Int)) = true := decide_eq_true c72
           clear c72
           by_cases c73 : a1_4 = 1
           ·rw [if_pos c73] at H
            have c73b0 := beq_iff_eq.mpr c73
            have c73b1 := bne_eq_false_iff_eq.mpr c73
            clear c73
            by_cases c74 : ((rd_T67 l0_2 t416).f2) ≥ 4
            ·rw [if_pos c74] at H
             have c74b0 : decide (4 ≤ ((rd_T67 l0_2 t416).f2)) = true := decide_eq_true c74
             clear c74
             by_cases c75 : (Int.tmod a1_2 4) = 0
             ·rw [if_pos c75] at H
              have c75b0 := beq_iff_eq.mpr c75
              have c75b1 := bne_eq_false_iff_eq.mpr c75
              clear c75
              obtain rfl := Option.some.inj H
              have hnb76 := NB413_412.out
              have hnc76 := NB412_413.out
              obtain ⟨hcz77_0, hcz77_1, hcz77_2, hcz77_3, hcz77_4, hcz77_5, hcz77_6, hcz77_7, hfz77_0, hfz77_1, hfz77_2, hfz77_3, hfz77_4, hfz77_5, hfz77_6, hfz77_7⟩ := cl8 BK413
              obtain ⟨hcz78_0, hcz78_1, hcz78_2, hcz78_3, hcz78_4, hcz78_5, hcz78_6, hfz78_0, hfz78_1, hfz78_2, hfz78_3, hfz78_4, hfz78_5, hfz78_6⟩ := cl7 BK412
              go_wp2_with (first | ((with_reducible refine gate_dst (N := 85) rfl ?_); (with_reducible refine gate_callee (f := 28) rfl ?_); refine gl (some 85) Try.func28 #[.agg #[.string a0_0, .slice A0_1 l0_1.length c0_1, .slice A0_2 l0_2.length c0_2, .slice A0_3 l0_3.length c0_3, .slice A0_4 l0_4.length c0_4, .slice A0_5 l0_5.length c0_5, .slice A0_6 l0_6.length c0_6], .int .u64 a1_2, .int .u64 a1_3] ?_; (with_reducible refine (curtilageref10_At.calls kj17 a0_0 _ _ l0_1 _ _ l0_2 _ _ l0_3 _ _ l0_4 _ _ l0_5 _ _ l0_6 a1_2 a1_3 t416 _ ?side1 ?side2 ?side3 ?side4 ?side5 ?side6 ?side7 ?side8 ?side9 ?side10 ?side11 ?side12 A65.out).mono ?_); (case side1 => exact us (Kd.C_below HR0_1.out HB.out)); (case side2 => exact HC0_1.out); (case side3 => exact us (Kd.C_below HR0_2.out HB.out)); (case side4 => exact HC0_2.out); (case side5 => exact us (Kd.C_below HR0_3.out HB.out)); (case side6 => exact HC0_3.out); (case side7 => exact us (Kd.C_below HR0_4.out HB.out)); (case side8 => exact HC0_4.out); (case side9 => exact us (Kd.C_below HR0_5.out HB.out)); (case side10 => exact HC0_5.out); (case side11 => exact us (Kd.C_below HR0_6.out HB.out)); (case side12 => exact HC0_6.out); rintro e w79 ⟨rfl, hb⟩; refine ⟨_, rfl, ?_⟩; have n0_ := bw BK412 hb; have n1_ := bw BK413 hb; have n2_ := bs HB hb; revert n0_ n1_ n2_; clear BK412 BK413 HB; intro BK412 BK413 HB; (try clear hb); obtain ⟨hcz80_0, hcz80_1, hcz80_2, hcz80_3, hcz80_4, hcz80_5, hcz80_6, hfz80_0, hfz80_1, hfz80_2, hfz80_3, hfz80_4, hfz80_5, hfz80_6⟩ := cells7 BK412.out; have p417 : 0 ≤ (t416 : Int) := ud; have q417 : t416 < (l0_2.length : Int) := ud; obtain ⟨ad417, A417_3, c417_3, e417, hx417_0, hx417_1, hx417_2, hx417_3, hl417_3, hi417_3⟩ := at_T67 HR0_2.out t416 p417 q417; cases e417; replace hx417_0 := bcel HB hx417_0; replace hx417_1 := bcel HB hx417_1; replace hx417_2 := bcel HB hx417_2; replace hx417_3 := bcel HB hx417_3; have HR417_3 := am hi417_3; have HC417_3 := am hl417_3; clear hi417_3 hl417_3; replace p417 := eq_true p417; replace q417 := eq_true q417; obtain ⟨hcz81_0, hcz81_1, hcz81_2, hcz81_3, hcz81_4, hcz81_5, hcz81_6, hcz81_7, hfz81_0, hfz81_1, hfz81_2, hfz81_3, hfz81_4, hfz81_5, hfz81_6, hfz81_7⟩ := cells8 BK413.out))
              go_ret
              exact ur (uc HB.out)
             ·rw [if_neg c75] at H
              have c75b0 := beq_eq_false_iff_ne.mpr c75
              have c75b1 := bne_iff_ne.mpr c75
              obtain rfl := Option.some.inj H
              have hnb82 := NB413_412.out
              have hnc82 := NB412_413.out
              obtain ⟨hcz83_0, hcz83_1, hcz83_2, hcz83_3, hcz83_4, hcz83_5, hcz83_6, hcz83_7, hfz83_0, hfz83_1, hfz83_2, hfz83_3, hfz83_4, hfz83_5, hfz83_6, hfz83_7⟩ := cl8 BK413
              obtain ⟨hcz84_0, hcz84_1, hcz84_2, hcz84_3, hcz84_4, hcz84_5, hcz84_6, hfz84_0, hfz84_1, hfz84_2, hfz84_3, hfz84_4, hfz84_5, hfz84_6⟩ := cl7 BK412
              go_wp2_with (first | ((with_reducible refine gate_dst (N := 85) rfl ?_); (with_reducible refine gate_callee (f := 28) rfl ?_); refine gl (some 85) Try.func28 #[.agg #[.string a0_0, .slice A0_1 l0_1.length c0_1, .slice A0_2 l0_2.length c0_2, .slice A0_3 l0_3.length c0_3, .slice A0_4 l0_4.length c0_4, .slice A0_5 l0_5.length c0_5, .slice A0_6 l0_6.length c0_6], .int .u64 a1_2, .int .u64 a1_3] ?_; (with_reducible refine (curtilageref10_At.calls kj17 a0_0 _ _ l0_1 _ _ l0_2 _ _ l0_3 _ _ l0_4 _ _ l0_5 _ _ l0_6 a1_2 a1_3 t416 _ ?side1 ?side2 ?side3 ?side4 ?side5 ?side6 ?side7 ?side8 ?side9 ?side10 ?side11 ?side12 A65.out).mono ?_); (case side1 => exact us (Kd.C_below HR0_1.out HB.out)); (case side2 => exact HC0_1.out); (case side3 => exact us (Kd.C_below HR0_2.out HB.out)); (case side4 => exact HC0_2.out); (case side5 => exact us (Kd.C_below HR0_3.out HB.out)); (case side6 => exact HC0_3.out); (case side7 => exact us (Kd.C_below HR0_4.out HB.out)); (case side8 => exact HC0_4.out); (case side9 => exact us (Kd.C_below HR0_5.out HB.out)); (case side10 => exact HC0_5.out); (case side11 => exact us (Kd.C_below HR0_6.out HB.out)); (case side12 => exact HC0_6.out); rintro e w85 ⟨rfl, hb⟩; refine ⟨_, rfl, ?_⟩; have n0_ := bw BK412 hb; have n1_ := bw BK413 hb; have n2_ := bs HB hb; revert n0_ n1_ n2_; clear BK412 BK413 HB; intro BK412 BK413 HB; (try clear hb); obtain ⟨hcz86_0, hcz86_1, hcz86_2, hcz86_3, hcz86_4, hcz86_5, hcz86_6, hfz86_0, hfz86_1, hfz86_2, hfz86_3, hfz86_4, hfz86_5, hfz86_6⟩ := cells7 BK412.out; have p417 : 0 ≤ (t416 : Int) := ud; have q417 : t416 < (l0_2.length : Int) := ud; obtain ⟨ad417, A417_3, c417_3, e417, hx417_0, hx417_1, hx417_2, hx417_3, hl417_3, hi417_3⟩ := at_T67 HR0_2.out t416 p417 q417; cases e417; replace hx417_0 := bcel HB hx417_0; replace hx417_1 := bcel HB hx417_1; replace hx417_2 := bcel HB hx417_2; replace hx417_3 := bcel HB hx417_3; have HR417_3 := am hi417_3; have HC417_3 := am hl417_3; clear hi417_3 hl417_3; replace p417 := eq_true p417; replace q417 := eq_true q417; obtain ⟨hcz87_0, hcz87_1, hcz87_2, hcz87_3, hcz87_4, hcz87_5, hcz87_6, hcz87_7, hfz87_0, hfz87_1, hfz87_2, hfz87_3, hfz87_4, hfz87_5, hfz87_6, hfz87_7⟩ := cells8 BK413.out))
              go_ret
              exact ur (uc HB.out)
            ·rw [if_neg c74] at H
             have c74b0 : decide (4 ≤ ((rd_T67 l0_2 t416).f2)) = false := decide_eq_false c74
             clear c74
             obtain rfl := Option.some.inj H
             have hnb88 := NB413_412.out
             have hnc88 := NB412_413.out
             obtain ⟨hcz89_0, hcz89_1, hcz89_2, hcz89_3, hcz89_4, hcz89_5, hcz89_6, hcz89_7, hfz89_0, hfz89_1, hfz89_2, hfz89_3, hfz89_4, hfz89_5, hfz89_6, hfz89_7⟩ := cl8 BK413
             obtain ⟨hcz90_0, hcz90_1, hcz90_2, hcz90_3, hcz90_4, hcz90_5, hcz90_6, hfz90_0, hfz90_1, hfz90_2, hfz90_3, hfz90_4, hfz90_5, hfz90_6⟩ := cl7 BK412
             go_wp2_with (first | ((with_reducible refine gate_dst (N := 85) rfl ?_); (with_reducible refine gate_callee (f := 28) rfl ?_); refine gl (some 85) Try.func28 #[.agg #[.string a0_0, .slice A0_1 l0_1.length c0_1, .slice A0_2 l0_2.length c0_2, .slice A0_3 l0_3.length c0_3, .slice A0_4 l0_4.length c0_4, .slice A0_5 l0_5.length c0_5, .slice A0_6 l0_6.length c0_6], .int .u64 a1_2, .int .u64 a1_3] ?_; (with_reducible refine (curtilageref10_At.calls kj17 a0_0 _ _ l0_1 _ _ l0_2 _ _ l0_3 _ _ l0_4 _ _ l0_5 _ _ l0_6 a1_2 a1_3 t416 _ ?side1 ?side2 ?side3 ?side4 ?side5 ?side6 ?side7 ?side8 ?side9 ?side10 ?side11 ?side12 A65.out).mono ?_); (case side1 => exact us (Kd.C_below HR0_1.out HB.out)); (case side2 => exact HC0_1.out); (case side3 => exact us (Kd.C_below HR0_2.out HB.out)); (case side4 => exact HC0_2.out); (case side5 => exact us (Kd.C_below HR0_3.out HB.out)); (case side6 => exact HC0_3.out); (case side7 => exact us (Kd.C_below HR0_4.out HB.out)); (case side8 => exact HC0_4.out); (case side9 => exact us (Kd.C_below HR0_5.out HB.out)); (case side10 => exact HC0_5.out); (case side11 => exact us (Kd.C_below HR0_6.out HB.out)); (case side12 => exact HC0_6.out); rintro e w91 ⟨rfl, hb⟩; refine ⟨_, rfl, ?_⟩; have n0_ := bw BK412 hb; have n1_ := bw BK413 hb; have n2_ := bs HB hb; revert n0_ n1_ n2_; clear BK412 BK413 HB; intro BK412 BK413 HB; (try clear hb); obtain ⟨hcz92_0, hcz92_1, hcz92_2, hcz92_3, hcz92_4, hcz92_5, hcz92_6, hfz92_0, hfz92_1, hfz92_2, hfz92_3, hfz92_4, hfz92_5, hfz92_6⟩ := cells7 BK412.out; have p417 : 0 ≤ (t416 : Int) := ud; have q417 : t416 < (l0_2.length : Int) := ud; obtain ⟨ad417, A417_3, c417_3, e417, hx417_0, hx417_1, hx417_2, hx417_3, hl417_3, hi417_3⟩ := at_T67 HR0_2.out t416 p417 q417; cases e417; replace hx417_0 := bcel HB hx417_0; replace hx417_1 := bcel HB hx417_1; replace hx417_2 := bcel HB hx417_2; replace hx417_3 := bcel HB hx417_3; have HR417_3 := am hi417_3; have HC417_3 := am hl417_3; clear hi417_3 hl417_3; replace p417 := eq_true p417; replace q417 := eq_true q417; obtain ⟨hcz93_0, hcz93_1, hcz93_2, hcz93_3, hcz93_4, hcz93_5, hcz93_6, hcz93_7, hfz93_0, hfz93_1, hfz93_2, hfz93_3, hfz93_4, hfz93_5, hfz93_6, hfz93_7⟩ := cells8 BK413.out))
             go_ret
             exact ur (uc HB.out)
           ·rw [if_neg c73] at H
            have c73b0 := beq_eq_false_iff_ne.mpr c73
            have c73b1 := bne_iff_ne.mpr c73
            obtain rfl := Option.some.inj H
            have hnb94 := NB413_412.out
            have hnc94 := NB412_413.out
            obtain ⟨hcz95_0, hcz95_1, hcz95_2, hcz95_3, hcz95_4, hcz95_5, hcz95_6, hcz95_7, hfz95_0, hfz95_1, hfz95_2, hfz95_3, hfz95_4, hfz95_5, hfz95_6, hfz95_7⟩ := cl8 BK413
            obtain ⟨hcz96_0, hcz96_1, hcz96_2, hcz96_3, hcz96_4, hcz96_5, hcz96_6, hfz96_0, hfz96_1, hfz96_2, hfz96_3, hfz96_4, hfz96_5, hfz96_6⟩ := cl7 BK412
            go_wp2_with (first | ((with_reducible refine gate_dst (N := 85) rfl ?_); (with_reducible refine gate_callee (f := 28) rfl ?_); refine gl (some 85) Try.func28 #[.agg #[.string a0_0, .slice A0_1 l0_1.length c0_1, .slice A0_2 l0_2.length c0_2, .slice A0_3 l0_3.length c0_3, .slice A0_4 l0_4.length c0_4, .slice A0_5 l0_5.length c0_5, .slice A0_6 l0_6.length c0_6], .int .u64 a1_2, .int .u64 a1_3] ?_; (with_reducible refine (curtilageref10_At.calls kj17 a0_0 _ _ l0_1 _ _ l0_2 _ _ l0_3 _ _ l0_4 _ _ l0_5 _ _ l0_6 a1_2 a1_3 t416 _ ?side1 ?side2 ?side3 ?side4 ?side5 ?side6 ?side7 ?side8 ?side9 ?side10 ?side11 ?side12 A65.out).mono ?_); (case side1 => exact us (Kd.C_below HR0_1.out HB.out)); (case side2 => exact HC0_1.out); (case side3 => exact us (Kd.C_below HR0_2.out HB.out)); (case side4 => exact HC0_2.out); (case side5 => exact us (Kd.C_below HR0_3.out HB.out)); (case side6 => exact HC0_3.out); (case side7 => exact us (Kd.C_below HR0_4.out HB.out)); (case side8 => exact HC0_4.out); (case side9 => exact us (Kd.C_below HR0_5.out HB.out)); (case side10 => exact HC0_5.out); (case side11 => exact us (Kd.C_below HR0_6.out HB.out)); (case side12 => exact HC0_6.out); rintro e w97 ⟨rfl, hb⟩; refine ⟨_, rfl, ?_⟩; have n0_ := bw BK412 hb; have n1_ := bw BK413 hb; have n2_ := bs HB hb; revert n0_ n1_ n2_; clear BK412 BK413 HB; intro BK412 BK413 HB; (try clear hb); obtain ⟨hcz98_0, hcz98_1, hcz98_2, hcz98_3, hcz98_4, hcz98_5, hcz98_6, hfz98_0, hfz98_1, hfz98_2, hfz98_3, hfz98_4, hfz98_5, hfz98_6⟩ := cells7 BK412.out; have p417 : 0 ≤ (t416 : Int) := ud; have q417 : t416 < (l0_2.length : Int) := ud; obtain ⟨ad417, A417_3, c417_3, e417, hx417_0, hx417_1, hx417_2, hx417_3, hl417_3, hi417_3⟩ := at_T67 HR0_2.out t416 p417 q417; cases e417; replace hx417_0 := bcel HB hx417_0; replace hx417_1 := bcel HB hx417_1; replace hx417_2 := bcel HB hx417_2; replace hx417_3 := bcel HB hx417_3; have HR417_3 := am hi417_3; have HC417_3 := am hl417_3; clear hi417_3 hl417_3; replace p417 := eq_true p417; replace q417 := eq_true q417; obtain ⟨hcz99_0, hcz99_1, hcz99_2, hcz99_3, hcz99_4, hcz99_5, hcz99_6, hcz99_7, hfz99_0, hfz99_1, hfz99_2, hfz99_3, hfz99_4, hfz99_5, hfz99_6, hfz99_7⟩ := cells8 BK413.out))
            go_ret
            exact ur (uc HB.out)
         ·replace c64 := Bool.eq_false_iff.mpr c64
          subst c64
          have H1 : (if a1_2 = 0 then (if a1_3 = 0 then (if a1_5 = 1 then (some false) else (some (a1_6 == 1))) else (some false)) else (some false)) = some r := by rw [if_neg (show ¬ (false = true) by decide)] at H; exact H
          clear H
          have H := H1
          clear H1
          by_cases c100 : a1_2 = 0
          ·rw [if_pos c100] at H
           have c100b0 := beq_iff_eq.mpr c100
           have c100b1 := bne_eq_false_iff_eq.mpr c100
           clear c100
           by_cases c101 : a1_3 = 0
           ·rw [if_pos c101] at H
            have c101b0 := beq_iff_eq.mpr c101
            have c101b1 := bne_eq_false_iff_eq.mpr c101
            clear c101
            by_cases c102 : a1_5 = 1
            ·rw [if_pos c102] at H
             have c102b0 := beq_iff_eq.mpr c102
             have c102b1 := bne_eq_false_iff_eq.mpr c102
             clear c102
             obtain rfl := Option.some.inj H
             have hnb103 := NB413_412.out
             have hnc103 := NB412_413.out
             obtain ⟨hcz104_0, hcz104_1, hcz104_2, hcz104_3, hcz104_4, hcz104_5, hcz104_6, hcz104_7, hfz104_0, hfz104_1, hfz104_2, hfz104_3, hfz104_4, hfz104_5, hfz104_6, hfz104_7⟩ := cl8 BK413
             go_wp2
             go_ret
             exact ur (uc HB.out)
            ·rw [if_neg c102] at H
             have c102b0 := beq_eq_false_iff_ne.mpr c102
             have c102b1 := bne_iff_ne.mpr c102
             obtain rfl := Option.some.inj H
             have hnb105 := NB413_412.out
             have hnc105 := NB412_413.out
             obtain ⟨hcz106_0, hcz106_1, hcz106_2, hcz106_3, hcz106_4, hcz106_5, hcz106_6, hcz106_7, hfz106_0, hfz106_1, hfz106_2, hfz106_3, hfz106_4, hfz106_5, hfz106_6, hfz106_7⟩ := cl8 BK413
             go_wp2
             go_ret
             exact ur (uc HB.out)
           ·rw [if_neg c101] at H
            have c101b0 := beq_eq_false_iff_ne.mpr c101
            have c101b1 := bne_iff_ne.mpr c101
            obtain rfl := Option.some.inj H
            have hnb107 := NB413_412.out
            have hnc107 := NB412_413.out
            obtain ⟨hcz108_0, hcz108_1, hcz108_2, hcz108_3, hcz108_4, hcz108_5, hcz108_6, hcz108_7, hfz108_0, hfz108_1, hfz108_2, hfz108_3, hfz108_4, hfz108_5, hfz108_6, hfz108_7⟩ := cl8 BK413
            go_wp2
            go_ret
            exact ur (uc HB.out)
          ·rw [if_neg c100] at H
           have c100b0 := beq_eq_false_iff_ne.mpr c100
           have c100b1 := bne_iff_ne.mpr c100
           obtain rfl := Option.some.inj H
           have hnb109 := NB413_412.out
           have hnc109 := NB412_413.out
           obtain ⟨hcz110_0, hcz110_1, hcz110_2, hcz110_3, hcz110_4, hcz110_5, hcz110_6, hcz110_7, hfz110_0, hfz110_1, hfz110_2, hfz110_3, hfz110_4, hfz110_5, hfz110_6, hfz110_7⟩ := cl8 BK413
           go_wp2
           go_ret
           exact ur (uc HB.out)

end Go.Proofs.Ytlbfeklpncoccaa.P
