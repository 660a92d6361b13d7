/- What functions of the program, and of its laws, give, each proved of its code by a walk; no condition. -/
import Derived.Test.YtlbfeklpncoccaaKTableCapsPx0
import Derived.Test.YtlbfeklpncoccaaKTableCapsPx1
import Derived.Test.YtlbfeklpncoccaaKTableCapsPx4
import Derived.Test.YtlbfeklpncoccaaKTableCapsPx6
import Derived.Test.YtlbfeklpncoccaaKTableCapsPx7
import Derived.Test.YtlbfeklpncoccaaKTableCapsPx17
import Derived.Test.YtlbfeklpncoccaaKTableCapsPx18
import Derived.Test.YtlbfeklpncoccaaKTableCapsPx19
import Derived.Test.YtlbfeklpncoccaaKTableCapsSq
import Derived.Test.YtlbfeklpncoccaaKTableCapsUsh
namespace Go.Proofs.Ytlbfeklpncoccaa.P
open Go.RowKit Go.Proofs.YtlbfeklpncoccaaW.PrintWords Go.Proofs.YtlbfeklpncoccaaW.PrintLast Go.Proofs.YtlbfeklpncoccaaW.PrintMore
attribute [local go_sem] max2_int min2_int max_two min_two max_three min_three max_four min_four   -- for this text's walks alone
set_option linter.unusedVariables false
set_option linter.unusedSimpArgs false

attribute [local go_sem high] eqA37
theorem lit_event {P : Program} {ops : Array Oper} {Q : Exit → Act → World → Prop} {rest : List Oper} {o : Oper} {a : Act} {W : World} (hgd : o.guard = none) {N : Tmp} (_hd : o.dst = some N) {n : Nat} {cs : Array Value} {t : TypeId}
    (hrun : (execOp a.eval o).run P W = .ok (.value (.slice (some ⟨W.heap.size, 0, none⟩) n n)) (W.alloc (.cells cs t (0, 0))))
    (h : ∀ g, g = W.heap.size → ∀ w1, w1.heap[g]? = some (.cells cs t (0, 0)) → Below W.heap.size W w1 → wpList P ops Q rest (a.put o.dst (.slice (some ⟨g, 0, none⟩) n n)) w1) : wpList P ops Q (o :: rest) a W :=
  Kd.event_run hgd hrun (h _ rfl _ (blk_new W _) (below_alloc (Below.refl _ _) _))
theorem C_lit {α : Type} (d : Kd α) {W : World} {g : Nat} {t : TypeId} {cs : Array Value} {xs : List α} (h : W.heap[g]? = some (.cells cs t (0, 0))) (hr : Reps (d.K W) d.sz xs cs.toList) (hm : xs.length ≤ 9223372036854775807) : Kd.C d W (some ⟨g, 0, none⟩) xs.length xs := by
  refine ⟨rfl, hm, fun _ => ⟨_, rfl, fun j p hj => ⟨(cs.toList.drop (j * d.sz)).take d.sz, d.K_len (hr.2 j p hj), hr.2 j p hj, fun i u hu => ?_⟩⟩⟩
  have h1 : cs[j * d.sz + i]? = some u := by
    rw [List.getElem?_take] at hu
    split at hu
    · rw [List.getElem?_drop, Array.getElem?_toList] at hu; exact hu
    · cases hu
  rw [add_plain, blk_cell h, h1]
def curtilagelaw18_TableCaps.j0 : Nat → Int → Int → Int → Bool → Bool → ByteArray → List ByteArray → List (S67) → List (S35) → List (S72) → List Int → List Int → Option (Bool)
  | 0, _, _, _, _, _, _, _, _, _, _, _, _ => none
  | k + 1, x1, x2, x3, x9, x45, x505000, x505001, x505002, x505003, x505004, x505005, x505006 => if x45 = true then (some x9) else ((table_Data.f k x505000 x505001 x505002 x505003 x505004 x505005 x505006 x1 x2).bind fun bt514 => ((curtilageref18_Data.f k x505000 x505001 x505002 x505003 x505004 x505005 x505006 x1 x2).bind fun bt521 => (if (!(bt514.1 == bt521.1) || (!(bt514.2.1 == bt521.2.1) || (!(bt514.2.2.1 == bt521.2.2.1) || (!(bt514.2.2.2.1 == bt521.2.2.2.1) || (!(bt514.2.2.2.2.1 == bt521.2.2.2.2.1) || (!(bt514.2.2.2.2.2 == bt521.2.2.2.2.2))))))) = true then (some false) else (if 0 ≤ x2 then (if x2 < (x505003.length : Int) then (if ((rd_T35 x505003 x2).f4) = 1 then ((table_Entry.f k x505000 x505001 x505002 x505003 x505004 x505005 x505006 x1 x2 x3).bind fun bt528 => ((curtilageref18_Entry.f k x505000 x505001 x505002 x505003 x505004 x505005 x505006 x1 x2 x3).bind fun bt542 => (if x9 = true then (if (bt528.1 == bt542.1 && (bt528.2.1 == bt542.2.1 && (bt528.2.2.1 == bt542.2.2.1 && (bt528.2.2.2.1 == bt542.2.2.2.1 && (bt528.2.2.2.2.1 == bt542.2.2.2.2.1 && (bt528.2.2.2.2.2.1 == bt542.2.2.2.2.2.1)))))) = true then (some (bt528.2.2.2.2.2.2.1 == bt542.2.2.2.2.2.2.1 && (bt528.2.2.2.2.2.2.2.1 == bt542.2.2.2.2.2.2.2.1 && (bt528.2.2.2.2.2.2.2.2.1 == bt542.2.2.2.2.2.2.2.2.1 && (bt528.2.2.2.2.2.2.2.2.2.1 == bt542.2.2.2.2.2.2.2.2.2.1 && (bt528.2.2.2.2.2.2.2.2.2.2.1 == bt542.2.2.2.2.2.2.2.2.2.2.1 && (bt528.2.2.2.2.2.2.2.2.2.2.2 == bt542.2.2.2.2.2.2.2.2.2.2.2))))))) else (some false)) else (some false)))) else (some x9)) else (none)) else (none)))))
def curtilagelaw18_TableCaps.f (k : Nat) (a0_0 : ByteArray) (l0_1 : List ByteArray) (l0_2 : List (S67)) (l0_3 : List (S35)) (l0_4 : List (S72)) (l0_5 : List Int) (l0_6 : List Int) (a1 : Int) (a2 : Int) (a3 : Int) : Option (Bool) := (curtilagelaw18_awake.f k).bind fun t505 => ((curtilageref18_Right.f k [(⟨a0_0, l0_1, l0_2, l0_3, l0_4, l0_5, l0_6⟩ : S28)] (([a1] : List Int)) (([a3] : List Int)) ([] : List (S44))).bind fun t512 => (if t512 = true then (if a2 < 0 then (curtilagelaw18_TableCaps.j0 k a1 a2 a3 t505 true a0_0 l0_1 l0_2 l0_3 l0_4 l0_5 l0_6) else (if a2 ≥ (l0_3.length : Int) then (curtilagelaw18_TableCaps.j0 k a1 a2 a3 t505 true a0_0 l0_1 l0_2 l0_3 l0_4 l0_5 l0_6) else (if 0 ≤ a2 then (if a2 < (l0_3.length : Int) then (curtilagelaw18_TableCaps.j0 k a1 a2 a3 t505 (!((rd_T35 l0_3 a2).f7)) a0_0 l0_1 l0_2 l0_3 l0_4 l0_5 l0_6) else (none)) else (none)))) else (curtilagelaw18_TableCaps.j0 k a1 a2 a3 t505 true a0_0 l0_1 l0_2 l0_3 l0_4 l0_5 l0_6)))
theorem curtilagelaw18_TableCaps.mono_l : ∀ k, (∀ y0 y1 y2 y3 y4 y5 y6 y7 y8 y9 y10 y11, LeO (curtilagelaw18_TableCaps.j0 k y0 y1 y2 y3 y4 y5 y6 y7 y8 y9 y10 y11) (curtilagelaw18_TableCaps.j0 (k + 1) y0 y1 y2 y3 y4 y5 y6 y7 y8 y9 y10 y11))
  | 0 => fun _ _ _ _ _ _ _ _ _ _ _ _ r h => by simp [curtilagelaw18_TableCaps.j0] at h
  | k + 1 => by
    have ih0 := curtilagelaw18_TableCaps.mono_l k
    · intro y0 y1 y2 y3 y4 y5 y6 y7 y8 y9 y10 y11
      unfold curtilagelaw18_TableCaps.j0
      repeat' first
      | (with_reducible exact ih0 _ _ _ _ _ _ _ _ _ _ _ _)
      | (with_reducible exact curtilagelaw18_awake.mono _)
      | (with_reducible exact curtilageref18_Data.mono _ _ _ _ _ _ _ _ _ _)
      | (with_reducible exact curtilageref18_Entry.mono _ _ _ _ _ _ _ _ _ _ _)
      | (with_reducible exact curtilageref18_Right.mono _ _ _ _ _)
      | (with_reducible exact table_Data.mono _ _ _ _ _ _ _ _ _ _)
      | (with_reducible exact table_Entry.mono _ _ _ _ _ _ _ _ _ _ _)
      | (with_reducible exact LeO.refl _)
      | (with_reducible exact LeO.none _)
      | (with_reducible refine LeO.ite ?_ ?_)
      | (with_reducible refine LeO.bind ?_ (fun _ => ?_))
      | exact ih0 _ _ _ _ _ _ _ _ _ _ _ _
      | exact curtilagelaw18_awake.mono _
      | exact curtilageref18_Data.mono _ _ _ _ _ _ _ _ _ _
      | exact curtilageref18_Entry.mono _ _ _ _ _ _ _ _ _ _ _
      | exact curtilageref18_Right.mono _ _ _ _ _
      | exact table_Data.mono _ _ _ _ _ _ _ _ _ _
      | exact table_Entry.mono _ _ _ _ _ _ _ _ _ _ _
      | exact LeO.none _
      | refine LeO.ite ?_ ?_
      | refine LeO.bind ?_ (fun _ => ?_)
theorem curtilagelaw18_TableCaps.mono : ∀ a0 a1 a2 a3 a4 a5 a6 a7 a8 a9 k, LeO (curtilagelaw18_TableCaps.f k a0 a1 a2 a3 a4 a5 a6 a7 a8 a9) (curtilagelaw18_TableCaps.f (k + 1) a0 a1 a2 a3 a4 a5 a6 a7 a8 a9) := by
  intro a0 a1 a2 a3 a4 a5 a6 a7 a8 a9 k
  have ih0 := curtilagelaw18_TableCaps.mono_l k
  unfold curtilagelaw18_TableCaps.f
  repeat' first
      | (with_reducible exact ih0 _ _ _ _ _ _ _ _ _ _ _ _)
      | (with_reducible exact curtilagelaw18_awake.mono _)
      | (with_reducible exact curtilageref18_Data.mono _ _ _ _ _ _ _ _ _ _)
      | (with_reducible exact curtilageref18_Entry.mono _ _ _ _ _ _ _ _ _ _ _)
      | (with_reducible exact curtilageref18_Right.mono _ _ _ _ _)
      | (with_reducible exact table_Data.mono _ _ _ _ _ _ _ _ _ _)
      | (with_reducible exact table_Entry.mono _ _ _ _ _ _ _ _ _ _ _)
      | (with_reducible exact LeO.refl _)
      | (with_reducible exact LeO.none _)
      | (with_reducible refine LeO.ite ?_ ?_)
      | (with_reducible refine LeO.bind ?_ (fun _ => ?_))
      | exact ih0 _ _ _ _ _ _ _ _ _ _ _ _
      | exact curtilagelaw18_awake.mono _
      | exact curtilageref18_Data.mono _ _ _ _ _ _ _ _ _ _
      | exact curtilageref18_Entry.mono _ _ _ _ _ _ _ _ _ _ _
      | exact curtilageref18_Right.mono _ _ _ _ _
      | exact table_Data.mono _ _ _ _ _ _ _ _ _ _
      | exact table_Entry.mono _ _ _ _ _ _ _ _ _ _ _
      | exact LeO.none _
      | refine LeO.ite ?_ ?_
      | refine LeO.bind ?_ (fun _ => ?_)
set_option maxHeartbeats 8000000 in
set_option maxRecDepth 100000 in
theorem curtilagelaw18_TableCaps.calls (k : Nat) (a0_0 : ByteArray) (A0_1 : Option Addr) (c0_1 : Nat) (l0_1 : List ByteArray) (A0_2 : Option Addr) (c0_2 : Nat) (l0_2 : List (S67)) (A0_3 : Option Addr) (c0_3 : Nat) (l0_3 : List (S35)) (A0_4 : Option Addr) (c0_4 : Nat) (l0_4 : List (S72)) (A0_5 : Option Addr) (c0_5 : Nat) (l0_5 : List Int) (A0_6 : Option Addr) (c0_6 : Nat) (l0_6 : List Int) (a1 : Int) (a2 : Int) (a3 : Int) (r : Bool) (w : World) (hr0_1 : Kd.C Kd.string w A0_1 l0_1.length l0_1) (hc0_1 : l0_1.length ≤ c0_1) (hr0_2 : Kd.C k67 w A0_2 l0_2.length l0_2) (hc0_2 : l0_2.length ≤ c0_2) (hr0_3 : Kd.C k35 w A0_3 l0_3.length l0_3) (hc0_3 : l0_3.length ≤ c0_3) (hr0_4 : Kd.C k72 w A0_4 l0_4.length l0_4) (hc0_4 : l0_4.length ≤ c0_4) (hr0_5 : Kd.C (Kd.int .i64) w A0_5 l0_5.length l0_5) (hc0_5 : l0_5.length ≤ c0_5) (hr0_6 : Kd.C (Kd.int .i64) w A0_6 l0_6.length l0_6) (hc0_6 : l0_6.length ≤ c0_6) (h : curtilagelaw18_TableCaps.f k a0_0 l0_1 l0_2 l0_3 l0_4 l0_5 l0_6 a1 a2 a3 = some r) (hr0 : r = true) :
  Calls Try.prog 3 #[.agg #[.string a0_0, .slice A0_1 l0_1.length c0_1, .slice A0_2 l0_2.length c0_2, .slice A0_3 l0_3.length c0_3, .slice A0_4 l0_4.length c0_4, .slice A0_5 l0_5.length c0_5, .slice A0_6 l0_6.length c0_6], .int .u64 a1, .int .i64 a2, .int .i64 a3] w fun e w' => e = .returned (.bool r) ∧ Below w.heap.size w w' := by
 have HT := am hr0
 clear hr0
 have hu28 := Try.underlying28
 have hu37 := Try.underlying37
 have HR0_1 := am hr0_1
 have HC0_1 := am hc0_1
 clear hr0_1 hc0_1
 have HR0_2 := am hr0_2
 have HC0_2 := am hc0_2
 clear hr0_2 hc0_2
 have HR0_3 := am hr0_3
 have HC0_3 := am hc0_3
 clear hr0_3 hc0_3
 have HR0_4 := am hr0_4
 have HC0_4 := am hc0_4
 clear hr0_4 hc0_4
 have HR0_5 := am hr0_5
 have HC0_5 := am hc0_5
 clear hr0_5 hc0_5
 have HR0_6 := am hr0_6
 have HC0_6 := am hc0_6
 clear hr0_6 hc0_6
 have HB := am (Below.refl w.heap.size w)
 have H : ((curtilagelaw18_awake.f k).bind fun t505 => ((curtilageref18_Right.f k [(⟨a0_0, l0_1, l0_2, l0_3, l0_4, l0_5, l0_6⟩ : S28)] (([a1] : List Int)) (([a3] : List Int)) ([] : List (S44))).bind fun t512 => (if t512 = true then (if a2 < 0 then (curtilagelaw18_TableCaps.j0 k a1 a2 a3 t505 true a0_0 l0_1 l0_2 l0_3 l0_4 l0_5 l0_6) else (if a2 ≥ (l0_3.length : Int) then (curtilagelaw18_TableCaps.j0 k a1 a2 a3 t505 true a0_0 l0_1 l0_2 l0_3 l0_4 l0_5 l0_6) else (if 0 ≤ a2 then (if a2 < (l0_3.length : Int) then (curtilagelaw18_TableCaps.j0 k a1 a2 a3 t505 (!((rd_T35 l0_3 a2).f7)) a0_0 l0_1 l0_2 l0_3 l0_4 l0_5 l0_6) else (none)) else (none)))) else (curtilagelaw18_TableCaps.j0 k a1 a2 a3 t505 true a0_0 l0_1 l0_2 l0_3 l0_4 l0_5 l0_6)))) = some r := h
 clear h
 replace H := Option.bind_eq_some_iff.mp H
 obtain ⟨t505, A50, H⟩ := H
 replace H : ((curtilageref18_Right.f k [(⟨a0_0, l0_1, l0_2, l0_3, l0_4, l0_5, l0_6⟩ : S28)] (([a1] : List Int)) (([a3] : List Int)) ([] : List (S44))).bind fun t512 => (if t512 = true then (if a2 < 0 then (curtilagelaw18_TableCaps.j0 k a1 a2 a3 t505 true a0_0 l0_1 l0_2 l0_3 l0_4 l0_5 l0_6) else (if a2 ≥ (l0_3.length : Int) then (curtilagelaw18_TableCaps.j0 k a1 a2 a3 t505 true a0_0 l0_1 l0_2 l0_3 l0_4 l0_5 l0_6) else (if 0 ≤ a2 then (if a2 < (l0_3.length : Int) then (curtilagelaw18_TableCaps.j0 k a1 a2 a3 t505 (!((rd_T35 l0_3 a2).f7)) a0_0 l0_1 l0_2 l0_3 l0_4 l0_5 l0_6) else (none)) else (none)))) else (curtilagelaw18_TableCaps.j0 k a1 a2 a3 t505 true a0_0 l0_1 l0_2 l0_3 l0_4 l0_5 l0_6))) = some r := H
 have A5 := am A50
 clear A50
 obtain ⟨y506, hy506⟩ : ∃ y_ : List Int, y_ = (([a1] : List Int)) := ⟨_, rfl⟩
 replace H : ((curtilageref18_Right.f k [(⟨a0_0, l0_1, l0_2, l0_3, l0_4, l0_5, l0_6⟩ : S28)] y506 (([a3] : List Int)) ([] : List (S44))).bind fun t512 => (if t512 = true then (if a2 < 0 then (curtilagelaw18_TableCaps.j0 k a1 a2 a3 t505 true a0_0 l0_1 l0_2 l0_3 l0_4 l0_5 l0_6) else (if a2 ≥ (l0_3.length : Int) then (curtilagelaw18_TableCaps.j0 k a1 a2 a3 t505 true a0_0 l0_1 l0_2 l0_3 l0_4 l0_5 l0_6) else (if 0 ≤ a2 then (if a2 < (l0_3.length : Int) then (curtilagelaw18_TableCaps.j0 k a1 a2 a3 t505 (!((rd_T35 l0_3 a2).f7)) a0_0 l0_1 l0_2 l0_3 l0_4 l0_5 l0_6) else (none)) else (none)))) else (curtilagelaw18_TableCaps.j0 k a1 a2 a3 t505 true a0_0 l0_1 l0_2 l0_3 l0_4 l0_5 l0_6))) = some r := by first | (rw [hy506]; with_reducible exact H) | (have H2_ := (Option.bind_some _ _).symm.trans H; rw [hy506]; with_reducible exact H2_) | (have H2_ := (Option.bind_some _ _).symm.trans H; with_reducible exact H2_) | with_reducible exact H | (rw [hy506]; exact H) | exact H
 have Ny506 := am hy506
 clear hy506
 obtain ⟨y509, hy509⟩ : ∃ y_ : List Int, y_ = (([a3] : List Int)) := ⟨_, rfl⟩
 replace H : ((curtilageref18_Right.f k [(⟨a0_0, l0_1, l0_2, l0_3, l0_4, l0_5, l0_6⟩ : S28)] y506 y509 ([] : List (S44))).bind fun t512 => (if t512 = true then (if a2 < 0 then (curtilagelaw18_TableCaps.j0 k a1 a2 a3 t505 true a0_0 l0_1 l0_2 l0_3 l0_4 l0_5 l0_6) else (if a2 ≥ (l0_3.length : Int) then (curtilagelaw18_TableCaps.j0 k a1 a2 a3 t505 true a0_0 l0_1 l0_2 l0_3 l0_4 l0_5 l0_6) else (if 0 ≤ a2 then (if a2 < (l0_3.length : Int) then (curtilagelaw18_TableCaps.j0 k a1 a2 a3 t505 (!((rd_T35 l0_3 a2).f7)) a0_0 l0_1 l0_2 l0_3 l0_4 l0_5 l0_6) else (none)) else (none)))) else (curtilagelaw18_TableCaps.j0 k a1 a2 a3 t505 true a0_0 l0_1 l0_2 l0_3 l0_4 l0_5 l0_6))) = some r := by first | (rw [hy509]; with_reducible exact H) | (have H2_ := (Option.bind_some _ _).symm.trans H; rw [hy509]; with_reducible exact H2_) | (have H2_ := (Option.bind_some _ _).symm.trans H; with_reducible exact H2_) | with_reducible exact H | (rw [hy509]; exact H) | exact H
 have Ny509 := am hy509
 clear hy509
 replace H := Option.bind_eq_some_iff.mp H
 obtain ⟨t512, A60, H⟩ := H
 replace H : (if t512 = true then (if a2 < 0 then (curtilagelaw18_TableCaps.j0 k a1 a2 a3 t505 true a0_0 l0_1 l0_2 l0_3 l0_4 l0_5 l0_6) else (if a2 ≥ (l0_3.length : Int) then (curtilagelaw18_TableCaps.j0 k a1 a2 a3 t505 true a0_0 l0_1 l0_2 l0_3 l0_4 l0_5 l0_6) else (if 0 ≤ a2 then (if a2 < (l0_3.length : Int) then (curtilagelaw18_TableCaps.j0 k a1 a2 a3 t505 (!((rd_T35 l0_3 a2).f7)) a0_0 l0_1 l0_2 l0_3 l0_4 l0_5 l0_6) else (none)) else (none)))) else (curtilagelaw18_TableCaps.j0 k a1 a2 a3 t505 true a0_0 l0_1 l0_2 l0_3 l0_4 l0_5 l0_6)) = some r := H
 have A6 := am A60
 clear A60
 have HC7 := am H
 clear H
 go_enter Try.func3, Try.ntmps3
 go_upto_region 3 with (first | ((with_reducible refine gate_dst (N := 4) rfl ?_); (try (refine gate_guard (by rfl) ?_; dsimp only)); refine box_event ?hg (N := 4) ?hd (cs := #[.string a0_0, .slice A0_1 l0_1.length c0_1, .slice A0_2 l0_2.length c0_2, .slice A0_3 l0_3.length c0_3, .slice A0_4 l0_4.length c0_4, .slice A0_5 l0_5.length c0_5, .slice A0_6 l0_6.length c0_6]) (t := 28) ?hr ?_; (case hd => rfl); (case hg => rfl); (case hr => first | (go_simp; done) | (go_simp; rfl)); intro gb504 hg w8 hbox hb; have n0_ := bs HB hb; have n1_ := am (hbox); have n2_ := nz HB hg; have n3_ := nz HB hg; revert n0_ n1_ n2_ n3_; clear HB; intro HB BK504 GW504 GE504; clear hb hbox hg) | ((with_reducible refine gate_dst (N := 16) rfl ?_); (with_reducible refine gate_callee (f := 6) rfl ?_); refine gl (some 16) Try.func6 #[] ?_; (with_reducible refine (curtilagelaw18_awake.calls k  t505 _ A5.out).mono ?_); rintro e w9 ⟨rfl, hb⟩; refine ⟨_, rfl, ?_⟩; have n0_ := bw BK504 hb; have n1_ := bs HB hb; revert n0_ n1_; clear BK504 HB; intro BK504 HB; (try clear hb); obtain ⟨hcz10_0, hcz10_1, hcz10_2, hcz10_3, hcz10_4, hcz10_5, hcz10_6, hfz10_0, hfz10_1, hfz10_2, hfz10_3, hfz10_4, hfz10_5, hfz10_6⟩ := cells7 BK504.out) | ((with_reducible refine gate_dst (N := 18) rfl ?_); (try (refine gate_guard (by rfl) ?_; dsimp only)); refine lit_event ?hg (N := 18) ?hd (n := 1) (cs := #[.string a0_0, .slice A0_1 l0_1.length c0_1, .slice A0_2 l0_2.length c0_2, .slice A0_3 l0_3.length c0_3, .slice A0_4 l0_4.length c0_4, .slice A0_5 l0_5.length c0_5, .slice A0_6 l0_6.length c0_6]) (t := 28) ?hr ?_; (case hd => rfl); (case hg => rfl); (case hr => first | (go_simp; done) | (go_simp; rfl)); intro gL hg wL hbox hb; have n0_ := am (blk_below (g := gb504) (o := .cells #[.string a0_0, .slice A0_1 l0_1.length c0_1, .slice A0_2 l0_2.length c0_2, .slice A0_3 l0_3.length c0_3, .slice A0_4 l0_4.length c0_4, .slice A0_5 l0_5.length c0_5, .slice A0_6 l0_6.length c0_6] 28 (0, 0)) BK504.out hb); have n1_ := bs HB hb; revert n0_ n1_; clear BK504 HB; intro BK504 HB; have HRL := am (C_lit k28 (xs := [(⟨a0_0, l0_1, l0_2, l0_3, l0_4, l0_5, l0_6⟩ : S28)]) hbox (Reps.snoc (Reps.none _ _) (k28_mk wL (⟨a0_0, l0_1, l0_2, l0_3, l0_4, l0_5, l0_6⟩ : S28) HC0_1.out (Kd.C_below HR0_1.out HB.out) HC0_2.out (Kd.C_below HR0_2.out HB.out) HC0_3.out (Kd.C_below HR0_3.out HB.out) HC0_4.out (Kd.C_below HR0_4.out HB.out) HC0_5.out (Kd.C_below HR0_5.out HB.out) HC0_6.out (Kd.C_below HR0_6.out HB.out)) rfl) (by simp)); clear hb hbox hg) | ((with_reducible refine gate_dst (N := 20) rfl ?_); (try (refine gate_guard (by rfl) ?_; dsimp only)); refine Kd.R_lit (Kd.int .u64) _ 29 ?hg (N := 20) ?hd (xs := ([a1] : List Int)) (inner := [.int .u64 a1]) (ok := fun _ => True) (okp := fun _ => True) ?hr ?hp (fun _ hk => hk) trivial (Below.refl _ _) (Nat.le_refl _) (by simp) ?_; (case hd => rfl); (case hg => rfl); (case hr => first | (go_simp; done) | (go_simp; rfl)); (case hp => exact (Reps.one (show Kd.M (Kd.int .u64) _ _ _ a1 [.int .u64 a1] from rfl) (Reps.none _ _))); intro v507 w11 ho12 hb hg_ hnew_; clear hg_ hnew_; have nL_ := am (Kd.C_below (by exact us HRL.out) hb); clear HRL; have HRL := nL_; clear nL_; (first | rw [← Ny506.out] at ho12 | (simp only [Int.reduceToNat] at ho12; rw [← Ny506.out] at ho12)); have n0_ := am (Kd.R_lower ho12 (below_size (uc HB.out))); have n1_ := bw BK504 hb; have n2_ := bs HB hb; revert n0_ n1_ n2_; clear BK504 HB; intro HO508 BK504 HB; clear hb ho12) | ((with_reducible refine gate_dst (N := 22) rfl ?_); (try (refine gate_guard (by rfl) ?_; dsimp only)); refine Kd.R_lit (Kd.int .i64) _ 3 ?hg (N := 22) ?hd (xs := ([a3] : List Int)) (inner := [.int .i64 a3]) (ok := fun _ => True) (okp := fun _ => True) ?hr ?hp (fun _ hk => hk) trivial (Below.refl _ _) (Nat.le_refl _) (by simp) ?_; (case hd => rfl); (case hg => rfl); (case hr => first | (go_simp; done) | (go_simp; rfl)); (case hp => exact (Reps.one (show Kd.M (Kd.int .i64) _ _ _ a3 [.int .i64 a3] from rfl) (Reps.none _ _))); intro v510 w13 ho14 hb hg_ hnew_; clear hg_ hnew_; have nL_ := am (Kd.C_below (by exact us HRL.out) hb); clear HRL; have HRL := nL_; clear nL_; (first | rw [← Ny509.out] at ho14 | (simp only [Int.reduceToNat] at ho14; rw [← Ny509.out] at ho14)); have n0_ := am (Kd.R_below (ua HO508.out) hb); have n1_ := am (Kd.R_lower ho14 (below_size (uc HB.out))); have n2_ := bw BK504 hb; have n3_ := bs HB hb; revert n0_ n1_ n2_ n3_; clear HO508 BK504 HB; intro HO508 HO511 BK504 HB; clear hb ho14; obtain ⟨Ao15, co15, eo15⟩ := Kd.R_slice HO508.out; subst eo15; obtain ⟨Ao16, co16, eo16⟩ := Kd.R_slice HO511.out; subst eo16) | ((with_reducible refine gate_dst (N := 23) rfl ?_); (with_reducible refine gate_callee (f := 7) rfl ?_); refine gl (some 23) Try.func7 #[.slice (some ⟨gL, 0, none⟩) 1 1, .slice Ao15 y506.length co15, .slice Ao16 y509.length co16, .slice none 0 0] ?_; (refine (curtilageref18_Right.calls k _ _ [(⟨a0_0, l0_1, l0_2, l0_3, l0_4, l0_5, l0_6⟩ : S28)] _ _ y506 _ _ y509 _ _ ([] : List (S44)) t512 _ ?side1 ?side2 ?side3 ?side4 ?side5 ?side6 ?side7 ?side8 A6.out).mono ?_); (case side1 => exact us HRL.out); (case side2 => exact Nat.le_refl _); (case side3 => exact us (Kd.R_reads' HO508.out).2.2); (case side4 => exact (Kd.R_reads' HO508.out).2.1); (case side5 => exact us (Kd.R_reads' HO511.out).2.2); (case side6 => exact (Kd.R_reads' HO511.out).2.1); (case side7 => exact Kd.C_nil _ _); (case side8 => exact Nat.le_refl _); rintro e w17 ⟨rfl, hb⟩; refine ⟨_, rfl, ?_⟩; have n0_ := am (Kd.R_below (ua HO508.out) hb); have n1_ := am (Kd.R_below (ua HO511.out) hb); have n2_ := bw BK504 hb; have n3_ := bs HB hb; revert n0_ n1_ n2_ n3_; clear HO508 HO511 BK504 HB; intro HO508 HO511 BK504 HB; (try clear hb)))
 (try simp only [Act.put, List.setIfInBounds_toArray, List.set_cons_zero, List.set_cons_succ])
 go_cut [45] (fun v45 wc => ∃ (kq : Nat) (x45_6 : Bool), v45 = .bool x45_6 ∧ Aside0 (curtilagelaw18_TableCaps.j0 kq a1 a2 a3 t505 x45_6 a0_0 l0_1 l0_2 l0_3 l0_4 l0_5 l0_6 = some r) ∧ Aside0 (kq ≤ k) ∧ Aside0 (wc.heap[gb504]? = some (.cells #[.string a0_0, (.slice A0_1 l0_1.length c0_1), (.slice A0_2 l0_2.length c0_2), (.slice A0_3 l0_3.length c0_3), (.slice A0_4 l0_4.length c0_4), (.slice A0_5 l0_5.length c0_5), (.slice A0_6 l0_6.length c0_6)] 28 (0, 0))) ∧ Aside0 (Below w.heap.size w wc))
 case first =>
  have H := HC7.out
  clear HC7
  by_cases c18 : t512 = true
  ·subst c18
   have H1 : (if a2 < 0 then (curtilagelaw18_TableCaps.j0 k a1 a2 a3 t505 true a0_0 l0_1 l0_2 l0_3 l0_4 l0_5 l0_6) else (if a2 ≥ (l0_3.length : Int) then (curtilagelaw18_TableCaps.j0 k a1 a2 a3 t505 true a0_0 l0_1 l0_2 l0_3 l0_4 l0_5 l0_6) else (if 0 ≤ a2 then (if a2 < (l0_3.length : Int) then (curtilagelaw18_TableCaps.j0 k a1 a2 a3 t505 (!((rd_T35 l0_3 a2).f7)) a0_0 l0_1 l0_2 l0_3 l0_4 l0_5 l0_6) else (none)) else (none)))) = some r := by rw [if_pos rfl] at H; exact H
   clear H
   have H := H1
   clear H1
   by_cases c19 : a2 < 0
   ·rw [if_pos c19] at H
    have c19b0 : decide (a2 < 0) = true := decide_eq_true c19
    clear c19
    (first | rw [c19b0] | (simp only [i64_w, i32_w]; rw [c19b0]) | skip)
    have H' := am H
    clear H
    go_wp2
    go_meet
    case rel => exact ⟨_, (true), uf, H', ⟨by first | omega | exact Nat.le_refl _⟩, ⟨ub BK504.out⟩, ⟨uc HB.out⟩⟩
   ·rw [if_neg c19] at H
    have c19b0 : decide (a2 < 0) = false := decide_eq_false c19
    clear c19
    (first | rw [c19b0] | (simp only [i64_w, i32_w]; rw [c19b0]) | skip)
    by_cases c20 : a2 ≥ (l0_3.length : Int)
    ·rw [if_pos c20] at H
     have c20b0 : decide ((l0_3.length : Int) ≤ a2) = true := decide_eq_true c20
     clear c20
     have H' := am H
     clear H
     have hcz21_0 : w17.cell? ⟨gb504, 0, none⟩ = some (.string a0_0) := cz BK504 0
     have hcz21_1 : w17.cell? ⟨gb504, 1, none⟩ = some (.slice A0_1 l0_1.length c0_1) := cz BK504 1
     have hcz21_2 : w17.cell? ⟨gb504, 2, none⟩ = some (.slice A0_2 l0_2.length c0_2) := cz BK504 2
     have hcz21_3 : w17.cell? ⟨gb504, 3, none⟩ = some (.slice A0_3 l0_3.length c0_3) := cz BK504 3
     have hcz21_4 : w17.cell? ⟨gb504, 4, none⟩ = some (.slice A0_4 l0_4.length c0_4) := cz BK504 4
     have hcz21_5 : w17.cell? ⟨gb504, 5, none⟩ = some (.slice A0_5 l0_5.length c0_5) := cz BK504 5
     have hcz21_6 : w17.cell? ⟨gb504, 6, none⟩ = some (.slice A0_6 l0_6.length c0_6) := cz BK504 6
     have hfz21_0 := fz BK504 0
     have hfz21_1 := fz BK504 1
     have hfz21_2 := fz BK504 2
     have hfz21_3 := fz BK504 3
     have hfz21_4 := fz BK504 4
     have hfz21_5 := fz BK504 5
     have hfz21_6 := fz BK504 6
     go_wp2
     go_meet
     case rel => exact ⟨_, (true), uf, H', ⟨by first | omega | exact Nat.le_refl _⟩, ⟨ub BK504.out⟩, ⟨uc HB.out⟩⟩
    ·rw [if_neg c20] at H
     have c20b0 : decide ((l0_3.length : Int) ≤ a2) = false := decide_eq_false c20
     clear c20
     by_cases c22 : 0 ≤ a2
     ·rw [if_pos c22] at H
      have c22b0 : decide (0 ≤ a2) = true := decide_eq_true c22
      clear c22
      by_cases c23 : a2 < (l0_3.length : Int)
      ·rw [if_pos c23] at H
       have c23b0 : decide (a2 < (l0_3.length : Int)) = true := decide_eq_true c23
       clear c23
       have H' := am H
       clear H
       have hcz24_0 : w17.cell? ⟨gb504, 0, none⟩ = some (.string a0_0) := cz BK504 0
       have hcz24_1 : w17.cell? ⟨gb504, 1, none⟩ = some (.slice A0_1 l0_1.length c0_1) := cz BK504 1
       have hcz24_2 : w17.cell? ⟨gb504, 2, none⟩ = some (.slice A0_2 l0_2.length c0_2) := cz BK504 2
       have hcz24_3 : w17.cell? ⟨gb504, 3, none⟩ = some (.slice A0_3 l0_3.length c0_3) := cz BK504 3
       have hcz24_4 : w17.cell? ⟨gb504, 4, none⟩ = some (.slice A0_4 l0_4.length c0_4) := cz BK504 4
       have hcz24_5 : w17.cell? ⟨gb504, 5, none⟩ = some (.slice A0_5 l0_5.length c0_5) := cz BK504 5
       have hcz24_6 : w17.cell? ⟨gb504, 6, none⟩ = some (.slice A0_6 l0_6.length c0_6) := cz BK504 6
       have hfz24_0 := fz BK504 0
       have hfz24_1 := fz BK504 1
       have hfz24_2 := fz BK504 2
       have hfz24_3 := fz BK504 3
       have hfz24_4 := fz BK504 4
       have hfz24_5 := fz BK504 5
       have hfz24_6 := fz BK504 6
       have p513 : 0 ≤ (a2 : Int) := ud
       have q513 : a2 < (l0_3.length : Int) := ud
       obtain ⟨ad513, e513, hx513_0, hx513_1, hx513_2, hx513_3, hx513_4, hx513_5, hx513_6, hx513_7⟩ := at_T35 HR0_3.out a2 p513 q513
       cases e513
       replace hx513_0 := bcel HB hx513_0
       replace hx513_1 := bcel HB hx513_1
       replace hx513_2 := bcel HB hx513_2
       replace hx513_3 := bcel HB hx513_3
       replace hx513_4 := bcel HB hx513_4
       replace hx513_5 := bcel HB hx513_5
       replace hx513_6 := bcel HB hx513_6
       replace hx513_7 := bcel HB hx513_7
       replace p513 := eq_true p513
       replace q513 := eq_true q513
       go_wp2
       go_meet
       case rel => exact ⟨_, (!((rd_T35 l0_3 a2).f7)), uf, H', ⟨by first | omega | exact Nat.le_refl _⟩, ⟨ub BK504.out⟩, ⟨uc HB.out⟩⟩
      ·rw [if_neg c23] at H
       exact absurd H (by simp)
     ·rw [if_neg c22] at H
      exact absurd H (by simp)
  ·replace c18 := Bool.eq_false_iff.mpr c18
   subst c18
   have H1 : (curtilagelaw18_TableCaps.j0 k a1 a2 a3 t505 true a0_0 l0_1 l0_2 l0_3 l0_4 l0_5 l0_6) = some r := by rw [if_neg (show ¬ (false = true) by decide)] at H; exact H
   clear H
   have H := H1
   clear H1
   have H' := am H
   clear H
   go_wp2
   go_meet
   case rel => exact ⟨_, (true), uf, H', ⟨by first | omega | exact Nat.le_refl _⟩, ⟨ub BK504.out⟩, ⟨uc HB.out⟩⟩
 case rest =>
  clear HC7
  try clear c1
  try clear c2
  try clear p2
  try clear c3
  try clear p5
  try clear q5
  try clear hx5
  try clear c6
  try clear c7
  try clear c18
  try clear c19
  try clear c19b0
  try clear c20
  try clear c20b0
  try clear c22
  try clear c22b0
  try clear c23
  try clear c23b0
  try clear hcz10_0
  try clear hcz10_1
  try clear hcz10_2
  try clear hcz10_3
  try clear hcz10_4
  try clear hcz10_5
  try clear hcz10_6
  try clear hcz21_0
  try clear hcz21_1
  try clear hcz21_2
  try clear hcz21_3
  try clear hcz21_4
  try clear hcz21_5
  try clear hcz21_6
  try clear hcz24_0
  try clear hcz24_1
  try clear hcz24_2
  try clear hcz24_3
  try clear hcz24_4
  try clear hcz24_5
  try clear hcz24_6
  try clear hfz10_0
  try clear hfz10_1
  try clear hfz10_2
  try clear hfz10_3
  try clear hfz10_4
  try clear hfz10_5
  try clear hfz10_6
  try clear hfz21_0
  try clear hfz21_1
  try clear hfz21_2
  try clear hfz21_3
  try clear hfz21_4
  try clear hfz21_5
  try clear hfz21_6
  try clear hfz24_0
  try clear hfz24_1
  try clear hfz24_2
  try clear hfz24_3
  try clear hfz24_4
  try clear hfz24_5
  try clear hfz24_6
  try clear hx513_0
  try clear hx513_1
  try clear hx513_2
  try clear hx513_3
  try clear hx513_4
  try clear hx513_5
  try clear hx513_6
  try clear hx513_7
  try clear p513
  try clear q513
  obtain ⟨kq, x45_6, rfl, HA, HJ6, BK504, HB⟩ := hcut
  cases kq with
  | zero => exact absurd HA.out (by simp [curtilagelaw18_TableCaps.j0])
  | succ kj6 =>
   have H := HA.out
   clear HA
   simp only [curtilagelaw18_TableCaps.j0] at H
   by_cases c25 : x45_6 = true
   ·subst c25
    have H1 : (some t505) = some r := by rw [if_pos rfl] at H; exact H
    clear H
    have H := H1
    clear H1
    obtain rfl := Option.some.inj H
    go_wp2
    go_ret
    exact ⟨by first | rfl | (simp [errW_none, errW_some] <;> rfl) | (simp [*, errW_none, errW_some] <;> rfl), uc HB.out⟩
   ·replace c25 := Bool.eq_false_iff.mpr c25
    subst c25
    have H1 : ((table_Data.f kj6 a0_0 l0_1 l0_2 l0_3 l0_4 l0_5 l0_6 a1 a2).bind fun bt514 => ((curtilageref18_Data.f kj6 a0_0 l0_1 l0_2 l0_3 l0_4 l0_5 l0_6 a1 a2).bind fun bt521 => (if (!(bt514.1 == bt521.1) || (!(bt514.2.1 == bt521.2.1) || (!(bt514.2.2.1 == bt521.2.2.1) || (!(bt514.2.2.2.1 == bt521.2.2.2.1) || (!(bt514.2.2.2.2.1 == bt521.2.2.2.2.1) || (!(bt514.2.2.2.2.2 == bt521.2.2.2.2.2))))))) = true then (some false) else (if 0 ≤ a2 then (if a2 < (l0_3.length : Int) then (if ((rd_T35 l0_3 a2).f4) = 1 then ((table_Entry.f kj6 a0_0 l0_1 l0_2 l0_3 l0_4 l0_5 l0_6 a1 a2 a3).bind fun bt528 => ((curtilageref18_Entry.f kj6 a0_0 l0_1 l0_2 l0_3 l0_4 l0_5 l0_6 a1 a2 a3).bind fun bt542 => (if t505 = true then (if (bt528.1 == bt542.1 && (bt528.2.1 == bt542.2.1 && (bt528.2.2.1 == bt542.2.2.1 && (bt528.2.2.2.1 == bt542.2.2.2.1 && (bt528.2.2.2.2.1 == bt542.2.2.2.2.1 && (bt528.2.2.2.2.2.1 == bt542.2.2.2.2.2.1)))))) = true then (some (bt528.2.2.2.2.2.2.1 == bt542.2.2.2.2.2.2.1 && (bt528.2.2.2.2.2.2.2.1 == bt542.2.2.2.2.2.2.2.1 && (bt528.2.2.2.2.2.2.2.2.1 == bt542.2.2.2.2.2.2.2.2.1 && (bt528.2.2.2.2.2.2.2.2.2.1 == bt542.2.2.2.2.2.2.2.2.2.1 && (bt528.2.2.2.2.2.2.2.2.2.2.1 == bt542.2.2.2.2.2.2.2.2.2.2.1 && (bt528.2.2.2.2.2.2.2.2.2.2.2 == bt542.2.2.2.2.2.2.2.2.2.2.2))))))) else (some false)) else (some false)))) else (some t505)) else (none)) else (none))))) = some r := by rw [if_neg (show ¬ (false = true) by decide)] at H; exact H
    clear H
    have H := H1
    clear H1
    replace H := Option.bind_eq_some_iff.mp H
    obtain ⟨⟨t514, t515, t516, t517, t518, t519⟩, A260, H⟩ := H
    replace H : ((curtilageref18_Data.f kj6 a0_0 l0_1 l0_2 l0_3 l0_4 l0_5 l0_6 a1 a2).bind fun bt521 => (if (!(t514 == bt521.1) || (!(t515 == bt521.2.1) || (!(t516 == bt521.2.2.1) || (!(t517 == bt521.2.2.2.1) || (!(t518 == bt521.2.2.2.2.1) || (!(t519 == bt521.2.2.2.2.2))))))) = true then (some false) else (if 0 ≤ a2 then (if a2 < (l0_3.length : Int) then (if ((rd_T35 l0_3 a2).f4) = 1 then ((table_Entry.f kj6 a0_0 l0_1 l0_2 l0_3 l0_4 l0_5 l0_6 a1 a2 a3).bind fun bt528 => ((curtilageref18_Entry.f kj6 a0_0 l0_1 l0_2 l0_3 l0_4 l0_5 l0_6 a1 a2 a3).bind fun bt542 => (if t505 = true then (if (bt528.1 == bt542.1 && (bt528.2.1 == bt542.2.1 && (bt528.2.2.1 == bt542.2.2.1 && (bt528.2.2.2.1 == bt542.2.2.2.1 && (bt528.2.2.2.2.1 == bt542.2.2.2.2.1 && (bt528.2.2.2.2.2.1 == bt542.2.2.2.2.2.1)))))) = true then (some (bt528.2.2.2.2.2.2.1 == bt542.2.2.2.2.2.2.1 && (bt528.2.2.2.2.2.2.2.1 == bt542.2.2.2.2.2.2.2.1 && (bt528.2.2.2.2.2.2.2.2.1 == bt542.2.2.2.2.2.2.2.2.1 && (bt528.2.2.2.2.2.2.2.2.2.1 == bt542.2.2.2.2.2.2.2.2.2.1 && (bt528.2.2.2.2.2.2.2.2.2.2.1 == bt542.2.2.2.2.2.2.2.2.2.2.1 && (bt528.2.2.2.2.2.2.2.2.2.2.2 == bt542.2.2.2.2.2.2.2.2.2.2.2))))))) else (some false)) else (some false)))) else (some t505)) else (none)) else (none)))) = some r := H
    have A26 := am A260
    clear A260
    replace H := Option.bind_eq_some_iff.mp H
    obtain ⟨⟨t521, t522, t523, t524, t525, t526⟩, A270, H⟩ := H
    replace H : (if (!(t514 == t521) || (!(t515 == t522) || (!(t516 == t523) || (!(t517 == t524) || (!(t518 == t525) || (!(t519 == t526))))))) = true then (some false) else (if 0 ≤ a2 then (if a2 < (l0_3.length : Int) then (if ((rd_T35 l0_3 a2).f4) = 1 then ((table_Entry.f kj6 a0_0 l0_1 l0_2 l0_3 l0_4 l0_5 l0_6 a1 a2 a3).bind fun bt528 => ((curtilageref18_Entry.f kj6 a0_0 l0_1 l0_2 l0_3 l0_4 l0_5 l0_6 a1 a2 a3).bind fun bt542 => (if t505 = true then (if (bt528.1 == bt542.1 && (bt528.2.1 == bt542.2.1 && (bt528.2.2.1 == bt542.2.2.1 && (bt528.2.2.2.1 == bt542.2.2.2.1 && (bt528.2.2.2.2.1 == bt542.2.2.2.2.1 && (bt528.2.2.2.2.2.1 == bt542.2.2.2.2.2.1)))))) = true then (some (bt528.2.2.2.2.2.2.1 == bt542.2.2.2.2.2.2.1 && (bt528.2.2.2.2.2.2.2.1 == bt542.2.2.2.2.2.2.2.1 && (bt528.2.2.2.2.2.2.2.2.1 == bt542.2.2.2.2.2.2.2.2.1 && (bt528.2.2.2.2.2.2.2.2.2.1 == bt542.2.2.2.2.2.2.2.2.2.1 && (bt528.2.2.2.2.2.2.2.2.2.2.1 == bt542.2.2.2.2.2.2.2.2.2.2.1 && (bt528.2.2.2.2.2.2.2.2.2.2.2 == bt542.2.2.2.2.2.2.2.2.2.2.2))))))) else (some false)) else (some false)))) else (some t505)) else (none)) else (none))) = some r := H
    have A27 := am A270
    clear A270
    by_cases c28 : (!(t514 == t521) || (!(t515 == t522) || (!(t516 == t523) || (!(t517 == t524) || (!(t518 == t525) || (!(t519 == t526))))))) = true
    ·rw [if_pos c28] at H
     have c28b0 : (!(t514 == t521) || (!(t515 == t522) || (!(t516 == t523) || (!(t517 == t524) || (!(t518 == t525) || (!(t519 == t526))))))) = true := c28
     clear c28
     exact absurd ((Option.some.inj H).trans HT.out) (by decide)
    ·rw [if_neg c28] at H
     have c28b0 : (!(t514 == t521) || (!(t515 == t522) || (!(t516 == t523) || (!(t517 == t524) || (!(t518 == t525) || (!(t519 == t526))))))) = false := by simpa using c28
     clear c28
     by_cases c37 : 0 ≤ a2
     ·rw [if_pos c37] at H
      have c37b0 : decide (0 ≤ a2) = true := decide_eq_true c37
      clear c37
      by_cases c38 : a2 < (l0_3.length : Int)
      ·rw [if_pos c38] at H
       have c38b0 : decide (a2 < (l0_3.length : Int)) = true := decide_eq_true c38
       clear c38
       by_cases c39 : ((rd_T35 l0_3 a2).f4) = 1
       ·rw [if_pos c39] at H
        have c39b0 : (((rd_T35 l0_3 a2).f4) == 1) = true := beq_iff_eq.mpr c39
        have c39b1 : (((rd_T35 l0_3 a2).f4) != 1) = false := bne_eq_false_iff_eq.mpr c39
        clear c39
        replace H := Option.bind_eq_some_iff.mp H
        obtain ⟨⟨t528, t529, t530, t531, t532, t533, t534, t535, t536, t537, t538, t539⟩, A400, H⟩ := H
        replace H : ((curtilageref18_Entry.f kj6 a0_0 l0_1 l0_2 l0_3 l0_4 l0_5 l0_6 a1 a2 a3).bind fun bt542 => (if t505 = true then (if (t528 == bt542.1 && (t529 == bt542.2.1 && (t530 == bt542.2.2.1 && (t531 == bt542.2.2.2.1 && (t532 == bt542.2.2.2.2.1 && (t533 == bt542.2.2.2.2.2.1)))))) = true then (some (t534 == bt542.2.2.2.2.2.2.1 && (t535 == bt542.2.2.2.2.2.2.2.1 && (t536 == bt542.2.2.2.2.2.2.2.2.1 && (t537 == bt542.2.2.2.2.2.2.2.2.2.1 && (t538 == bt542.2.2.2.2.2.2.2.2.2.2.1 && (t539 == bt542.2.2.2.2.2.2.2.2.2.2.2))))))) else (some false)) else (some false))) = some r := H
        have A40 := am A400
        clear A400
        replace H := Option.bind_eq_some_iff.mp H
        obtain ⟨⟨t542, t543, t544, t545, t546, t547, t548, t549, t550, t551, t552, t553⟩, A410, H⟩ := H
        replace H : (if t505 = true then (if (t528 == t542 && (t529 == t543 && (t530 == t544 && (t531 == t545 && (t532 == t546 && (t533 == t547)))))) = true then (some (t534 == t548 && (t535 == t549 && (t536 == t550 && (t537 == t551 && (t538 == t552 && (t539 == t553))))))) else (some false)) else (some false)) = some r := H
        have A41 := am A410
        clear A410
        by_cases c42 : t505 = true
        ·subst c42
         have H1 : (if (t528 == t542 && (t529 == t543 && (t530 == t544 && (t531 == t545 && (t532 == t546 && (t533 == t547)))))) = true then (some (t534 == t548 && (t535 == t549 && (t536 == t550 && (t537 == t551 && (t538 == t552 && (t539 == t553))))))) else (some false)) = some r := by rw [if_pos rfl] at H; exact H
         clear H
         have H := H1
         clear H1
         by_cases c43 : (t528 == t542 && (t529 == t543 && (t530 == t544 && (t531 == t545 && (t532 == t546 && (t533 == t547)))))) = true
         ·rw [if_pos c43] at H
          have c43b0 : (t528 == t542 && (t529 == t543 && (t530 == t544 && (t531 == t545 && (t532 == t546 && (t533 == t547)))))) = true := c43
          (try (have c43b1 : decide (t528 = t542 && (t529 == t543 && (t530 == t544 && (t531 == t545 && (t532 == t546 && (t533 == t547)))))) = true := by simpa using c43))
          (try (have c43b2 : (t528 == t542 && (t529 == t543 && (t530 == t544 && (t531 == t545 && (t532 == t546 && (t533 == t547)))))) = true := by simpa using c43))
          clear c43
          obtain rfl := Option.some.inj H
          have hcz44_0 : wc.cell? ⟨gb504, 0, none⟩ = some (.string a0_0) := cz BK504 0
          have hcz44_1 : wc.cell? ⟨gb504, 1, none⟩ = some (.slice A0_1 l0_1.length c0_1) := cz BK504 1
          have hcz44_2 : wc.cell? ⟨gb504, 2, none⟩ = some (.slice A0_2 l0_2.length c0_2) := cz BK504 2
          have hcz44_3 : wc.cell? ⟨gb504, 3, none⟩ = some (.slice A0_3 l0_3.length c0_3) := cz BK504 3
          have hcz44_4 : wc.cell? ⟨gb504, 4, none⟩ = some (.slice A0_4 l0_4.length c0_4) := cz BK504 4
          have hcz44_5 : wc.cell? ⟨gb504, 5, none⟩ = some (.slice A0_5 l0_5.length c0_5) := cz BK504 5
          have hcz44_6 : wc.cell? ⟨gb504, 6, none⟩ = some (.slice A0_6 l0_6.length c0_6) := cz BK504 6
          have hfz44_0 := fz BK504 0
          have hfz44_1 := fz BK504 1
          have hfz44_2 := fz BK504 2
          have hfz44_3 := fz BK504 3
          have hfz44_4 := fz BK504 4
          have hfz44_5 := fz BK504 5
          have hfz44_6 := fz BK504 6
          try go_wp2_with (first | ((with_reducible refine gate_dst (N := 50) rfl ?_); (with_reducible refine gate_callee (f := 8) rfl ?_); refine gl (some 50) Try.func8 #[.agg #[.string a0_0, .slice A0_1 l0_1.length c0_1, .slice A0_2 l0_2.length c0_2, .slice A0_3 l0_3.length c0_3, .slice A0_4 l0_4.length c0_4, .slice A0_5 l0_5.length c0_5, .slice A0_6 l0_6.length c0_6], .int .u64 a1, .int .i64 a2] ?_; (with_reducible refine (table_Data.calls kj6 a0_0 _ _ l0_1 _ _ l0_2 _ _ l0_3 _ _ l0_4 _ _ l0_5 _ _ l0_6 a1 a2 t514 t515 t516 t517 t518 t519 _ ?side1 ?side2 ?side3 ?side4 ?side5 ?side6 ?side7 ?side8 ?side9 ?side10 ?side11 ?side12 A26.out).mono ?_); (case side1 => exact us (Kd.C_below HR0_1.out HB.out)); (case side2 => exact HC0_1.out); (case side3 => exact us (Kd.C_below HR0_2.out HB.out)); (case side4 => exact HC0_2.out); (case side5 => exact us (Kd.C_below HR0_3.out HB.out)); (case side6 => exact HC0_3.out); (case side7 => exact us (Kd.C_below HR0_4.out HB.out)); (case side8 => exact HC0_4.out); (case side9 => exact us (Kd.C_below HR0_5.out HB.out)); (case side10 => exact HC0_5.out); (case side11 => exact us (Kd.C_below HR0_6.out HB.out)); (case side12 => exact HC0_6.out); rintro e w45 ⟨rfl, hb⟩; refine ⟨_, rfl, ?_⟩; have n0_ := bw BK504 hb; have n1_ := bs HB hb; revert n0_ n1_; clear BK504 HB; intro BK504 HB; (try clear hb)) | ((with_reducible refine gate_dst (N := 11) rfl ?_); (try (refine gate_guard (by rfl) ?_; dsimp only)); refine box_event ?hg (N := 11) ?hd (cs := #[.int .u64 0, .int .u64 0, .int .u64 0, .int .i64 0, .int .i64 0, .bool false]) (t := 37) ?hr ?_; (case hd => rfl); (case hg => rfl); (case hr => first | (go_simp; done) | (go_simp; rfl)); intro gb520 hg w46 hbox hb; have n0_ := bw BK504 hb; have n1_ := bs HB hb; have n2_ := am (hbox); have n3_ := nz HB hg; have n4_ := nz HB hg; have n5_ := nl BK504 hg; have n6_ := nr BK504 hg; revert n0_ n1_ n2_ n3_ n4_ n5_ n6_; clear BK504 HB; intro BK504 HB BK520 GW520 GE520 NB504_520 NB520_504; clear hb hbox hg; have hnb47 := NB520_504.out; have hnc47 := NB504_520.out; obtain ⟨hcz48_0, hcz48_1, hcz48_2, hcz48_3, hcz48_4, hcz48_5, hfz48_0, hfz48_1, hfz48_2, hfz48_3, hfz48_4, hfz48_5⟩ := cells6 BK520.out) | ((with_reducible refine gate_store (t := 37) (p := 11) rfl ?_); refine store_event (t := 37) (p := 11) (v := ?vo_w49) (w1 := ((((((w46.setCell ⟨gb520, 0, none⟩ (.int .u64 t514)).setCell ⟨gb520, 1, none⟩ (.int .u64 t515)).setCell ⟨gb520, 2, none⟩ (.int .u64 t516)).setCell ⟨gb520, 3, none⟩ (.int .i64 t517)).setCell ⟨gb520, 4, none⟩ (.int .i64 t518)).setCell ⟨gb520, 5, none⟩ (.bool t519))) ?hg ?ho ?hn ?hr ?_; (case ho => rfl); (case hg => rfl); (case hn => rfl); (case hr => first | (go_simp; done) | (go_simp; rfl)); intro w49 hw; have n0_ := bf6 hw NB504_520 BK504; have n1_ := bp6 #[.int .u64 t514, .int .u64 t515, .int .u64 t516, .int .i64 t517, .int .i64 t518, .bool t519] hw BK520; have n2_ : Aside0 (Below w.heap.size w w49) := ⟨(by rw [hw]; exact (uc HB.out))⟩; revert n0_ n1_ n2_; clear hw BK504 BK520 HB; intro BK504 BK520 HB))
          have n0_ := am (blk_drew BK504.out)
          have n1_ := am (blk_drew BK520.out)
          have n2_ := am (below_drew1 HB.out)
          revert n0_ n1_ n2_
          clear BK504 BK520 HB
          intro BK504 BK520 HB
          refine start_ (n := 6) (S := fun w' => w'.cell? ⟨gb520, 0, none⟩ = some (.int .u64 t514) ∧ w'.cell? ⟨gb520, 1, none⟩ = some (.int .u64 t515) ∧ w'.cell? ⟨gb520, 2, none⟩ = some (.int .u64 t516) ∧ w'.cell? ⟨gb520, 3, none⟩ = some (.int .i64 t517) ∧ w'.cell? ⟨gb520, 4, none⟩ = some (.int .i64 t518) ∧ w'.cell? ⟨gb520, 5, none⟩ = some (.bool t519) ∧ w'.cell? ⟨gb504, 0, none⟩ = some (.string a0_0) ∧ w'.cell? ⟨gb504, 1, none⟩ = some (.slice A0_1 l0_1.length c0_1) ∧ w'.cell? ⟨gb504, 2, none⟩ = some (.slice A0_2 l0_2.length c0_2) ∧ w'.cell? ⟨gb504, 3, none⟩ = some (.slice A0_3 l0_3.length c0_3) ∧ w'.cell? ⟨gb504, 4, none⟩ = some (.slice A0_4 l0_4.length c0_4) ∧ w'.cell? ⟨gb504, 5, none⟩ = some (.slice A0_5 l0_5.length c0_5) ∧ w'.cell? ⟨gb504, 6, none⟩ = some (.slice A0_6 l0_6.length c0_6)) (ds := []) #[false, false, false, false, false, false] (by kernel_rfl) rfl rfl ⟨cz BK520 0, cz BK520 1, cz BK520 2, cz BK520 3, cz BK520 4, cz BK520 5, cz BK504 0, cz BK504 1, cz BK504 2, cz BK504 3, cz BK504 4, cz BK504 5, cz BK504 6⟩ (fun hHeld => ?_)
          generalize w49.drew = w50 at BK504 BK520 HB hHeld ⊢
          refine pure_ (i := 2) (N := some 53) (v := ?_) (a' := ?_) #[false, false, true, false, false, false] rfl rfl (by kernel_rfl) (fun _ _ _ h => h) (Or.inl ⟨by rfl, ?_⟩) ?_ ?_
          rotate_left
          ·intro w'
           go_simp
           with_reducible rfl
          rotate_left
          ·simp only [Act.put, List.setIfInBounds_toArray, List.set_cons_zero, List.set_cons_succ, i64_w, i32_w]
           rfl
          refine pure_ (i := 3) (N := some 54) (v := ?_) (a' := ?_) #[false, false, true, true, false, false] rfl rfl (by kernel_rfl) (fun _ _ _ h => h) (Or.inl ⟨by rfl, ?_⟩) ?_ ?_
          rotate_left
          ·intro w'
           go_simp
           with_reducible rfl
          rotate_left
          ·simp only [Act.put, List.setIfInBounds_toArray, List.set_cons_zero, List.set_cons_succ, i64_w, i32_w]
           rfl
          refine take_ (i := 0) (N := some 51) (v := ?_) (a' := ?_) #[true, false, true, true, false, false] rfl rfl (by kernel_rfl) (fun _ _ _ h => h) (Or.inl ⟨by rfl, ?_⟩) hHeld ?_ ?_
          rotate_left
          ·rintro w' ⟨s0, s1, s2, s3, s4, s5, s6, s7, s8, s9, s10, s11, s12⟩
           go_simp
           with_reducible rfl
          rotate_left
          ·simp only [Act.put, List.setIfInBounds_toArray, List.set_cons_zero, List.set_cons_succ, i64_w, i32_w]
           rfl
          refine take_ (i := 1) (N := some 52) (v := ?_) (a' := ?_) #[true, true, true, true, false, false] rfl rfl (by kernel_rfl) (fun _ _ _ h => h) (Or.inl ⟨by rfl, ?_⟩) hHeld ?_ ?_
          rotate_left
          ·rintro w' ⟨s0, s1, s2, s3, s4, s5, s6, s7, s8, s9, s10, s11, s12⟩
           go_simp
           with_reducible rfl
          rotate_left
          ·simp only [Act.put, List.setIfInBounds_toArray, List.set_cons_zero, List.set_cons_succ, i64_w, i32_w]
           rfl
          refine one_ (i := 4) (N := some 55) #[true, true, true, true, true, false] rfl rfl (by kernel_rfl) (by decide) (fun K hK => ?_)
          refine goes_ Try.func9 (by kernel_rfl) rfl #[.agg #[.string a0_0, .slice A0_1 l0_1.length c0_1, .slice A0_2 l0_2.length c0_2, .slice A0_3 l0_3.length c0_3, .slice A0_4 l0_4.length c0_4, .slice A0_5 l0_5.length c0_5, .slice A0_6 l0_6.length c0_6], .int .u64 a1, .int .i64 a2] (by rfl) rfl rfl (by (try simp only [List.map_toArray, List.map_cons, List.map_nil]); first | done | rfl | (simp only [List.length_drop, List.length_take]; rfl)) ?_
          with_reducible refine (curtilageref18_Data.calls kj6 a0_0 _ _ l0_1 _ _ l0_2 _ _ l0_3 _ _ l0_4 _ _ l0_5 _ _ l0_6 a1 a2 t521 t522 t523 t524 t525 t526 _ ?side1 ?side2 ?side3 ?side4 ?side5 ?side6 ?side7 ?side8 ?side9 ?side10 ?side11 ?side12 A27.out).mono ?_
          (case side1 => exact us (Kd.C_below HR0_1.out HB.out))
          (case side2 => exact HC0_1.out)
          (case side3 => exact us (Kd.C_below HR0_2.out HB.out))
          (case side4 => exact HC0_2.out)
          (case side5 => exact us (Kd.C_below HR0_3.out HB.out))
          (case side6 => exact HC0_3.out)
          (case side7 => exact us (Kd.C_below HR0_4.out HB.out))
          (case side8 => exact HC0_4.out)
          (case side9 => exact us (Kd.C_below HR0_5.out HB.out))
          (case side10 => exact HC0_5.out)
          (case side11 => exact us (Kd.C_below HR0_6.out HB.out))
          (case side12 => exact HC0_6.out)
          rintro e w51 ⟨rfl, hb⟩
          refine ⟨_, rfl, ?_⟩
          have n0_ := bw BK504 hb
          have n1_ := bw BK520 hb
          have n2_ := bs HB hb
          revert n0_ n1_ n2_
          clear BK504 BK520 HB
          intro BK504 BK520 HB
          (try clear hb)
          (try clear hb2)
          (try clear hk)
          (try clear hi)
          refine hK.out _ _ ⟨cz BK520 0, cz BK520 1, cz BK520 2, cz BK520 3, cz BK520 4, cz BK520 5, cz BK504 0, cz BK504 1, cz BK504 2, cz BK504 3, cz BK504 4, cz BK504 5, cz BK504 6⟩ (fun hHeld => ?_)
          clear hK K
          refine norm_ (a' := ?_) ?_ ?_
          rotate_left
          ·show Act.put _ (some 55) _ = _
           simp only [Act.put, List.setIfInBounds_toArray, List.set_cons_zero, List.set_cons_succ, i64_w, i32_w]
           rfl
          refine pure_ (i := 5) (N := some 56) (v := ?_) (a' := ?_) #[true, true, true, true, true, true] rfl rfl (by kernel_rfl) (fun _ _ _ h => h) (Or.inl ⟨by rfl, ?_⟩) ?_ ?_
          rotate_left
          ·intro w'
           go_simp
           first | (rw [c43b0]; done) | (rw [c43b0]; with_reducible rfl) | (have h_ := c43b0; simp only [beq_true, beq_false, Bool.not_not] at h_; rw [h_]; done) | (have h_ := c43b0; simp only [beq_true, beq_false, Bool.not_not] at h_; rw [h_]; with_reducible rfl) | (with_reducible rfl)
          rotate_left
          ·simp only [Act.put, List.setIfInBounds_toArray, List.set_cons_zero, List.set_cons_succ, i64_w, i32_w]
           rfl
          refine done_ (by kernel_rfl) ?_
          have hcz52_0 : w51.cell? ⟨gb504, 0, none⟩ = some (.string a0_0) := cz BK504 0
          have hcz52_1 : w51.cell? ⟨gb504, 1, none⟩ = some (.slice A0_1 l0_1.length c0_1) := cz BK504 1
          have hcz52_2 : w51.cell? ⟨gb504, 2, none⟩ = some (.slice A0_2 l0_2.length c0_2) := cz BK504 2
          have hcz52_3 : w51.cell? ⟨gb504, 3, none⟩ = some (.slice A0_3 l0_3.length c0_3) := cz BK504 3
          have hcz52_4 : w51.cell? ⟨gb504, 4, none⟩ = some (.slice A0_4 l0_4.length c0_4) := cz BK504 4
          have hcz52_5 : w51.cell? ⟨gb504, 5, none⟩ = some (.slice A0_5 l0_5.length c0_5) := cz BK504 5
          have hcz52_6 : w51.cell? ⟨gb504, 6, none⟩ = some (.slice A0_6 l0_6.length c0_6) := cz BK504 6
          have hfz52_0 := fz BK504 0
          have hfz52_1 := fz BK504 1
          have hfz52_2 := fz BK504 2
          have hfz52_3 := fz BK504 3
          have hfz52_4 := fz BK504 4
          have hfz52_5 := fz BK504 5
          have hfz52_6 := fz BK504 6
          have p527 : 0 ≤ (a2 : Int) := ud
          have q527 : a2 < (l0_3.length : Int) := ud
          obtain ⟨ad527, e527, hx527_0, hx527_1, hx527_2, hx527_3, hx527_4, hx527_5, hx527_6, hx527_7⟩ := at_T35 HR0_3.out a2 p527 q527
          cases e527
          replace hx527_0 := bcel HB hx527_0
          replace hx527_1 := bcel HB hx527_1
          replace hx527_2 := bcel HB hx527_2
          replace hx527_3 := bcel HB hx527_3
          replace hx527_4 := bcel HB hx527_4
          replace hx527_5 := bcel HB hx527_5
          replace hx527_6 := bcel HB hx527_6
          replace hx527_7 := bcel HB hx527_7
          replace p527 := eq_true p527
          replace q527 := eq_true q527
          try go_wp2_with (first | ((with_reducible refine gate_dst (N := 70) rfl ?_); (with_reducible refine gate_callee (f := 10) rfl ?_); refine gl (some 70) Try.func10 #[.agg #[.string a0_0, .slice A0_1 l0_1.length c0_1, .slice A0_2 l0_2.length c0_2, .slice (some ad527) l0_3.length c0_3, .slice A0_4 l0_4.length c0_4, .slice A0_5 l0_5.length c0_5, .slice A0_6 l0_6.length c0_6], .int .u64 a1, .int .i64 a2, .int .i64 a3] ?_; (with_reducible refine (table_Entry.calls kj6 a0_0 _ _ l0_1 _ _ l0_2 _ _ l0_3 _ _ l0_4 _ _ l0_5 _ _ l0_6 a1 a2 a3 t528 t529 t530 t531 t532 t533 t534 t535 t536 t537 t538 t539 _ ?side1 ?side2 ?side3 ?side4 ?side5 ?side6 ?side7 ?side8 ?side9 ?side10 ?side11 ?side12 A40.out).mono ?_); (case side1 => exact us (Kd.C_below HR0_1.out HB.out)); (case side2 => exact HC0_1.out); (case side3 => exact us (Kd.C_below HR0_2.out HB.out)); (case side4 => exact HC0_2.out); (case side5 => exact us (Kd.C_below HR0_3.out HB.out)); (case side6 => exact HC0_3.out); (case side7 => exact us (Kd.C_below HR0_4.out HB.out)); (case side8 => exact HC0_4.out); (case side9 => exact us (Kd.C_below HR0_5.out HB.out)); (case side10 => exact HC0_5.out); (case side11 => exact us (Kd.C_below HR0_6.out HB.out)); (case side12 => exact HC0_6.out); rintro e w53 ⟨rfl, hb⟩; refine ⟨_, rfl, ?_⟩; have n0_ := bw BK504 hb; have n1_ := bw BK520 hb; have n2_ := bs HB hb; revert n0_ n1_ n2_; clear BK504 BK520 HB; intro BK504 BK520 HB; (try clear hb)) | ((with_reducible refine gate_dst (N := 12) rfl ?_); (try (refine gate_guard (by rfl) ?_; dsimp only)); refine box_event ?hg (N := 12) ?hd (cs := #[.int .u64 0, .int .u64 0, .int .u64 0, .int .i64 0, .int .i64 0, .bool false]) (t := 37) ?hr ?_; (case hd => rfl); (case hg => rfl); (case hr => first | (go_simp; done) | (go_simp; rfl)); intro gb540 hg w54 hbox hb; have n0_ := bw BK504 hb; have n1_ := bw BK520 hb; have n2_ := bs HB hb; have n3_ := am (hbox); have n4_ := nz HB hg; have n5_ := nz HB hg; have n6_ := nl BK504 hg; have n7_ := nr BK504 hg; have n8_ := nl BK520 hg; have n9_ := nr BK520 hg; revert n0_ n1_ n2_ n3_ n4_ n5_ n6_ n7_ n8_ n9_; clear BK504 BK520 HB; intro BK504 BK520 HB BK540 GW540 GE540 NB504_540 NB540_504 NB520_540 NB540_520; clear hb hbox hg) | ((with_reducible refine gate_dst (N := 13) rfl ?_); (try (refine gate_guard (by rfl) ?_; dsimp only)); refine box_event ?hg (N := 13) ?hd (cs := #[.int .u64 0, .int .u64 0, .int .u64 0, .int .i64 0, .int .i64 0, .bool false]) (t := 37) ?hr ?_; (case hd => rfl); (case hg => rfl); (case hr => first | (go_simp; done) | (go_simp; rfl)); intro gb541 hg w55 hbox hb; have n0_ := bw BK504 hb; have n1_ := bw BK520 hb; have n2_ := bw BK540 hb; have n3_ := bs HB hb; have n4_ := am (hbox); have n5_ := nz HB hg; have n6_ := nz HB hg; have n7_ := nl BK504 hg; have n8_ := nr BK504 hg; have n9_ := nl BK520 hg; have n10_ := nr BK520 hg; have n11_ := nl BK540 hg; have n12_ := nr BK540 hg; revert n0_ n1_ n2_ n3_ n4_ n5_ n6_ n7_ n8_ n9_ n10_ n11_ n12_; clear BK504 BK520 BK540 HB; intro BK504 BK520 BK540 HB BK541 GW541 GE541 NB504_541 NB541_504 NB520_541 NB541_520 NB540_541 NB541_540; clear hb hbox hg; have hnb56 := NB540_504.out; have hnc56 := NB504_540.out; have hnb57 := NB540_520.out; have hnc57 := NB520_540.out; have hnb58 := NB540_541.out; have hnc58 := NB541_540.out; obtain ⟨hcz59_0, hcz59_1, hcz59_2, hcz59_3, hcz59_4, hcz59_5, hfz59_0, hfz59_1, hfz59_2, hfz59_3, hfz59_4, hfz59_5⟩ := cells6 BK540.out) | ((with_reducible refine gate_store (t := 37) (p := 12) rfl ?_); refine store_event (t := 37) (p := 12) (v := ?vo_w60) (w1 := ((((((w55.setCell ⟨gb540, 0, none⟩ (.int .u64 t528)).setCell ⟨gb540, 1, none⟩ (.int .u64 t529)).setCell ⟨gb540, 2, none⟩ (.int .u64 t530)).setCell ⟨gb540, 3, none⟩ (.int .i64 t531)).setCell ⟨gb540, 4, none⟩ (.int .i64 t532)).setCell ⟨gb540, 5, none⟩ (.bool t533))) ?hg ?ho ?hn ?hr ?_; (case ho => rfl); (case hg => rfl); (case hn => rfl); (case hr => first | (go_simp; done) | (go_simp; rfl)); intro w60 hw; have n0_ := bf6 hw NB504_540 BK504; have n1_ := bf6 hw NB520_540 BK520; have n2_ := bp6 #[.int .u64 t528, .int .u64 t529, .int .u64 t530, .int .i64 t531, .int .i64 t532, .bool t533] hw BK540; have n3_ := bf6 hw NB541_540 BK541; have n4_ : Aside0 (Below w.heap.size w w60) := ⟨(by rw [hw]; exact (uc HB.out))⟩; revert n0_ n1_ n2_ n3_ n4_; clear hw BK504 BK520 BK540 BK541 HB; intro BK504 BK520 BK540 BK541 HB; have hnb61 := NB541_504.out; have hnc61 := NB504_541.out; have hnb62 := NB541_520.out; have hnc62 := NB520_541.out; obtain ⟨hcz63_0, hcz63_1, hcz63_2, hcz63_3, hcz63_4, hcz63_5, hfz63_0, hfz63_1, hfz63_2, hfz63_3, hfz63_4, hfz63_5⟩ := cells6 BK541.out) | ((with_reducible refine gate_store (t := 37) (p := 13) rfl ?_); refine store_event (t := 37) (p := 13) (v := ?vo_w64) (w1 := ((((((w60.setCell ⟨gb541, 0, none⟩ (.int .u64 t534)).setCell ⟨gb541, 1, none⟩ (.int .u64 t535)).setCell ⟨gb541, 2, none⟩ (.int .u64 t536)).setCell ⟨gb541, 3, none⟩ (.int .i64 t537)).setCell ⟨gb541, 4, none⟩ (.int .i64 t538)).setCell ⟨gb541, 5, none⟩ (.bool t539))) ?hg ?ho ?hn ?hr ?_; (case ho => rfl); (case hg => rfl); (case hn => rfl); (case hr => first | (go_simp; done) | (go_simp; rfl)); intro w64 hw; have n0_ := bf6 hw NB504_541 BK504; have n1_ := bf6 hw NB520_541 BK520; have n2_ := bf6 hw NB540_541 BK540; have n3_ := bp6 #[.int .u64 t534, .int .u64 t535, .int .u64 t536, .int .i64 t537, .int .i64 t538, .bool t539] hw BK541; have n4_ : Aside0 (Below w.heap.size w w64) := ⟨(by rw [hw]; exact (uc HB.out))⟩; revert n0_ n1_ n2_ n3_ n4_; clear hw BK504 BK520 BK540 BK541 HB; intro BK504 BK520 BK540 BK541 HB; obtain ⟨hcz65_0, hcz65_1, hcz65_2, hcz65_3, hcz65_4, hcz65_5, hcz65_6, hfz65_0, hfz65_1, hfz65_2, hfz65_3, hfz65_4, hfz65_5, hfz65_6⟩ := cells7 BK504.out) | ((with_reducible refine gate_dst (N := 78) rfl ?_); (with_reducible refine gate_callee (f := 11) rfl ?_); refine gl (some 78) Try.func11 #[.agg #[.string a0_0, .slice A0_1 l0_1.length c0_1, .slice A0_2 l0_2.length c0_2, .slice (some ad527) l0_3.length c0_3, .slice A0_4 l0_4.length c0_4, .slice A0_5 l0_5.length c0_5, .slice A0_6 l0_6.length c0_6], .int .u64 a1, .int .i64 a2, .int .i64 a3] ?_; (with_reducible refine (curtilageref18_Entry.calls kj6 a0_0 _ _ l0_1 _ _ l0_2 _ _ l0_3 _ _ l0_4 _ _ l0_5 _ _ l0_6 a1 a2 a3 t542 t543 t544 t545 t546 t547 t548 t549 t550 t551 t552 t553 _ ?side1 ?side2 ?side3 ?side4 ?side5 ?side6 ?side7 ?side8 ?side9 ?side10 ?side11 ?side12 A41.out).mono ?_); (case side1 => exact us (Kd.C_below HR0_1.out HB.out)); (case side2 => exact HC0_1.out); (case side3 => exact us (Kd.C_below HR0_2.out HB.out)); (case side4 => exact HC0_2.out); (case side5 => exact us (Kd.C_below HR0_3.out HB.out)); (case side6 => exact HC0_3.out); (case side7 => exact us (Kd.C_below HR0_4.out HB.out)); (case side8 => exact HC0_4.out); (case side9 => exact us (Kd.C_below HR0_5.out HB.out)); (case side10 => exact HC0_5.out); (case side11 => exact us (Kd.C_below HR0_6.out HB.out)); (case side12 => exact HC0_6.out); rintro e w66 ⟨rfl, hb⟩; refine ⟨_, rfl, ?_⟩; have n0_ := bw BK504 hb; have n1_ := bw BK520 hb; have n2_ := bw BK540 hb; have n3_ := bw BK541 hb; have n4_ := bs HB hb; revert n0_ n1_ n2_ n3_ n4_; clear BK504 BK520 BK540 BK541 HB; intro BK504 BK520 BK540 BK541 HB; (try clear hb)) | ((with_reducible refine gate_dst (N := 14) rfl ?_); (try (refine gate_guard (by rfl) ?_; dsimp only)); refine box_event ?hg (N := 14) ?hd (cs := #[.int .u64 0, .int .u64 0, .int .u64 0, .int .i64 0, .int .i64 0, .bool false]) (t := 37) ?hr ?_; (case hd => rfl); (case hg => rfl); (case hr => first | (go_simp; done) | (go_simp; rfl)); intro gb554 hg w67 hbox hb; have n0_ := bw BK504 hb; have n1_ := bw BK520 hb; have n2_ := bw BK540 hb; have n3_ := bw BK541 hb; have n4_ := bs HB hb; have n5_ := am (hbox); have n6_ := nz HB hg; have n7_ := nz HB hg; have n8_ := nl BK504 hg; have n9_ := nr BK504 hg; have n10_ := nl BK520 hg; have n11_ := nr BK520 hg; have n12_ := nl BK540 hg; have n13_ := nr BK540 hg; have n14_ := nl BK541 hg; have n15_ := nr BK541 hg; revert n0_ n1_ n2_ n3_ n4_ n5_ n6_ n7_ n8_ n9_ n10_ n11_ n12_ n13_ n14_ n15_; clear BK504 BK520 BK540 BK541 HB; intro BK504 BK520 BK540 BK541 HB BK554 GW554 GE554 NB504_554 NB554_504 NB520_554 NB554_520 NB540_554 NB554_540 NB541_554 NB554_541; clear hb hbox hg) | ((with_reducible refine gate_dst (N := 15) rfl ?_); (try (refine gate_guard (by rfl) ?_; dsimp only)); refine box_event ?hg (N := 15) ?hd (cs := #[.int .u64 0, .int .u64 0, .int .u64 0, .int .i64 0, .int .i64 0, .bool false]) (t := 37) ?hr ?_; (case hd => rfl); (case hg => rfl); (case hr => first | (go_simp; done) | (go_simp; rfl)); intro gb555 hg w68 hbox hb; have n0_ := bw BK504 hb; have n1_ := bw BK520 hb; have n2_ := bw BK540 hb; have n3_ := bw BK541 hb; have n4_ := bw BK554 hb; have n5_ := bs HB hb; have n6_ := am (hbox); have n7_ := nz HB hg; have n8_ := nz HB hg; have n9_ := nl BK504 hg; have n10_ := nr BK504 hg; have n11_ := nl BK520 hg; have n12_ := nr BK520 hg; have n13_ := nl BK540 hg; have n14_ := nr BK540 hg; have n15_ := nl BK541 hg; have n16_ := nr BK541 hg; have n17_ := nl BK554 hg; have n18_ := nr BK554 hg; revert n0_ n1_ n2_ n3_ n4_ n5_ n6_ n7_ n8_ n9_ n10_ n11_ n12_ n13_ n14_ n15_ n16_ n17_ n18_; clear BK504 BK520 BK540 BK541 BK554 HB; intro BK504 BK520 BK540 BK541 BK554 HB BK555 GW555 GE555 NB504_555 NB555_504 NB520_555 NB555_520 NB540_555 NB555_540 NB541_555 NB555_541 NB554_555 NB555_554; clear hb hbox hg; have hnb69 := NB554_504.out; have hnc69 := NB504_554.out; have hnb70 := NB554_520.out; have hnc70 := NB520_554.out; have hnb71 := NB554_540.out; have hnc71 := NB540_554.out; have hnb72 := NB554_541.out; have hnc72 := NB541_554.out; have hnb73 := NB554_555.out; have hnc73 := NB555_554.out; obtain ⟨hcz74_0, hcz74_1, hcz74_2, hcz74_3, hcz74_4, hcz74_5, hfz74_0, hfz74_1, hfz74_2, hfz74_3, hfz74_4, hfz74_5⟩ := cells6 BK554.out) | ((with_reducible refine gate_store (t := 37) (p := 14) rfl ?_); refine store_event (t := 37) (p := 14) (v := ?vo_w75) (w1 := ((((((w68.setCell ⟨gb554, 0, none⟩ (.int .u64 t542)).setCell ⟨gb554, 1, none⟩ (.int .u64 t543)).setCell ⟨gb554, 2, none⟩ (.int .u64 t544)).setCell ⟨gb554, 3, none⟩ (.int .i64 t545)).setCell ⟨gb554, 4, none⟩ (.int .i64 t546)).setCell ⟨gb554, 5, none⟩ (.bool t547))) ?hg ?ho ?hn ?hr ?_; (case ho => rfl); (case hg => rfl); (case hn => rfl); (case hr => first | (go_simp; done) | (go_simp; rfl)); intro w75 hw; have n0_ := bf6 hw NB504_554 BK504; have n1_ := bf6 hw NB520_554 BK520; have n2_ := bf6 hw NB540_554 BK540; have n3_ := bf6 hw NB541_554 BK541; have n4_ := bp6 #[.int .u64 t542, .int .u64 t543, .int .u64 t544, .int .i64 t545, .int .i64 t546, .bool t547] hw BK554; have n5_ := bf6 hw NB555_554 BK555; have n6_ : Aside0 (Below w.heap.size w w75) := ⟨(by rw [hw]; exact (uc HB.out))⟩; revert n0_ n1_ n2_ n3_ n4_ n5_ n6_; clear hw BK504 BK520 BK540 BK541 BK554 BK555 HB; intro BK504 BK520 BK540 BK541 BK554 BK555 HB; have hnb76 := NB555_504.out; have hnc76 := NB504_555.out; have hnb77 := NB555_520.out; have hnc77 := NB520_555.out; have hnb78 := NB555_540.out; have hnc78 := NB540_555.out; have hnb79 := NB555_541.out; have hnc79 := NB541_555.out; obtain ⟨hcz80_0, hcz80_1, hcz80_2, hcz80_3, hcz80_4, hcz80_5, hfz80_0, hfz80_1, hfz80_2, hfz80_3, hfz80_4, hfz80_5⟩ := cells6 BK555.out) | ((with_reducible refine gate_store (t := 37) (p := 15) rfl ?_); refine store_event (t := 37) (p := 15) (v := ?vo_w81) (w1 := ((((((w75.setCell ⟨gb555, 0, none⟩ (.int .u64 t548)).setCell ⟨gb555, 1, none⟩ (.int .u64 t549)).setCell ⟨gb555, 2, none⟩ (.int .u64 t550)).setCell ⟨gb555, 3, none⟩ (.int .i64 t551)).setCell ⟨gb555, 4, none⟩ (.int .i64 t552)).setCell ⟨gb555, 5, none⟩ (.bool t553))) ?hg ?ho ?hn ?hr ?_; (case ho => rfl); (case hg => rfl); (case hn => rfl); (case hr => first | (go_simp; done) | (go_simp; rfl)); intro w81 hw; have n0_ := bf6 hw NB504_555 BK504; have n1_ := bf6 hw NB520_555 BK520; have n2_ := bf6 hw NB540_555 BK540; have n3_ := bf6 hw NB541_555 BK541; have n4_ := bf6 hw NB554_555 BK554; have n5_ := bp6 #[.int .u64 t548, .int .u64 t549, .int .u64 t550, .int .i64 t551, .int .i64 t552, .bool t553] hw BK555; have n6_ : Aside0 (Below w.heap.size w w81) := ⟨(by rw [hw]; exact (uc HB.out))⟩; revert n0_ n1_ n2_ n3_ n4_ n5_ n6_; clear hw BK504 BK520 BK540 BK541 BK554 BK555 HB; intro BK504 BK520 BK540 BK541 BK554 BK555 HB; obtain ⟨hcz82_0, hcz82_1, hcz82_2, hcz82_3, hcz82_4, hcz82_5, hfz82_0, hfz82_1, hfz82_2, hfz82_3, hfz82_4, hfz82_5⟩ := cells6 BK540.out; obtain ⟨hcz83_0, hcz83_1, hcz83_2, hcz83_3, hcz83_4, hcz83_5, hfz83_0, hfz83_1, hfz83_2, hfz83_3, hfz83_4, hfz83_5⟩ := cells6 BK554.out; obtain ⟨hcz84_0, hcz84_1, hcz84_2, hcz84_3, hcz84_4, hcz84_5, hfz84_0, hfz84_1, hfz84_2, hfz84_3, hfz84_4, hfz84_5⟩ := cells6 BK541.out; obtain ⟨hcz85_0, hcz85_1, hcz85_2, hcz85_3, hcz85_4, hcz85_5, hfz85_0, hfz85_1, hfz85_2, hfz85_3, hfz85_4, hfz85_5⟩ := cells6 BK555.out))
          go_ret
          exact ⟨by first | rfl | (simp [errW_none, errW_some] <;> rfl) | (simp [*, errW_none, errW_some] <;> rfl), uc HB.out⟩
         ·rw [if_neg c43] at H
          have c43b0 : (t528 == t542 && (t529 == t543 && (t530 == t544 && (t531 == t545 && (t532 == t546 && (t533 == t547)))))) = false := by simpa using c43
          (try (have c43b1 : decide (t528 = t542 && (t529 == t543 && (t530 == t544 && (t531 == t545 && (t532 == t546 && (t533 == t547)))))) = false := by simpa using c43))
          (try (have c43b2 : (t528 == t542 && (t529 == t543 && (t530 == t544 && (t531 == t545 && (t532 == t546 && (t533 == t547)))))) = false := by simpa using c43))
          (try (have c43b3 : ¬ (t528 = t542 && (t529 == t543 && (t530 == t544 && (t531 == t545 && (t532 == t546 && (t533 == t547)))))) := by simpa using c43))
          clear c43
          exact absurd ((Option.some.inj H).trans HT.out) (by decide)
        ·replace c42 := Bool.eq_false_iff.mpr c42
         subst c42
         have H1 : (some false) = some r := by rw [if_neg (show ¬ (false = true) by decide)] at H; exact H
         clear H
         have H := H1
         clear H1
         exact absurd ((Option.some.inj H).trans HT.out) (by decide)
       ·rw [if_neg c39] at H
        have c39b0 : (((rd_T35 l0_3 a2).f4) == 1) = false := beq_eq_false_iff_ne.mpr c39
        have c39b1 : (((rd_T35 l0_3 a2).f4) != 1) = true := bne_iff_ne.mpr c39
        obtain rfl := Option.some.inj H
        have hcz164_0 : wc.cell? ⟨gb504, 0, none⟩ = some (.string a0_0) := cz BK504 0
        have hcz164_1 : wc.cell? ⟨gb504, 1, none⟩ = some (.slice A0_1 l0_1.length c0_1) := cz BK504 1
        have hcz164_2 : wc.cell? ⟨gb504, 2, none⟩ = some (.slice A0_2 l0_2.length c0_2) := cz BK504 2
        have hcz164_3 : wc.cell? ⟨gb504, 3, none⟩ = some (.slice A0_3 l0_3.length c0_3) := cz BK504 3
        have hcz164_4 : wc.cell? ⟨gb504, 4, none⟩ = some (.slice A0_4 l0_4.length c0_4) := cz BK504 4
        have hcz164_5 : wc.cell? ⟨gb504, 5, none⟩ = some (.slice A0_5 l0_5.length c0_5) := cz BK504 5
        have hcz164_6 : wc.cell? ⟨gb504, 6, none⟩ = some (.slice A0_6 l0_6.length c0_6) := cz BK504 6
        have hfz164_0 := fz BK504 0
        have hfz164_1 := fz BK504 1
        have hfz164_2 := fz BK504 2
        have hfz164_3 := fz BK504 3
        have hfz164_4 := fz BK504 4
        have hfz164_5 := fz BK504 5
        have hfz164_6 := fz BK504 6
        try go_wp2_with (first | ((with_reducible refine gate_dst (N := 50) rfl ?_); (with_reducible refine gate_callee (f := 8) rfl ?_); refine gl (some 50) Try.func8 #[.agg #[.string a0_0, .slice A0_1 l0_1.length c0_1, .slice A0_2 l0_2.length c0_2, .slice A0_3 l0_3.length c0_3, .slice A0_4 l0_4.length c0_4, .slice A0_5 l0_5.length c0_5, .slice A0_6 l0_6.length c0_6], .int .u64 a1, .int .i64 a2] ?_; (with_reducible refine (table_Data.calls kj6 a0_0 _ _ l0_1 _ _ l0_2 _ _ l0_3 _ _ l0_4 _ _ l0_5 _ _ l0_6 a1 a2 t514 t515 t516 t517 t518 t519 _ ?side1 ?side2 ?side3 ?side4 ?side5 ?side6 ?side7 ?side8 ?side9 ?side10 ?side11 ?side12 A26.out).mono ?_); (case side1 => exact us (Kd.C_below HR0_1.out HB.out)); (case side2 => exact HC0_1.out); (case side3 => exact us (Kd.C_below HR0_2.out HB.out)); (case side4 => exact HC0_2.out); (case side5 => exact us (Kd.C_below HR0_3.out HB.out)); (case side6 => exact HC0_3.out); (case side7 => exact us (Kd.C_below HR0_4.out HB.out)); (case side8 => exact HC0_4.out); (case side9 => exact us (Kd.C_below HR0_5.out HB.out)); (case side10 => exact HC0_5.out); (case side11 => exact us (Kd.C_below HR0_6.out HB.out)); (case side12 => exact HC0_6.out); rintro e w165 ⟨rfl, hb⟩; refine ⟨_, rfl, ?_⟩; have n0_ := bw BK504 hb; have n1_ := bs HB hb; revert n0_ n1_; clear BK504 HB; intro BK504 HB; (try clear hb)) | ((with_reducible refine gate_dst (N := 11) rfl ?_); (try (refine gate_guard (by rfl) ?_; dsimp only)); refine box_event ?hg (N := 11) ?hd (cs := #[.int .u64 0, .int .u64 0, .int .u64 0, .int .i64 0, .int .i64 0, .bool false]) (t := 37) ?hr ?_; (case hd => rfl); (case hg => rfl); (case hr => first | (go_simp; done) | (go_simp; rfl)); intro gb520 hg w166 hbox hb; have n0_ := bw BK504 hb; have n1_ := bs HB hb; have n2_ := am (hbox); have n3_ := nz HB hg; have n4_ := nz HB hg; have n5_ := nl BK504 hg; have n6_ := nr BK504 hg; revert n0_ n1_ n2_ n3_ n4_ n5_ n6_; clear BK504 HB; intro BK504 HB BK520 GW520 GE520 NB504_520 NB520_504; clear hb hbox hg; have hnb167 := NB520_504.out; have hnc167 := NB504_520.out; obtain ⟨hcz168_0, hcz168_1, hcz168_2, hcz168_3, hcz168_4, hcz168_5, hfz168_0, hfz168_1, hfz168_2, hfz168_3, hfz168_4, hfz168_5⟩ := cells6 BK520.out) | ((with_reducible refine gate_store (t := 37) (p := 11) rfl ?_); refine store_event (t := 37) (p := 11) (v := ?vo_w169) (w1 := ((((((w166.setCell ⟨gb520, 0, none⟩ (.int .u64 t514)).setCell ⟨gb520, 1, none⟩ (.int .u64 t515)).setCell ⟨gb520, 2, none⟩ (.int .u64 t516)).setCell ⟨gb520, 3, none⟩ (.int .i64 t517)).setCell ⟨gb520, 4, none⟩ (.int .i64 t518)).setCell ⟨gb520, 5, none⟩ (.bool t519))) ?hg ?ho ?hn ?hr ?_; (case ho => rfl); (case hg => rfl); (case hn => rfl); (case hr => first | (go_simp; done) | (go_simp; rfl)); intro w169 hw; have n0_ := bf6 hw NB504_520 BK504; have n1_ := bp6 #[.int .u64 t514, .int .u64 t515, .int .u64 t516, .int .i64 t517, .int .i64 t518, .bool t519] hw BK520; have n2_ : Aside0 (Below w.heap.size w w169) := ⟨(by rw [hw]; exact (uc HB.out))⟩; revert n0_ n1_ n2_; clear hw BK504 BK520 HB; intro BK504 BK520 HB))
        have n0_ := am (blk_drew BK504.out)
        have n1_ := am (blk_drew BK520.out)
        have n2_ := am (below_drew1 HB.out)
        revert n0_ n1_ n2_
        clear BK504 BK520 HB
        intro BK504 BK520 HB
        refine start_ (n := 6) (S := fun w' => w'.cell? ⟨gb520, 0, none⟩ = some (.int .u64 t514) ∧ w'.cell? ⟨gb520, 1, none⟩ = some (.int .u64 t515) ∧ w'.cell? ⟨gb520, 2, none⟩ = some (.int .u64 t516) ∧ w'.cell? ⟨gb520, 3, none⟩ = some (.int .i64 t517) ∧ w'.cell? ⟨gb520, 4, none⟩ = some (.int .i64 t518) ∧ w'.cell? ⟨gb520, 5, none⟩ = some (.bool t519) ∧ w'.cell? ⟨gb504, 0, none⟩ = some (.string a0_0) ∧ w'.cell? ⟨gb504, 1, none⟩ = some (.slice A0_1 l0_1.length c0_1) ∧ w'.cell? ⟨gb504, 2, none⟩ = some (.slice A0_2 l0_2.length c0_2) ∧ w'.cell? ⟨gb504, 3, none⟩ = some (.slice A0_3 l0_3.length c0_3) ∧ w'.cell? ⟨gb504, 4, none⟩ = some (.slice A0_4 l0_4.length c0_4) ∧ w'.cell? ⟨gb504, 5, none⟩ = some (.slice A0_5 l0_5.length c0_5) ∧ w'.cell? ⟨gb504, 6, none⟩ = some (.slice A0_6 l0_6.length c0_6)) (ds := []) #[false, false, false, false, false, false] (by kernel_rfl) rfl rfl ⟨cz BK520 0, cz BK520 1, cz BK520 2, cz BK520 3, cz BK520 4, cz BK520 5, cz BK504 0, cz BK504 1, cz BK504 2, cz BK504 3, cz BK504 4, cz BK504 5, cz BK504 6⟩ (fun hHeld => ?_)
        generalize w169.drew = w170 at BK504 BK520 HB hHeld ⊢
        refine pure_ (i := 2) (N := some 53) (v := ?_) (a' := ?_) #[false, false, true, false, false, false] rfl rfl (by kernel_rfl) (fun _ _ _ h => h) (Or.inl ⟨by rfl, ?_⟩) ?_ ?_
        rotate_left
        ·intro w'
         go_simp
         with_reducible rfl
        rotate_left
        ·simp only [Act.put, List.setIfInBounds_toArray, List.set_cons_zero, List.set_cons_succ, i64_w, i32_w]
         rfl
        refine pure_ (i := 3) (N := some 54) (v := ?_) (a' := ?_) #[false, false, true, true, false, false] rfl rfl (by kernel_rfl) (fun _ _ _ h => h) (Or.inl ⟨by rfl, ?_⟩) ?_ ?_
        rotate_left
        ·intro w'
         go_simp
         with_reducible rfl
        rotate_left
        ·simp only [Act.put, List.setIfInBounds_toArray, List.set_cons_zero, List.set_cons_succ, i64_w, i32_w]
         rfl
        refine take_ (i := 0) (N := some 51) (v := ?_) (a' := ?_) #[true, false, true, true, false, false] rfl rfl (by kernel_rfl) (fun _ _ _ h => h) (Or.inl ⟨by rfl, ?_⟩) hHeld ?_ ?_
        rotate_left
        ·rintro w' ⟨s0, s1, s2, s3, s4, s5, s6, s7, s8, s9, s10, s11, s12⟩
         go_simp
         with_reducible rfl
        rotate_left
        ·simp only [Act.put, List.setIfInBounds_toArray, List.set_cons_zero, List.set_cons_succ, i64_w, i32_w]
         rfl
        refine take_ (i := 1) (N := some 52) (v := ?_) (a' := ?_) #[true, true, true, true, false, false] rfl rfl (by kernel_rfl) (fun _ _ _ h => h) (Or.inl ⟨by rfl, ?_⟩) hHeld ?_ ?_
        rotate_left
        ·rintro w' ⟨s0, s1, s2, s3, s4, s5, s6, s7, s8, s9, s10, s11, s12⟩
         go_simp
         with_reducible rfl
        rotate_left
        ·simp only [Act.put, List.setIfInBounds_toArray, List.set_cons_zero, List.set_cons_succ, i64_w, i32_w]
         rfl
        refine one_ (i := 4) (N := some 55) #[true, true, true, true, true, false] rfl rfl (by kernel_rfl) (by decide) (fun K hK => ?_)
        refine goes_ Try.func9 (by kernel_rfl) rfl #[.agg #[.string a0_0, .slice A0_1 l0_1.length c0_1, .slice A0_2 l0_2.length c0_2, .slice A0_3 l0_3.length c0_3, .slice A0_4 l0_4.length c0_4, .slice A0_5 l0_5.length c0_5, .slice A0_6 l0_6.length c0_6], .int .u64 a1, .int .i64 a2] (by rfl) rfl rfl (by (try simp only [List.map_toArray, List.map_cons, List.map_nil]); first | done | rfl | (simp only [List.length_drop, List.length_take]; rfl)) ?_
        with_reducible refine (curtilageref18_Data.calls kj6 a0_0 _ _ l0_1 _ _ l0_2 _ _ l0_3 _ _ l0_4 _ _ l0_5 _ _ l0_6 a1 a2 t521 t522 t523 t524 t525 t526 _ ?side1 ?side2 ?side3 ?side4 ?side5 ?side6 ?side7 ?side8 ?side9 ?side10 ?side11 ?side12 A27.out).mono ?_
        (case side1 => exact us (Kd.C_below HR0_1.out HB.out))
        (case side2 => exact HC0_1.out)
        (case side3 => exact us (Kd.C_below HR0_2.out HB.out))
        (case side4 => exact HC0_2.out)
        (case side5 => exact us (Kd.C_below HR0_3.out HB.out))
        (case side6 => exact HC0_3.out)
        (case side7 => exact us (Kd.C_below HR0_4.out HB.out))
        (case side8 => exact HC0_4.out)
        (case side9 => exact us (Kd.C_below HR0_5.out HB.out))
        (case side10 => exact HC0_5.out)
        (case side11 => exact us (Kd.C_below HR0_6.out HB.out))
        (case side12 => exact HC0_6.out)
        rintro e w171 ⟨rfl, hb⟩
        refine ⟨_, rfl, ?_⟩
        have n0_ := bw BK504 hb
        have n1_ := bw BK520 hb
        have n2_ := bs HB hb
        revert n0_ n1_ n2_
        clear BK504 BK520 HB
        intro BK504 BK520 HB
        (try clear hb)
        (try clear hb2)
        (try clear hk)
        (try clear hi)
        refine hK.out _ _ ⟨cz BK520 0, cz BK520 1, cz BK520 2, cz BK520 3, cz BK520 4, cz BK520 5, cz BK504 0, cz BK504 1, cz BK504 2, cz BK504 3, cz BK504 4, cz BK504 5, cz BK504 6⟩ (fun hHeld => ?_)
        clear hK K
        refine norm_ (a' := ?_) ?_ ?_
        rotate_left
        ·show Act.put _ (some 55) _ = _
         simp only [Act.put, List.setIfInBounds_toArray, List.set_cons_zero, List.set_cons_succ, i64_w, i32_w]
         rfl
        refine pure_ (i := 5) (N := some 56) (v := ?_) (a' := ?_) #[true, true, true, true, true, true] rfl rfl (by kernel_rfl) (fun _ _ _ h => h) (Or.inl ⟨by rfl, ?_⟩) ?_ ?_
        rotate_left
        ·intro w'
         go_simp
         first | (rw [c28b0]; done) | (rw [c28b0]; with_reducible rfl) | (have h_ := c28b0; simp only [beq_true, beq_false, Bool.not_not] at h_; rw [h_]; done) | (have h_ := c28b0; simp only [beq_true, beq_false, Bool.not_not] at h_; rw [h_]; with_reducible rfl) | (with_reducible rfl)
        rotate_left
        ·simp only [Act.put, List.setIfInBounds_toArray, List.set_cons_zero, List.set_cons_succ, i64_w, i32_w]
         rfl
        refine done_ (by kernel_rfl) ?_
        have hcz172_0 : w171.cell? ⟨gb504, 0, none⟩ = some (.string a0_0) := cz BK504 0
        have hcz172_1 : w171.cell? ⟨gb504, 1, none⟩ = some (.slice A0_1 l0_1.length c0_1) := cz BK504 1
        have hcz172_2 : w171.cell? ⟨gb504, 2, none⟩ = some (.slice A0_2 l0_2.length c0_2) := cz BK504 2
        have hcz172_3 : w171.cell? ⟨gb504, 3, none⟩ = some (.slice A0_3 l0_3.length c0_3) := cz BK504 3
        have hcz172_4 : w171.cell? ⟨gb504, 4, none⟩ = some (.slice A0_4 l0_4.length c0_4) := cz BK504 4
        have hcz172_5 : w171.cell? ⟨gb504, 5, none⟩ = some (.slice A0_5 l0_5.length c0_5) := cz BK504 5
        have hcz172_6 : w171.cell? ⟨gb504, 6, none⟩ = some (.slice A0_6 l0_6.length c0_6) := cz BK504 6
        have hfz172_0 := fz BK504 0
        have hfz172_1 := fz BK504 1
        have hfz172_2 := fz BK504 2
        have hfz172_3 := fz BK504 3
        have hfz172_4 := fz BK504 4
        have hfz172_5 := fz BK504 5
        have hfz172_6 := fz BK504 6
        have p527 : 0 ≤ (a2 : Int) := ud
        have q527 : a2 < (l0_3.length : Int) := ud
        obtain ⟨ad527, e527, hx527_0, hx527_1, hx527_2, hx527_3, hx527_4, hx527_5, hx527_6, hx527_7⟩ := at_T35 HR0_3.out a2 p527 q527
        cases e527
        replace hx527_0 := bcel HB hx527_0
        replace hx527_1 := bcel HB hx527_1
        replace hx527_2 := bcel HB hx527_2
        replace hx527_3 := bcel HB hx527_3
        replace hx527_4 := bcel HB hx527_4
        replace hx527_5 := bcel HB hx527_5
        replace hx527_6 := bcel HB hx527_6
        replace hx527_7 := bcel HB hx527_7
        replace p527 := eq_true p527
        replace q527 := eq_true q527
        try go_wp2
        go_ret
        exact ⟨by first | rfl | (simp [errW_none, errW_some] <;> rfl) | (simp [*, errW_none, errW_some] <;> rfl), uc HB.out⟩
      ·rw [if_neg c38] at H
       exact absurd H (by simp)
     ·rw [if_neg c37] at H
      exact absurd H (by simp)

-- NOT PRINTED: function 12 (table_Slot)

-- NOT PRINTED: function 4 (curtilagelaw18_TableLess)

-- NOT PRINTED: function 13 (tagmem_New)

def curtilageref02_Int.f (a0 : Int) : Option (Int × Int × Int × Int × Int × Bool) := some (0, 0, a0, 0, (-1), false)
-- NOT PRINTED: function 14 (curtilageref18_Slot)

def curtilageref07_Alike.l0 : Nat → List (S37) → List (S37) → Int → Option (Bool)
  | 0, _, _, _ => none
  | k + 1, x0, x1, x5 => if x5 < (x0.length : Int) then (if 0 ≤ x5 then (if x5 < (x1.length : Int) then (if (!(((rd_T37 x0 x5).f0) == ((rd_T37 x1 x5).f0)) || (!(((rd_T37 x0 x5).f1) == ((rd_T37 x1 x5).f1)) || (!(((rd_T37 x0 x5).f2) == ((rd_T37 x1 x5).f2)) || (!(((rd_T37 x0 x5).f3) == ((rd_T37 x1 x5).f3)) || (!(((rd_T37 x0 x5).f4) == ((rd_T37 x1 x5).f4)) || (!(((rd_T37 x0 x5).f5) == ((rd_T37 x1 x5).f5)))))))) = true then (some false) else (curtilageref07_Alike.l0 k x0 x1 (wrap64 (x5 + 1)))) else (none)) else (none)) else (some true)
def curtilageref07_Alike.f (k : Nat) (l0 : List (S37)) (l1 : List (S37)) : Option (Bool) := if (l0.length : Int) = (l1.length : Int) then (curtilageref07_Alike.l0 k l0 l1 0) else (some false)
theorem curtilageref07_Alike.mono_l : ∀ k, (∀ y0 y1 y2, LeO (curtilageref07_Alike.l0 k y0 y1 y2) (curtilageref07_Alike.l0 (k + 1) y0 y1 y2))
  | 0 => fun _ _ _ r h => by simp [curtilageref07_Alike.l0] at h
  | k + 1 => by
    have ih0 := curtilageref07_Alike.mono_l k
    · intro y0 y1 y2
      unfold curtilageref07_Alike.l0
      repeat' first
      | (with_reducible exact ih0 _ _ _)
      | (with_reducible exact LeO.refl _)
      | (with_reducible exact LeO.none _)
      | (with_reducible refine LeO.ite ?_ ?_)
      | (with_reducible refine LeO.bind ?_ (fun _ => ?_))
      | exact ih0 _ _ _
      | exact LeO.none _
      | refine LeO.ite ?_ ?_
      | refine LeO.bind ?_ (fun _ => ?_)
theorem curtilageref07_Alike.mono : ∀ a0 a1 k, LeO (curtilageref07_Alike.f k a0 a1) (curtilageref07_Alike.f (k + 1) a0 a1) := by
  intro a0 a1 k
  have ih0 := curtilageref07_Alike.mono_l k
  unfold curtilageref07_Alike.f
  repeat' first
      | (with_reducible exact ih0 _ _ _)
      | (with_reducible exact LeO.refl _)
      | (with_reducible exact LeO.none _)
      | (with_reducible refine LeO.ite ?_ ?_)
      | (with_reducible refine LeO.bind ?_ (fun _ => ?_))
      | exact ih0 _ _ _
      | exact LeO.none _
      | refine LeO.ite ?_ ?_
      | refine LeO.bind ?_ (fun _ => ?_)
def tagmem_some.f (a0 : Int) (a1 : Int) : Option (Bool) := if a1 ≥ 1 then (if a1 ≤ 65536 then (if a0 < 65536 then (some (decide ((IntKind.u64.wrap (a0 + (IntKind.u64.wrap (a1)))) ≤ 65536))) else (some false)) else (some false)) else (some false)
-- NOT PRINTED: function 36 (tagmem_Mem_all)

-- NOT PRINTED: function 16 (tagmem_Mem_Map)

-- NOT PRINTED: function 57 (tagmem_Mem_place)

-- NOT PRINTED: function 38 (tagmem_Mem_granule)

end Go.Proofs.Ytlbfeklpncoccaa.P
