/- What functions of the program, and of its laws, give, each proved of its code by a walk; no condition. -/
import Derived.Test.YtociaidhgefpiaaKDlPlaysPx0
import Derived.Test.YtociaidhgefpiaaKDlPlaysPx1
import Derived.Test.YtociaidhgefpiaaKDlPlaysPx6
import Derived.Test.YtociaidhgefpiaaKDlPlaysPx7
import Derived.Test.YtociaidhgefpiaaKDlPlaysPx8
import Derived.Test.YtociaidhgefpiaaKDlPlaysSq
import Derived.Test.YtociaidhgefpiaaKDlPlaysUsh
namespace Go.Proofs.Ytociaidhgefpiaa.P
open Go.RowKit Go.Proofs.YtociaidhgefpiaaW.PrintWords Go.Proofs.YtociaidhgefpiaaW.PrintLast Go.Proofs.YtociaidhgefpiaaW.PrintMore
attribute [local go_sem] max2_int min2_int max_two min_two max_three min_three max_four min_four   -- for this text's walks alone
set_option linter.unusedVariables false
set_option linter.unusedSimpArgs false

mutual
def dl_Close.l0 : Nat → List (S38) → Int → Int → Int → List Int → List Int → List Int → List Int → Option (List Int × List Int × List Int × Int)
  | 0, _, _, _, _, _, _, _, _ => none
  | k + 1, x0, x9, x10, x11, x164000, x164001, x165000, x165001 => if x11 < (x164001.length : Int) then (if 0 ≤ x11 then (if (rd x164001 x11) = x9 then (dl_Close.l0 k x0 x9 x11 (wrap64 (x11 + 1)) x164000 x164001 x165000 x165001) else (dl_Close.l0 k x0 x9 x10 (wrap64 (x11 + 1)) x164000 x164001 x165000 x165001)) else (none)) else (if x9 < 0 then (dl_Close.j1 k x0 ([] : List Int) x10 true x164000 x164001 x165000 x165001) else (dl_Close.j1 k x0 ([] : List Int) x10 (decide (x10 < 0)) x164000 x164001 x165000 x165001))
def dl_Close.j1 : Nat → List (S38) → List Int → Int → Bool → List Int → List Int → List Int → List Int → Option (List Int × List Int × List Int × Int)
  | 0, _, _, _, _, _, _, _, _ => none
  | k + 1, x0, x7, x10, x39, x164000, x164001, x165000, x165001 => if x39 = true then (some (x165000, x165001, ([] : List Int), 210)) else ((slices_Delete_int_int.f x165001 x10 (wrap64 (x10 + 1))).bind fun t173 => (dl_Close.l1 k x0 x7 x164000 (x164000.length : Int) 0 ([] : List Int) t173))
def dl_Close.l1 : Nat → List (S38) → List Int → List Int → Int → Int → List Int → List Int → Option (List Int × List Int × List Int × Int)
  | 0, _, _, _, _, _, _, _ => none
  | k + 1, x0, x7, x50, x51, x52, x165000, x165001 => if x52 < x51 then (if 0 ≤ x52 then (if x52 < (x50.length : Int) then ((dl_State_needed.f k x165000 x165001 x0 (rd x50 x52)).bind fun t177 => (if t177 = true then (if x165000.length < 17592186044416 then (dl_Close.l1 k x0 x7 x50 x51 (wrap64 (x52 + 1)) (x165000 ++ [rd x50 x52]) x165001) else (none)) else (if x7.length < 17592186044416 then (dl_Close.l1 k x0 (x7 ++ [rd x50 x52]) x50 x51 (wrap64 (x52 + 1)) x165000 x165001) else (none)))) else (none)) else (none)) else ((slices_Reverse_int_int.f k x7).bind fun t184 => (some (x165000, x165001, t184, 0)))
end
def dl_Close.f (k : Nat) (l0 : List (S38)) (l1_0 : List Int) (l1_1 : List Int) (a2 : ByteArray) : Option (List Int × List Int × List Int × Int) := (dl_State_copied.f l1_0 l1_1).bind fun bt165 => ((graph_Find.f l0 a2).bind fun t171 => (dl_Close.l0 k l0 t171 (-1) 1 l1_0 l1_1 bt165.1 bt165.2))
theorem dl_Close.mono_l : ∀ k, (∀ y0 y1 y2 y3 y4 y5 y6 y7, LeO (dl_Close.l0 k y0 y1 y2 y3 y4 y5 y6 y7) (dl_Close.l0 (k + 1) y0 y1 y2 y3 y4 y5 y6 y7)) ∧ (∀ y0 y1 y2 y3 y4 y5 y6 y7, LeO (dl_Close.j1 k y0 y1 y2 y3 y4 y5 y6 y7) (dl_Close.j1 (k + 1) y0 y1 y2 y3 y4 y5 y6 y7)) ∧ (∀ y0 y1 y2 y3 y4 y5 y6, LeO (dl_Close.l1 k y0 y1 y2 y3 y4 y5 y6) (dl_Close.l1 (k + 1) y0 y1 y2 y3 y4 y5 y6))
  | 0 => ⟨fun _ _ _ _ _ _ _ _ r h => by simp [dl_Close.l0] at h, fun _ _ _ _ _ _ _ _ r h => by simp [dl_Close.j1] at h, fun _ _ _ _ _ _ _ r h => by simp [dl_Close.l1] at h⟩
  | k + 1 => by
    obtain ⟨ih0, ih1, ih2⟩ := dl_Close.mono_l k
    refine ⟨?_, ?_, ?_⟩
    · intro y0 y1 y2 y3 y4 y5 y6 y7
      unfold dl_Close.l0
      repeat' first
      | (with_reducible exact ih0 _ _ _ _ _ _ _ _)
      | (with_reducible exact ih1 _ _ _ _ _ _ _ _)
      | (with_reducible exact ih2 _ _ _ _ _ _ _)
      | (with_reducible exact dl_State_needed.mono _ _ _ _ _)
      | (with_reducible exact slices_Reverse_int_int.mono _ _)
      | (with_reducible exact LeO.refl _)
      | (with_reducible exact LeO.none _)
      | (with_reducible refine LeO.ite ?_ ?_)
      | (with_reducible refine LeO.bind ?_ (fun _ => ?_))
      | exact ih0 _ _ _ _ _ _ _ _
      | exact ih1 _ _ _ _ _ _ _ _
      | exact ih2 _ _ _ _ _ _ _
      | exact dl_State_needed.mono _ _ _ _ _
      | exact slices_Reverse_int_int.mono _ _
      | exact LeO.none _
      | refine LeO.ite ?_ ?_
      | refine LeO.bind ?_ (fun _ => ?_)
    · intro y0 y1 y2 y3 y4 y5 y6 y7
      unfold dl_Close.j1
      repeat' first
      | (with_reducible exact ih0 _ _ _ _ _ _ _ _)
      | (with_reducible exact ih1 _ _ _ _ _ _ _ _)
      | (with_reducible exact ih2 _ _ _ _ _ _ _)
      | (with_reducible exact dl_State_needed.mono _ _ _ _ _)
      | (with_reducible exact slices_Reverse_int_int.mono _ _)
      | (with_reducible exact LeO.refl _)
      | (with_reducible exact LeO.none _)
      | (with_reducible refine LeO.ite ?_ ?_)
      | (with_reducible refine LeO.bind ?_ (fun _ => ?_))
      | exact ih0 _ _ _ _ _ _ _ _
      | exact ih1 _ _ _ _ _ _ _ _
      | exact ih2 _ _ _ _ _ _ _
      | exact dl_State_needed.mono _ _ _ _ _
      | exact slices_Reverse_int_int.mono _ _
      | exact LeO.none _
      | refine LeO.ite ?_ ?_
      | refine LeO.bind ?_ (fun _ => ?_)
    · intro y0 y1 y2 y3 y4 y5 y6
      unfold dl_Close.l1
      repeat' first
      | (with_reducible exact ih0 _ _ _ _ _ _ _ _)
      | (with_reducible exact ih1 _ _ _ _ _ _ _ _)
      | (with_reducible exact ih2 _ _ _ _ _ _ _)
      | (with_reducible exact dl_State_needed.mono _ _ _ _ _)
      | (with_reducible exact slices_Reverse_int_int.mono _ _)
      | (with_reducible exact LeO.refl _)
      | (with_reducible exact LeO.none _)
      | (with_reducible refine LeO.ite ?_ ?_)
      | (with_reducible refine LeO.bind ?_ (fun _ => ?_))
      | exact ih0 _ _ _ _ _ _ _ _
      | exact ih1 _ _ _ _ _ _ _ _
      | exact ih2 _ _ _ _ _ _ _
      | exact dl_State_needed.mono _ _ _ _ _
      | exact slices_Reverse_int_int.mono _ _
      | exact LeO.none _
      | refine LeO.ite ?_ ?_
      | refine LeO.bind ?_ (fun _ => ?_)
theorem dl_Close.mono : ∀ a0 a1 a2 a3 k, LeO (dl_Close.f k a0 a1 a2 a3) (dl_Close.f (k + 1) a0 a1 a2 a3) := by
  intro a0 a1 a2 a3 k
  obtain ⟨ih0, ih1, ih2⟩ := dl_Close.mono_l k
  unfold dl_Close.f
  repeat' first
      | (with_reducible exact ih0 _ _ _ _ _ _ _ _)
      | (with_reducible exact ih1 _ _ _ _ _ _ _ _)
      | (with_reducible exact ih2 _ _ _ _ _ _ _)
      | (with_reducible exact dl_State_needed.mono _ _ _ _ _)
      | (with_reducible exact slices_Reverse_int_int.mono _ _)
      | (with_reducible exact LeO.refl _)
      | (with_reducible exact LeO.none _)
      | (with_reducible refine LeO.ite ?_ ?_)
      | (with_reducible refine LeO.bind ?_ (fun _ => ?_))
      | exact ih0 _ _ _ _ _ _ _ _
      | exact ih1 _ _ _ _ _ _ _ _
      | exact ih2 _ _ _ _ _ _ _
      | exact dl_State_needed.mono _ _ _ _ _
      | exact slices_Reverse_int_int.mono _ _
      | exact LeO.none _
      | refine LeO.ite ?_ ?_
      | refine LeO.bind ?_ (fun _ => ?_)
set_option maxHeartbeats 8000000 in
set_option maxRecDepth 100000 in
theorem dl_Close.calls (k : Nat) (A0 : Option Addr) (c0 : Nat) (l0 : List (S38)) (A1_0 : Option Addr) (c1_0 : Nat) (l1_0 : List Int) (A1_1 : Option Addr) (c1_1 : Nat) (l1_1 : List Int) (a2 : ByteArray) (r1 : List Int) (r2 : List Int) (r3 : List Int) (r4 : Int) (w : World) (hr0 : Kd.C k38 w A0 l0.length l0) (hc0 : l0.length ≤ c0) (hr1_0 : Kd.C (Kd.int .i64) w A1_0 l1_0.length l1_0) (hc1_0 : l1_0.length ≤ c1_0) (hr1_1 : Kd.C (Kd.int .i64) w A1_1 l1_1.length l1_1) (hc1_1 : l1_1.length ≤ c1_1) (h : dl_Close.f k l0 l1_0 l1_1 a2 = some (r1, r2, r3, r4)) :
  Calls Try.prog 17 #[.slice A0 l0.length c0, .agg #[.slice A1_0 l1_0.length c1_0, .slice A1_1 l1_1.length c1_1], .string a2] w fun e w' => ∃ v0_ v1_ v2_ : Value, e = .returned (.tuple #[.agg #[v0_, v1_], v2_, .int .i64 r4]) ∧ Kd.R (Kd.int .i64) 3 w' w.heap.size (fun k_ => nv k_ v1_ ∧ nv k_ v2_) v0_ r1 ∧ Kd.R (Kd.int .i64) 3 w' w.heap.size (fun k_ => nv k_ v0_ ∧ nv k_ v2_) v1_ r2 ∧ Kd.R (Kd.int .i64) 3 w' w.heap.size (fun k_ => nv k_ v0_ ∧ nv k_ v1_) v2_ r3 ∧ Below w.heap.size w w' := by
 have hu28 := Try.underlying28
 have HR0 := am hr0
 have HC0 := am hc0
 clear hr0 hc0
 have HR1_0 := am hr1_0
 have HC1_0 := am hc1_0
 clear hr1_0 hc1_0
 have HR1_1 := am hr1_1
 have HC1_1 := am hc1_1
 clear hr1_1 hc1_1
 have HB := am (Below.refl w.heap.size w)
 have H : ((dl_State_copied.f l1_0 l1_1).bind fun bt165 => ((graph_Find.f l0 a2).bind fun t171 => (dl_Close.l0 k l0 t171 (-1) 1 l1_0 l1_1 bt165.1 bt165.2))) = some (r1, r2, r3, r4) := h
 clear h
 replace H := Option.bind_eq_some_iff.mp H
 obtain ⟨⟨t165, t168⟩, A40, H⟩ := H
 replace H : ((graph_Find.f l0 a2).bind fun t171 => (dl_Close.l0 k l0 t171 (-1) 1 l1_0 l1_1 t165 t168)) = some (r1, r2, r3, r4) := H
 have A4 := am A40
 clear A40
 replace H := Option.bind_eq_some_iff.mp H
 obtain ⟨t171, A50, H⟩ := H
 replace H : (dl_Close.l0 k l0 t171 (-1) 1 l1_0 l1_1 t165 t168) = some (r1, r2, r3, r4) := H
 have A5 := am A50
 clear A50
 have H' := am H
 clear H
 go_enter Try.func17, Try.ntmps17
 go_wp2_with (first | ((with_reducible refine gate_dst (N := 4) rfl ?_); refine box_event ?hg (N := 4) ?hd (cs := #[.slice A1_0 l1_0.length c1_0, .slice A1_1 l1_1.length c1_1]) (t := 28) ?hr ?_; (case hd => rfl); (case hg => rfl); (case hr => first | (go_simp; done) | (go_simp; rfl)); intro gb163 hg w6 hbox hb; have n0_ := am (below_step (uc HB.out) hb); have n1_ := am (hbox); have n2_ := am ((by rw [hg]; exact (below_size (uc HB.out)) : w.heap.size ≤ gb163)); have n3_ := am ((by rw [hg]; exact (below_size (uc HB.out)) : w.heap.size ≤ gb163)); revert n0_ n1_ n2_ n3_; clear HB; intro HB BK163 GW163 GE163; clear hb hbox hg) | ((with_reducible refine gate_dst (N := 6) rfl ?_); refine box_event ?hg (N := 6) ?hd (cs := #[.slice none 0 0, .slice none 0 0]) (t := 28) ?hr ?_; (case hd => rfl); (case hg => rfl); (case hr => first | (go_simp; done) | (go_simp; rfl)); intro gb164 hg w7 hbox hb; have n0_ := am (blk_below (g := gb163) (o := .cells #[.slice A1_0 l1_0.length c1_0, .slice A1_1 l1_1.length c1_1] 28 (0, 0)) (ub BK163.out) hb); have n1_ := am (below_step (uc HB.out) hb); have n2_ := am (hbox); have n3_ := am ((by rw [hg]; exact (below_size (uc HB.out)) : w.heap.size ≤ gb164)); have n4_ := am ((by rw [hg]; exact (below_size (uc HB.out)) : w.heap.size ≤ gb164)); have n5_ := am ((by rw [hg]; exact Nat.ne_of_lt (blk_lt (g := gb163) (o := .cells #[.slice A1_0 l1_0.length c1_0, .slice A1_1 l1_1.length c1_1] 28 (0, 0)) (ub BK163.out)) : gb163 ≠ gb164)); have n6_ := am ((by rw [hg]; exact Nat.ne_of_gt (blk_lt (g := gb163) (o := .cells #[.slice A1_0 l1_0.length c1_0, .slice A1_1 l1_1.length c1_1] 28 (0, 0)) (ub BK163.out)) : gb164 ≠ gb163)); revert n0_ n1_ n2_ n3_ n4_ n5_ n6_; clear BK163 HB; intro BK163 HB BK164 GW164 GE164 NB163_164 NB164_163; clear hb hbox hg; have hnb8 := NB163_164.out; have hnc8 := NB164_163.out; obtain ⟨hcz9_0, hcz9_1, hfz9_0, hfz9_1⟩ := cells2 BK163.out) | ((with_reducible refine gate_dst (N := 15) rfl ?_); (with_reducible refine gate_callee (f := 30) rfl ?_); refine gl (some 15) Try.func30 #[.agg #[.slice A1_0 l1_0.length c1_0, .slice A1_1 l1_1.length c1_1]] ?_; (with_reducible refine (dl_State_copied.calls _ _ l1_0 _ _ l1_1 t165 t168 _ ?side1 ?side2 ?side3 ?side4 A4.out).mono ?_); (case side1 => exact us (Kd.C_below HR1_0.out HB.out)); (case side2 => exact HC1_0.out); (case side3 => exact us (Kd.C_below HR1_1.out HB.out)); (case side4 => exact HC1_1.out); rintro e w10 ⟨v166, v169, rfl, ho0, ho1, hb⟩; refine ⟨_, rfl, ?_⟩; have n0_ := am (Kd.R_lower ho0 (below_size (uc HB.out))); have n1_ := am (Kd.R_lower ho1 (below_size (uc HB.out))); have n2_ := am (blk_below (g := gb163) (o := .cells #[.slice A1_0 l1_0.length c1_0, .slice A1_1 l1_1.length c1_1] 28 (0, 0)) (ub BK163.out) hb); have n3_ := am (blk_below (g := gb164) (o := .cells #[.slice none 0 0, .slice none 0 0] 28 (0, 0)) (ub BK164.out) hb); have n4_ := am (below_step (uc HB.out) hb); revert n0_ n1_ n2_ n3_ n4_; clear BK163 BK164 HB; intro HO167 HO170 BK163 BK164 HB; (try clear hb); (try clear hb2); (try clear hk); (try clear hi); (try clear ho0); (try clear ho1); obtain ⟨Ao11, co11, eo11⟩ := Kd.R_slice HO167.out; subst eo11; obtain ⟨hcz12_0, hcz12_1, hfz12_0, hfz12_1⟩ := cells2 BK164.out; obtain ⟨Ao13, co13, eo13⟩ := Kd.R_slice HO170.out; subst eo13) | ((with_reducible refine gate_store (t := 28) (p := 6) rfl ?_); refine store_event (t := 28) (p := 6) (v := ?vo_w14) (w1 := ((w10.setCell ⟨gb164, 0, none⟩ (.slice Ao11 t165.length co11)).setCell ⟨gb164, 1, none⟩ (.slice Ao13 t168.length co13))) ?hg ?ho ?hn ?hr ?_; (case ho => rfl); (case hg => rfl); (case hn => rfl); (case hr => first | (go_simp; done) | (go_simp; rfl)); intro w14 hw; have n0_ := st2 _ hw HO167 BK164 (fun _ h => h); have n1_ := st2 _ hw HO170 BK164 (fun _ h => h); have n2_ := bf2 hw NB163_164 BK163; have n3_ := bp2 #[.slice Ao11 t165.length co11, .slice Ao13 t168.length co13] hw BK164; have n4_ : Aside0 (Below w.heap.size w w14) := ⟨(by rw [hw]; exact (uc HB.out))⟩; revert n0_ n1_ n2_ n3_ n4_; clear hw HO167 HO170 BK163 BK164 HB; intro HO167 HO170 BK163 BK164 HB) | ((with_reducible refine gate_dst (N := 18) rfl ?_); (with_reducible refine gate_callee (f := 33) rfl ?_); refine gl (some 18) Try.func33 #[.slice A0 l0.length c0, .string a2] ?_; (with_reducible refine (graph_Find.calls _ _ l0 a2 t171 _ ?side1 ?side2 A5.out).mono ?_); (case side1 => exact us (Kd.C_below HR0.out HB.out)); (case side2 => exact HC0.out); rintro e w15 ⟨rfl, hb⟩; refine ⟨_, rfl, ?_⟩; have n0_ := am (Kd.R_below (ua HO167.out) hb); have n1_ := am (Kd.R_below (ua HO170.out) hb); have n2_ := am (blk_below (g := gb163) (o := .cells #[.slice A1_0 l1_0.length c1_0, .slice A1_1 l1_1.length c1_1] 28 (0, 0)) (ub BK163.out) hb); have n3_ := am (blk_below (g := gb164) (o := .cells #[.slice Ao11 t165.length co11, .slice Ao13 t168.length co13] 28 (0, 0)) (ub BK164.out) hb); have n4_ := am (below_step (uc HB.out) hb); revert n0_ n1_ n2_ n3_ n4_; clear HO167 HO170 BK163 BK164 HB; intro HO167 HO170 BK163 BK164 HB; (try clear hb); (try clear hb2); (try clear hk); (try clear hi)))
 go_loopg [10, 11] k (fun kq v10 v11 w' => ∃ (x10_1 : Int) (x11_1 : Int), v10 = .int .i64 x10_1 ∧ v11 = .int .i64 x11_1 ∧ Aside0 (dl_Close.l0 kq l0 t171 x10_1 x11_1 l1_0 l1_1 t165 t168 = some (r1, r2, r3, r4)) ∧ Aside0 (kq ≤ k) ∧ Aside0 (Kd.R (Kd.int .i64) 3 w' w.heap.size (fun k_ => some k_ ≠ ((.slice Ao13 t168.length co13) : Value).ownBlock) (.slice Ao11 t165.length co11) t165) ∧ Aside0 (Kd.R (Kd.int .i64) 3 w' w.heap.size (fun k_ => some k_ ≠ ((.slice Ao11 t165.length co11) : Value).ownBlock) (.slice Ao13 t168.length co13) t168) ∧ Aside0 (w'.heap[gb163]? = some (.cells #[(.slice A1_0 l1_0.length c1_0), (.slice A1_1 l1_1.length c1_1)] 28 (0, 0))) ∧ Aside0 (w'.heap[gb164]? = some (.cells #[(.slice Ao11 t165.length co11), (.slice Ao13 t168.length co13)] 28 (0, 0))) ∧ Aside0 (Below w.heap.size w w'))
 case atStart => exact ⟨((-1)), (1), uf, uf, H', ⟨Nat.le_refl _⟩, ⟨ua HO167.out⟩, ⟨ua HO170.out⟩, ⟨ub BK163.out⟩, ⟨ub BK164.out⟩, ⟨uc HB.out⟩⟩
 case round =>
  clear H'
  try clear c1
  try clear p2
  try clear c3
  try clear c8
  try clear hcz12_0
  try clear hcz12_1
  try clear hcz9_0
  try clear hcz9_1
  try clear hfz12_0
  try clear hfz12_1
  try clear hfz9_0
  try clear hfz9_1
  obtain ⟨x10_1, x11_1, rfl, rfl, HA, HK1, HO_165000, HO_165001, BK163, BK164, HB⟩ := hrel
  cases gk with
  | zero => exact absurd HA.out (by simp [dl_Close.l0])
  | succ k1 =>
   have H := HA.out
   clear HA
   simp only [dl_Close.l0] at H
   by_cases c16 : x11_1 < (l1_1.length : Int)
   ·rw [if_pos c16] at H
    have c16b0 : decide (x11_1 < (l1_1.length : Int)) = true := decide_eq_true c16
    clear c16
    by_cases c17 : 0 ≤ x11_1
    ·rw [if_pos c17] at H
     have c17b0 : decide (0 ≤ x11_1) = true := decide_eq_true c17
     clear c17
     by_cases c18 : (rd l1_1 x11_1) = t171
     ·rw [if_pos c18] at H
      have c18b0 : ((rd l1_1 x11_1) == t171) = true := beq_iff_eq.mpr c18
      have c18b1 : ((rd l1_1 x11_1) != t171) = false := bne_eq_false_iff_eq.mpr c18
      clear c18
      have H' := am H
      clear H
      have hnb19 := NB163_164.out
      have hnc19 := NB164_163.out
      have hcz20_0 : wr.cell? ⟨gb163, 0, none⟩ = some (.slice A1_0 l1_0.length c1_0) := (blk_cell BK163.out 0).trans rfl
      have hcz20_1 : wr.cell? ⟨gb163, 1, none⟩ = some (.slice A1_1 l1_1.length c1_1) := (blk_cell BK163.out 1).trans rfl
      have hfz20_0 := blk_frozen BK163.out 0
      have hfz20_1 := blk_frozen BK163.out 1
      have p172 : 0 ≤ (x11_1 : Int) := ud
      have q172 : x11_1 < (l1_1.length : Int) := ud
      obtain ⟨ad172, e172, hx172_0⟩ := Kd.at_int HR1_1.out x11_1 p172 q172
      cases e172
      replace hx172_0 := bcel HB hx172_0
      replace p172 := eq_true p172
      replace q172 := eq_true q172
      go_wp2
      go_roundg k1
      case measure => have := HK1.out; omega
      case rel => exact ⟨(x11_1), (wrap64 (x11_1 + 1)), uf, uf, H', ⟨by have := HK1.out; omega⟩, ⟨ua HO_165000.out⟩, ⟨ua HO_165001.out⟩, ⟨ub BK163.out⟩, ⟨ub BK164.out⟩, ⟨uc HB.out⟩⟩
     ·rw [if_neg c18] at H
      have c18b0 : ((rd l1_1 x11_1) == t171) = false := beq_eq_false_iff_ne.mpr c18
      have c18b1 : ((rd l1_1 x11_1) != t171) = true := bne_iff_ne.mpr c18
      have H' := am H
      clear H
      have hnb21 := NB163_164.out
      have hnc21 := NB164_163.out
      have hcz22_0 : wr.cell? ⟨gb163, 0, none⟩ = some (.slice A1_0 l1_0.length c1_0) := (blk_cell BK163.out 0).trans rfl
      have hcz22_1 : wr.cell? ⟨gb163, 1, none⟩ = some (.slice A1_1 l1_1.length c1_1) := (blk_cell BK163.out 1).trans rfl
      have hfz22_0 := blk_frozen BK163.out 0
      have hfz22_1 := blk_frozen BK163.out 1
      have p172 : 0 ≤ (x11_1 : Int) := ud
      have q172 : x11_1 < (l1_1.length : Int) := ud
      obtain ⟨ad172, e172, hx172_0⟩ := Kd.at_int HR1_1.out x11_1 p172 q172
      cases e172
      replace hx172_0 := bcel HB hx172_0
      replace p172 := eq_true p172
      replace q172 := eq_true q172
      go_wp2
      go_roundg k1
      case measure => have := HK1.out; omega
      case rel => exact ⟨(x10_1), (wrap64 (x11_1 + 1)), uf, uf, H', ⟨by have := HK1.out; omega⟩, ⟨ua HO_165000.out⟩, ⟨ua HO_165001.out⟩, ⟨ub BK163.out⟩, ⟨ub BK164.out⟩, ⟨uc HB.out⟩⟩
    ·rw [if_neg c17] at H
     exact absurd H (by simp)
   ·rw [if_neg c16] at H
    have c16b0 : decide (x11_1 < (l1_1.length : Int)) = false := decide_eq_false c16
    clear c16
    have HC23 := am H
    clear H
    have hnb24 := NB163_164.out
    have hnc24 := NB164_163.out
    have hcz25_0 : wr.cell? ⟨gb163, 0, none⟩ = some (.slice A1_0 l1_0.length c1_0) := (blk_cell BK163.out 0).trans rfl
    have hcz25_1 : wr.cell? ⟨gb163, 1, none⟩ = some (.slice A1_1 l1_1.length c1_1) := (blk_cell BK163.out 1).trans rfl
    have hfz25_0 := blk_frozen BK163.out 0
    have hfz25_1 := blk_frozen BK163.out 1
    go_upto_region 9 with (fail)
    go_cut [39] (fun v39 wc => ∃ (kq : Nat) (x39_22 : Bool), v39 = .bool x39_22 ∧ Aside0 (dl_Close.j1 kq l0 ([] : List Int) x10_1 x39_22 l1_0 l1_1 t165 t168 = some (r1, r2, r3, r4)) ∧ Aside0 (kq ≤ k1) ∧ Aside0 (Kd.R (Kd.int .i64) 3 wc w.heap.size (fun k_ => some k_ ≠ ((.slice Ao11 t165.length co11) : Value).ownBlock ∧ some k_ ≠ ((.slice Ao13 t168.length co13) : Value).ownBlock) (.slice none 0 0) ([] : List Int)) ∧ Aside0 (Kd.R (Kd.int .i64) 3 wc w.heap.size (fun k_ => some k_ ≠ ((.slice none 0 0) : Value).ownBlock ∧ some k_ ≠ ((.slice Ao13 t168.length co13) : Value).ownBlock) (.slice Ao11 t165.length co11) t165) ∧ Aside0 (Kd.R (Kd.int .i64) 3 wc w.heap.size (fun k_ => some k_ ≠ ((.slice none 0 0) : Value).ownBlock ∧ some k_ ≠ ((.slice Ao11 t165.length co11) : Value).ownBlock) (.slice Ao13 t168.length co13) t168) ∧ Aside0 (wc.heap[gb163]? = some (.cells #[(.slice A1_0 l1_0.length c1_0), (.slice A1_1 l1_1.length c1_1)] 28 (0, 0))) ∧ Aside0 (wc.heap[gb164]? = some (.cells #[(.slice Ao11 t165.length co11), (.slice Ao13 t168.length co13)] 28 (0, 0))) ∧ Aside0 (Below w.heap.size w wc))
    case first =>
     have H := HC23.out
     clear HC23
     by_cases c26 : t171 < 0
     ·rw [if_pos c26] at H
      have c26b0 : decide (t171 < 0) = true := decide_eq_true c26
      clear c26
      (first | rw [c26b0] | (simp only [i64_w, i32_w]; rw [c26b0]) | skip)
      have H' := am H
      clear H
      go_wp2
      go_meet
      case rel => exact ⟨_, (true), uf, H', ⟨by have := HK1.out; first | omega | exact Nat.le_refl _⟩, ⟨by first | exact Kd.R_nil _ _ _ _ _ | exact Kd.N_nil _ _ _ _ _ | exact Kd.V_nil _ _ _ _ _ | exact Kd.Q_nil _ _ _ _ _ | exact Kd.S_nil _ _ _ _ _⟩, ⟨by (with_reducible repeat (first | apply Kd.R_alloc | apply Kd.R_drewN | apply Kd.R_drew)); exact Kd.R_mono HO_165000.out (fun _ hk => ⟨(by simp [Value.ownBlock]), hk⟩)⟩, ⟨by (with_reducible repeat (first | apply Kd.R_alloc | apply Kd.R_drewN | apply Kd.R_drew)); exact Kd.R_mono HO_165001.out (fun _ hk => ⟨(by simp [Value.ownBlock]), hk⟩)⟩, ⟨ub BK163.out⟩, ⟨ub BK164.out⟩, ⟨uc HB.out⟩⟩
     ·rw [if_neg c26] at H
      have c26b0 : decide (t171 < 0) = false := decide_eq_false c26
      clear c26
      (first | rw [c26b0] | (simp only [i64_w, i32_w]; rw [c26b0]) | skip)
      have H' := am H
      clear H
      go_wp2
      go_meet
      case rel => exact ⟨_, (decide (x10_1 < 0)), uf, H', ⟨by have := HK1.out; first | omega | exact Nat.le_refl _⟩, ⟨by first | exact Kd.R_nil _ _ _ _ _ | exact Kd.N_nil _ _ _ _ _ | exact Kd.V_nil _ _ _ _ _ | exact Kd.Q_nil _ _ _ _ _ | exact Kd.S_nil _ _ _ _ _⟩, ⟨by (with_reducible repeat (first | apply Kd.R_alloc | apply Kd.R_drewN | apply Kd.R_drew)); exact Kd.R_mono HO_165000.out (fun _ hk => ⟨(by simp [Value.ownBlock]), hk⟩)⟩, ⟨by (with_reducible repeat (first | apply Kd.R_alloc | apply Kd.R_drewN | apply Kd.R_drew)); exact Kd.R_mono HO_165001.out (fun _ hk => ⟨(by simp [Value.ownBlock]), hk⟩)⟩, ⟨ub BK163.out⟩, ⟨ub BK164.out⟩, ⟨uc HB.out⟩⟩
    case rest =>
     clear HC23
     try clear c1
     try clear p1
     try clear q1
     try clear hx1
     try clear c2
     try clear p2
     try clear c3
     try clear p6
     try clear c8
     try clear c16
     try clear c16b0
     try clear c17
     try clear c17b0
     try clear p17
     try clear q17
     try clear hx17
     try clear c18
     try clear c18b0
     try clear c18b1
     try clear c19
     try clear c21
     try clear c24
     try clear c26
     try clear c26b0
     try clear hcz12_0
     try clear hcz12_1
     try clear hcz20_0
     try clear hcz20_1
     try clear hcz22_0
     try clear hcz22_1
     try clear hcz25_0
     try clear hcz25_1
     try clear hcz9_0
     try clear hcz9_1
     try clear hfz12_0
     try clear hfz12_1
     try clear hfz20_0
     try clear hfz20_1
     try clear hfz22_0
     try clear hfz22_1
     try clear hfz25_0
     try clear hfz25_1
     try clear hfz9_0
     try clear hfz9_1
     try clear hx172_0
     try clear p172
     try clear p2
     try clear q172
     obtain ⟨kq, x39_22, rfl, HA, HJ22, HO_7, HO_165000, HO_165001, BK163, BK164, HB⟩ := hcut
     cases kq with
     | zero => exact absurd HA.out (by simp [dl_Close.j1])
     | succ kj22 =>
      have H := HA.out
      clear HA
      simp only [dl_Close.j1] at H
      by_cases c27 : x39_22 = true
      ·subst c27
       have H1 : (some (t165, t168, ([] : List Int), 210)) = some (r1, r2, r3, r4) := by rw [if_pos rfl] at H; exact H
       clear H
       have H := H1
       clear H1
       simp only [Option.some.injEq, Prod.mk.injEq] at H
       obtain ⟨rfl, rfl, rfl, rfl⟩ := H
       have hnb28 := NB164_163.out
       have hnc28 := NB163_164.out
       have hcz29_0 : wc.cell? ⟨gb164, 0, none⟩ = some (.slice Ao11 t165.length co11) := (blk_cell BK164.out 0).trans rfl
       have hcz29_1 : wc.cell? ⟨gb164, 1, none⟩ = some (.slice Ao13 t168.length co13) := (blk_cell BK164.out 1).trans rfl
       have hfz29_0 := blk_frozen BK164.out 0
       have hfz29_1 := blk_frozen BK164.out 1
       go_wp2_with (first | ((with_reducible refine gate_store (t := 28) (p := 6) rfl ?_); refine store_event (t := 28) (p := 6) (v := ?vo_w30) (w1 := ((wc.setCell ⟨gb164, 0, none⟩ (.slice Ao11 t165.length co11)).setCell ⟨gb164, 1, none⟩ (.slice Ao13 t168.length co13))) ?hg ?ho ?hn ?hr ?_; (case ho => rfl); (case hg => rfl); (case hn => rfl); (case hr => first | (go_simp; done) | (go_simp; rfl)); intro w30 hw; have n0_ := st2 (fun k_ => nw k_ Ao11 t165 co11 ∧ nw k_ Ao13 t168 co13) hw HO_7 BK164 (fun _ h => ⟨h.1, h.2⟩); have n1_ := st2 (fun k_ => some k_ ≠ (.slice none 0 0 : Value).ownBlock ∧ nw k_ Ao13 t168 co13) hw HO_165000 BK164 (fun _ h => ⟨h.1, h.2⟩); have n2_ := st2 (fun k_ => some k_ ≠ (.slice none 0 0 : Value).ownBlock ∧ nw k_ Ao11 t165 co11) hw HO_165001 BK164 (fun _ h => ⟨h.1, h.2⟩); have n3_ := bf2 hw NB163_164 BK163; have n4_ := bp2 #[.slice Ao11 t165.length co11, .slice Ao13 t168.length co13] hw BK164; have n5_ : Aside0 (Below w.heap.size w w30) := ⟨(by rw [hw]; exact (uc HB.out))⟩; revert n0_ n1_ n2_ n3_ n4_ n5_; clear hw HO_7 HO_165000 HO_165001 BK163 BK164 HB; intro HO_7 HO_165000 HO_165001 BK163 BK164 HB))
       refine bodyPost_ret (results_ctt rfl _ _ gb164 28 #[.slice Ao11 t165.length co11, .slice Ao13 t168.length co13] (0, 0) _ rfl (ub BK164.out) Try.underlying28 rfl (by kernel_rfl)) rfl ?_
       exact ⟨_, _, _, by first | rfl | (simp [errW_none, errW_some] <;> rfl) | (simp [*, errW_none, errW_some] <;> rfl), by (with_reducible repeat (first | apply Kd.R_alloc | apply Kd.R_drewN | apply Kd.R_drew)); exact Kd.R_mono HO_165000.out (fun _ hk => ⟨hk.2, (by simp [Value.ownBlock])⟩), by (with_reducible repeat (first | apply Kd.R_alloc | apply Kd.R_drewN | apply Kd.R_drew)); exact Kd.R_mono HO_165001.out (fun _ hk => ⟨hk.2, (by simp [Value.ownBlock])⟩), by first | exact Kd.R_nil _ _ _ _ _ | exact Kd.N_nil _ _ _ _ _ | exact Kd.V_nil _ _ _ _ _ | exact Kd.Q_nil _ _ _ _ _ | exact Kd.S_nil _ _ _ _ _, uc HB.out⟩
      ·replace c27 := Bool.eq_false_iff.mpr c27
       subst c27
       have H1 : ((slices_Delete_int_int.f t168 x10_1 (wrap64 (x10_1 + 1))).bind fun t173 => (dl_Close.l1 kj22 l0 ([] : List Int) l1_0 (l1_0.length : Int) 0 ([] : List Int) t173)) = some (r1, r2, r3, r4) := by rw [if_neg (show ¬ (false = true) by decide)] at H; exact H
       clear H
       have H := H1
       clear H1
       replace H := Option.bind_eq_some_iff.mp H
       obtain ⟨t173, A310, H⟩ := H
       replace H : (dl_Close.l1 kj22 l0 ([] : List Int) l1_0 (l1_0.length : Int) 0 ([] : List Int) t173) = some (r1, r2, r3, r4) := H
       have A31 := am A310
       clear A310
       have H' := am H
       clear H
       have hnb32 := NB164_163.out
       have hnc32 := NB163_164.out
       have hcz33_0 : wc.cell? ⟨gb164, 0, none⟩ = some (.slice Ao11 t165.length co11) := (blk_cell BK164.out 0).trans rfl
       have hcz33_1 : wc.cell? ⟨gb164, 1, none⟩ = some (.slice Ao13 t168.length co13) := (blk_cell BK164.out 1).trans rfl
       have hfz33_0 := blk_frozen BK164.out 0
       have hfz33_1 := blk_frozen BK164.out 1
       go_wp2_with (first | ((with_reducible refine gate_dst (N := 46) rfl ?_); (with_reducible refine gate_callee (f := 34) rfl ?_); refine gl (some 46) Try.func34 #[.slice Ao13 t168.length co13, .int .i64 x10_1, .int .i64 (wrap64 (x10_1 + 1))] ?_; (with_reducible refine (slices_Delete_int_int.calls (fun k_ => some k_ = ow Ao13 t168 co13) (.slice Ao13 t168.length co13) t168 x10_1 (wrap64 (x10_1 + 1)) t173 w _ ?side1 ?side2 A31.out).mono ?_); (case side1 => repeat (first | (with_reducible first | exact HB.out | apply below_alloc | apply pw_below_drewN | apply below_drew1 | refine below_set ?_ GE163.out | refine below_set ?_ GE164.out) | exact HB.out)); (case side2 => exact Kd.R_tight rfl HO_165001.out); rintro e w34 ⟨v174, rfl, ho0, hb, hkp⟩; refine ⟨_, rfl, ?_⟩; have n0_ := am (Kd.R_mono (ok' := fun k_ => nw k_ Ao11 t165 co11 ∧ nv k_ v174) (Kd.R_keptB (HO_7.out) hkp (fun k_ hk_ hs_ => (hk_.2) hs_)) (fun k_ hk_ => ⟨hk_.1.1, fun e_ => Or.elim (ho0.1 k_ e_.symm) (fun hs_ => hk_.2.1 hs_) (fun hn_ => Nat.not_le.2 hk_.2.2 hn_)⟩)); have n1_ := am (Kd.R_mono (ok' := fun k_ => some k_ ≠ (.slice none 0 0 : Value).ownBlock ∧ nv k_ v174) (Kd.R_keptB (HO_165000.out) hkp (fun k_ hk_ hs_ => (hk_.2) hs_)) (fun k_ hk_ => ⟨hk_.1.1, fun e_ => Or.elim (ho0.1 k_ e_.symm) (fun hs_ => hk_.2.1 hs_) (fun hn_ => Nat.not_le.2 hk_.2.2 hn_)⟩)); have n2_ := am (blk_kept (ub BK163.out) hkp (fun hs_ => (fun e_ => (Kd.R_ne HO_165001.out BK163.out (by decide)) e_) hs_)); have n3_ := am (blk_kept (ub BK164.out) hkp (fun hs_ => (fun e_ => (Kd.R_ne HO_165001.out BK164.out (by decide)) e_) hs_)); have n4_ := am (Kd.R_mono (ok' := fun k_ => some k_ ≠ (.slice none 0 0 : Value).ownBlock ∧ nw k_ Ao11 t165 co11) ho0 (fun k_ hk_ => ⟨Or.elim hk_ (fun hs_ => fun e_ => (((HO_7.out).1 k_ e_.symm).2) hs_) (fun hn_ => (Kd.fresh' (Kd.R_lt (ua HO_7.out)) k_ hn_)), Or.elim hk_ (fun hs_ => fun e_ => (((HO_165000.out).1 k_ e_.symm).2) hs_) (fun hn_ => (Kd.fresh' (Kd.R_lt (ua HO_165000.out)) k_ hn_))⟩)); have n5_ := am (hb); revert n0_ n1_ n2_ n3_ n4_ n5_; clear HO_7 HO_165000 BK163 BK164 HB HO_165001; intro HO_7 HO_165000 BK163 BK164 HO175 HB; (try clear hb); (try clear hkp); (try clear ho0); obtain ⟨Ao35, co35, eo35⟩ := Kd.R_slice HO175.out; subst eo35; obtain ⟨hcz36_0, hcz36_1, hfz36_0, hfz36_1⟩ := cells2 BK164.out; obtain ⟨hcz37_0, hcz37_1, hfz37_0, hfz37_1⟩ := cells2 BK163.out))
       go_loopg [7, 52] kj22 (fun kq v7 v52 w' => ∃ (x7_3 : List Int) (x52_3 : Int) (x165000_3 : List Int) (u165000 : Value), v52 = .int .i64 x52_3 ∧ Aside0 (dl_Close.l1 kq l0 x7_3 l1_0 (l1_0.length : Int) x52_3 x165000_3 t173 = some (r1, r2, r3, r4)) ∧ Aside0 (kq ≤ kj22) ∧ Aside0 (Kd.R (Kd.int .i64) 3 w' w.heap.size (fun k_ => nv k_ u165000 ∧ some k_ ≠ ((.slice Ao35 t173.length co35) : Value).ownBlock) v7 x7_3) ∧ Aside0 (Kd.R (Kd.int .i64) 3 w' w.heap.size (fun k_ => nv k_ v7 ∧ some k_ ≠ ((.slice Ao35 t173.length co35) : Value).ownBlock) u165000 x165000_3) ∧ Aside0 (Kd.R (Kd.int .i64) 3 w' w.heap.size (fun k_ => nv k_ v7 ∧ nv k_ u165000) (.slice Ao35 t173.length co35) t173) ∧ Aside0 (w'.heap[gb163]? = some (.cells #[(.slice A1_0 l1_0.length c1_0), (.slice A1_1 l1_1.length c1_1)] 28 (0, 0))) ∧ Aside0 (w'.heap[gb164]? = some (.cells #[u165000, (.slice Ao35 t173.length co35)] 28 (0, 0))) ∧ Aside0 (Below w.heap.size w w'))
       case atStart => exact ⟨(([] : List Int)), (0), (([] : List Int)), (.slice none 0 0), uf, H', ⟨Nat.le_refl _⟩, ⟨by (with_reducible repeat (first | apply Kd.R_alloc | apply Kd.R_drewN | apply Kd.R_drew)); exact Kd.R_mono (Kd.R_far (p := ⟨gb164, 0, none⟩) (Kd.R_far (p := ⟨gb164, 1, none⟩) (Kd.R_types HO_7.out BK164.out (by decide)) (fun _ hk => hk.2) (.slice Ao35 t173.length co35)) (fun _ hk => hk.2) (.slice none 0 0)) (fun _ hk => ⟨(by simp [Value.ownBlock]), hk.1.2⟩)⟩, ⟨by first | exact Kd.R_nil _ _ _ _ _ | exact Kd.N_nil _ _ _ _ _ | exact Kd.V_nil _ _ _ _ _ | exact Kd.Q_nil _ _ _ _ _ | exact Kd.S_nil _ _ _ _ _⟩, ⟨by (with_reducible repeat (first | apply Kd.R_alloc | apply Kd.R_drewN | apply Kd.R_drew)); exact Kd.R_mono (Kd.R_far (p := ⟨gb164, 0, none⟩) (Kd.R_far (p := ⟨gb164, 1, none⟩) (Kd.R_types HO175.out BK164.out (by decide)) (fun _ hk => hk.2) (.slice Ao35 t173.length co35)) (fun _ hk => hk.2) (.slice none 0 0)) (fun _ hk => ⟨hk.1.1, (by simp [Value.ownBlock])⟩)⟩, ⟨by (iterate 2 ((with_reducible repeat (first | refine blk_drewN ?_ _ | refine blk_drew ?_ | refine blk_alloc ?_ _)); refine blk_far ?_ NB163_164.out _)); (with_reducible repeat (first | refine blk_drewN ?_ _ | refine blk_drew ?_ | refine blk_alloc ?_ _)); exact BK163.out⟩, ⟨by (with_reducible repeat (first | refine blk_drewN ?_ _ | refine blk_drew ?_ | refine blk_alloc ?_ _)); refine blk_put (cs := #[.slice Ao11 t165.length co11, .slice Ao35 t173.length co35]) ?_ 0 _ rfl; (with_reducible repeat (first | refine blk_drewN ?_ _ | refine blk_drew ?_ | refine blk_alloc ?_ _)); refine blk_put (cs := #[.slice Ao11 t165.length co11, .slice Ao13 t168.length co13]) ?_ 1 _ rfl; (with_reducible repeat (first | refine blk_drewN ?_ _ | refine blk_drew ?_ | refine blk_alloc ?_ _)); exact BK164.out⟩, ⟨uc HB.out⟩⟩
       case round =>
        clear H'
        try clear c1
        try clear p1
        try clear q1
        try clear hx1
        try clear c2
        try clear p2
        try clear c3
        try clear p6
        try clear c8
        try clear c16
        try clear c16b0
        try clear c17
        try clear c17b0
        try clear p17
        try clear q17
        try clear hx17
        try clear c18
        try clear c18b0
        try clear c18b1
        try clear c19
        try clear c21
        try clear c24
        try clear c26
        try clear c26b0
        try clear c27
        try clear c28
        try clear c30
        try clear c32
        try clear c33
        try clear c34
        try clear hcz12_0
        try clear hcz12_1
        try clear hcz20_0
        try clear hcz20_1
        try clear hcz22_0
        try clear hcz22_1
        try clear hcz25_0
        try clear hcz25_1
        try clear hcz29_0
        try clear hcz29_1
        try clear hcz33_0
        try clear hcz33_1
        try clear hcz36_0
        try clear hcz36_1
        try clear hcz37_0
        try clear hcz37_1
        try clear hcz9_0
        try clear hcz9_1
        try clear hfz12_0
        try clear hfz12_1
        try clear hfz20_0
        try clear hfz20_1
        try clear hfz22_0
        try clear hfz22_1
        try clear hfz25_0
        try clear hfz25_1
        try clear hfz29_0
        try clear hfz29_1
        try clear hfz33_0
        try clear hfz33_1
        try clear hfz36_0
        try clear hfz36_1
        try clear hfz37_0
        try clear hfz37_1
        try clear hfz9_0
        try clear hfz9_1
        try clear hx172_0
        try clear p1
        try clear p17
        try clear p172
        try clear p2
        try clear p6
        try clear q1
        try clear q17
        try clear q172
        obtain ⟨x7_3, x52_3, x165000_3, u165000, rfl, HA, HK3, HO_7, HO_165000, HO_165001, BK163, BK164, HB⟩ := hrel
        cases gk with
        | zero => exact absurd HA.out (by simp [dl_Close.l1])
        | succ k3 =>
         have H := HA.out
         clear HA
         simp only [dl_Close.l1] at H
         by_cases c38 : x52_3 < (l1_0.length : Int)
         ·rw [if_pos c38] at H
          have c38b0 : decide (x52_3 < (l1_0.length : Int)) = true := decide_eq_true c38
          clear c38
          by_cases c39 : 0 ≤ x52_3
          ·rw [if_pos c39] at H
           have c39b0 : decide (0 ≤ x52_3) = true := decide_eq_true c39
           clear c39
           by_cases c40 : x52_3 < (l1_0.length : Int)
           ·rw [if_pos c40] at H
            have c40b0 : decide (x52_3 < (l1_0.length : Int)) = true := decide_eq_true c40
            clear c40
            replace H := Option.bind_eq_some_iff.mp H
            obtain ⟨t177, A410, H⟩ := H
            replace H : (if t177 = true then (if x165000_3.length < 17592186044416 then (dl_Close.l1 k3 l0 x7_3 l1_0 (l1_0.length : Int) (wrap64 (x52_3 + 1)) (x165000_3 ++ [rd l1_0 x52_3]) t173) else (none)) else (if x7_3.length < 17592186044416 then (dl_Close.l1 k3 l0 (x7_3 ++ [rd l1_0 x52_3]) l1_0 (l1_0.length : Int) (wrap64 (x52_3 + 1)) x165000_3 t173) else (none))) = some (r1, r2, r3, r4) := H
            have A41 := am A410
            clear A410
            by_cases c42 : t177 = true
            ·subst c42
             have H1 : (if x165000_3.length < 17592186044416 then (dl_Close.l1 k3 l0 x7_3 l1_0 (l1_0.length : Int) (wrap64 (x52_3 + 1)) (x165000_3 ++ [rd l1_0 x52_3]) t173) else (none)) = some (r1, r2, r3, r4) := by rw [if_pos rfl] at H; exact H
             clear H
             have H := H1
             clear H1
             by_cases c43 : x165000_3.length < 17592186044416
             ·rw [if_pos c43] at H
              have LMc43 := am c43
              clear c43
              obtain ⟨y178, hy178⟩ : ∃ y_ : List Int, y_ = (x165000_3 ++ [rd l1_0 x52_3]) := ⟨_, rfl⟩
              replace H : (dl_Close.l1 k3 l0 x7_3 l1_0 (l1_0.length : Int) (wrap64 (x52_3 + 1)) y178 t173) = some (r1, r2, r3, r4) := by first | (rw [hy178]; with_reducible exact H) | (have H2_ := (Option.bind_some _ _).symm.trans H; rw [hy178]; with_reducible exact H2_) | (have H2_ := (Option.bind_some _ _).symm.trans H; with_reducible exact H2_) | with_reducible exact H | (rw [hy178]; exact H) | exact H
              have Ny178 := am hy178
              clear hy178
              have H' := am H
              clear H
              have p176 : 0 ≤ (x52_3 : Int) := ud
              have q176 : x52_3 < (l1_0.length : Int) := ud
              obtain ⟨ad176, e176, hx176_0⟩ := Kd.at_int HR1_0.out x52_3 p176 q176
              cases e176
              replace hx176_0 := bcel HB hx176_0
              replace p176 := eq_true p176
              replace q176 := eq_true q176
              have hnb44 := NB164_163.out
              have hnc44 := NB163_164.out
              have hcz45_0 : wr.cell? ⟨gb164, 0, none⟩ = some (u165000) := (blk_cell BK164.out 0).trans rfl
              have hcz45_1 : wr.cell? ⟨gb164, 1, none⟩ = some (.slice Ao35 t173.length co35) := (blk_cell BK164.out 1).trans rfl
              have hfz45_0 := blk_frozen BK164.out 0
              have hfz45_1 := blk_frozen BK164.out 1
              obtain ⟨Ao46, co46, eo46⟩ := Kd.R_slice HO_165000.out
              subst eo46
              go_wp2_with (first | ((with_reducible refine gate_dst (N := 59) rfl ?_); (with_reducible refine gate_callee (f := 35) rfl ?_); refine gl (some 59) Try.func35 #[.agg #[.slice Ao46 x165000_3.length co46, .slice Ao35 t173.length co35], .slice A0 l0.length c0, .int .i64 (rd l1_0 x52_3)] ?_; (with_reducible refine (dl_State_needed.calls k3 _ _ x165000_3 _ _ t173 _ _ l0 (rd l1_0 x52_3) true _ ?side1 ?side2 ?side3 ?side4 ?side5 ?side6 A41.out).mono ?_); (case side1 => exact us (Kd.R_reads' HO_165000.out).2.2); (case side2 => exact (Kd.R_reads' HO_165000.out).2.1); (case side3 => exact us (Kd.R_reads' HO_165001.out).2.2); (case side4 => exact (Kd.R_reads' HO_165001.out).2.1); (case side5 => exact us (Kd.C_below HR0.out HB.out)); (case side6 => exact HC0.out); rintro e w47 ⟨rfl, hb⟩; refine ⟨_, rfl, ?_⟩; have n0_ := am (Kd.R_below (ua HO_7.out) hb); have n1_ := am (Kd.R_below (ua HO_165000.out) hb); have n2_ := am (Kd.R_below (ua HO_165001.out) hb); have n3_ := am (blk_below (g := gb163) (o := .cells #[.slice (some ad176) l1_0.length c1_0, .slice A1_1 l1_1.length c1_1] 28 (0, 0)) (ub BK163.out) hb); have n4_ := am (blk_below (g := gb164) (o := .cells #[.slice Ao46 x165000_3.length co46, .slice Ao35 t173.length co35] 28 (0, 0)) (ub BK164.out) hb); have n5_ := am (below_step (uc HB.out) hb); revert n0_ n1_ n2_ n3_ n4_ n5_; clear HO_7 HO_165000 HO_165001 BK163 BK164 HB; intro HO_7 HO_165000 HO_165001 BK163 BK164 HB; (try clear hb); (try clear hb2); (try clear hk); (try clear hi); obtain ⟨hcz48_0, hcz48_1, hfz48_0, hfz48_1⟩ := cells2 BK164.out) | ((with_reducible refine gate_builtin (b := .append) (xs := #[.tmp 61, .tmp 63]) rfl ?_); at_builtin; refine Kd.R_append (Kd.int .i64) (w0 := w) w.heap.size rfl (.tmp 61) (.tmp 63) 26 3 (.int .i64 0) 8 rfl Try.underlying26 info3 rfl (by decide) (by omega) (.slice Ao46 x165000_3.length co46) x165000_3 (rd l1_0 x52_3) [.int .i64 (rd l1_0 x52_3)] (fun k_ => nv k_ u7 ∧ nw k_ Ao35 t173 co35) (fun _ => False) rfl rfl ?aP (fun _ hk => hk.elim) ?aF ?aO ?aB ?aS ?aL ?_; (case aP => exact rfl); (case aB => exact (uc HB.out)); (case aF => exact (fun k_ hk => ⟨Kd.fresh' (Kd.R_lt (ua HO_7.out)) k_ hk, Kd.fresh' (Kd.R_lt (ua HO_165001.out)) k_ hk⟩)); (case aO => exact (ua HO_165000.out)); (case aS => exact (below_size (uc HB.out))); (case aL => have := LMc43.out; omega); intro v179 w49 ho hb hg hat; rw [← Ny178.out] at ho; have n0_ := am (Kd.R_after (ok := (fun k_ => nw k_ Ao35 t173 co35)) (by (with_reducible repeat (first | apply Kd.R_alloc | apply Kd.R_drewN | apply Kd.R_drew)); exact Kd.R_mono HO_7.out (fun _ hk => ⟨hk.2, hk.1⟩)) hg hat); have n1_ := am (Kd.R_after (ok := (fun k_ => nv k_ u7)) (ua HO_165001.out) hg hat); have n2_ := am (blk_grown (g := gb163) (o := .cells #[.slice (some ad176) l1_0.length c1_0, .slice A1_1 l1_1.length c1_1] 28 (0, 0)) (ub BK163.out) hg (Kd.R_ne HO_165000.out BK163.out (by decide))); have n3_ := am (blk_grown (g := gb164) (o := .cells #[.slice Ao46 x165000_3.length co46, .slice Ao35 t173.length co35] 28 (0, 0)) (ub BK164.out) hg (Kd.R_ne HO_165000.out BK164.out (by decide))); have n4_ := am (hb); have n5_ := am (ho); revert n0_ n1_ n2_ n3_ n4_ n5_; clear HO_7 HO_165001 BK163 BK164 HB HO_165000; intro HO_7 HO_165001 BK163 BK164 HB HO180; clear ho hb hg hat; obtain ⟨Ao50, co50, eo50⟩ := Kd.R_slice HO180.out; subst eo50; obtain ⟨hcz51_0, hcz51_1, hfz51_0, hfz51_1⟩ := cells2 BK164.out))
              go_roundg k3
              case measure => have := HK1.out; have := HJ22.out; have := HK3.out; omega
              case rel => exact ⟨(x7_3), (wrap64 (x52_3 + 1)), (y178), (.slice Ao50 y178.length co50), uf, H', ⟨by have := HK1.out; have := HJ22.out; have := HK3.out; omega⟩, ⟨by (with_reducible repeat (first | apply Kd.R_alloc | apply Kd.R_drewN | apply Kd.R_drew)); exact Kd.R_mono (Kd.R_far (p := ⟨gb164, 0, none⟩) (Kd.R_types HO_7.out BK164.out (by decide)) (fun _ hk => hk.2) (.slice Ao50 y178.length co50)) (fun _ hk => ⟨hk.1.2, hk.1.1⟩)⟩, ⟨by (with_reducible repeat (first | apply Kd.R_alloc | apply Kd.R_drewN | apply Kd.R_drew)); exact Kd.R_mono (Kd.R_far (p := ⟨gb164, 0, none⟩) (Kd.R_types HO180.out BK164.out (by decide)) (fun _ hk => hk.2) (.slice Ao50 y178.length co50)) (fun _ hk => ⟨hk.1.1, hk.1.2⟩)⟩, ⟨by (with_reducible repeat (first | apply Kd.R_alloc | apply Kd.R_drewN | apply Kd.R_drew)); exact Kd.R_mono (Kd.R_far (p := ⟨gb164, 0, none⟩) (Kd.R_types HO_165001.out BK164.out (by decide)) (fun _ hk => hk.2) (.slice Ao50 y178.length co50)) (fun _ hk => ⟨hk.1.1, hk.1.2⟩)⟩, ⟨by (with_reducible repeat (first | refine blk_drewN ?_ _ | refine blk_drew ?_ | refine blk_alloc ?_ _)); refine blk_far ?_ NB163_164.out _; (with_reducible repeat (first | refine blk_drewN ?_ _ | refine blk_drew ?_ | refine blk_alloc ?_ _)); exact BK163.out⟩, ⟨by (with_reducible repeat (first | refine blk_drewN ?_ _ | refine blk_drew ?_ | refine blk_alloc ?_ _)); refine blk_put (cs := #[.slice Ao46 x165000_3.length co46, .slice Ao35 t173.length co35]) ?_ 0 _ rfl; (with_reducible repeat (first | refine blk_drewN ?_ _ | refine blk_drew ?_ | refine blk_alloc ?_ _)); exact BK164.out⟩, ⟨uc HB.out⟩⟩
             ·rw [if_neg c43] at H
              exact absurd H (by simp)
            ·replace c42 := Bool.eq_false_iff.mpr c42
             subst c42
             have H1 : (if x7_3.length < 17592186044416 then (dl_Close.l1 k3 l0 (x7_3 ++ [rd l1_0 x52_3]) l1_0 (l1_0.length : Int) (wrap64 (x52_3 + 1)) x165000_3 t173) else (none)) = some (r1, r2, r3, r4) := by rw [if_neg (show ¬ (false = true) by decide)] at H; exact H
             clear H
             have H := H1
             clear H1
             by_cases c52 : x7_3.length < 17592186044416
             ·rw [if_pos c52] at H
              have LMc52 := am c52
              clear c52
              obtain ⟨y181, hy181⟩ : ∃ y_ : List Int, y_ = (x7_3 ++ [rd l1_0 x52_3]) := ⟨_, rfl⟩
              replace H : (dl_Close.l1 k3 l0 y181 l1_0 (l1_0.length : Int) (wrap64 (x52_3 + 1)) x165000_3 t173) = some (r1, r2, r3, r4) := by first | (rw [hy181]; with_reducible exact H) | (have H2_ := (Option.bind_some _ _).symm.trans H; rw [hy181]; with_reducible exact H2_) | (have H2_ := (Option.bind_some _ _).symm.trans H; with_reducible exact H2_) | with_reducible exact H | (rw [hy181]; exact H) | exact H
              have Ny181 := am hy181
              clear hy181
              have H' := am H
              clear H
              have p176 : 0 ≤ (x52_3 : Int) := ud
              have q176 : x52_3 < (l1_0.length : Int) := ud
              obtain ⟨ad176, e176, hx176_0⟩ := Kd.at_int HR1_0.out x52_3 p176 q176
              cases e176
              replace hx176_0 := bcel HB hx176_0
              replace p176 := eq_true p176
              replace q176 := eq_true q176
              have hnb53 := NB164_163.out
              have hnc53 := NB163_164.out
              have hcz54_0 : wr.cell? ⟨gb164, 0, none⟩ = some (u165000) := (blk_cell BK164.out 0).trans rfl
              have hcz54_1 : wr.cell? ⟨gb164, 1, none⟩ = some (.slice Ao35 t173.length co35) := (blk_cell BK164.out 1).trans rfl
              have hfz54_0 := blk_frozen BK164.out 0
              have hfz54_1 := blk_frozen BK164.out 1
              obtain ⟨Ao55, co55, eo55⟩ := Kd.R_slice HO_165000.out
              subst eo55
              go_wp2_with (first | ((with_reducible refine gate_dst (N := 59) rfl ?_); (with_reducible refine gate_callee (f := 35) rfl ?_); refine gl (some 59) Try.func35 #[.agg #[.slice Ao55 x165000_3.length co55, .slice Ao35 t173.length co35], .slice A0 l0.length c0, .int .i64 (rd l1_0 x52_3)] ?_; (with_reducible refine (dl_State_needed.calls k3 _ _ x165000_3 _ _ t173 _ _ l0 (rd l1_0 x52_3) false _ ?side1 ?side2 ?side3 ?side4 ?side5 ?side6 A41.out).mono ?_); (case side1 => exact us (Kd.R_reads' HO_165000.out).2.2); (case side2 => exact (Kd.R_reads' HO_165000.out).2.1); (case side3 => exact us (Kd.R_reads' HO_165001.out).2.2); (case side4 => exact (Kd.R_reads' HO_165001.out).2.1); (case side5 => exact us (Kd.C_below HR0.out HB.out)); (case side6 => exact HC0.out); rintro e w56 ⟨rfl, hb⟩; refine ⟨_, rfl, ?_⟩; have n0_ := am (Kd.R_below (ua HO_7.out) hb); have n1_ := am (Kd.R_below (ua HO_165000.out) hb); have n2_ := am (Kd.R_below (ua HO_165001.out) hb); have n3_ := am (blk_below (g := gb163) (o := .cells #[.slice (some ad176) l1_0.length c1_0, .slice A1_1 l1_1.length c1_1] 28 (0, 0)) (ub BK163.out) hb); have n4_ := am (blk_below (g := gb164) (o := .cells #[.slice Ao55 x165000_3.length co55, .slice Ao35 t173.length co35] 28 (0, 0)) (ub BK164.out) hb); have n5_ := am (below_step (uc HB.out) hb); revert n0_ n1_ n2_ n3_ n4_ n5_; clear HO_7 HO_165000 HO_165001 BK163 BK164 HB; intro HO_7 HO_165000 HO_165001 BK163 BK164 HB; (try clear hb); (try clear hb2); (try clear hk); (try clear hi)) | ((with_reducible refine gate_builtin (b := .append) (xs := #[.tmp 66, .tmp 68]) rfl ?_); at_builtin; refine Kd.R_append (Kd.int .i64) (w0 := w) w.heap.size rfl (.tmp 66) (.tmp 68) 26 3 (.int .i64 0) 8 rfl Try.underlying26 info3 rfl (by decide) (by omega) u7 x7_3 (rd l1_0 x52_3) [.int .i64 (rd l1_0 x52_3)] (fun k_ => nw k_ Ao55 x165000_3 co55 ∧ nw k_ Ao35 t173 co35) (fun _ => False) rfl rfl ?aP (fun _ hk => hk.elim) ?aF ?aO ?aB ?aS ?aL ?_; (case aP => exact rfl); (case aB => exact (uc HB.out)); (case aF => exact (fun k_ hk => ⟨Kd.fresh' (Kd.R_lt (ua HO_165000.out)) k_ hk, Kd.fresh' (Kd.R_lt (ua HO_165001.out)) k_ hk⟩)); (case aO => exact (ua HO_7.out)); (case aS => exact (below_size (uc HB.out))); (case aL => have := LMc52.out; omega); intro v182 w57 ho hb hg hat; rw [← Ny181.out] at ho; have n0_ := am (Kd.R_after (ok := (fun k_ => nw k_ Ao35 t173 co35)) (by (with_reducible repeat (first | apply Kd.R_alloc | apply Kd.R_drewN | apply Kd.R_drew)); exact Kd.R_mono HO_165000.out (fun _ hk => ⟨hk.2, hk.1⟩)) hg hat); have n1_ := am (Kd.R_after (ok := (fun k_ => nw k_ Ao55 x165000_3 co55)) (by (with_reducible repeat (first | apply Kd.R_alloc | apply Kd.R_drewN | apply Kd.R_drew)); exact Kd.R_mono HO_165001.out (fun _ hk => ⟨hk.2, hk.1⟩)) hg hat); have n2_ := am (blk_grown (g := gb163) (o := .cells #[.slice (some ad176) l1_0.length c1_0, .slice A1_1 l1_1.length c1_1] 28 (0, 0)) (ub BK163.out) hg (Kd.R_ne HO_7.out BK163.out (by decide))); have n3_ := am (blk_grown (g := gb164) (o := .cells #[.slice Ao55 x165000_3.length co55, .slice Ao35 t173.length co35] 28 (0, 0)) (ub BK164.out) hg (Kd.R_ne HO_7.out BK164.out (by decide))); have n4_ := am (hb); have n5_ := am (ho); revert n0_ n1_ n2_ n3_ n4_ n5_; clear HO_165000 HO_165001 BK163 BK164 HB HO_7; intro HO_165000 HO_165001 BK163 BK164 HB HO183; clear ho hb hg hat))
              go_roundg k3
              case measure => have := HK1.out; have := HJ22.out; have := HK3.out; omega
              case rel => exact ⟨(y181), (wrap64 (x52_3 + 1)), (x165000_3), (.slice Ao55 x165000_3.length co55), uf, H', ⟨by have := HK1.out; have := HJ22.out; have := HK3.out; omega⟩, ⟨ua HO183.out⟩, ⟨by (with_reducible repeat (first | apply Kd.R_alloc | apply Kd.R_drewN | apply Kd.R_drew)); exact Kd.R_mono HO_165000.out (fun _ hk => ⟨hk.2, hk.1⟩)⟩, ⟨by (with_reducible repeat (first | apply Kd.R_alloc | apply Kd.R_drewN | apply Kd.R_drew)); exact Kd.R_mono HO_165001.out (fun _ hk => ⟨hk.2, hk.1⟩)⟩, ⟨ub BK163.out⟩, ⟨ub BK164.out⟩, ⟨uc HB.out⟩⟩
             ·rw [if_neg c52] at H
              exact absurd H (by simp)
           ·rw [if_neg c40] at H
            exact absurd H (by simp)
          ·rw [if_neg c39] at H
           exact absurd H (by simp)
         ·rw [if_neg c38] at H
          have c38b0 : decide (x52_3 < (l1_0.length : Int)) = false := decide_eq_false c38
          clear c38
          replace H := Option.bind_eq_some_iff.mp H
          obtain ⟨t184, A580, H⟩ := H
          replace H : (some (x165000_3, t173, t184, 0)) = some (r1, r2, r3, r4) := H
          have A58 := am A580
          clear A580
          simp only [Option.some.injEq, Prod.mk.injEq] at H
          obtain ⟨rfl, rfl, rfl, rfl⟩ := H
          obtain ⟨Ao59, co59, eo59⟩ := Kd.R_slice HO_7.out
          subst eo59
          go_wp2_with (first | ((with_reducible refine gate_dst (N := 72) rfl ?_); (with_reducible refine gate_callee (f := 36) rfl ?_); refine gl (some 72) Try.func36 #[.slice Ao59 x7_3.length co59] ?_; (with_reducible refine (slices_Reverse_int_int.calls k3 (fun k_ => some k_ = ow Ao59 x7_3 co59) (.slice Ao59 x7_3.length co59) x7_3 t184 w _ ?side1 ?side2 A58.out).mono ?_); (case side1 => repeat (first | (with_reducible first | exact HB.out | apply below_alloc | apply pw_below_drewN | apply below_drew1 | refine below_set ?_ GE163.out | refine below_set ?_ GE164.out) | exact HB.out)); (case side2 => exact Kd.R_tight rfl HO_7.out); rintro e w60 ⟨rfl, hy0, hb, hkp⟩; refine ⟨_, rfl, ?_⟩; have n0_ := am (Kd.R_reok rfl hy0 (fun k_ e_ => HO_7.out.1 k_ e_)); have n1_ := am (Kd.R_mono (ok' := fun k_ => nw k_ Ao59 x7_3 co59 ∧ nw k_ Ao35 t173 co35) (Kd.R_keptB (HO_165000.out) hkp (fun k_ hk_ hs_ => (hk_.1) hs_)) (fun k_ hk_ => ⟨hk_.1.1, hk_.1.2⟩)); have n2_ := am (Kd.R_mono (ok' := fun k_ => nw k_ Ao59 x7_3 co59 ∧ nv k_ u165000) (Kd.R_keptB (HO_165001.out) hkp (fun k_ hk_ hs_ => (hk_.1) hs_)) (fun k_ hk_ => ⟨hk_.1.1, hk_.1.2⟩)); have n3_ := am (blk_kept (ub BK163.out) hkp (fun hs_ => (fun e_ => (Kd.R_ne HO_7.out BK163.out (by decide)) e_) hs_)); have n4_ := am (blk_kept (ub BK164.out) hkp (fun hs_ => (fun e_ => (Kd.R_ne HO_7.out BK164.out (by decide)) e_) hs_)); have n5_ := am (hb); revert n0_ n1_ n2_ n3_ n4_ n5_; clear HO_7 HO_165000 HO_165001 BK163 BK164 HB; intro HO_7 HO_165000 HO_165001 BK163 BK164 HB; (try clear hb); (try clear hkp); (try clear hy0); have hnb61 := NB164_163.out; have hnc61 := NB163_164.out; obtain ⟨hcz62_0, hcz62_1, hfz62_0, hfz62_1⟩ := cells2 BK164.out; obtain ⟨Ao63, co63, eo63⟩ := Kd.R_slice HO_165000.out; subst eo63) | ((with_reducible refine gate_store (t := 28) (p := 6) rfl ?_); refine store_event (t := 28) (p := 6) (v := ?vo_w64) (w1 := ((w60.setCell ⟨gb164, 0, none⟩ (.slice Ao63 x165000_3.length co63)).setCell ⟨gb164, 1, none⟩ (.slice Ao35 t173.length co35))) ?hg ?ho ?hn ?hr ?_; (case ho => rfl); (case hg => rfl); (case hn => rfl); (case hr => first | (go_simp; done) | (go_simp; rfl)); intro w64 hw; have n0_ := st2 (fun k_ => nw k_ Ao63 x165000_3 co63 ∧ nw k_ Ao35 t173 co35) hw HO_7 BK164 (fun _ h => ⟨h.1, h.2⟩); have n1_ := st2 (fun k_ => nw k_ Ao59 x7_3 co59 ∧ nw k_ Ao35 t173 co35) hw HO_165000 BK164 (fun _ h => ⟨h.1, h.2⟩); have n2_ := st2 (fun k_ => nw k_ Ao59 x7_3 co59 ∧ nw k_ Ao63 x165000_3 co63) hw HO_165001 BK164 (fun _ h => ⟨h.1, h.2⟩); have n3_ := bf2 hw NB163_164 BK163; have n4_ := bp2 #[.slice Ao63 x165000_3.length co63, .slice Ao35 t173.length co35] hw BK164; have n5_ : Aside0 (Below w.heap.size w w64) := ⟨(by rw [hw]; exact (uc HB.out))⟩; revert n0_ n1_ n2_ n3_ n4_ n5_; clear hw HO_7 HO_165000 HO_165001 BK163 BK164 HB; intro HO_7 HO_165000 HO_165001 BK163 BK164 HB))
          refine bodyPost_ret (results_ctt rfl _ _ gb164 28 #[.slice Ao63 x165000_3.length co63, .slice Ao35 t173.length co35] (0, 0) _ rfl (ub BK164.out) Try.underlying28 rfl (by kernel_rfl)) rfl ?_
          exact ⟨_, _, _, by first | rfl | (simp [errW_none, errW_some] <;> rfl) | (simp [*, errW_none, errW_some] <;> rfl), by (with_reducible repeat (first | apply Kd.R_alloc | apply Kd.R_drewN | apply Kd.R_drew)); exact Kd.R_mono HO_165000.out (fun _ hk => ⟨hk.2, hk.1⟩), by (with_reducible repeat (first | apply Kd.R_alloc | apply Kd.R_drewN | apply Kd.R_drew)); exact Kd.R_mono HO_165001.out (fun _ hk => ⟨hk.2, hk.1⟩), ua HO_7.out, uc HB.out⟩

def dl_Begun.f (k : Nat) (l0 : List (S38)) (a1 : ByteArray) : Option (List Int × List Int × Int) := (dl_Open.f k l0 ([] : List Int) ([] : List Int) a1).bind fun bt186 => (some (bt186.1, bt186.2.1, bt186.2.2.2))
theorem dl_Begun.mono : ∀ a0 a1 k, LeO (dl_Begun.f k a0 a1) (dl_Begun.f (k + 1) a0 a1) := by
  intro a0 a1 k
  unfold dl_Begun.f
  repeat' first
      | (with_reducible exact dl_Open.mono _ _ _ _ _)
      | (with_reducible exact LeO.refl _)
      | (with_reducible exact LeO.none _)
      | (with_reducible refine LeO.ite ?_ ?_)
      | (with_reducible refine LeO.bind ?_ (fun _ => ?_))
      | exact dl_Open.mono _ _ _ _ _
      | exact LeO.none _
      | refine LeO.ite ?_ ?_
      | refine LeO.bind ?_ (fun _ => ?_)
set_option maxHeartbeats 8000000 in
set_option maxRecDepth 100000 in
theorem dl_Begun.calls (k : Nat) (A0 : Option Addr) (c0 : Nat) (l0 : List (S38)) (a1 : ByteArray) (r1 : List Int) (r2 : List Int) (r3 : Int) (w : World) (hr0 : Kd.C k38 w A0 l0.length l0) (hc0 : l0.length ≤ c0) (h : dl_Begun.f k l0 a1 = some (r1, r2, r3)) :
  Calls Try.prog 20 #[.slice A0 l0.length c0, .string a1] w fun e w' => ∃ v0_ v1_ : Value, e = .returned (.tuple #[.agg #[v0_, v1_], .int .i64 r3]) ∧ Kd.R (Kd.int .i64) 3 w' w.heap.size (fun k_ => nv k_ v1_) v0_ r1 ∧ Kd.R (Kd.int .i64) 3 w' w.heap.size (fun k_ => nv k_ v0_) v1_ r2 ∧ Below w.heap.size w w' := by
 have hu28 := Try.underlying28
 have HR0 := am hr0
 have HC0 := am hc0
 clear hr0 hc0
 have HB := am (Below.refl w.heap.size w)
 have H : ((dl_Open.f k l0 ([] : List Int) ([] : List Int) a1).bind fun bt186 => (some (bt186.1, bt186.2.1, bt186.2.2.2))) = some (r1, r2, r3) := h
 clear h
 replace H := Option.bind_eq_some_iff.mp H
 obtain ⟨⟨t186, t189, t192, t195⟩, A30, H⟩ := H
 replace H : (some (t186, t189, t195)) = some (r1, r2, r3) := H
 have A3 := am A30
 clear A30
 simp only [Option.some.injEq, Prod.mk.injEq] at H
 obtain ⟨rfl, rfl, rfl⟩ := H
 go_enter Try.func20, Try.ntmps20
 go_wp2_with (first | ((with_reducible refine gate_dst (N := 4) rfl ?_); refine box_event ?hg (N := 4) ?hd (cs := #[.slice none 0 0, .slice none 0 0]) (t := 28) ?hr ?_; (case hd => rfl); (case hg => rfl); (case hr => first | (go_simp; done) | (go_simp; rfl)); intro gb185 hg w4 hbox hb; have n0_ := am (below_step (uc HB.out) hb); have n1_ := am (hbox); have n2_ := am ((by rw [hg]; exact (below_size (uc HB.out)) : w.heap.size ≤ gb185)); have n3_ := am ((by rw [hg]; exact (below_size (uc HB.out)) : w.heap.size ≤ gb185)); revert n0_ n1_ n2_ n3_; clear HB; intro HB BK185 GW185 GE185; clear hb hbox hg) | ((with_reducible refine gate_dst (N := 13) rfl ?_); (with_reducible refine gate_callee (f := 15) rfl ?_); refine gl (some 13) Try.func15 #[.slice A0 l0.length c0, .agg #[.slice none 0 0, .slice none 0 0], .string a1] ?_; (refine (dl_Open.calls k _ _ l0 _ _ ([] : List Int) _ _ ([] : List Int) a1 t186 t189 t192 t195 _ ?side1 ?side2 ?side3 ?side4 ?side5 ?side6 A3.out).mono ?_); (case side1 => exact us (Kd.C_below HR0.out HB.out)); (case side2 => exact HC0.out); (case side3 => exact Kd.C_nil _ _); (case side4 => exact Nat.le_refl _); (case side5 => exact Kd.C_nil _ _); (case side6 => exact Nat.le_refl _); rintro e w5 ⟨v187, v190, v193, rfl, ho0, ho1, ho2, hb⟩; refine ⟨_, rfl, ?_⟩; have n0_ := am (Kd.R_lower ho0 (below_size (uc HB.out))); have n1_ := am (Kd.R_lower ho1 (below_size (uc HB.out))); have n2_ := am (Kd.R_lower ho2 (below_size (uc HB.out))); have n3_ := am (blk_below (g := gb185) (o := .cells #[.slice none 0 0, .slice none 0 0] 28 (0, 0)) (ub BK185.out) hb); have n4_ := am (below_step (uc HB.out) hb); revert n0_ n1_ n2_ n3_ n4_; clear BK185 HB; intro HO188 HO191 HO194 BK185 HB; (try clear hb); (try clear hb2); (try clear hk); (try clear hi); (try clear ho0); (try clear ho1); (try clear ho2)) | ((with_reducible refine gate_dst (N := 6) rfl ?_); refine box_event ?hg (N := 6) ?hd (cs := #[.slice none 0 0, .slice none 0 0]) (t := 28) ?hr ?_; (case hd => rfl); (case hg => rfl); (case hr => first | (go_simp; done) | (go_simp; rfl)); intro gb196 hg w6 hbox hb; have n0_ := am (Kd.R_below (ua HO188.out) hb); have n1_ := am (Kd.R_below (ua HO191.out) hb); have n2_ := am (Kd.R_below (ua HO194.out) hb); have n3_ := am (blk_below (g := gb185) (o := .cells #[.slice none 0 0, .slice none 0 0] 28 (0, 0)) (ub BK185.out) hb); have n4_ := am (below_step (uc HB.out) hb); have n5_ := am (hbox); have n6_ := am ((by rw [hg]; exact (below_size (uc HB.out)) : w.heap.size ≤ gb196)); have n7_ := am ((by rw [hg]; exact (below_size (uc HB.out)) : w.heap.size ≤ gb196)); have n8_ := am ((by rw [hg]; exact Nat.ne_of_lt (blk_lt (g := gb185) (o := .cells #[.slice none 0 0, .slice none 0 0] 28 (0, 0)) (ub BK185.out)) : gb185 ≠ gb196)); have n9_ := am ((by rw [hg]; exact Nat.ne_of_gt (blk_lt (g := gb185) (o := .cells #[.slice none 0 0, .slice none 0 0] 28 (0, 0)) (ub BK185.out)) : gb196 ≠ gb185)); revert n0_ n1_ n2_ n3_ n4_ n5_ n6_ n7_ n8_ n9_; clear HO188 HO191 HO194 BK185 HB; intro HO188 HO191 HO194 BK185 HB BK196 GW196 GE196 NB185_196 NB196_185; clear hb hbox hg; obtain ⟨Ao7, co7, eo7⟩ := Kd.R_slice HO188.out; subst eo7; have hnb8 := NB196_185.out; have hnc8 := NB185_196.out; obtain ⟨hcz9_0, hcz9_1, hfz9_0, hfz9_1⟩ := cells2 BK196.out; obtain ⟨Ao10, co10, eo10⟩ := Kd.R_slice HO191.out; subst eo10) | ((with_reducible refine gate_store (t := 28) (p := 6) rfl ?_); refine store_event (t := 28) (p := 6) (v := ?vo_w11) (w1 := ((w6.setCell ⟨gb196, 0, none⟩ (.slice Ao7 t186.length co7)).setCell ⟨gb196, 1, none⟩ (.slice Ao10 t189.length co10))) ?hg ?ho ?hn ?hr ?_; (case ho => rfl); (case hg => rfl); (case hn => rfl); (case hr => first | (go_simp; done) | (go_simp; rfl)); intro w11 hw; have n0_ := st2 (fun k_ => nw k_ Ao10 t189 co10 ∧ nv k_ v193) hw HO188 BK196 (fun _ h => ⟨h.1, h.2⟩); have n1_ := st2 (fun k_ => nw k_ Ao7 t186 co7 ∧ nv k_ v193) hw HO191 BK196 (fun _ h => ⟨h.1, h.2⟩); have n2_ := st2 (fun k_ => nw k_ Ao7 t186 co7 ∧ nw k_ Ao10 t189 co10) hw HO194 BK196 (fun _ h => ⟨h.1, h.2⟩); have n3_ := bf2 hw NB185_196 BK185; have n4_ := bp2 #[.slice Ao7 t186.length co7, .slice Ao10 t189.length co10] hw BK196; have n5_ : Aside0 (Below w.heap.size w w11) := ⟨(by rw [hw]; exact (uc HB.out))⟩; revert n0_ n1_ n2_ n3_ n4_ n5_; clear hw HO188 HO191 HO194 BK185 BK196 HB; intro HO188 HO191 HO194 BK185 BK196 HB; obtain ⟨hcz12_0, hcz12_1, hfz12_0, hfz12_1⟩ := cells2 BK196.out; obtain ⟨hcz13_0, hcz13_1, hfz13_0, hfz13_1⟩ := cells2 BK185.out) | ((with_reducible refine gate_store (t := 28) (p := 4) rfl ?_); refine store_event (t := 28) (p := 4) (v := ?vo_w14) (w1 := ((w11.setCell ⟨gb185, 0, none⟩ (.slice Ao7 t186.length co7)).setCell ⟨gb185, 1, none⟩ (.slice Ao10 t189.length co10))) ?hg ?ho ?hn ?hr ?_; (case ho => rfl); (case hg => rfl); (case hn => rfl); (case hr => first | (go_simp; done) | (go_simp; rfl)); intro w14 hw; have n0_ := st2 (fun k_ => nw k_ Ao10 t189 co10 ∧ nv k_ v193) hw HO188 BK185 (fun _ h => ⟨h.1, h.2⟩); have n1_ := st2 (fun k_ => nw k_ Ao7 t186 co7 ∧ nv k_ v193) hw HO191 BK185 (fun _ h => ⟨h.1, h.2⟩); have n2_ := st2 (fun k_ => nw k_ Ao7 t186 co7 ∧ nw k_ Ao10 t189 co10) hw HO194 BK185 (fun _ h => ⟨h.1, h.2⟩); have n3_ := bp2 #[.slice Ao7 t186.length co7, .slice Ao10 t189.length co10] hw BK185; have n4_ := bf2 hw NB196_185 BK196; have n5_ : Aside0 (Below w.heap.size w w14) := ⟨(by rw [hw]; exact (uc HB.out))⟩; revert n0_ n1_ n2_ n3_ n4_ n5_; clear hw HO188 HO191 HO194 BK185 BK196 HB; intro HO188 HO191 HO194 BK185 BK196 HB))
 refine bodyPost_ret (results_ct rfl _ _ gb185 28 #[.slice Ao7 t186.length co7, .slice Ao10 t189.length co10] (0, 0) _ rfl (ub BK185.out) Try.underlying28 rfl (by kernel_rfl)) rfl ?_
 exact ⟨_, _, by first | rfl | (simp [errW_none, errW_some] <;> rfl) | (simp [*, errW_none, errW_some] <;> rfl), by (with_reducible repeat (first | apply Kd.R_alloc | apply Kd.R_drewN | apply Kd.R_drew)); exact Kd.R_mono HO188.out (fun _ hk => hk.1), by (with_reducible repeat (first | apply Kd.R_alloc | apply Kd.R_drewN | apply Kd.R_drew)); exact Kd.R_mono HO191.out (fun _ hk => hk.1), uc HB.out⟩

def curtilagelaw21_lib.f (a0 : ByteArray) (l1 : List ByteArray) : Option (ByteArray × List ByteArray × (List (S121)) × (List (S123)) × (List (S125)) × List Int × List Int) := some (a0, l1, ([] : List (S121)), ([] : List (S123)), ([] : List (S125)), ([] : List Int), ([] : List Int))
set_option maxHeartbeats 8000000 in
set_option maxRecDepth 100000 in
theorem curtilagelaw21_lib.calls (a0 : ByteArray) (P1_ : Nat → Prop) (u9000_ : Value) (l1 : List ByteArray) (r1 : ByteArray) (r2 : List ByteArray) (r3 : List (S121)) (r4 : List (S123)) (r5 : List (S125)) (r6 : List Int) (r7 : List Int) (w0 w : World) (hB : Below w0.heap.size w0 w) (ho1 : Kd.R Kd.string 9 w w0.heap.size P1_ u9000_ l1) (h : curtilagelaw21_lib.f a0 l1 = some (r1, r2, r3, r4, r5, r6, r7)) :
  Calls Try.prog 28 #[.string a0, u9000_] w fun e w' => ∃ v1_ v2_ v3_ v4_ v5_ v6_ : Value, e = .returned (.agg #[.string r1, v1_, v2_, v3_, v4_, v5_, v6_]) ∧ Kd.R Kd.string 9 w' w0.heap.size (fun k_ => (P1_ k_ ∨ w.heap.size ≤ k_)) v1_ r2 ∧ Kd.N k121 121 w' w.heap.size (fun k_ => (P1_ k_ ∨ w.heap.size ≤ k_) ∧ nv k_ v1_ ∧ nv k_ v3_ ∧ nv k_ v4_ ∧ nv k_ v5_ ∧ nv k_ v6_) v2_ r3 ∧ Kd.R k123 123 w' w0.heap.size (fun k_ => (P1_ k_ ∨ w.heap.size ≤ k_)) v3_ r4 ∧ Kd.R k125 125 w' w0.heap.size (fun k_ => (P1_ k_ ∨ w.heap.size ≤ k_)) v4_ r5 ∧ Kd.R (Kd.int .i64) 3 w' w0.heap.size (fun k_ => (P1_ k_ ∨ w.heap.size ≤ k_) ∧ nv k_ v6_) v5_ r6 ∧ Kd.R (Kd.int .i64) 3 w' w0.heap.size (fun k_ => (P1_ k_ ∨ w.heap.size ≤ k_) ∧ nv k_ v5_) v6_ r7 ∧ Below w0.heap.size w0 w' ∧ Kept w w' (fun k_ => P1_ k_) := by
 have hu38 := Try.underlying38
 have HO1 := am (show Kd.R Kd.string 9 w w0.heap.size (fun k_ => (P1_ k_ ∨ w.heap.size ≤ k_)) u9000_ l1 from Kd.R_mono ho1 (fun k_ hk => (.inl hk)))
 have HK := am (Kept.refl w (fun k_ => P1_ k_))
 have HW0 := am hB.size
 have HB := am hB
 clear hB
 have H : (some (a0, l1, ([] : List (S121)), ([] : List (S123)), ([] : List (S125)), ([] : List Int), ([] : List Int))) = some (r1, r2, r3, r4, r5, r6, r7) := h
 clear h
 simp only [Option.some.injEq, Prod.mk.injEq] at H
 obtain ⟨rfl, rfl, rfl, rfl, rfl, rfl, rfl⟩ := H
 go_enter Try.func28, Try.ntmps28
 go_wp2_with (first | ((with_reducible refine gate_dst (N := 4) rfl ?_); refine box_event ?hg (N := 4) ?hd (cs := #[.string (⟨#[]⟩ : ByteArray), .slice none 0 0, .slice none 0 0, .slice none 0 0, .slice none 0 0, .slice none 0 0, .slice none 0 0]) (t := 38) ?hr ?_; (case hd => rfl); (case hg => rfl); (case hr => first | (go_simp; done) | (go_simp; rfl)); intro gb197 hg w3 hbox hb; have n0_ := am (Kd.R_below (ua HO1.out) hb); have n1_ := am (Kept.below (S := (fun k_ => P1_ k_)) (uk HK.out) hb); have n2_ := am (below_step (uc HB.out) hb); have n3_ := am (hbox); have n4_ := am ((by rw [hg]; exact (by first | exact HK.out.1 | exact (show Kept w _ (fun k_ => P1_ k_) from uk HK.out).1) : w.heap.size ≤ gb197)); have n5_ := am ((by rw [hg]; exact (below_size (uc HB.out)) : w0.heap.size ≤ gb197)); revert n0_ n1_ n2_ n3_ n4_ n5_; clear HO1 HK HB; intro HO1 HK HB BK197 GW197 GE197; clear hb hbox hg; obtain ⟨Ao4, co4, eo4⟩ := Kd.R_slice HO1.out; subst eo4; obtain ⟨hcz5_0, hcz5_1, hcz5_2, hcz5_3, hcz5_4, hcz5_5, hcz5_6, hfz5_0, hfz5_1, hfz5_2, hfz5_3, hfz5_4, hfz5_5, hfz5_6⟩ := cells7 BK197.out) | ((with_reducible refine gate_store (t := 38) (p := 4) rfl ?_); refine store_event (t := 38) (p := 4) (v := ?vo_w6) (w1 := (((((((w3.setCell ⟨gb197, 0, none⟩ (.string a0)).setCell ⟨gb197, 1, none⟩ (.slice Ao4 l1.length co4)).setCell ⟨gb197, 2, none⟩ (.slice none 0 0)).setCell ⟨gb197, 3, none⟩ (.slice none 0 0)).setCell ⟨gb197, 4, none⟩ (.slice none 0 0)).setCell ⟨gb197, 5, none⟩ (.slice none 0 0)).setCell ⟨gb197, 6, none⟩ (.slice none 0 0))) ?hg ?ho ?hn ?hr ?_; (case ho => rfl); (case hg => rfl); (case hn => rfl); (case hr => first | (go_simp; done) | (go_simp; rfl)); intro w6 hw; have n0_ := st7 _ hw HO1 BK197 (fun _ h => h); have n1_ := bp7 #[.string a0, .slice Ao4 l1.length co4, .slice none 0 0, .slice none 0 0, .slice none 0 0, .slice none 0 0, .slice none 0 0] hw BK197; have n2_ : Aside0 (Kept w w6 (fun k_ => P1_ k_)) := ⟨(by rw [hw]; exact (uk HK.out))⟩; have n3_ : Aside0 (Below w0.heap.size w0 w6) := ⟨(by rw [hw]; exact (uc HB.out))⟩; revert n0_ n1_ n2_ n3_; clear hw HO1 BK197 HK HB; intro HO1 BK197 HK HB))
 refine bodyPost_ret (results_cell_row rfl _ _ gb197 38 #[.string a0, .slice Ao4 l1.length co4, .slice none 0 0, .slice none 0 0, .slice none 0 0, .slice none 0 0, .slice none 0 0] (0, 0) _ rfl (ub BK197.out) Try.underlying38 rfl (by kernel_rfl)) rfl ?_
 exact ⟨_, _, _, _, _, _, by first | rfl | (simp [errW_none, errW_some] <;> rfl) | (simp [*, errW_none, errW_some] <;> rfl), ua HO1.out, by first | exact Kd.S_nil _ _ _ _ _ | exact Kd.N_nil _ _ _ _ _ | exact Kd.V_nil _ _ _ _ _ | exact Kd.Q_nil _ _ _ _ _ | exact Kd.R_nil _ _ _ _ _, by first | exact Kd.R_nil _ _ _ _ _ | exact Kd.N_nil _ _ _ _ _ | exact Kd.V_nil _ _ _ _ _ | exact Kd.Q_nil _ _ _ _ _ | exact Kd.S_nil _ _ _ _ _, by first | exact Kd.R_nil _ _ _ _ _ | exact Kd.N_nil _ _ _ _ _ | exact Kd.V_nil _ _ _ _ _ | exact Kd.Q_nil _ _ _ _ _ | exact Kd.S_nil _ _ _ _ _, by first | exact Kd.R_nil _ _ _ _ _ | exact Kd.N_nil _ _ _ _ _ | exact Kd.V_nil _ _ _ _ _ | exact Kd.Q_nil _ _ _ _ _ | exact Kd.S_nil _ _ _ _ _, by first | exact Kd.R_nil _ _ _ _ _ | exact Kd.N_nil _ _ _ _ _ | exact Kd.V_nil _ _ _ _ _ | exact Kd.Q_nil _ _ _ _ _ | exact Kd.S_nil _ _ _ _ _, uc HB.out, uk HK.out⟩

end Go.Proofs.Ytociaidhgefpiaa.P
