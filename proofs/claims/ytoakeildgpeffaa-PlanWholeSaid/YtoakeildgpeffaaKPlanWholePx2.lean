/- What functions of the program, and of its laws, give, each proved of its code by a walk; no condition. -/
import Derived.Test.YtoakeildgpeffaaKPlanWholePx0
namespace Go.Proofs.Ytoakeildgpeffaa.P
open Go.RowKit Go.Proofs.YtoakeildgpeffaaW.PrintWords Go.Proofs.YtoakeildgpeffaaW.PrintLast Go.Proofs.YtoakeildgpeffaaW.PrintMore
attribute [local go_sem] max2_int min2_int max_two min_two max_three min_three max_four min_four   -- for this text's walks alone
set_option linter.unusedVariables false
set_option linter.unusedSimpArgs false

def hash_Shown.f (a0_0 : ByteArray) (a0_1 : ByteArray) (a0_2 : Int) (a0_3 : Int) (a0_4 : Int) (a0_5 : Int) (a0_6 : Int) (a0_7 : Bool) : Option (Bool) := if a0_7 = true then (if a0_5 = 1 then (some false) else (some (a0_6 == 1))) else (some false)
set_option maxHeartbeats 8000000 in
set_option maxRecDepth 100000 in
theorem hash_Shown.calls (a0_0 : ByteArray) (a0_1 : ByteArray) (a0_2 : Int) (a0_3 : Int) (a0_4 : Int) (a0_5 : Int) (a0_6 : Int) (a0_7 : Bool) (r : Bool) (w : World) (h : hash_Shown.f a0_0 a0_1 a0_2 a0_3 a0_4 a0_5 a0_6 a0_7 = some r) :
    Calls Try.prog 22 #[.agg #[.string a0_0, .string a0_1, .int .u64 a0_2, .int .u64 a0_3, .int .i64 a0_4, .int .i64 a0_5, .int .i64 a0_6, .bool a0_7]] w fun e w' => e = .returned (.bool r) ∧ Below w.heap.size w w' := by
  have hu42 := Try.underlying42
  have HB := Aside0.mk (Below.refl w.heap.size w)
  have H : (if a0_7 = true then (if a0_5 = 1 then (some false) else (some (a0_6 == 1))) else (some false)) = some r := h
  clear h
  by_cases c2 : a0_7 = true
  · subst c2
    have H1 : (if a0_5 = 1 then (some false) else (some (a0_6 == 1))) = some r := by rw [if_pos rfl] at H; exact H
    clear H
    have H := H1
    clear H1
    by_cases c3 : a0_5 = 1
    · rw [if_pos c3] at H
      have c3b0 : (a0_5 == 1) = true := beq_iff_eq.mpr c3
      have c3b1 : (a0_5 != 1) = false := bne_eq_false_iff_eq.mpr c3
      clear c3
      obtain rfl := Option.some.inj H
      go_enter Try.func22, Try.ntmps22
      go_wp2_with (first | ((with_reducible refine gate_dst (N := 1) rfl ?_); refine box_event ?hg (N := 1) ?hd (cs := #[.string a0_0, .string a0_1, .int .u64 a0_2, .int .u64 a0_3, .int .i64 a0_4, .int .i64 a0_5, .int .i64 a0_6, .bool true]) (t := 42) ?hr ?_; (case hd => rfl); (case hg => rfl); (case hr => first | (go_simp; done) | (go_simp; rfl)); intro gb101 hg w4 hbox hb; have n0_ := Aside0.mk (below_step (by repeat (first | (with_reducible first | exact HB.out | apply below_alloc | apply pw_below_drewN | apply below_drew1) | exact HB.out)) hb); have n1_ := Aside0.mk (hbox); have n2_ := Aside0.mk ((by rw [hg]; exact (below_size (by repeat (first | (with_reducible first | exact HB.out | apply below_alloc | apply pw_below_drewN | apply below_drew1) | exact HB.out))) : w.heap.size ≤ gb101)); have n3_ := Aside0.mk ((by rw [hg]; exact (below_size (by repeat (first | (with_reducible first | exact HB.out | apply below_alloc | apply pw_below_drewN | apply below_drew1) | exact HB.out))) : w.heap.size ≤ gb101)); clear HB; have HB := n0_; have BK101 := n1_; have GW101 := n2_; have GE101 := n3_; clear n0_ n1_ n2_ n3_; clear hb hbox hg; obtain ⟨hcz5_0, hcz5_1, hcz5_2, hcz5_3, hcz5_4, hcz5_5, hcz5_6, hcz5_7, hfz5_0, hfz5_1, hfz5_2, hfz5_3, hfz5_4, hfz5_5, hfz5_6, hfz5_7⟩ := cells8 BK101.out))
      go_ret
      exact ⟨by first | rfl | (simp [errW_none, errW_some] <;> rfl) | (simp [*, errW_none, errW_some] <;> rfl), by repeat (first | (with_reducible first | exact HB.out | apply below_alloc | apply pw_below_drewN | apply below_drew1 | refine below_set ?_ GE101.out) | exact HB.out)⟩
    · rw [if_neg c3] at H
      have c3b0 : (a0_5 == 1) = false := beq_eq_false_iff_ne.mpr c3
      have c3b1 : (a0_5 != 1) = true := bne_iff_ne.mpr c3
      obtain rfl := Option.some.inj H
      go_enter Try.func22, Try.ntmps22
      go_wp2_with (first | ((with_reducible refine gate_dst (N := 1) rfl ?_); refine box_event ?hg (N := 1) ?hd (cs := #[.string a0_0, .string a0_1, .int .u64 a0_2, .int .u64 a0_3, .int .i64 a0_4, .int .i64 a0_5, .int .i64 a0_6, .bool true]) (t := 42) ?hr ?_; (case hd => rfl); (case hg => rfl); (case hr => first | (go_simp; done) | (go_simp; rfl)); intro gb101 hg w6 hbox hb; have n0_ := Aside0.mk (below_step (by repeat (first | (with_reducible first | exact HB.out | apply below_alloc | apply pw_below_drewN | apply below_drew1) | exact HB.out)) hb); have n1_ := Aside0.mk (hbox); have n2_ := Aside0.mk ((by rw [hg]; exact (below_size (by repeat (first | (with_reducible first | exact HB.out | apply below_alloc | apply pw_below_drewN | apply below_drew1) | exact HB.out))) : w.heap.size ≤ gb101)); have n3_ := Aside0.mk ((by rw [hg]; exact (below_size (by repeat (first | (with_reducible first | exact HB.out | apply below_alloc | apply pw_below_drewN | apply below_drew1) | exact HB.out))) : w.heap.size ≤ gb101)); clear HB; have HB := n0_; have BK101 := n1_; have GW101 := n2_; have GE101 := n3_; clear n0_ n1_ n2_ n3_; clear hb hbox hg; obtain ⟨hcz7_0, hcz7_1, hcz7_2, hcz7_3, hcz7_4, hcz7_5, hcz7_6, hcz7_7, hfz7_0, hfz7_1, hfz7_2, hfz7_3, hfz7_4, hfz7_5, hfz7_6, hfz7_7⟩ := cells8 BK101.out))
      go_ret
      exact ⟨by first | rfl | (simp [errW_none, errW_some] <;> rfl) | (simp [*, errW_none, errW_some] <;> rfl), by repeat (first | (with_reducible first | exact HB.out | apply below_alloc | apply pw_below_drewN | apply below_drew1 | refine below_set ?_ GE101.out) | exact HB.out)⟩
  · replace c2 := Bool.eq_false_iff.mpr c2
    subst c2
    have H1 : (some false) = some r := by rw [if_neg (show ¬ (false = true) by decide)] at H; exact H
    clear H
    have H := H1
    clear H1
    obtain rfl := Option.some.inj H
    go_enter Try.func22, Try.ntmps22
    go_wp2_with (first | ((with_reducible refine gate_dst (N := 1) rfl ?_); refine box_event ?hg (N := 1) ?hd (cs := #[.string a0_0, .string a0_1, .int .u64 a0_2, .int .u64 a0_3, .int .i64 a0_4, .int .i64 a0_5, .int .i64 a0_6, .bool false]) (t := 42) ?hr ?_; (case hd => rfl); (case hg => rfl); (case hr => first | (go_simp; done) | (go_simp; rfl)); intro gb101 hg w8 hbox hb; have n0_ := Aside0.mk (below_step (by repeat (first | (with_reducible first | exact HB.out | apply below_alloc | apply pw_below_drewN | apply below_drew1) | exact HB.out)) hb); have n1_ := Aside0.mk (hbox); have n2_ := Aside0.mk ((by rw [hg]; exact (below_size (by repeat (first | (with_reducible first | exact HB.out | apply below_alloc | apply pw_below_drewN | apply below_drew1) | exact HB.out))) : w.heap.size ≤ gb101)); have n3_ := Aside0.mk ((by rw [hg]; exact (below_size (by repeat (first | (with_reducible first | exact HB.out | apply below_alloc | apply pw_below_drewN | apply below_drew1) | exact HB.out))) : w.heap.size ≤ gb101)); clear HB; have HB := n0_; have BK101 := n1_; have GW101 := n2_; have GE101 := n3_; clear n0_ n1_ n2_ n3_; clear hb hbox hg; obtain ⟨hcz9_0, hcz9_1, hcz9_2, hcz9_3, hcz9_4, hcz9_5, hcz9_6, hcz9_7, hfz9_0, hfz9_1, hfz9_2, hfz9_3, hfz9_4, hfz9_5, hfz9_6, hfz9_7⟩ := cells8 BK101.out))
    go_ret
    exact ⟨by first | rfl | (simp [errW_none, errW_some] <;> rfl) | (simp [*, errW_none, errW_some] <;> rfl), by repeat (first | (with_reducible first | exact HB.out | apply below_alloc | apply pw_below_drewN | apply below_drew1 | refine below_set ?_ GE101.out) | exact HB.out)⟩

-- NOT PRINTED: function 59 (api_Symbol)

def hash_fix (s : Int) : Int := bits BinOp.andNot IntKind.u32 (bits BinOp.xor IntKind.u32 s (bits BinOp.and IntKind.u32 s 4026531840 / 16777216)) (bits BinOp.and IntKind.u32 s 4026531840)
def hash_step (h c : Int) : Int := hash_fix ((h * 16 + c) % 4294967296)
def hash_Of.f (a0 : ByteArray) : Option Int := if a0.size ≤ 9223372036854775807 then some ((bytesOf a0).foldl hash_step 0) else none
theorem hash_Of.snoc (a0 : ByteArray) (k : Nat) (h : k < a0.size) : ((bytesOf a0).take (k + 1)).foldl hash_step 0 = hash_step (((bytesOf a0).take k).foldl hash_step 0) (bt a0 k) := by
  have hl : k < (bytesOf a0).length := by rw [bytesOf_length]; exact h
  rw [List.take_succ_eq_append_getElem hl, List.foldl_append]
  have : (bytesOf a0)[k] = bt a0 k := by
    rw [← rd_bytesOf]; simp [rd, List.getD_eq_getElem?_getD, List.getElem?_eq_getElem hl]
  rw [this]; rfl
set_option maxHeartbeats 400000 in
theorem hash_Of.calls (a0 : ByteArray) (r : Int) (w : World) (h : hash_Of.f a0 = some r) :
    Calls Try.prog 60 #[.string a0] w fun e w' => e = .returned (.int .u32 r) ∧ Below w.heap.size w w' := by
  unfold hash_Of.f at h
  by_cases hs : a0.size ≤ 9223372036854775807
  case neg => rw [if_neg hs] at h; cases h
  rw [if_pos hs] at h
  have HR := Aside0.mk (Option.some.inj h)
  clear h
  have hconv := fun W => print_bytes (P := Try.prog) 9 117 5 Try.underlying9 Try.underlying117 Try.underlying5 a0 W
  have hcell : ∀ k, k < a0.size → (Lib.bytesWorld w 5 a0).cell? ⟨w.heap.size, k, none⟩ = some (.int .u8 (bt a0 k)) := by
    intro k hk
    obtain ⟨ad, e, hc⟩ := (bytes_reads w 5 a0 hs).at_ (k : Int) (by omega) (by omega)
    cases e
    rw [add_plain, rd_bytesOf] at hc
    simpa using hc
  have HSN := Aside0.mk (hash_Of.snoc a0)
  go_enter Try.func60, Try.ntmps60
  go_wp2
  go_loop [3, 10] (fun v3 v10 => ∃ (k : Nat), v3 = .int .u32 (((bytesOf a0).take k).foldl hash_step 0) ∧ v10 = .int .i64 k ∧ k ≤ a0.size) (fun _ v => a0.size - (intOf v).toNat)
  case atStart => exact ⟨0, rfl, rfl, by omega⟩
  case round =>
    obtain ⟨k, rfl, rfl, hk⟩ := hrel
    by_cases hlt : k < a0.size
    · have hc := hcell k hlt
      clear hcell
      obtain ⟨hb0, hb1⟩ := bt_range a0 k
      generalize hg : ((bytesOf a0).take k).foldl hash_step 0 = g at *
      have HG := Aside0.mk hg
      clear hg
      go_wp2
      go_round
      case rel => exact ⟨k + 1, by rw [HSN.out k hlt, HG.out]; rfl, by go_num, hlt⟩
      case measure => simp [intOf]; omega
    · clear hcell
      have HL : k = (bytesOf a0).length := by rw [bytesOf_length]; omega
      have HG := Aside0.mk (show ((bytesOf a0).take k).foldl hash_step 0 = r by rw [HL, List.take_length]; exact HR.out)
      clear HL
      generalize hg : ((bytesOf a0).take k).foldl hash_step 0 = g at *
      obtain rfl := HG.out
      go_wp2
      go_ret
      exact ⟨rfl, bytes_below (Below.refl _ _) (Nat.le_refl _) _ _⟩

end Go.Proofs.Ytoakeildgpeffaa.P
