/- The law AbiNeeds, walked. No condition. -/
import Derived.Test.YtccndffoljjadaaKAbiNeedsAbb
namespace Go.Proofs.Ytccndffoljjadaa.P
open Go.RowKit Go.Proofs.YtccndffoljjadaaW.PrintWords Go.Proofs.YtccndffoljjadaaW.PrintLast
set_option linter.unusedVariables false
set_option linter.unusedSimpArgs false
theorem R_empty9 (w : World) : Kd.R Kd.string 9 (w.alloc (.cells #[] 9)) w.heap.size (fun _ => True) (.slice (some ⟨w.heap.size, 0, none⟩) 0 0) [] := ⟨fun _ _ => trivial, [], ⟨by simp, .inr ⟨w.heap.size, 0, #[], rfl, Nat.le_refl _, blk_new w _, Nat.le_refl _, by simp, by simp, by simp⟩⟩, Reps.none _ _⟩
def NeedsOk (y0 y1 : List ByteArray) (y2 : List S30) (y3 : ByteArray) : Prop :=
  (abi_Need.g y0 y1 y2).tmod 32 = 0 ∧ abi_Need.g (y0 ++ [y3]) y1 y2 = abi_Need.g y0 (y1 ++ [y3]) y2 ∧ wrap64 (abi_Need.g y0 y1 y2 + 32) ≤ abi_Need.g (y0 ++ [y3]) y1 y2 ∧ abi_Need.g (y0 ++ [y3]) y1 y2 ≤ wrap64 (wrap64 (wrap64 (abi_Need.g y0 y1 y2 + 32) + (y3.size : Int)) + 32)
instance (y0 y1 : List ByteArray) (y2 : List S30) (y3 : ByteArray) : Decidable (NeedsOk y0 y1 y2 y3) := by unfold NeedsOk; infer_instance
def curtilagelaw19_AbiNeeds.f (y0 y1 : List ByteArray) (y2 : List S30) (y3 : ByteArray) : Option Bool :=
  if 200 < (y3.size : Int) then some true else if 100 < (y0.length : Int) then some true else if 100 < (y1.length : Int) then some true else if 100 < (y2.length : Int) then some true else
  if NeedsOk y0 y1 y2 y3 then some true else some false
set_option maxHeartbeats 4000000 in
set_option maxRecDepth 100000 in
theorem curtilagelaw19_AbiNeeds.calls (A0 : Option Addr) (c0 : Nat) (y0 : List ByteArray) (A1 : Option Addr) (c1 : Nat) (y1 : List ByteArray) (A2 : Option Addr) (c2 : Nat) (y2 : List S30) (y3 : ByteArray) (r : Bool) (w : World) (hr0 : Kd.C Kd.string w A0 y0.length y0) (hc0 : y0.length ≤ c0) (hr1 : Kd.C Kd.string w A1 y1.length y1) (hc1 : y1.length ≤ c1) (hr2 : Kd.C k30 w A2 y2.length y2) (hc2 : y2.length ≤ c2) (hf : curtilagelaw19_AbiNeeds.f y0 y1 y2 y3 = some r) (hr : r = true) :
    Calls Try.prog 5 #[.slice A0 y0.length c0, .slice A1 y1.length c1, .slice A2 y2.length c2, .string y3] w fun e w' => e = .returned (.bool r) ∧ Below w.heap.size w w' := by
  subst hr
  have AW := Aside0.mk (awake.calls w)
  unfold curtilagelaw19_AbiNeeds.f at hf
  have HR0 := Aside0.mk hr0
  have HR1 := Aside0.mk hr1
  have HR2 := Aside0.mk hr2
  clear hr0 hr1 hr2
  by_cases p1 : 200 < (y3.size : Int)
  · have dp1 : decide (200 < (y3.size : Int)) = true := decide_eq_true p1
    go_enter Try.func5, Try.ntmps5
    go_wp2_with (first | (go_at_call 8; refine AW.out.mono ?_; rintro e W1 ⟨rfl, hb⟩; have HB1 := Aside0.mk hb; clear hb AW) | fail)
    go_ret
    exact ⟨rfl, HB1.out⟩
  rw [if_neg p1] at hf
  have dp1 : decide (200 < (y3.size : Int)) = false := decide_eq_false p1
  by_cases p2 : 100 < (y0.length : Int)
  · have dp2 : decide (100 < (y0.length : Int)) = true := decide_eq_true p2
    go_enter Try.func5, Try.ntmps5
    go_wp2_with (first | (go_at_call 8; refine AW.out.mono ?_; rintro e W1 ⟨rfl, hb⟩; have HB1 := Aside0.mk hb; clear hb AW) | fail)
    go_ret
    exact ⟨rfl, HB1.out⟩
  rw [if_neg p2] at hf
  have dp2 : decide (100 < (y0.length : Int)) = false := decide_eq_false p2
  by_cases p3 : 100 < (y1.length : Int)
  · have dp3 : decide (100 < (y1.length : Int)) = true := decide_eq_true p3
    go_enter Try.func5, Try.ntmps5
    go_wp2_with (first | (go_at_call 8; refine AW.out.mono ?_; rintro e W1 ⟨rfl, hb⟩; have HB1 := Aside0.mk hb; clear hb AW) | fail)
    go_ret
    exact ⟨rfl, HB1.out⟩
  rw [if_neg p3] at hf
  have dp3 : decide (100 < (y1.length : Int)) = false := decide_eq_false p3
  by_cases p4 : 100 < (y2.length : Int)
  · have dp4 : decide (100 < (y2.length : Int)) = true := decide_eq_true p4
    go_enter Try.func5, Try.ntmps5
    go_wp2_with (first | (go_at_call 8; refine AW.out.mono ?_; rintro e W1 ⟨rfl, hb⟩; have HB1 := Aside0.mk hb; clear hb AW) | fail)
    go_ret
    exact ⟨rfl, HB1.out⟩
  rw [if_neg p4] at hf
  have dp4 : decide (100 < (y2.length : Int)) = false := decide_eq_false p4
  by_cases hok : NeedsOk y0 y1 y2 y3
  case neg => rw [if_neg hok] at hf; cases hf
  obtain ⟨n1, n2, n3, n4⟩ := hok
  clear hf
  have l0 : y0.length ≤ 100 := by omega
  have l1 : y1.length ≤ 100 := by omega
  have NA := Aside0.mk (fun W (hb : Below w.heap.size w W) => abi_Need.calls' A0 c0 y0 A1 c1 y1 A2 c2 y2 W (Kd.C_below HR0.out hb) (Kd.C_below HR1.out hb) (by omega) (by omega))
  obtain ⟨z0, hz0⟩ : ∃ z, z = y0 ++ [y3] := ⟨_, rfl⟩
  obtain ⟨z1, hz1⟩ : ∃ z, z = y1 ++ [y3] := ⟨_, rfl⟩
  have e0 : z0.length ≤ 1000 := by rw [hz0]; simp; omega
  have e1 : z1.length ≤ 1000 := by rw [hz1]; simp; omega
  rw [← hz0] at n2 n3 n4
  rw [← hz1] at n2
  have HZ0 := Aside0.mk hz0
  have HZ1 := Aside0.mk hz1
  clear hz0 hz1
  have NB := Aside0.mk (fun W A c (hb : Below w.heap.size w W) (h : Kd.C Kd.string W A z0.length z0) => abi_Need.calls' A c z0 A1 c1 y1 A2 c2 y2 W h (Kd.C_below HR1.out hb) e0 (by omega))
  have NC := Aside0.mk (fun W A c (hb : Below w.heap.size w W) (h : Kd.C Kd.string W A z1.length z1) => abi_Need.calls' A0 c0 y0 A c z1 A2 c2 y2 W (Kd.C_below HR0.out hb) h (by omega) e1)
  generalize abi_Need.g y0 y1 y2 = a at *
  generalize abi_Need.g z0 y1 y2 = b at *
  generalize abi_Need.g y0 z1 y2 = c at *
  subst n2
  have m1 : decide (a.tmod 32 = 0) = true := decide_eq_true n1
  have m3 : decide (wrap64 (a + 32) ≤ b) = true := decide_eq_true n3
  have m4 : decide (b ≤ wrap64 (wrap64 (wrap64 (a + 32) + (y3.size : Int)) + 32)) = true := decide_eq_true n4
  have N4 := Aside0.mk n4
  clear n4
  go_enter Try.func5, Try.ntmps5
  go_wp2_with (first | (go_at_call 8; refine AW.out.mono ?_; rintro e W1 ⟨rfl, hb⟩; have HB1 := Aside0.mk hb; clear hb AW) | (go_at_call 13; first | (refine (NA.out _ HB1.out).mono ?_; rintro e W2 ⟨rfl, hb⟩; have HB2 := Aside0.mk (below_step HB1.out hb); clear hb HB1 NA) | (refine (NB.out _ _ _ HB4.out HC4.out).mono ?_; rintro e W5 ⟨rfl, hb⟩; have HB5 := Aside0.mk (below_step HB4.out hb); clear hb HB4 HC4 NB) | (go_loud (refine (NC.out _ _ _ HB7.out HC7.out).mono ?_); rintro e W8 ⟨rfl, hb⟩; have HB8 := Aside0.mk (below_step HB7.out hb); clear hb HB7 HC7 NC)) | ((with_reducible refine gate_builtin (b := .append) (xs := #[.tmp 37, .tmp 38]) rfl ?_); at_builtin; go_loud (refine Kd.R_append_rows Kd.string (Rr := Kd.string.K (W2.alloc (.cells #[] 9))) (w0 := W2) W2.heap.size rfl (.tmp 37) (.tmp 38) 23 9 (.string ⟨#[]⟩) 16 rfl Try.underlying23 info9 rfl (by decide) (by omega) (.slice (some ⟨W2.heap.size, 0, none⟩) 0 0) [] y0 A0 y0.length c0 (fun _ => True) (fun _ => False) rfl rfl (R_empty9 _) (Kd.C_below HR0.out (below_alloc HB2.out _)) (fun _ _ h => h) (fun _ hk => hk.elim) (fun _ _ => trivial) (below_alloc (Below.refl _ _) _) (by simp) (by simp; omega) ?_); intro va W3 ho hb hg hat; have HO3 := Aside0.mk ho; have HB3 := Aside0.mk (below_step HB2.out hb); have HQ2 := Aside0.mk (show w.heap.size ≤ W2.heap.size from HB2.out.size); have HSW3 := Aside0.mk (show W2.heap.size ≤ W3.heap.size from hb.size); clear HB2; clear ho hb hg hat) | ((with_reducible refine gate_builtin (b := .append) (xs := #[.tmp 39, .tmp 41]) rfl ?_); at_builtin; go_loud (refine Kd.R_append Kd.string (w0 := W3) W2.heap.size rfl (.tmp 39) (.tmp 41) 23 9 (.string ⟨#[]⟩) 16 rfl Try.underlying23 info9 rfl (by decide) (by omega) va y0 y3 [.string y3] (fun _ => True) (fun _ => False) rfl rfl rfl (fun _ hk => hk.elim) (fun _ _ => trivial) HO3.out (Below.refl _ _) HSW3.out (by omega) ?_); intro vb W4 ho hb hg hat; rw [← HZ0.out] at ho; obtain ⟨A4, c4, rfl, hcc4, hC⟩ := Kd.R_reads ho; have HC4 := Aside0.mk hC; have HB4 := Aside0.mk (show Below w.heap.size w W4 from HB3.out.trans ⟨hb.os, hb.tape, hb.output, hb.size, fun k hk => hb.block k (Nat.lt_of_lt_of_le hk HQ2.out)⟩); clear hC HB3 HO3; clear ho hb hg hat) | ((with_reducible refine gate_builtin (b := .append) (xs := #[.tmp 47, .tmp 48]) rfl ?_); at_builtin; go_loud (refine Kd.R_append_rows Kd.string (Rr := Kd.string.K (W5.alloc (.cells #[] 9))) (w0 := W5) W5.heap.size rfl (.tmp 47) (.tmp 48) 23 9 (.string ⟨#[]⟩) 16 rfl Try.underlying23 info9 rfl (by decide) (by omega) (.slice (some ⟨W5.heap.size, 0, none⟩) 0 0) [] y1 A1 y1.length c1 (fun _ => True) (fun _ => False) rfl rfl (R_empty9 _) (Kd.C_below HR1.out (below_alloc HB5.out _)) (fun _ _ h => h) (fun _ hk => hk.elim) (fun _ _ => trivial) (below_alloc (Below.refl _ _) _) (by simp) (by simp; omega) ?_); intro va W6 ho hb hg hat; have HO6 := Aside0.mk ho; have HB6 := Aside0.mk (below_step HB5.out hb); have HQ5 := Aside0.mk (show w.heap.size ≤ W5.heap.size from HB5.out.size); have HSW6 := Aside0.mk (show W5.heap.size ≤ W6.heap.size from hb.size); clear HB5; clear ho hb hg hat) | ((with_reducible refine gate_builtin (b := .append) (xs := #[.tmp 49, .tmp 51]) rfl ?_); at_builtin; go_loud (refine Kd.R_append Kd.string (w0 := W6) W5.heap.size rfl (.tmp 49) (.tmp 51) 23 9 (.string ⟨#[]⟩) 16 rfl Try.underlying23 info9 rfl (by decide) (by omega) va y1 y3 [.string y3] (fun _ => True) (fun _ => False) rfl rfl rfl (fun _ hk => hk.elim) (fun _ _ => trivial) HO6.out (Below.refl _ _) HSW6.out (by omega) ?_); intro vb W7 ho hb hg hat; rw [← HZ1.out] at ho; obtain ⟨A7, c7, rfl, hcc7, hC⟩ := Kd.R_reads ho; have HC7 := Aside0.mk hC; have HB7 := Aside0.mk (show Below w.heap.size w W7 from HB6.out.trans ⟨hb.os, hb.tape, hb.output, hb.size, fun k hk => hb.block k (Nat.lt_of_lt_of_le hk HQ5.out)⟩); clear hC HB6 HO6; clear ho hb hg hat) | fail)
  go_ret
  exact ⟨rfl, HB8.out⟩
end Go.Proofs.Ytccndffoljjadaa.P
