/- Words of the walks: lemmas about memory, cut down to what this proof uses. No condition. -/
import Derived.Test.YtccndffoljjadaaKAbiTextsAb0
namespace Go.Proofs.Ytccndffoljjadaa.P
open Go.RowKit Go.Proofs.YtccndffoljjadaaW.PrintWords Go.Proofs.YtccndffoljjadaaW.PrintLast
set_option linter.unusedVariables false
set_option linter.unusedSimpArgs false
/-- The first place of a list that has p; -1: there is none. -/
def firstW {α : Type} (p : α → Bool) (l : List α) : Int := match l.findIdx? p with | none => -1 | some i => (i : Int)
theorem firstW_here {α : Type} {p : α → Bool} {l : List α} {d : α} {j : Nat} (hj : j < l.length) (hb : ∀ i, i < j → p (l.getD i d) = false) (h : p (l.getD j d) = true) : firstW p l = j := by
  have e : l.findIdx? p = some j := by
    rw [List.findIdx?_eq_some_iff_getElem]
    refine ⟨hj, by simpa [List.getD_eq_getElem?_getD, List.getElem?_eq_getElem hj] using h, fun i hi => ?_⟩
    have := hb i hi
    simpa [List.getD_eq_getElem?_getD, List.getElem?_eq_getElem (show i < l.length by omega)] using this
  unfold firstW; rw [e]
theorem firstW_none {α : Type} {p : α → Bool} {l : List α} {d : α} (hb : ∀ i, i < l.length → p (l.getD i d) = false) : firstW p l = -1 := by
  have e : l.findIdx? p = none := by
    rw [List.findIdx?_eq_none_iff]
    intro x hx
    obtain ⟨i, hi, rfl⟩ := List.getElem_of_mem hx
    have := hb i hi
    simpa [List.getD_eq_getElem?_getD, List.getElem?_eq_getElem hi] using this
  unfold firstW; rw [e]
theorem firstW_any {α : Type} (p : α → Bool) (l : List α) : decide (0 ≤ firstW p l) = l.any p := by
  unfold firstW
  cases h : l.findIdx? p with
  | none =>
    have := List.findIdx?_eq_none_iff.1 h
    symm
    simp only [Int.reduceNeg, Int.reduceLE, decide_false]
    rw [List.any_eq_false]
    exact fun x hx => by rw [this x hx]; simp
  | some i =>
    obtain ⟨hi, hp, _⟩ := List.findIdx?_eq_some_iff_getElem.1 h
    have : decide ((0 : Int) ≤ (i : Int)) = true := decide_eq_true (by omega)
    rw [this]; symm
    rw [List.any_eq_true]
    exact ⟨_, List.getElem_mem hi, hp⟩
theorem ret_i {a b : Int} (h : a = b) : Ending.returned (.int .i64 a) = .returned (.int .i64 b) := by rw [h]
def badS (s : ByteArray) : Bool := !abi_text.f s
set_option maxHeartbeats 1000000 in
set_option maxRecDepth 100000 in
theorem IndexFunc_S.calls (A0 : Option Addr) (c0 : Nat) (l0 : List ByteArray) (w : World) (hr0 : Kd.C Kd.string w A0 l0.length l0) :
    Calls Try.prog 74 #[.slice A0 l0.length c0, .func (.func 53) #[] #[]] w fun e w' => e = .returned (.int .i64 (firstW badS l0)) ∧ Below w.heap.size w w' := by
  have HR0 := Aside0.mk hr0
  have hlen : l0.length ≤ 9223372036854775807 := hr0.2.1
  clear hr0
  go_enter Try.func74, Try.ntmps74
  go_wp2
  go_loopw [5, 8] (fun v5 v8 wr => ∃ (j : Nat), v8 = .int .i64 j ∧ j ≤ l0.length ∧ Aside0 (∀ i, i < j → badS (l0.getD i ByteArray.empty) = false) ∧ Aside0 (Below w.heap.size w wr)) (fun _ v8 _ => l0.length - (intOf v8).toNat)
  case atStart => exact ⟨0, rfl, by omega, ⟨fun i hi => by omega⟩, ⟨Below.refl _ _⟩⟩
  case round =>
    obtain ⟨j, rfl, hj, HF, HB⟩ := hrel
    by_cases hlt : j < l0.length
    · have p1 : 0 ≤ (j : Int) := by omega
      have q1 : (j : Int) < l0.length := by omega
      obtain ⟨ad, eA, hx0⟩ := Kd.at_string (Kd.C_below HR0.out HB.out) (j : Int) p1 q1
      cases eA
      simp only [Int.toNat_natCast] at hx0
      have er : rdOf ByteArray.empty l0 (j : Int) = l0.getD j ByteArray.empty := by simp [rdOf]
      rw [er] at hx0
      generalize hs : l0.getD j ByteArray.empty = s at hx0
      have W3 : wrap64 ((j : Int) + 1) = ((j + 1 : Nat) : Int) := by unfold wrap64; omega
      have A := Aside0.mk (fun W => abi_right_1.calls s W)
      cases hb : badS s
      · have HN := Aside0.mk (show ∀ i, i < j + 1 → badS (l0.getD i ByteArray.empty) = false from fun i hi => by
          rcases Nat.lt_succ_iff_lt_or_eq.1 hi with h | h
          · exact HF.out i h
          · rw [h, hs, hb])
        have HV := Aside0.mk (show (!abi_text.f s) = false from hb)
        clear hb hs HF
        go_wp2_with (first | (go_at_call 53; refine (A.out _).mono ?_; rintro e w' ⟨rfl, hb⟩; have hr := HV.out; rw [hr]; clear hr; have HB2 := Aside0.mk (below_step HB.out hb); clear hb) | fail)
        exact ⟨⟨j + 1, by simp, by omega, HN, HB2⟩, by simp [intOf]; omega⟩
      · have HN := Aside0.mk (firstW_here hlt HF.out (by rw [hs, hb]))
        have HV := Aside0.mk (show (!abi_text.f s) = true from hb)
        clear hb hs HF
        go_wp2_with (first | (go_at_call 53; refine (A.out _).mono ?_; rintro e w' ⟨rfl, hb⟩; have hr := HV.out; rw [hr]; clear hr; have HB2 := Aside0.mk (below_step HB.out hb); clear hb) | fail)
        go_ret
        exact ⟨ret_i HN.out.symm, HB2.out⟩
    · obtain rfl : j = l0.length := by omega
      go_wp2
      go_ret
      exact ⟨ret_i (firstW_none HF.out).symm, HB.out⟩
set_option maxHeartbeats 1000000 in
set_option maxRecDepth 100000 in
theorem ContainsFunc_S.calls (A0 : Option Addr) (c0 : Nat) (l0 : List ByteArray) (w : World) (hr0 : Kd.C Kd.string w A0 l0.length l0) :
    Calls Try.prog 57 #[.slice A0 l0.length c0, .func (.func 53) #[] #[]] w fun e w' => e = .returned (.bool (l0.any badS)) ∧ Below w.heap.size w w' := by
  have A := Aside0.mk (IndexFunc_S.calls A0 c0 l0 w hr0)
  have E := Aside0.mk (firstW_any badS l0)
  go_enter Try.func57, Try.ntmps57
  go_wp2_with (first | (go_at_call 74; refine A.out.mono ?_; rintro e w' ⟨rfl, hb⟩; have HB := Aside0.mk hb; clear hb) | fail)
  go_ret
  exact ⟨by rw [← E.out]; rfl, HB.out⟩
/-- May a capability be handed over? -/
def safeB (x : S30) : Bool := !x.f5 || (!(Go.bits .and .i64 x.f3 96 != 0) && !((Go.bits .and .i64 x.f3 2 != 0) && (Go.bits .and .i64 x.f3 4 != 0)))
def badC (x : S30) : Bool := !safeB x
set_option maxHeartbeats 4000000 in
set_option maxRecDepth 100000 in
theorem abi_safe.calls (x : S30) (w : World) : Calls Try.prog 56 #[.agg #[.int .u64 x.f0, .int .u64 x.f1, .int .u64 x.f2, .int .i64 x.f3, .int .i64 x.f4, .bool x.f5]] w fun e w' => e = .returned (.bool (safeB x)) ∧ Below w.heap.size w w' := by
  have hu := Try.underlying30
  unfold safeB
  obtain ⟨a0, a1, a2, p, a4, tg⟩ := x
  simp only
  cases h1 : (Go.bits .and .i64 p 96 != 0) <;> cases h2 : (Go.bits .and .i64 p 2 != 0) <;> cases h3 : (Go.bits .and .i64 p 4 != 0) <;> cases tg <;>
  · go_enter Try.func56, Try.ntmps56
    go_wp2
    go_ret
    exact ⟨rfl, Below.alloc (Below.refl _ _) (Nat.le_refl _) _⟩
set_option maxHeartbeats 1000000 in
set_option maxRecDepth 100000 in
theorem abi_right_2.calls (x : S30) (w : World) : Calls Try.prog 55 #[.agg #[.int .u64 x.f0, .int .u64 x.f1, .int .u64 x.f2, .int .i64 x.f3, .int .i64 x.f4, .bool x.f5]] w fun e w' => e = .returned (.bool (!safeB x)) ∧ Below w.heap.size w w' := by
  have hu := Try.underlying30
  have A := Aside0.mk (fun W => abi_safe.calls x W)
  generalize safeB x = sb at A
  go_enter Try.func55, Try.ntmps55
  go_wp2_with (first | (go_at_call 56; refine (A.out _).mono ?_; rintro e w' ⟨rfl, hb⟩; have HB := Aside0.mk (below_step (below_alloc (Below.refl w.heap.size w) _) hb); clear hb) | fail)
  go_ret
  exact ⟨rfl, HB.out⟩
set_option maxHeartbeats 1000000 in
set_option maxRecDepth 100000 in
theorem IndexFunc_C.calls (A0 : Option Addr) (c0 : Nat) (l0 : List S30) (w : World) (hr0 : Kd.C k30 w A0 l0.length l0) :
    Calls Try.prog 75 #[.slice A0 l0.length c0, .func (.func 55) #[] #[]] w fun e w' => e = .returned (.int .i64 (firstW badC l0)) ∧ Below w.heap.size w w' := by
  have HR0 := Aside0.mk hr0
  have hlen : l0.length ≤ 9223372036854775807 := hr0.2.1
  clear hr0
  go_enter Try.func75, Try.ntmps75
  go_wp2
  go_loopw [5, 8] (fun v5 v8 wr => ∃ (j : Nat), v8 = .int .i64 j ∧ j ≤ l0.length ∧ Aside0 (∀ i, i < j → badC (l0.getD i z30) = false) ∧ Aside0 (Below w.heap.size w wr)) (fun _ v8 _ => l0.length - (intOf v8).toNat)
  case atStart => exact ⟨0, rfl, by omega, ⟨fun i hi => by omega⟩, ⟨Below.refl _ _⟩⟩
  case round =>
    obtain ⟨j, rfl, hj, HF, HB⟩ := hrel
    by_cases hlt : j < l0.length
    · have p1 : 0 ≤ (j : Int) := by omega
      have q1 : (j : Int) < l0.length := by omega
      obtain ⟨ad, eA, hx0, hx1, hx2, hx3, hx4, hx5⟩ := at_T30 (Kd.C_below HR0.out HB.out) (j : Int) p1 q1
      cases eA
      simp only [Int.toNat_natCast] at hx0 hx1 hx2 hx3 hx4 hx5
      have er : rd_T30 l0 (j : Int) = l0.getD j z30 := by simp [rd_T30]
      rw [er] at hx0 hx1 hx2 hx3 hx4 hx5
      generalize hs : l0.getD j z30 = s at hx0 hx1 hx2 hx3 hx4 hx5
      have W3 : wrap64 ((j : Int) + 1) = ((j + 1 : Nat) : Int) := by unfold wrap64; omega
      have A := Aside0.mk (fun W => abi_right_2.calls s W)
      cases hb : badC s
      · have HN := Aside0.mk (show ∀ i, i < j + 1 → badC (l0.getD i z30) = false from fun i hi => by
          rcases Nat.lt_succ_iff_lt_or_eq.1 hi with h | h
          · exact HF.out i h
          · rw [h, hs, hb])
        have HV := Aside0.mk (show (!safeB s) = false from hb)
        clear hb hs HF
        go_wp2_with (first | (go_at_call 55; refine (A.out _).mono ?_; rintro e w' ⟨rfl, hb⟩; have hr := HV.out; rw [hr]; clear hr; have HB2 := Aside0.mk (below_step HB.out hb); clear hb) | fail)
        exact ⟨⟨j + 1, by simp, by omega, HN, HB2⟩, by simp [intOf]; omega⟩
      · have HN := Aside0.mk (firstW_here hlt HF.out (by rw [hs, hb]))
        have HV := Aside0.mk (show (!safeB s) = true from hb)
        clear hb hs HF
        go_wp2_with (first | (go_at_call 55; refine (A.out _).mono ?_; rintro e w' ⟨rfl, hb⟩; have hr := HV.out; rw [hr]; clear hr; have HB2 := Aside0.mk (below_step HB.out hb); clear hb) | fail)
        go_ret
        exact ⟨ret_i HN.out.symm, HB2.out⟩
    · obtain rfl : j = l0.length := by omega
      go_wp2
      go_ret
      exact ⟨ret_i (firstW_none HF.out).symm, HB.out⟩
set_option maxHeartbeats 1000000 in
set_option maxRecDepth 100000 in
theorem ContainsFunc_C.calls (A0 : Option Addr) (c0 : Nat) (l0 : List S30) (w : World) (hr0 : Kd.C k30 w A0 l0.length l0) :
    Calls Try.prog 58 #[.slice A0 l0.length c0, .func (.func 55) #[] #[]] w fun e w' => e = .returned (.bool (l0.any badC)) ∧ Below w.heap.size w w' := by
  have A := Aside0.mk (IndexFunc_C.calls A0 c0 l0 w hr0)
  have E := Aside0.mk (firstW_any badC l0)
  go_enter Try.func58, Try.ntmps58
  go_wp2_with (first | (go_at_call 75; refine A.out.mono ?_; rintro e w' ⟨rfl, hb⟩; have HB := Aside0.mk hb; clear hb) | fail)
  go_ret
  exact ⟨by rw [← E.out]; rfl, HB.out⟩
def abi_right.f (a e : List ByteArray) (x : List S30) : Bool := decide ((a.length : Int) ≤ 8) && decide ((e.length : Int) ≤ 8) && decide ((x.length : Int) ≤ 8) && !a.any badS && !e.any badS && !x.any badC
set_option maxHeartbeats 4000000 in
set_option maxRecDepth 100000 in
theorem abi_right.calls (A0 : Option Addr) (c0 : Nat) (l0 : List ByteArray) (A1 : Option Addr) (c1 : Nat) (l1 : List ByteArray) (A2 : Option Addr) (c2 : Nat) (l2 : List S30) (w : World) (hr0 : Kd.C Kd.string w A0 l0.length l0) (hr1 : Kd.C Kd.string w A1 l1.length l1) (hr2 : Kd.C k30 w A2 l2.length l2) :
    Calls Try.prog 28 #[.slice A0 l0.length c0, .slice A1 l1.length c1, .slice A2 l2.length c2] w fun e w' => e = .returned (.bool (abi_right.f l0 l1 l2)) ∧ Below w.heap.size w w' := by
  have A := Aside0.mk (ContainsFunc_S.calls A0 c0 l0 w hr0)
  have B := Aside0.mk (fun W (hb : Below w.heap.size w W) => ContainsFunc_S.calls A1 c1 l1 W (Kd.C_below hr1 hb))
  have C := Aside0.mk (fun W (hb : Below w.heap.size w W) => ContainsFunc_C.calls A2 c2 l2 W (Kd.C_below hr2 hb))
  have e0 : Below w.heap.size w w := Below.refl _ _
  unfold abi_right.f
  cases h1 : decide ((l0.length : Int) ≤ 8)
  · go_enter Try.func28, Try.ntmps28
    go_wp2
    go_ret
    exact ⟨by simp, Below.refl _ _⟩
  cases h2 : decide ((l1.length : Int) ≤ 8)
  · go_enter Try.func28, Try.ntmps28
    go_wp2
    go_ret
    exact ⟨by simp, Below.refl _ _⟩
  cases h3 : decide ((l2.length : Int) ≤ 8)
  · go_enter Try.func28, Try.ntmps28
    go_wp2
    go_ret
    exact ⟨by simp, Below.refl _ _⟩
  generalize l0.any badS = q0 at A
  generalize l1.any badS = q1 at B
  generalize l2.any badC = q2 at C
  cases q0 <;> cases q1 <;>
  · go_enter Try.func28, Try.ntmps28
    go_wp2_with (first | (go_at_call 57; first | (refine A.out.mono ?_; clear A; rintro e w1 ⟨rfl, hb⟩; have HB1 := Aside0.mk hb; clear hb) | (refine (B.out _ HB1.out).mono ?_; rintro e w2 ⟨rfl, hb⟩; have HB2 := Aside0.mk (below_step HB1.out hb); clear hb)) | (go_at_call 58; refine (C.out _ HB2.out).mono ?_; rintro e w3 ⟨rfl, hb⟩; have HB3 := Aside0.mk (below_step HB2.out hb); clear hb) | fail)
    go_ret
    first | exact ⟨by simp, HB3.out⟩ | exact ⟨by simp, HB2.out⟩ | exact ⟨by simp, HB1.out⟩
end Go.Proofs.Ytccndffoljjadaa.P
