/- The pure statement of the law SweepTouches. No condition. -/
import Derived.Test.YtchjhnflogojcaaPStSweepTouches
import Derived.DataShut
namespace Go.Proofs.Ytchjhnflogojcaa.Pure
open Go.RowKit Go.Proofs.Ytchjhnflogojcaa.P Go.Proofs.YtchjhnflogojcaaW.PrintWords Go.Proofs.YtchjhnflogojcaaW.PrintLast
set_option linter.unusedVariables false
set_option linter.unusedSimpArgs false

theorem u64_range {n : Int} (h : (Lit.int .u64 n).wf = true) : 0 ≤ n ∧ n ≤ 18446744073709551615 := by
  have := (Lit.wf_int_iff .u64 n).1 h
  simpa [IntKind.min, IntKind.max, IntKind.signed, IntKind.bits] using this
def inB (x fr n : Int) : Bool := decide (fr ≤ x ∧ x - fr < n)
theorem among_is (x fr n : Int) (hx : 0 ≤ x ∧ x ≤ 18446744073709551615) (hf : 0 ≤ fr ∧ fr ≤ 18446744073709551615) : curtilageref22_among.f x fr n = some (inB x fr n) := by
  unfold curtilageref22_among.f inB
  rw [IntKind.wrap_u64]
  by_cases h : x ≥ fr
  · rw [if_pos h, show (x - fr) % 18446744073709551616 = x - fr by omega]
    simp [h]
  · rw [if_neg h]; simp; omega
def tch (b t ty : Int) (tag : Bool) (fr n typ : Int) : Bool :=
  tag && !(decide (n = 0) && decide (typ < 0)) && (decide (typ ≥ 0 ∧ ty = typ) || inB b fr n || decide (n > 0 ∧ fr ≥ b ∧ fr < t))
theorem touches_is (k : Nat) (b t at_ pe ty : Int) (tag : Bool) (fr n typ : Int) (hb : 0 ≤ b ∧ b ≤ 18446744073709551615) (hf : 0 ≤ fr ∧ fr ≤ 18446744073709551615) :
    sweep_Touches.f (k + 1) b t at_ pe ty tag fr n typ = some (tch b t ty tag fr n typ) := by
  unfold sweep_Touches.f
  rw [sweep_Touches.j0, sweep_Touches.j0, sweep_Touches.j0, among_is b fr n hb hf]
  unfold tch
  by_cases h1 : tag = true
  · by_cases h2 : n = 0
    · by_cases h3 : typ < 0
      · simp [h1, h2, h3]
      · by_cases h4 : ty = typ
        · have h5 : typ ≥ 0 := by omega
          simp [h1, h2, h3, h4, h5]
        · have h5 : typ ≥ 0 := by omega
          have h6 : inB b fr 0 = false := by unfold inB; simp; try omega
          simp [h1, h2, h3, h4, h5, h6]
    · by_cases h3 : typ ≥ 0
      · by_cases h4 : ty = typ
        · simp [h1, h2, h3, h4]
        · by_cases h5 : inB b fr n = true
          · simp [h1, h2, h3, h4, h5]
          · by_cases h6 : n > 0
            · by_cases h7 : fr ≥ b
              · simp [h1, h2, h3, h4, h5, h6, h7]
              · simp [h1, h2, h3, h4, h5, h6, h7]
            · simp [h1, h2, h3, h4, h5, h6]
      · by_cases h5 : inB b fr n = true
        · simp [h1, h2, h3, h5]
        · by_cases h6 : n > 0
          · by_cases h7 : fr ≥ b
            · simp [h1, h2, h3, h5, h6, h7]
            · simp [h1, h2, h3, h5, h6, h7]
          · simp [h1, h2, h3, h5, h6]
  · simp [h1]
theorem ref_is (k : Nat) (b t at_ pe ty : Int) (tag : Bool) (fr n typ : Int) (hb : 0 ≤ b ∧ b ≤ 18446744073709551615) (ht : 0 ≤ t ∧ t ≤ 18446744073709551615) (hf : 0 ≤ fr ∧ fr ≤ 18446744073709551615) (hn : 0 ≤ n) :
    curtilageref22_Touches.f (k + 1) b t at_ pe ty tag fr n typ = some (tch b t ty tag fr n typ) := by
  have hin : n = 0 → inB b fr n = false := by intro h; unfold inB; simp; omega
  unfold curtilageref22_Touches.f
  rw [curtilageref22_Touches.j0, curtilageref22_Touches.j0, among_is b fr n hb hf, among_is fr b _ hf hb, IntKind.wrap_u64]
  unfold tch
  by_cases h1 : tag = true
  · by_cases h3 : typ ≥ 0
    · by_cases h4 : ty = typ
      · simp [h1, h3, h4]; try omega
      · by_cases hbt : b ≥ t
        · have h8 : ¬ (fr ≥ b ∧ fr < t) := by omega
          have h9 : ¬ typ < 0 := by omega
          simp [h1, h3, h4, hbt, h9]
          cases hi : inB b fr n <;> simp [hi] ; omega
        · have e : (t - b) % 18446744073709551616 = t - b := by omega
          have h9 : ¬ typ < 0 := by omega
          have hin2 : inB fr b (t - b) = decide (fr ≥ b ∧ fr < t) := by unfold inB; apply decide_eq_decide.2; omega
          by_cases h6 : n > 0
          · cases hi : inB b fr n <;> simp [h1, h3, h4, hbt, h9, h6, hi, e, hin2]
          · cases hi : inB b fr n <;> simp [h1, h3, h4, hbt, h9, h6, hi, e, hin2]
    · by_cases hbt : b ≥ t
      · have h8 : ¬ (fr ≥ b ∧ fr < t) := by omega
        have h9 : typ < 0 := by omega
        by_cases h0 : n = 0
        · simp [h1, h3, hbt, h9, h0]; rw [← h0]; exact hin h0
        · simp [h1, h3, hbt, h9, h0]
          cases hi : inB b fr n <;> simp [hi] ; omega
      · have e : (t - b) % 18446744073709551616 = t - b := by omega
        have h9 : typ < 0 := by omega
        have hin2 : inB fr b (t - b) = decide (fr ≥ b ∧ fr < t) := by unfold inB; apply decide_eq_decide.2; omega
        by_cases h0 : n = 0
        · have := hin h0
          simp [h1, h3, hbt, h9, h0] 
          rw [← h0]; exact this
        · have h6 : n > 0 := by omega
          cases hi : inB b fr n <;> simp [h1, h3, hbt, h9, h6, h0, hi, e, hin2]
  · simp [h1]
theorem SweepTouches : curtilagelaw22_SweepTouches.Pure := by
  intro y0 fr n typ h0 h1 h2 h3
  obtain ⟨hb, ht, -⟩ := h0
  refine ⟨40, ?_⟩
  have ha : curtilagelaw22_awake.f 40 = some true := by kernel_rfl
  unfold curtilagelaw22_SweepTouches.f
  rw [ha, Option.bind_some, touches_is 39 _ _ _ _ _ _ _ _ _ (u64_range hb) (u64_range h1), ref_is 39 _ _ _ _ _ _ _ _ _ (u64_range hb) (u64_range ht) (u64_range h1) (u64_range h2).1]
  have hR : ∃ b, curtilageref02_Right.f y0.f0 y0.f1 y0.f2 y0.f3 y0.f4 y0.f5 = some b := by
    unfold curtilageref02_Right.f
    split
    · split
      · split
        · exact ⟨_, rfl⟩
        · exact ⟨_, rfl⟩
      · exact ⟨_, rfl⟩
    · exact ⟨_, rfl⟩
  obtain ⟨b, hR⟩ := hR
  rw [hR, Option.bind_some]
  cases b <;> simp
end Go.Proofs.Ytchjhnflogojcaa.Pure
