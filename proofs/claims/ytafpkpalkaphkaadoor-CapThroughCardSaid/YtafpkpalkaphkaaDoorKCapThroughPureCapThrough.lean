/- The pure statement of the law CapThrough. No condition. -/
import Derived.Test.YtafpkpalkaphkaaDoorKCapThroughPStCapThrough
import Derived.Test.YtafpkpalkaphkaaDoorKCapThroughMore
namespace Go.Proofs.YtafpkpalkaphkaaDoor.Pure
open Go.RowKit Go.Proofs.YtafpkpalkaphkaaDoor.P Go.Proofs.YtafpkpalkaphkaaDoorW.PrintWords Go.Proofs.YtafpkpalkaphkaaDoorW.PrintLast
set_option linter.unusedVariables false
set_option linter.unusedSimpArgs false

theorem within_iff {b t b' t' : Int} {p p' : Nat} {y y' : Int} {g g' : Bool} : withinB b t p y g b' t' p' y' g' = true ↔ (g = true → g' = true ∧ y = y' ∧ p &&& p' = p ∧ (t ≤ b ∨ b' ≤ b ∧ t ≤ t')) := by
  unfold withinB
  cases g <;> simp [and_assoc]
theorem within_trans {b t b' t' b'' t'' : Int} {p p' p'' : Nat} {y y' y'' : Int} {g g' g'' : Bool} (h : withinB b t p y g b' t' p' y' g' = true) (h' : withinB b' t' p' y' g' b'' t'' p'' y'' g'' = true) (hb : b' < t' ∨ t ≤ b) : withinB b t p y g b'' t'' p'' y'' g'' = true := by
  rw [within_iff] at h h' ⊢
  intro hg
  obtain ⟨a1, a2, a3, a4⟩ := h hg
  obtain ⟨b1, b2, b3, b4⟩ := h' a1
  refine ⟨b1, by omega, ?_, by omega⟩
  rw [← a3, Nat.and_assoc, b3]
def checkI (b t a : Int) (p : Nat) (y : Int) (g : Bool) (n q : Int) : Int := if g = true then (if y < 0 then (if ((p &&& low q : Nat) : Int) = q then (if b ≤ a ∧ a + n ≤ t then 0 else 23) else 22) else 21) else 20
theorem check_zero {b t a : Int} {p : Nat} {y : Int} {g : Bool} {n q : Int} : checkI b t a p y g n q = 0 ↔ g = true ∧ y < 0 ∧ ((p &&& low q : Nat) : Int) = q ∧ b ≤ a ∧ a + n ≤ t := by
  unfold checkI
  by_cases h1 : g = true
  · by_cases h2 : y < 0
    · by_cases h3 : ((p &&& low q : Nat) : Int) = q
      · by_cases h4 : b ≤ a ∧ a + n ≤ t <;> simp [h1, h2, h3, h4]
      · simp [h1, h2, h3]
    · simp [h1, h2]
  · simp [h1]
theorem through_1 (k : Nat) (n q : Int) (x76 : Bool) (hx : x76 = false) (b t a : Int) (p : Nat) (y : Int) (g : Bool) (b' t' a' : Int) (p' : Nat) (y' : Int) (g' : Bool) (hp : p < 256) (hp' : p' < 256)
    (ha : 0 ≤ a ∧ a ≤ 18446744073709551615) (ht : 0 ≤ t ∧ t ≤ 18446744073709551615) (ht' : 0 ≤ t' ∧ t' ≤ 18446744073709551615) (hn : 0 ≤ n ∧ n ≤ 18446744073709551615) (hq : 0 ≤ q ∧ q ≤ 255) :
    curtilagelaw02_CapThrough.j1 (k + 1) n q true (withinB b t p y g b' t' p' y' g') x76 b t a (p : Int) y g b' t' a' (p' : Int) y' g' = some true := by
  subst hx
  rw [curtilagelaw02_CapThrough.j1, check_is b t a p y g n q hp ha ht hn, move_is]
  simp only [Option.bind_some]
  rw [check_is b' t' a p' y' _ n q hp' ha ht' hn]
  simp only [Option.bind_some]
  change (if false = true then some false else if true = true then if withinB b t p y g b' t' p' y' g' = true then if checkI b t a p y g n q = 0 then if n = 0 then some true else some (checkI b' t' a p' y' (g' && !decide (y' ≥ 0)) n q == 0) else some true else some true else some false) = some true
  by_cases h1 : withinB b t p y g b' t' p' y' g' = true
  · by_cases h2 : checkI b t a p y g n q = 0
    · by_cases h3 : n = 0
      · simp [h1, h2, h3]
      · have h4 : checkI b' t' a p' y' (g' && !decide (y' ≥ 0)) n q = 0 := by
          obtain ⟨c1, c2, c3, c4, c5⟩ := check_zero.1 h2
          obtain ⟨d1, d2, d3, d4⟩ := within_iff.1 h1 c1
          refine check_zero.2 ⟨?_, by omega, ?_, by omega, by omega⟩
          · rw [d1]; simp; omega
          · have e1 : p' &&& (p &&& low q) = p &&& low q := by rw [← Nat.and_assoc, Nat.and_comm p' p, d3]
            have e2 : p &&& low q = low q := by
              obtain ⟨u, rfl⟩ := Int.eq_ofNat_of_zero_le hq.1
              rw [low_of u (by omega)] at c3 ⊢
              omega
            rw [e2] at e1 c3
            rw [e1]; exact c3
        simp [h1, h2, h3, h4]
    · simp [h1, h2]
  · simp [h1]
theorem CapThrough : curtilagelaw02_CapThrough.Pure := by
  rintro ⟨b, t, a, p, y, g⟩ ⟨b', t', a', p', y', g'⟩ ⟨b'', t'', a'', p'', y'', g''⟩ n q ⟨h0, h1, h2, h3, h4, _⟩ ⟨h0', h1', h2', h3', h4', _⟩ ⟨h0'', h1'', h2'', h3'', h4'', _⟩ hn hq
  simp only at h0 h1 h2 h3 h4 h0' h1' h2' h3' h4' h0'' h1'' h2'' h3'' h4'' ⊢
  have h0 := u64_range h0; have h1 := u64_range h1; have h2 := u64_range h2; have hn := u64_range hn; have h1' := u64_range h1'
  refine ⟨60 + 1 + 1, ?_⟩
  unfold curtilagelaw02_CapThrough.f
  rw [show curtilagelaw02_awake.f (60 + 1 + 1) = some true by kernel_rfl, right_is, right_is, right_is]
  simp only [Option.bind_some]
  by_cases r1 : 0 ≤ p ∧ p ≤ 255 ∧ -1 ≤ y ∧ y ≤ 63
  · by_cases r2 : 0 ≤ p' ∧ p' ≤ 255 ∧ -1 ≤ y' ∧ y' ≤ 63
    · by_cases r3 : 0 ≤ p'' ∧ p'' ≤ 255 ∧ -1 ≤ y'' ∧ y'' ≤ 63
      · rw [if_pos (decide_eq_true r1), if_pos (decide_eq_true r2), if_pos (decide_eq_true r3)]
        by_cases hq0 : q < 0
        · rw [if_pos hq0, curtilagelaw02_CapThrough.j0]; simp
        · rw [if_neg hq0, curtilagelaw02_CapThrough.j0]
          by_cases hq1 : q > 255
          · simp [hq1]
          · obtain ⟨m, rfl⟩ := Int.eq_ofNat_of_zero_le r1.1
            obtain ⟨m', rfl⟩ := Int.eq_ofNat_of_zero_le r2.1
            obtain ⟨m'', rfl⟩ := Int.eq_ofNat_of_zero_le r3.1
            rw [within_is b t a m y g b' t' a' m' y' g' (by omega) (by omega), within_is b' t' a' m' y' g' b'' t'' a'' m'' y'' g'' (by omega) (by omega), within_is b t a m y g b'' t'' a'' m'' y'' g'' (by omega) (by omega)]
            have G := fun x hx => through_1 60 n q x hx b t a m y g b' t' a' m' y' g' (by omega) (by omega) h2 h1 h1' hn (by omega)
            simp only [Option.bind_some]
            rw [if_neg (by simp [hq1])]
            by_cases w1 : withinB b t m y g b' t' m' y' g' = true
            · by_cases w2 : withinB b' t' m' y' g' b'' t'' m'' y'' g'' = true
              · by_cases w3 : withinB b t m y g b'' t'' m'' y'' g'' = true
                · rw [if_pos w1, if_pos w2, if_pos w3]; exact G false rfl
                · rw [if_pos w1, if_pos w2, if_neg w3]
                  have hne : ¬ (b' < t' ∨ t ≤ b) := fun h => w3 (within_trans w1 w2 h)
                  rw [if_neg (by omega)]
                  exact G _ (decide_eq_false (by omega))
              · rw [if_pos w1, if_neg w2]; exact G false rfl
            · rw [if_neg w1]; exact G false rfl
      · rw [if_pos (decide_eq_true r1), if_pos (decide_eq_true r2), if_neg (by simp [r3]), curtilagelaw02_CapThrough.j0]; simp
    · rw [if_pos (decide_eq_true r1), if_neg (by simp [r2]), curtilagelaw02_CapThrough.j0]; simp
  · rw [if_neg (by simp [r1]), curtilagelaw02_CapThrough.j0]; simp
end Go.Proofs.YtafpkpalkaphkaaDoor.Pure
