/- The pure statement of the law HashAlong. No condition. -/
import Derived.Test.YtcoknhomlbbimaaPStHashAlong
import Derived.Test.YtcoknhomlbbimaaTable
namespace Go.Proofs.Ytcoknhomlbbimaa.Pure
open Go.RowKit Go.Proofs.Ytcoknhomlbbimaa.P Go.Proofs.YtcoknhomlbbimaaW.PrintWords Go.Proofs.YtcoknhomlbbimaaW.PrintLast
set_option linter.unusedVariables false
set_option linter.unusedSimpArgs false

theorem cnt_split (l : List S24) (n b : Nat) : ∀ m i, cnt (fun j => sh l j && decide (bk l n j < b + 1)) m i = cnt (fun j => sh l j && decide (bk l n j < b)) m i + cnt (inB l n b) m i
  | 0, _ => rfl
  | m + 1, i => by
    have ih := cnt_split l n b m (i + 1)
    unfold cnt
    rw [ih]
    unfold inB
    by_cases hs : sh l i = true
    · by_cases h1 : bk l n i < b
      · have h2 : bk l n i < b + 1 := by omega
        have h3 : ¬ bk l n i = b := by omega
        simp [hs, h1, h2, h3]; omega
      · by_cases h3 : bk l n i = b
        · simp [hs, h3]; omega
        · have h2 : ¬ bk l n i < b + 1 := by omega
          simp [hs, h1, h2, h3]
    · simp [hs]
/-- The walk along one chain. -/
theorem along (l : List S24) (n : Nat) (h0 : 1 ≤ n) (h1 : n ≤ 64) (hl : l.length ≤ 40) (hNm : NamesOk l) (B C : List Int) (T : Tab l n B C) (S : Int) (b : Nat) (hb : b < n) (v' : Nat) (hv' : v' ≤ 40)
    (hnext : Ev fun k => curtilagelaw12_HashAlong.l1 k l (n : Int) true S (v' : Int) ((b + 1 : Nat) : Int) B C = some true) :
    ∀ (m i v : Nat), i + m = l.length → v + cnt (inB l n b) m i = v' →
      Ev fun k => curtilagelaw12_HashAlong.l2 k l (n : Int) true S (v : Int) (b : Int) (fst1 (inB l n b) m i : Int) B C = some true
  | 0, i, v, hm, hv => hnext.step fun k hk => by
      have : v = v' := by simpa [cnt] using hv
      subst this
      rw [curtilagelaw12_HashAlong.l2]
      rw [if_pos (by simp [fst1]), show wrap64 ((b : Int) + 1) = ((b + 1 : Nat) : Int) by unfold wrap64; omega]
      exact hk
  | m + 1, i, v, hm, hv => by
      by_cases hp : inB l n b i = true
      · have hc : cnt (inB l n b) (m + 1) i = 1 + cnt (inB l n b) m (i + 1) := by rw [cnt, if_pos hp]
        rw [hc] at hv
        have ih := along l n h0 h1 hl hNm B C T S b hb v' hv' hnext m (i + 1) (v + 1) (by omega) (by omega)
        have hsh : sh l i = true := by unfold inB at hp; simp only [Bool.and_eq_true] at hp; exact hp.1
        have hbk : bk l n i = b := by unfold inB at hp; simp only [Bool.and_eq_true, beq_iff_eq] at hp; exact hp.2
        have hcell : rd C (i : Int) = (fst1 (inB l n b) m (i + 1) : Int) := by
          rw [T.atC i (by omega), if_pos hsh, hbk, show l.length - 1 - i = m by omega]
        have hw : wrap64 (((i + 1 : Nat) : Int) - 1) = (i : Int) := by unfold wrap64; omega
        rw [← hcell] at ih
        have hgt := fst1_gt (inB l n b) m (i + 1)
        rw [show fst1 (inB l n b) (m + 1) i = i + 1 by rw [fst1, if_pos hp]]
        have hj4 : Ev fun k => curtilagelaw12_HashAlong.j4 k l (n : Int) true S (v : Int) (b : Int) ((i + 1 : Nat) : Int) false B C = some true := ih.step fun k hk => by
          rw [curtilagelaw12_HashAlong.j4]
          rw [if_neg (by simp), hw, if_pos (by omega), if_pos (by omega)]
          rw [rd_nm]
          rw [Of_is _ (Nat.le_trans (nm_ok l hNm i) (by omega)), Option.bind_some]
          rw [shown_is', Option.bind_some, if_pos (show symShown (nm l i) = true from hsh), if_neg (by omega), tmod_is _ n h0 h1,
            show wrap64 ((hN (nm l i).f0 % n : Nat) : Int) = ((bk l n i : Nat) : Int) by have : hN (nm l i).f0 % n < n := Nat.mod_lt _ (by omega); unfold bk wrap64; omega,
            if_pos (by rw [hbk]), if_pos (show (i : Int) < (C.length : Int) by rw [T.lenC]; omega), show wrap64 ((v : Int) + 1) = ((v + 1 : Nat) : Int) by unfold wrap64; omega]
          split
          · exact hk
          · next hne =>
            rw [if_neg]
            · exact hk
            · rw [hcell] at hne ⊢; omega
        exact hj4.step fun k hk => by
          rw [curtilagelaw12_HashAlong.l2]
          rw [if_neg (by omega), if_neg (by omega), if_neg (by omega), show decide ((v : Int) > 40) = false by simp; omega]
          exact hk
      · have hc : cnt (inB l n b) (m + 1) i = cnt (inB l n b) m (i + 1) := by rw [cnt, if_neg hp, Nat.zero_add]
        rw [show fst1 (inB l n b) (m + 1) i = fst1 (inB l n b) m (i + 1) by rw [fst1, if_neg hp]]
        exact along l n h0 h1 hl hNm B C T S b hb v' hv' hnext m (i + 1) v (by omega) (by omega)
theorem chains (l : List S24) (n : Nat) (h0 : 1 ≤ n) (h1 : n ≤ 64) (hl : l.length ≤ 40) (hNm : NamesOk l) (B C : List Int) (T : Tab l n B C) : ∀ (m b : Nat), b + m = n →
    Ev fun k => curtilagelaw12_HashAlong.l1 k l (n : Int) true (cnt (sh l) l.length 0 : Int) (cnt (fun j => sh l j && decide (bk l n j < b)) l.length 0 : Int) (b : Int) B C = some true
  | 0, b, hb => (Ev.all (P := fun _ => True) fun _ => trivial).step fun k _ => by
      rw [curtilagelaw12_HashAlong.l1]
      rw [if_neg (by omega), if_pos rfl, cnt_congr (fun j => sh l j && decide (bk l n j < b)) (sh l) (fun j => by
        have : bk l n j < b := by rw [show b = n by omega]; exact Nat.mod_lt _ (by omega)
        simp [this])]
      simp
  | m + 1, b, hb => by
      have ih := chains l n h0 h1 hl hNm B C T m (b + 1) (by omega)
      rw [cnt_split] at ih
      have hle : cnt (fun j => sh l j && decide (bk l n j < b)) l.length 0 + cnt (inB l n b) l.length 0 ≤ 40 := by
        rw [← cnt_split]; exact Nat.le_trans (cnt_le _ _ _) hl
      have ha := along l n h0 h1 hl hNm B C T _ b (by omega) _ hle ih l.length 0 _ (by omega) rfl
      exact ha.step fun k hk => by
        rw [curtilagelaw12_HashAlong.l1]
        rw [if_pos (by omega), if_pos (by omega), if_pos (by rw [T.lenB]; omega), T.atB b (by omega)]
        exact hk
theorem counting (l : List S24) (n : Nat) (h0 : 1 ≤ n) (h1 : n ≤ 64) (hl : l.length ≤ 40) (hNm : NamesOk l) (B C : List Int) (T : Tab l n B C) : ∀ (m i v : Nat), i + m = l.length → v + cnt (sh l) m i = cnt (sh l) l.length 0 →
    Ev fun k => curtilagelaw12_HashAlong.l0 k l (n : Int) true (v : Int) (i : Int) B C = some true
  | 0, i, v, hm, hv => (chains l n h0 h1 hl hNm B C T n 0 (by omega)).step fun k hk => by
      have : v = cnt (sh l) l.length 0 := by rw [← hv]; simp [cnt]
      rw [curtilagelaw12_HashAlong.l0]
      have hz : ∀ m i, cnt (fun j => sh l j && decide (bk l n j < 0)) m i = 0 := by
        intro m; induction m with
        | zero => intro i; rfl
        | succ m ih => intro i; unfold cnt; rw [ih]; simp
      rw [hz] at hk
      rw [if_neg (by omega), this]
      exact hk
  | m + 1, i, v, hm, hv => by
      have hle : v + cnt (sh l) (m + 1) i ≤ 40 := by rw [hv]; exact Nat.le_trans (cnt_le _ _ _) hl
      have e : cnt (sh l) (m + 1) i = (if sh l i = true then 1 else 0) + cnt (sh l) m (i + 1) := rfl
      rw [e] at hv hle
      by_cases hsh : sh l i = true
      · rw [if_pos hsh] at hv hle
        have ih := counting l n h0 h1 hl hNm B C T m (i + 1) (v + 1) (by omega) (by omega)
        exact ih.step fun k hk => by
          rw [curtilagelaw12_HashAlong.l0]
          rw [if_pos (by omega), if_pos (by omega)]
          rw [rd_nm]
          rw [shown_is', Option.bind_some, if_pos (show symShown (nm l i) = true from hsh), show wrap64 ((v : Int) + 1) = ((v + 1 : Nat) : Int) by unfold wrap64; omega, show wrap64 ((i : Int) + 1) = ((i + 1 : Nat) : Int) by unfold wrap64; omega]
          exact hk
      · rw [if_neg hsh] at hv hle
        have ih := counting l n h0 h1 hl hNm B C T m (i + 1) v (by omega) (by omega)
        exact ih.step fun k hk => by
          rw [curtilagelaw12_HashAlong.l0]
          rw [if_pos (by omega), if_pos (by omega)]
          rw [rd_nm]
          rw [shown_is', Option.bind_some, if_neg (show ¬ symShown (nm l i) = true from hsh), show wrap64 ((i : Int) + 1) = ((i + 1 : Nat) : Int) by unfold wrap64; omega]
          exact hk
theorem HashAlong : curtilagelaw12_HashAlong.Pure := by
  intro l n hl hn
  have hNm := namesOk_of l hl.2.2
  by_cases hg : n < 1 ∨ n > 64 ∨ l.length > 40
  · refine (awake_is.map fun k ha => ?_).ex
    unfold curtilagelaw12_HashAlong.f
    rw [ha, make_bad l n hg, Option.bind_some, Option.bind_some, if_neg (by show ¬ ((1 : Int) = 0); omega), if_pos rfl]
    split
    · rfl
    split
    · rfl
    rw [show decide ((l.length : Int) > 40) = true by simp; omega]
  · obtain ⟨n, rfl⟩ := Int.eq_ofNat_of_zero_le (show 0 ≤ n by omega)
    have hll : l.length ≤ 40 := by omega
    obtain ⟨b, c, hm, T⟩ := make_ok l n (by omega) (by omega) hll hNm
    have hj : Ev fun k => curtilagelaw12_HashAlong.j0 k l (n : Int) true false b c = some true :=
      (counting l n (by omega) (by omega) hll hNm b c T l.length 0 0 (by omega) (by omega)).step fun k hk => by
        rw [curtilagelaw12_HashAlong.j0]
        rw [if_neg (by simp)]
        exact hk
    refine ((awake_is.and hj).map fun k ⟨ha, hj⟩ => ?_).ex
    unfold curtilagelaw12_HashAlong.f
    rw [ha, hm, Option.bind_some, Option.bind_some, if_pos rfl, if_pos (by rw [T.lenB]), show ((c.length : Int) != (l.length : Int)) = false by rw [T.lenC]; simp]
    exact hj
end Go.Proofs.Ytcoknhomlbbimaa.Pure
