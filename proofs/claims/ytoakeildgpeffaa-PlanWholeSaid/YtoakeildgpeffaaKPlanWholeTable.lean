/- What the table of symbols has, and what is found by it, in plain words, . No condition. -/
import Derived.Test.YtoakeildgpeffaaKPlanWholeBase
import Derived.Laws.Strings
namespace Go.Proofs.Ytoakeildgpeffaa.Pure
open Go.RowKit Go.Proofs.Ytoakeildgpeffaa.P Go.Proofs.YtoakeildgpeffaaW.PrintWords Go.Proofs.YtoakeildgpeffaaW.PrintLast
set_option linter.unusedVariables false
set_option linter.unusedSimpArgs false

/-- The number, from 1 on, of the first place of m places from i on that has p; 0: there is none. -/
def fst1 (p : Nat → Bool) : Nat → Nat → Nat
  | 0, _ => 0
  | m + 1, i => if p i = true then i + 1 else fst1 p m (i + 1)
theorem fst1_succ (p : Nat → Bool) (m i : Nat) : fst1 p (m + 1) i = if p i = true then i + 1 else fst1 p m (i + 1) := rfl
def nm (l : List S42) (i : Nat) : S42 := rd_T42 l (i : Int)
theorem rd_nm (l : List S42) (i : Nat) : rd_T42 l (i : Int) = nm l i := rfl
def hN (a : ByteArray) : Nat := (hashOf a).toNat
theorem hN_is (a : ByteArray) : hashOf a = (hN a : Int) := by obtain ⟨r, _, e⟩ := hashOf_nat a; unfold hN; rw [e]; rfl
def sh (l : List S42) (i : Nat) : Bool := symShown (nm l i)
def bk (l : List S42) (n i : Nat) : Nat := hN (nm l i).f0 % n
def inB (l : List S42) (n b i : Nat) : Bool := sh l i && (bk l n i == b)
theorem tmod_is (a : ByteArray) (n : Nat) (h0 : 1 ≤ n) (h1 : n ≤ 64) : Int.tmod (hashOf a) ((n : Int) % 4294967296) = ((hN a % n : Nat) : Int) := by
  rw [hN_is, show (n : Int) % 4294967296 = (n : Int) by omega, Int.tmod_eq_emod_of_nonneg (by omega)]; omega
theorem shown_is (s : S42) : curtilageref12_Shown.f s.f0 s.f1 s.f2 s.f3 s.f4 s.f5 s.f6 s.f7 = some (symShown s) := by
  unfold curtilageref12_Shown.f symShown
  by_cases h7 : s.f7 = true
  · by_cases h5 : s.f5 = 1
    · simp [h7, h5]
    · simp [h7, h5]
  · simp [h7]
theorem shown_is' (s : S42) : hash_Shown.f s.f0 s.f1 s.f2 s.f3 s.f4 s.f5 s.f6 s.f7 = some (symShown s) := shown_is s

structure Tab (l : List S42) (n : Nat) (b c : List Int) : Prop where
  lenB : b.length = n
  lenC : c.length = l.length
  atB : ∀ t, t < n → rd b (t : Int) = (fst1 (inB l n t) l.length 0 : Int)
  atC : ∀ i, i < l.length → rd c (i : Int) = if sh l i = true then (fst1 (inB l n (bk l n i)) (l.length - 1 - i) (i + 1) : Int) else 0
theorem rd_set (xs : List Int) (i j : Nat) (v : Int) (hi : i < xs.length) : rd (xs.set i v) (j : Int) = if i = j then v else rd xs (j : Int) := by
  unfold rd
  rw [Int.toNat_natCast, List.getD_eq_getElem?_getD, List.getD_eq_getElem?_getD, List.getElem?_set]
  by_cases h : i = j
  · subst h; simp [hi]
  · simp [h]
theorem rd_rep (n j : Nat) : rd (List.replicate n (0 : Int)) (j : Int) = 0 := by
  unfold rd
  rw [List.getD_eq_getElem?_getD, List.getElem?_replicate]
  split <;> rfl
def Inv (l : List S42) (n j : Nat) (st : List Int × List Int) : Prop :=
  st.1.length = n ∧ st.2.length = l.length ∧ (∀ t, t < n → rd st.1 (t : Int) = (fst1 (inB l n t) j (l.length - j) : Int)) ∧
  (∀ i, i < l.length → rd st.2 (i : Int) = if l.length - j ≤ i ∧ sh l i = true then (fst1 (inB l n (bk l n i)) (l.length - 1 - i) (i + 1) : Int) else 0)
theorem inv_step (l : List S42) (n : Nat) (h0 : 1 ≤ n) (h1 : n ≤ 64) (hl : l.length ≤ 40) (j : Nat) (hj : j + 1 ≤ l.length) (st : List Int × List Int) (h : Inv l n j st) : Inv l n (j + 1) (mkStep (n : Int) st (backOf l j)) := by
  obtain ⟨e1, e2, e3, e4⟩ := h
  obtain ⟨i, hi⟩ : ∃ i, i = l.length - 1 - j := ⟨_, rfl⟩
  have hx : backOf l j = (i, nm l i) := by unfold backOf nm; rw [hi]
  have hs : i + 1 = l.length - j := by omega
  have hs' : l.length - (j + 1) = i := by omega
  have hm : l.length - 1 - i = j := by omega
  have hbn : bk l n i < n := Nat.mod_lt _ (by omega)
  rw [hx]
  unfold Inv
  rw [hs']
  by_cases hsh : sh l i = true
  · have hst : mkStep (n : Int) st (i, nm l i) = (st.1.set (bk l n i) ((i + 1 : Nat) : Int), st.2.set i (rd st.1 ((bk l n i : Nat) : Int))) := by
      unfold mkStep
      rw [if_pos (show symShown (i, nm l i).2 = true from hsh)]
      show (st.1.set (Int.tmod (hashOf (nm l i).f0) ((n : Int) % 4294967296)).toNat (wrap64 ((i : Int) + 1)), st.2.set i (rd st.1 (Int.tmod (hashOf (nm l i).f0) ((n : Int) % 4294967296)))) = _
      rw [tmod_is _ n h0 h1, Int.toNat_natCast, show wrap64 ((i : Int) + 1) = ((i + 1 : Nat) : Int) by unfold wrap64; omega]
      rfl
    rw [hst]
    refine ⟨by simpa using e1, by simpa using e2, fun t ht => ?_, fun m hmm => ?_⟩
    · show rd (st.1.set (bk l n i) _) (t : Int) = _
      rw [rd_set _ _ _ _ (by omega)]
      unfold fst1
      by_cases hb : bk l n i = t
      · rw [if_pos hb, if_pos (by unfold inB; simp [hsh, hb])]
      · rw [if_neg hb, if_neg (by unfold inB; simp [hb]), e3 t ht, hs]
    · show rd (st.2.set i _) (m : Int) = _
      rw [rd_set _ _ _ _ (by omega)]
      by_cases hb : i = m
      · subst hb
        rw [if_pos rfl, if_pos ⟨by omega, hsh⟩, e3 _ hbn, hm, hs]
      · rw [if_neg hb, e4 m hmm]
        by_cases hc : l.length - j ≤ m ∧ sh l m = true
        · rw [if_pos hc, if_pos ⟨by omega, hc.2⟩]
        · rw [if_neg hc, if_neg]; intro ⟨ha, hb2⟩; exact hc ⟨by omega, hb2⟩
  · have hst : mkStep (n : Int) st (i, nm l i) = st := by
      unfold mkStep
      rw [if_neg (show ¬ symShown (i, nm l i).2 = true from hsh)]
    rw [hst]
    refine ⟨e1, e2, fun t ht => ?_, fun m hmm => ?_⟩
    · unfold fst1
      rw [if_neg (by unfold inB; simp [hsh]), e3 t ht, hs]
    · rw [e4 m hmm]
      by_cases hc : l.length - j ≤ m ∧ sh l m = true
      · rw [if_pos hc, if_pos ⟨by omega, hc.2⟩]
      · rw [if_neg hc, if_neg]; intro ⟨ha, hb2⟩
        refine hc ⟨?_, hb2⟩
        by_cases hb : i = m
        · subst hb; exact absurd hb2 hsh
        · omega
theorem back_is (l : List S42) (n : Nat) (h0 : 1 ≤ n) (h1 : n ≤ 64) (hl : l.length ≤ 40) : ∀ j, j ≤ l.length →
    Inv l n j ((upto (backOf l) j).foldl (mkStep (n : Int)) (List.replicate n 0, List.replicate l.length 0))
  | 0, _ => by
    refine ⟨by simp [upto], by simp [upto], fun t _ => ?_, fun i hi => ?_⟩
    · show rd (List.replicate n (0 : Int)) t = _
      rw [rd_rep]; rfl
    · show rd (List.replicate l.length (0 : Int)) i = _
      rw [rd_rep, if_neg (by omega)]
  | j + 1, hj => by
    have hu : upto (backOf l) (j + 1) = upto (backOf l) j ++ [backOf l j] := by unfold upto; rw [List.range_succ, List.map_append]; rfl
    rw [hu, List.foldl_append]
    exact inv_step l n h0 h1 hl j hj _ (back_is l n h0 h1 hl j (by omega))
def NamesOk (l : List S42) : Prop := ∀ s ∈ l, s.f0.size ≤ 140737488351232
theorem make_ok (l : List S42) (n : Nat) (h0 : 1 ≤ n) (h1 : n ≤ 64) (hl : l.length ≤ 40) (hn : NamesOk l) : ∃ b c, hash_Make.f l (n : Int) = some (b, c, 0) ∧ Tab l n b c := by
  have hn' : ∀ s ∈ l, s.f0.size ≤ 9223372036854775807 := fun s hs => Nat.le_trans (hn s hs) (by omega)
  obtain ⟨e1, e2, e3, e4⟩ := back_is l n h0 h1 hl l.length (Nat.le_refl _)
  refine ⟨_, _, ?_, e1, e2, fun t ht => ?_, fun i hi => ?_⟩
  · unfold hash_Make.f hash_Make.g
    rw [if_neg (by omega), if_neg (by omega)]
    show hash_Make.j0 (0 + 1) l (decide ((l.length : Int) > 40)) (n : Int) = _
    rw [hash_Make.j0, if_neg (by simp; omega), if_pos (by omega), if_pos (by omega), if_pos (by omega), if_pos (by omega)]
    unfold hash_Make.l0
    rw [if_pos ⟨⟨by omega, by omega⟩, hn'⟩]
    rfl
  · have := e3 t ht
    rw [Nat.sub_self] at this; exact this
  · have := e4 i hi
    rw [Nat.sub_self] at this; rw [this]
    by_cases hsh : sh l i = true
    · rw [if_pos ⟨Nat.zero_le _, hsh⟩, if_pos hsh]
    · rw [if_neg (fun h => hsh h.2), if_neg hsh]

def isIt (l : List S42) (name ver : ByteArray) (i : Nat) : Bool := sh l i && (decide ((nm l i).f0.toList = name.toList) && (decide (ver.toList = []) || decide ((nm l i).f1.toList = ver.toList)))
theorem toList_inj {a b : ByteArray} (h : a.toList = b.toList) : a = b := by
  rw [ByteArray.toList_eq, ByteArray.toList_eq] at h
  cases a; cases b
  congr 1
  exact Array.toList_inj.1 h
theorem isIt_inB (l : List S42) (n : Nat) (name ver : ByteArray) (i : Nat) (h : isIt l name ver i = true) : inB l n (hN name % n) i = true := by
  unfold isIt at h
  unfold inB bk
  simp only [Bool.and_eq_true, decide_eq_true_eq] at h
  rw [toList_inj h.2.1]
  simp [h.1]
theorem find_from (l : List S42) (n : Nat) (b c : List Int) (T : Tab l n b c) (hl : l.length ≤ 40) (name ver : ByteArray) : ∀ (m i : Nat), i + m = l.length → ∀ k, m + 1 ≤ k →
    hash_Find.l0 k l name ver (fst1 (inB l n (hN name % n)) m i : Int) b c = some ((fst1 (isIt l name ver) m i : Int) - 1)
  | m, i, hm, 0, hk => by omega
  | 0, i, hm, k + 1, hk => by rw [hash_Find.l0]; rfl
  | m + 1, i, hm, k + 1, hk => by
    by_cases hp : inB l n (hN name % n) i = true
    · rw [show fst1 (inB l n (hN name % n)) (m + 1) i = i + 1 by rw [fst1, if_pos hp]]
      have ih := find_from l n b c T hl name ver m (i + 1) (by omega) k (by omega)
      have hsh : sh l i = true := by unfold inB at hp; simp only [Bool.and_eq_true] at hp; exact hp.1
      have hbk : bk l n i = hN name % n := by unfold inB at hp; simp only [Bool.and_eq_true, beq_iff_eq] at hp; exact hp.2
      have hw : wrap64 (((i + 1 : Nat) : Int) - 1) = (i : Int) := by unfold wrap64; omega
      have hc : rd c (i : Int) = (fst1 (inB l n (hN name % n)) m (i + 1) : Int) := by
        rw [T.atC i (by omega), if_pos hsh, hbk, show l.length - 1 - i = m by omega]
      rw [← hc] at ih
      rw [hash_Find.l0]
      rw [if_neg (by omega), hw, if_pos (by omega), if_pos (by omega), if_pos (show (i : Int) < (c.length : Int) by rw [T.lenC]; omega), ih]
      rw [rd_nm]
      rw [fst1_succ]
      by_cases hnm : (nm l i).f0.toList = name.toList
      · rw [if_pos hnm]
        by_cases hv : ver.toList = ([] : List UInt8)
        · rw [if_pos hv, if_pos (by unfold isIt; simp [hsh, hnm, hv])]; congr 1; omega
        · rw [if_neg hv]
          by_cases hv1 : (nm l i).f1.toList = ver.toList
          · rw [if_pos hv1, if_pos (by unfold isIt; simp [hsh, hnm, hv1])]; congr 1; omega
          · rw [if_neg hv1, if_neg (by unfold isIt; simp [hv, hv1])]
      · rw [if_neg hnm, if_neg (by unfold isIt; simp [hnm])]
    · have hq : ¬ isIt l name ver i = true := fun h => hp (isIt_inB l n name ver i h)
      rw [show fst1 (inB l n (hN name % n)) (m + 1) i = fst1 (inB l n (hN name % n)) m (i + 1) by rw [fst1, if_neg hp], show fst1 (isIt l name ver) (m + 1) i = fst1 (isIt l name ver) m (i + 1) by rw [fst1, if_neg hq]]
      exact find_from l n b c T hl name ver m (i + 1) (by omega) (k + 1) (by omega)
def foundAt (l : List S42) (name ver : ByteArray) : Int := (fst1 (isIt l name ver) l.length 0 : Int) - 1
theorem find_is (l : List S42) (n : Nat) (h0 : 1 ≤ n) (h1 : n ≤ 64) (b c : List Int) (T : Tab l n b c) (hl : l.length ≤ 40) (name ver : ByteArray) (hs : name.size ≤ 140737488351232) :
    Ev fun k => hash_Find.f k b c l name ver = some (foundAt l name ver) := by
  refine ⟨l.length + 1, fun k hk => ?_⟩
  have hm : hN name % n < n := Nat.mod_lt _ (by omega)
  show hash_Find.f k b c l name ver = _
  unfold hash_Find.f
  rw [T.lenB, if_neg (by omega), Of_is name (by omega), Option.bind_some, if_neg (by omega), tmod_is name n h0 h1, if_pos (by omega), if_pos (by omega), T.atB _ hm]
  exact find_from l n b c T hl name ver l.length 0 (by omega) k hk
end Go.Proofs.Ytoakeildgpeffaa.Pure
