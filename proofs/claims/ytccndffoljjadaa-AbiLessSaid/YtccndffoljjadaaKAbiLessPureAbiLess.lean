/- The pure statement of the law AbiLess. No condition. -/
import Derived.Test.YtccndffoljjadaaKAbiLessPStAbiLess
import Derived.DataShut
namespace Go.Proofs.Ytccndffoljjadaa.Pure
open Go.RowKit Go.Proofs.Ytccndffoljjadaa.P Go.Proofs.YtccndffoljjadaaW.PrintWords Go.Proofs.YtccndffoljjadaaW.PrintLast
theorem u64_range {n : Int} (h : (Lit.int .u64 n).wf = true) : 0 ≤ n ∧ n ≤ 18446744073709551615 := by
  have := (Lit.wf_int_iff .u64 n).1 h
  simpa [IntKind.min, IntKind.max, IntKind.signed, IntKind.bits] using this
theorem ref_tot (a b c d e : Int) (t : Bool) : ∃ r, curtilageref02_Right.f a b c d e t = some r := by
  unfold curtilageref02_Right.f
  repeat' split
  all_goals exact ⟨_, rfl⟩
theorem right_tot (l : List S30) (hl : l.length ≤ 4611686018427387904) : ∀ n i : Nat, n + i = l.length → ∃ k r, curtilagelaw19_right.l0 k l (i : Int) = some r
  | 0, i, hi => ⟨1, _, by unfold curtilagelaw19_right.l0; rw [if_neg (by omega)]⟩
  | n + 1, i, hi => by
    obtain ⟨k, r, hk⟩ := right_tot l hl n (i + 1) (by omega)
    obtain ⟨t, ht⟩ := ref_tot (rd_T30 l (i : Int)).f0 (rd_T30 l (i : Int)).f1 (rd_T30 l (i : Int)).f2 (rd_T30 l (i : Int)).f3 (rd_T30 l (i : Int)).f4 (rd_T30 l (i : Int)).f5
    have W : wrap64 ((i : Int) + 1) = ((i + 1 : Nat) : Int) := by unfold wrap64; omega
    cases t with
    | false => exact ⟨k + 1, false, by unfold curtilagelaw19_right.l0; rw [if_pos (by omega), if_pos (by omega), ht]; rfl⟩
    | true => exact ⟨k + 1, r, by unfold curtilagelaw19_right.l0; rw [if_pos (by omega), if_pos (by omega), ht, Option.bind_some, if_pos rfl, W]; exact hk⟩
theorem build_err {y0 fr pages : Int} {l0 l1 : List ByteArray} {l2 : List S30} (h : (buildF ⟨y0, []⟩ fr pages l0 l1 l2).e ≠ 0) :
    (buildF ⟨y0, []⟩ fr pages l0 l1 l2).m = ⟨y0, []⟩ ∧ (buildF ⟨y0, []⟩ fr pages l0 l1 l2).s0.f5 = false ∧ (buildF ⟨y0, []⟩ fr pages l0 l1 l2).s1.f5 = false := by
  unfold buildF at h ⊢
  by_cases c1 : abi_right.f l0 l1 l2 = false
  · rw [if_pos c1]; exact ⟨rfl, rfl, rfl⟩
  rw [if_neg c1] at h ⊢
  by_cases c2 : pages * 256 - 64 < abi_Need.g l0 l1 l2
  · rw [if_pos c2]; exact ⟨rfl, rfl, rfl⟩
  rw [if_neg c2] at h ⊢
  by_cases c3 : (tagmem_Mem_Map.f ⟨y0, []⟩ fr pages).2 = 0
  · rw [if_pos c3] at h
    exact absurd rfl h
  rw [if_neg c3]
  refine ⟨?_, rfl, rfl⟩
  unfold tagmem_Mem_Map.f at c3 ⊢
  split
  · rfl
  · split
    · rfl
    · split
      · rfl
      · rename_i d1 d2 d3
        rw [if_neg d1, if_neg d2, if_neg d3] at c3
        exact absurd rfl c3
theorem build_ok {y0 fr pages : Int} {l0 l1 : List ByteArray} {l2 : List S30} (h0 : 0 ≤ fr) (h : (buildF ⟨y0, []⟩ fr pages l0 l1 l2).e = 0) : LessOk (buildF ⟨y0, []⟩ fr pages l0 l1 l2) fr pages := by
  unfold buildF at h ⊢
  by_cases c1 : abi_right.f l0 l1 l2 = false
  · rw [if_pos c1] at h; simp at h
  rw [if_neg c1] at h ⊢
  by_cases c2 : pages * 256 - 64 < abi_Need.g l0 l1 l2
  · rw [if_pos c2] at h; simp at h
  rw [if_neg c2] at h ⊢
  by_cases c3 : (tagmem_Mem_Map.f ⟨y0, []⟩ fr pages).2 = 0
  case neg => rw [if_neg c3] at h; exact absurd h c3
  rw [if_pos c3]
  rw [Bool.not_eq_false] at c1
  obtain ⟨s0, s1⟩ := right_small c1
  have hl : l0.length ≤ 8 ∧ l1.length ≤ 8 ∧ l2.length ≤ 8 := by
    unfold abi_right.f at c1
    simp only [Bool.and_eq_true, decide_eq_true_eq] at c1
    obtain ⟨⟨⟨⟨⟨q0, q1⟩, q2⟩, _⟩, _⟩, _⟩ := c1
    exact ⟨by omega, by omega, by omega⟩
  obtain ⟨n0, n1, n2⟩ := hl
  obtain ⟨eN, _, _⟩ := need_is (l0 := l0) (l1 := l1) (l2 := l2) (fun s hs => by have := s0 s hs; omega) (fun s hs => by have := s1 s hs; omega) (by omega) (by omega) (by omega)
  rw [eN] at c2
  obtain ⟨p1, p2⟩ := map_ok (m := ⟨y0, []⟩) (m1 := (tagmem_Mem_Map.f ⟨y0, []⟩ fr pages).1) (fr := fr) (pages := pages) h0 (by rw [← c3])
  have L := buildOk_is (tagmem_Mem_Map.f ⟨y0, []⟩ fr pages).1 (fr * 256) ((fr + pages) * 256) l0 l1 l2 (by omega) (by omega) (by omega)
  have g0 := sumI_nonneg l0
  have g1 := sumI_nonneg l1
  have gS : 0 ≤ (sumI l0 + sumI l1 + 31) / 32 * 32 := by omega
  generalize (sumI l0 + sumI l1 + 31) / 32 * 32 = S at L c2 gS
  exact ⟨_, _, _, _, _, _, _, _, L.s1, L.s2, L.s3, L.s0, ⟨h0, p1, p2⟩, by omega, by omega, by omega, by omega, by omega, by omega, by omega, by omega, rfl⟩
theorem AbiLess : curtilagelaw19_AbiLess.Pure := by
  intro y0 y1 y2 y3 y4 y5 h0 h1 h2 h3 h4 h5
  have u := u64_range h1
  obtain ⟨k, r, hk⟩ := right_tot y5 (by have := h5.2.1; omega) _ 0 rfl
  exact ⟨u, k, r, hk, fun _ _ _ _ _ _ _ => ⟨build_err, build_ok u.1⟩⟩
end Go.Proofs.Ytccndffoljjadaa.Pure
