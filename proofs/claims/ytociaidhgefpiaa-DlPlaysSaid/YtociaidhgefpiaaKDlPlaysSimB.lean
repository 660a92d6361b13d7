/- The document's closure answers as the program's. No condition. -/
import Derived.Test.YtociaidhgefpiaaKDlPlaysDl
import Derived.Test.YtociaidhgefpiaaKDlPlaysPx19
import Derived.Test.YtociaidhgefpiaaKDlPlaysPx20
import Derived.Test.YtociaidhgefpiaaKDlPlaysPx21
import Derived.Test.YtociaidhgefpiaaKDlPlaysPx22
import Derived.Test.YtociaidhgefpiaaKDlPlaysPx23
namespace Go.Proofs.Ytociaidhgefpiaa.Pure
open Go.RowKit Go.Proofs.Ytociaidhgefpiaa.P Go.Proofs.YtociaidhgefpiaaW.PrintWords Go.Proofs.YtociaidhgefpiaaW.PrintLast
set_option linter.unusedVariables false
set_option linter.unusedSimpArgs false

/-- What is still to be looked at: the rest of one's needs, and those of all behind it. -/
def rest (l : List S38) (od : List Int) (at_ : Nat) : List ByteArray := ((od.drop at_).map fun x => nd_ l x).flatten
theorem rest_cons (l : List S38) (od : List Int) (at_ : Nat) (h : at_ < od.length) : rest l od at_ = nd_ l od[at_] ++ rest l od (at_ + 1) := by
  unfold rest; rw [List.drop_eq_getElem_cons h]; rfl
theorem rest_snoc (l : List S38) (od : List Int) (i : Int) (at_ : Nat) (h : at_ ≤ od.length) : rest l (od ++ [i]) at_ = rest l od at_ ++ nd_ l i := by
  unfold rest; rw [List.drop_append_of_le_length h]; simp
theorem getD_app (od : List Int) (i : Int) (n : Nat) (h : n < od.length) : (od ++ [i]).getD n 0 = od.getD n 0 := by
  rw [List.getD_eq_getElem?_getD, List.getD_eq_getElem?_getD, List.getElem?_append_left h]
theorem rest_at (l : List S38) (od : List Int) (at_ : Nat) (h : at_ < od.length) : rest l od at_ = nd_ l (od.getD at_ 0) ++ rest l od (at_ + 1) := by
  rw [rest_cons l od at_ h, List.getD_eq_getElem?_getD, List.getElem?_eq_getElem h]; rfl
theorem sim_go (l : List S38) (hl : l.length < 4294967296) (hn : ∀ x, (nd_ l x).length ≤ 4294967296) (r : List Int × ByteArray × Int) : ∀ (kk : Nat) (e : Nat) (od : List Int) (at_ : Nat), at_ + e = od.length → od.Nodup → (∀ x ∈ od, 0 ≤ x ∧ x < l.length) →
    (clo kk l (rest l od at_) od = some r → Evt fun k => curtilageref13_Closure.l0 k l od at_ = some r) ∧
    (∀ (i : Nat), at_ < od.length → i ≤ (nd_ l (od.getD at_ 0)).length → clo kk l ((nd_ l (od.getD at_ 0)).drop i ++ rest l od (at_ + 1)) od = some r →
      ∀ f0 f2 f3 f4 f5 f6, Evt fun k => curtilageref13_Closure.l1 k l od at_ i f0 (nd_ l (od.getD at_ 0)) f2 f3 f4 f5 f6 = some r) := by
  intro kk
  induction kk with
  | zero =>
    intro e od at_ _ _ _
    refine ⟨fun h => (by rw [clo] at h; cases h), ?_⟩
    intro i _ _ h
    rw [clo] at h; cases h
  | succ kk ihk =>
    intro e
    induction e with
    | zero =>
      intro od at_ he _ hr
      refine ⟨fun h => ?_, fun i hat _ _ => by omega⟩
      have : rest l od at_ = [] := by unfold rest; rw [List.drop_eq_nil_of_le (by omega)]; rfl
      rw [this, clo] at h
      obtain rfl := Option.some.inj h
      refine (Evt.all (P := fun _ => True) (fun _ => trivial)).step fun k _ => ?_
      rw [curtilageref13_Closure.l0, if_neg (by omega)]
    | succ e ihe =>
      intro od at_ he hd hr
      have hat : at_ < od.length := by omega
      have hol : od.length ≤ l.length := len_le _ _ hd hr
      generalize hg : od.getD at_ 0 = g at *
      have hin : ∀ (d i : Nat), i + d = (nd_ l g).length → clo (kk + 1) l ((nd_ l g).drop i ++ rest l od (at_ + 1)) od = some r →
          ∀ f0 f2 f3 f4 f5 f6, Evt fun k => curtilageref13_Closure.l1 k l od at_ i f0 (nd_ l g) f2 f3 f4 f5 f6 = some r := by
        intro d
        cases d with
        | zero =>
          intro i hi h f0 f2 f3 f4 f5 f6
          rw [List.drop_eq_nil_of_le (by omega), List.nil_append] at h
          refine ((ihe od (at_ + 1) (by omega) hd hr).1 h).step fun k hk => ?_
          rw [curtilageref13_Closure.l1, if_neg (by omega), wrap_up (by omega) (by omega)]
          exact hk
        | succ d =>
          intro i hi h f0 f2 f3 f4 f5 f6
          have hlt : i < (nd_ l g).length := by omega
          have ey : rdOf ByteArray.empty (nd_ l g) (i : Int) = (nd_ l g)[i] := by simp [rdOf, List.getD_eq_getElem?_getD, List.getElem?_eq_getElem hlt]
          have hnl := hn g
          rw [List.drop_eq_getElem_cons hlt, List.cons_append, clo] at h
          generalize (nd_ l g)[i] = nm at *
          have hrg := firstAt_range (isNm nm) l
          have F := rfind_ev l nm (by omega)
          generalize hj : firstAt (isNm nm) l = j at *
          by_cases h1 : j < 0
          · rw [if_pos h1] at h
            obtain rfl := Option.some.inj h
            refine F.step fun k hk => ?_
            rw [curtilageref13_Closure.l1, if_pos (by omega), if_pos (by omega), ey, hk]
            simp only [Option.bind_some]
            rw [if_pos h1]
          · rw [if_neg h1] at h
            by_cases h2 : hasI od j = true
            · rw [if_pos h2] at h
              refine ((F.and (has_ev od j (by omega))).and ((ihk (e + 1) od at_ he hd hr).2 (i + 1) hat (by rw [hg]; omega) (by rw [hg]; exact h) f0 f2 f3 f4 f5 f6)).step fun k hk => ?_
              rw [curtilageref13_Closure.l1, if_pos (by omega), if_pos (by omega), ey, hk.1.1]
              simp only [Option.bind_some]
              rw [if_neg h1, hk.1.2]
              simp only [Option.bind_some]
              rw [if_pos h2, wrap_up (by omega) (by omega)]
              have := hk.2
              rw [hg] at this
              exact this
            · rw [if_neg h2] at h
              have hnm : j ∉ od := fun hm => h2 (hasI_iff.2 hm)
              rw [if_pos (by omega)] at h
              split at h
              · rename_i h4
                have eg : (od ++ [j]).getD at_ 0 = g := by rw [getD_app od j at_ hat, hg]
                have hs : clo kk l ((nd_ l ((od ++ [j]).getD at_ 0)).drop (i + 1) ++ rest l (od ++ [j]) (at_ + 1)) (od ++ [j]) = some r := by
                  rw [rest_snoc l od _ (at_ + 1) (by omega), eg, ← List.append_assoc]
                  exact h
                have hr' : ∀ x ∈ od ++ [j], 0 ≤ x ∧ x < l.length := fun x hx => by
                  rcases List.mem_append.1 hx with h' | h'
                  · exact hr x h'
                  · simp at h'; subst h'; exact ⟨by omega, hrg.1⟩
                have hd' : (od ++ [j]).Nodup := by
                  rw [List.nodup_append]; exact ⟨hd, by simp, fun x hx y hy => by simp at hy; subst hy; exact fun e => hnm (e ▸ hx)⟩
                have S := (ihk (e + 1 + 1) (od ++ [j]) at_ (by simp; omega) hd' hr').2 (i + 1) (by simp; omega) (by rw [eg]; omega) hs f0 f2 f3 f4 f5 f6
                rw [eg] at S
                refine ((F.and (has_ev od j (by omega))).and S).step fun k hk => ?_
                rw [curtilageref13_Closure.l1, if_pos (by omega), if_pos (by omega), ey, hk.1.1]
                simp only [Option.bind_some]
                rw [if_neg h1, hk.1.2]
                simp only [Option.bind_some]
                rw [if_neg h2, if_pos (by omega), wrap_up (by omega) (by omega)]
                exact hk.2
              · cases h
      refine ⟨fun h => ?_, fun i hat' hi h => hin ((nd_ l g).length - i) i (by omega) h⟩
      rw [rest_at l od at_ hat, hg] at h
      have hgo : g = od[at_] := by rw [← hg, List.getD_eq_getElem?_getD, List.getElem?_eq_getElem hat]; rfl
      have hx := hr od[at_] (List.getElem_mem hat)
      refine (hin (nd_ l g).length 0 (by omega) (by rw [List.drop_zero]; exact h) ((rd_T38 l g).f0) ((rd_T38 l g).f2) ((rd_T38 l g).f3) ((rd_T38 l g).f4) ((rd_T38 l g).f5) ((rd_T38 l g).f6)).step fun k hk => ?_
      rw [curtilageref13_Closure.l0, if_pos (by omega), if_pos (by omega), rdI od at_ hat, ← hgo, if_pos (by rw [hgo]; exact hx.1), if_pos (by rw [hgo]; exact hx.2)]
      exact hk
/-- The document's closure answers as the program's. -/
theorem rclosure_ev (l : List S38) (root : ByteArray) (hl : l.length < 4294967296) (hn : ∀ x, (nd_ l x).length ≤ 4294967296) {r : List Int × ByteArray × Int} (h : graph_Closure.f l root = some r) : Evt fun k => curtilageref13_Closure.f k l root = some r := by
  have hrg := firstAt_range (isNm root) l
  have F := rfind_ev l root (by omega)
  unfold graph_Closure.f at h
  obtain ⟨k, hk⟩ : ∃ k, cloFuel l = k + 1 := ⟨cloFuel l - 1, by unfold cloFuel; omega⟩
  rw [hk, clo] at h
  unfold curtilageref13_Closure.f
  by_cases h1 : firstAt (isNm root) l < 0
  · rw [if_pos h1] at h
    obtain rfl := Option.some.inj h
    refine F.map fun k hk => ?_
    rw [hk]; simp only [Option.bind_some]; rw [if_pos h1]
  · rw [if_neg h1, if_neg (by simp [hasI]), if_pos (by simp)] at h
    split at h
    · have S := (sim_go l hl hn r k 1 [firstAt (isNm root) l] 0 rfl (by simp) (fun x hx => by simp at hx; subst hx; exact ⟨by omega, hrg.1⟩)).1 (by
        rw [rest_at l _ 0 (by simp)]
        have : rest l [firstAt (isNm root) l] (0 + 1) = [] := rfl
        rw [this, List.append_nil]
        unfold nd_
        simpa using h)
      refine (F.and S).map fun k hk => ?_
      rw [hk.1]; simp only [Option.bind_some]; rw [if_neg h1]
      exact hk.2
    · cases h
end Go.Proofs.Ytociaidhgefpiaa.Pure
