/- The pure statement of the law DlCounts. No condition. -/
import Derived.Test.YtociaidhgefpiaaKDlCountsPStDlCounts
import Derived.Test.YtociaidhgefpiaaKDlCountsPureDlEither
namespace Go.Proofs.Ytociaidhgefpiaa.Pure
open Go.RowKit Go.Proofs.Ytociaidhgefpiaa.P Go.Proofs.YtociaidhgefpiaaW.PrintWords Go.Proofs.YtociaidhgefpiaaW.PrintLast
set_option linter.unusedVariables false
set_option linter.unusedSimpArgs false

theorem wrap_small {x : Int} (h0 : 0 ≤ x) (h1 : x < 1000) : wrap64 x = x := by unfold wrap64; omega
theorem more_once {X c i : Nat} (hc : X = c + (i + 1)) (h1 : c ≤ 1) (hi : i ≤ 100) : (X : Int) = wrap64 (wrap64 ((c : Int) + (i : Int)) + 1) := by
  rw [wrap_small (x := (c : Int) + (i : Int)) (by omega) (by omega), wrap_small (by omega) (by omega)]; omega
/-- What is open behind i opens of one name. -/
def Os (a0 a : Int) (i : Nat) : List Int := a0 :: List.replicate i a
/-- What is loaded then. -/
def Ls (L0 L1 : List Int) (i : Nat) : List Int := if i = 0 then L0 else L1
theorem Os.succ (a0 a : Int) (i : Nat) : Os a0 a i ++ [a] = Os a0 a (i + 1) := by
  unfold Os
  rw [List.cons_append, ← List.replicate_succ']
theorem Os.len (a0 a : Int) (i : Nat) : (Os a0 a i).length = i + 1 := by simp [Os]
theorem Os.last (a0 a : Int) (i : Nat) (h : i + 1 < (Os a0 a (i + 1)).length) : (Os a0 a (i + 1))[i + 1] = a := by simp [Os]
theorem Os.cut (a0 a : Int) (i : Nat) : (Os a0 a (i + 1)).take (i + 1) ++ (Os a0 a (i + 1)).drop (i + 1 + 1) = Os a0 a i := by
  rw [List.drop_eq_nil_of_le (by rw [Os.len]; omega), List.append_nil]
  unfold Os
  rw [List.take_succ_cons, List.take_replicate, Nat.min_eq_left (by omega)]
theorem Os.count (a0 a : Int) (i : Nat) : (Os a0 a i).count a = (Os a0 a 0).count a + i := by
  unfold Os
  rw [List.count_cons, List.count_cons, List.count_replicate_self, List.count_replicate_self]
  omega
theorem Os.mem (a0 a : Int) (i : Nat) (o : Int) : o ∈ Os a0 a (i + 2) ↔ o ∈ Os a0 a (i + 1) := by
  unfold Os
  simp [List.mem_replicate]
section
variable {l : List S38} {a0 a : Int} {L0 b : List Int} (hl : l.length ≤ 20) (ho : ∀ o ∈ l, o.f1.length ≤ 10) (G0 : Good l a0 L0 [a0]) (hb : Opens l a b)
include G0 hb in
theorem Ls.open_ (i : Nat) : Good l a0 (Ls L0 (L0 ++ b.filter (notIn L0)) i) (Os a0 a i) ∧ Ls L0 (L0 ++ b.filter (notIn L0)) i ++ b.filter (notIn (Ls L0 (L0 ++ b.filter (notIn L0)) i)) = Ls L0 (L0 ++ b.filter (notIn L0)) (i + 1) := by
  induction i with
  | zero =>
    refine ⟨by simpa [Ls, Os] using G0, ?_⟩
    unfold Ls
    rw [if_pos rfl, if_neg (by omega)]
  | succ i ih =>
    obtain ⟨G, e⟩ := ih
    have G1 := G.opened hb
    rw [e, Os.succ] at G1
    refine ⟨G1, ?_⟩
    have hin : ∀ y ∈ b, y ∈ Ls L0 (L0 ++ b.filter (notIn L0)) (i + 1) := fun y hy => (G1.mem y).2 ⟨a, by unfold Os; simp, hb.here, (hb.mem y).1 hy⟩
    have e0 : b.filter (notIn (Ls L0 (L0 ++ b.filter (notIn L0)) (i + 1))) = [] := List.filter_eq_nil_iff.2 (fun y hy => by rw [notIn_iff]; exact fun h => h (hin y hy))
    rw [e0, List.append_nil]
    unfold Ls
    rw [if_neg (by omega), if_neg (by omega)]
include hl ho G0 hb in
theorem Ls.close (nm : ByteArray) (ha : firstAt (isNm nm) l = a) (i : Nat) (hi : i ≤ 100) : ∃ g, Evt fun k => dl_Close.f k l (Ls L0 (L0 ++ b.filter (notIn L0)) (i + 1)) (Os a0 a (i + 1)) nm = some (Ls L0 (L0 ++ b.filter (notIn L0)) i, Os a0 a i, g, 0) := by
  have G := (Ls.open_ G0 hb (i + 1)).1
  have Gi := (Ls.open_ G0 hb i).1
  have hlen := G.len
  obtain ⟨r, a', hla, hE, hC⟩ := close_ev l (by omega) (fun x => by have := nd_le ho x; omega) nm (Ls L0 (L0 ++ b.filter (notIn L0)) (i + 1)) (Os a0 a (i + 1)) (by omega) (by rw [Os.len]; omega) G.pos
  rw [ha] at hla hC
  have hlt : i + 1 < (Os a0 a (i + 1)).length := by rw [Os.len]; omega
  have ea : a' = ((i + 1 : Nat) : Int) := by
    rcases hla with ⟨_, h⟩ | ⟨n, hn', e1, h1, h2, h3⟩
    · exact absurd (Os.last a0 a i hlt) (h (i + 1) hlt (by omega))
    · have hn2 := hn'
      rw [Os.len] at hn2
      by_cases e2 : n = i + 1
      · rw [e1, e2]
      · exact absurd (Os.last a0 a i hlt) (h3 (i + 1) hlt (by omega))
  rcases hC with ⟨h, _⟩ | ⟨_, n, hn', p, e1, h1, hp, rfl⟩
  · have := hb.here; omega
  · have en : n = i + 1 := by omega
    subst en
    rw [Os.cut] at hp hE
    have e : (Ls L0 (L0 ++ b.filter (notIn L0)) (i + 1)).filter p = Ls L0 (L0 ++ b.filter (notIn L0)) i := by
      have hpi : ∀ y, p y = true ↔ y ∈ Ls L0 (L0 ++ b.filter (notIn L0)) i := fun y => (hp y).trans (Gi.mem y).symm
      cases i with
      | zero =>
        unfold Ls at hpi ⊢
        rw [if_pos rfl] at hpi ⊢
        rw [if_neg (by omega), List.filter_append, List.filter_eq_self.2 (fun y hy => (hpi y).2 hy), List.filter_eq_nil_iff.2 (fun y hy => by rw [hpi]; exact notIn_iff.1 (List.mem_filter.1 hy).2), List.append_nil]
      | succ i =>
        unfold Ls at hpi ⊢
        rw [if_neg (by omega)] at hpi ⊢
        rw [if_neg (by omega)]
        exact List.filter_eq_self.2 (fun y hy => (hpi y).2 hy)
    rw [e] at hE
    exact ⟨_, hE⟩
end
theorem counts_l1 {l : List S38} (hl : l.length ≤ 20) (ho : ∀ o ∈ l, o.f1.length ≤ 10) {a0 a : Int} {L0 b : List Int} (G0 : Good l a0 L0 [a0]) (hb : Opens l a b) (nm : ByteArray) (ha : firstAt (isNm nm) l = a) : ∀ i : Nat, i ≤ 100 →
    Evt fun k => curtilagelaw21_DlCounts.l1 k l nm true a i L0 [a0] (Ls L0 (L0 ++ b.filter (notIn L0)) i) (Os a0 a i) = some true := by
  intro i
  induction i with
  | zero =>
    intro _
    have hlen := G0.len
    obtain ⟨r, a', hla, hE, hC⟩ := close_ev l (by omega) (fun x => by have := nd_le ho x; omega) nm L0 [a0] (by omega) (by simp) (by simp)
    have hr : r = (L0, [a0], [], 210) := by
      rcases hC with ⟨_, h⟩ | ⟨_, n, hn', _, _, h1, _⟩
      · exact h
      · simp at hn'; omega
    refine (hE.and ((numbers_ev L0 L0 (by omega)).and (numbers_ev [a0] [a0] (by simp)))).step fun k hk => ?_
    have e1 : Ls L0 (L0 ++ b.filter (notIn L0)) 0 = L0 := rfl
    have e2 : Os a0 a 0 = [a0] := rfl
    rw [curtilagelaw21_DlCounts.l1, if_neg (by simp), e1, e2, hk.1, hr]
    simp only [Option.bind_some, if_true]
    rw [hk.2.1]
    simp only [Option.bind_some, decide_true, if_true]
    rw [hk.2.2]; simp
  | succ i ih =>
    intro hi
    obtain ⟨g, hE⟩ := Ls.close hl ho G0 hb nm ha i (by omega)
    have G := (Ls.open_ G0 hb (i + 1)).1
    have hlen := G.len
    have hh : hasI (Ls L0 (L0 ++ b.filter (notIn L0)) (i + 1)) a = true := hasI_iff.2 ((G.mem a).2 ⟨a, by unfold Os; simp, hb.here, Rch.refl a⟩)
    refine ((has_ev (Ls L0 (L0 ++ b.filter (notIn L0)) (i + 1)) a (by omega)).and (hE.and (ih (by omega)))).step fun k hk => ?_
    rw [curtilagelaw21_DlCounts.l1, if_pos (by omega), hk.1]
    simp only [Option.bind_some]
    rw [hk.2.1]
    simp only [Option.bind_some, if_true]
    rw [if_pos hh, show wrap64 (((i + 1 : Nat) : Int) - 1) = (i : Int) by unfold wrap64; omega]
    exact hk.2.2
theorem counts_step {l : List S38} {nm : ByteArray} {n i c : Nat} {a : Int} {L0 A0 L O L' O' g : List Int} (hE : Evt fun k => dl_Open.f k l L O nm = some (L', O', g, 0)) (hlen : O'.length ≤ 1000) (hc : O'.count a = c + (i + 1)) (h1 : c ≤ 1) (hi : i < n) (hn : n ≤ 10)
    (I : Evt fun k => curtilagelaw21_DlCounts.l0 k l nm n true a (c : Int) ((i + 1 : Nat) : Int) L0 A0 L' O' = some true) : Evt fun k => curtilagelaw21_DlCounts.l0 k l nm n true a (c : Int) (i : Int) L0 A0 L O = some true := by
  have hw := more_once hc h1 (by omega)
  have hi' : (i : Int) < (n : Int) := by omega
  have hwi : wrap64 ((i : Int) + 1) = ((i + 1 : Nat) : Int) := by rw [wrap_small (by omega) (by omega)]; omega
  have hC := count_ev a L' O' (Nat.le_trans hlen (by decide))
  refine (hE.and (hC.and I)).step fun k hk => ?_
  rw [curtilagelaw21_DlCounts.l0, if_pos hi', hk.1]
  rw [Option.bind_some, if_pos rfl, hk.2.1, Option.bind_some, if_pos hw, hwi]
  exact hk.2.2
theorem counts_l0 {l : List S38} (hl : l.length ≤ 20) (ho : ∀ o ∈ l, o.f1.length ≤ 10) {a0 a : Int} {L0 b : List Int} (G0 : Good l a0 L0 [a0]) (hb : Opens l a b) (nm : ByteArray) (ha : firstAt (isNm nm) l = a)
    (hO : ∀ L O : List Int, L.length ≤ 4294967296 → O.length ≤ 4294967296 → Evt fun k => dl_Open.f k l L O nm = some (L ++ b.filter (notIn L), O ++ [a], b.filter (notIn L), 0)) (n : Nat) (hn : n ≤ 10) : ∀ (d i : Nat), i + d = n →
    Evt fun k => curtilagelaw21_DlCounts.l0 k l nm n true a (([a0].count a : Nat) : Int) i L0 [a0] (Ls L0 (L0 ++ b.filter (notIn L0)) i) (Os a0 a i) = some true := by
  intro d
  induction d with
  | zero =>
    intro i hi
    obtain rfl : i = n := by omega
    refine (counts_l1 hl ho G0 hb nm ha i (by omega)).step fun k hk => ?_
    rw [curtilagelaw21_DlCounts.l0, if_neg (by omega)]
    exact hk
  | succ d ih =>
    intro i hi
    obtain ⟨G, e⟩ := Ls.open_ G0 hb i
    have hlen := G.len
    have hE := hO (Ls L0 (L0 ++ b.filter (notIn L0)) i) (Os a0 a i) (by omega) (by rw [Os.len]; omega)
    rw [e, Os.succ] at hE
    exact counts_step hE (by rw [Os.len]; omega) (Os.count a0 a (i + 1)) List.count_le_length (by omega) hn (ih (i + 1) (by omega))
theorem DlCounts : curtilagelaw21_DlCounts.Pure := by
  intro l root nm times hl _ _ _
  have hl1 := hl.1
  refine Evt.ex ?_
  have A := awake_ev.and (short_ev l 12 hl1)
  have J0 : Evt fun k => curtilagelaw21_DlCounts.j0 k l root nm times true true = some true :=
    (Evt.all (P := fun _ => True) (fun _ => trivial)).step fun k _ => by rw [curtilagelaw21_DlCounts.j0, if_pos rfl]
  unfold curtilagelaw21_DlCounts.f
  by_cases hs : shortB l 12 = true
  · have hs' := of_decide_eq_true hs
    by_cases ht : times < 0 ∨ times > 10
    · refine (A.and J0).map fun k hk => ?_
      rw [hk.1.1, hk.1.2, hs]
      simp only [Option.bind_some, if_true]
      by_cases h0 : times < 0
      · rw [if_pos h0]; exact hk.2
      · rw [if_neg h0, decide_eq_true (by omega)]; exact hk.2
    · obtain ⟨n, rfl⟩ : ∃ n : Nat, times = (n : Int) := ⟨times.toNat, by omega⟩
      have J : Evt fun k => curtilagelaw21_DlCounts.j0 k l root nm n true false = some true := by
        have bad : ∀ (L O : List Int), Evt fun k => curtilagelaw21_DlCounts.j1 k l nm n true (firstAt (isNm nm) l) true L O = some true := fun L O => (Evt.all (P := fun _ => True) (fun _ => trivial)).step fun k _ => by
          rw [curtilagelaw21_DlCounts.j1, if_pos rfl]
        have hF := rfind_ev l nm (by omega)
        obtain ⟨e, ⟨he, hE⟩ | ⟨he, b0, hb0, hE⟩⟩ := open_ev l (by omega) hs'.2 root
        · refine ((hE [] [] (by simp) (by simp)).and (hF.and (bad [] []))).step fun k hk => ?_
          rw [curtilagelaw21_DlCounts.j0, if_neg (by simp)]
          unfold dl_Begun.f
          rw [hk.1]; simp only [Option.bind_some]
          rw [hk.2.1]; simp only [Option.bind_some]
          rw [if_neg he]
          exact hk.2.2
        · have G0 := begun_good hb0
          have hf : b0.filter (notIn []) = b0 := List.filter_eq_self.2 (fun x _ => by simp [notIn_iff])
          rw [hf, List.nil_append, List.nil_append] at G0
          have hE0 := hE [] [] (by simp) (by simp)
          rw [hf, List.nil_append, List.nil_append] at hE0
          have hlen := G0.len
          have J1 : Evt fun k => curtilagelaw21_DlCounts.j1 k l nm n true (firstAt (isNm nm) l) (decide (firstAt (isNm nm) l < 0)) b0 [firstAt (isNm root) l] = some true := by
            by_cases hneg : firstAt (isNm nm) l < 0
            · rw [decide_eq_true hneg]; exact bad _ _
            · rw [decide_eq_false hneg]
              have hcnt := count_ev (firstAt (isNm nm) l) b0 [firstAt (isNm root) l] (by simp)
              obtain ⟨e2, ⟨he2, hE2⟩ | ⟨he2, b, hb, hE2⟩⟩ := open_ev l (by omega) hs'.2 nm
              · by_cases hn0 : n = 0
                · subst hn0
                  -- nothing is opened: the last close finds nothing
                  obtain ⟨r, a', hla, hC, hCl⟩ := close_ev l (by omega) (fun x => by have := nd_le hs'.2 x; omega) nm b0 [firstAt (isNm root) l] (by omega) (by simp) (by simp)
                  have hr : r = (b0, [firstAt (isNm root) l], [], 210) := by
                    rcases hCl with ⟨_, h⟩ | ⟨_, n, hn', _, _, h1, _⟩
                    · exact h
                    · simp at hn'; omega
                  have J2 : Evt fun k => curtilagelaw21_DlCounts.l1 k l nm true (firstAt (isNm nm) l) 0 b0 [firstAt (isNm root) l] b0 [firstAt (isNm root) l] = some true := by
                    refine (hC.and ((numbers_ev b0 b0 (by omega)).and (numbers_ev [firstAt (isNm root) l] [firstAt (isNm root) l] (by simp)))).step fun k hk => ?_
                    rw [curtilagelaw21_DlCounts.l1, if_neg (by simp), hk.1, hr]
                    simp only [Option.bind_some, if_true]
                    rw [hk.2.1]
                    simp only [Option.bind_some, decide_true, if_true]
                    rw [hk.2.2]; simp
                  have J3 : Evt fun k => curtilagelaw21_DlCounts.l0 k l nm ((0 : Nat) : Int) true (firstAt (isNm nm) l) (([firstAt (isNm root) l].count (firstAt (isNm nm) l) : Nat) : Int) 0 b0 [firstAt (isNm root) l] b0 [firstAt (isNm root) l] = some true := J2.step fun k hk => by
                    rw [curtilagelaw21_DlCounts.l0, if_neg (by omega)]; exact hk
                  refine (hcnt.and J3).step fun k hk => ?_
                  rw [curtilagelaw21_DlCounts.j1, if_neg (by simp), hk.1]
                  simp only [Option.bind_some]
                  exact hk.2
                · have J3 : Evt fun k => curtilagelaw21_DlCounts.l0 k l nm n true (firstAt (isNm nm) l) (([firstAt (isNm root) l].count (firstAt (isNm nm) l) : Nat) : Int) 0 b0 [firstAt (isNm root) l] b0 [firstAt (isNm root) l] = some true := (hE2 b0 [firstAt (isNm root) l] (by omega) (by simp)).step fun k hk => by
                    rw [curtilagelaw21_DlCounts.l0, if_pos (by omega), hk]
                    simp only [Option.bind_some]
                    rw [if_neg he2]; simp
                  refine (hcnt.and J3).step fun k hk => ?_
                  rw [curtilagelaw21_DlCounts.j1, if_neg (by simp), hk.1]
                  simp only [Option.bind_some]
                  exact hk.2
              · refine (hcnt.and (counts_l0 (by omega) hs'.2 G0 hb nm rfl hE2 n (by omega) n 0 (by omega))).step fun k hk => ?_
                rw [curtilagelaw21_DlCounts.j1, if_neg (by simp), hk.1]
                simp only [Option.bind_some]
                exact hk.2
          refine (hE0.and (hF.and J1)).step fun k hk => ?_
          rw [curtilagelaw21_DlCounts.j0, if_neg (by simp)]
          unfold dl_Begun.f
          rw [hk.1]; simp only [Option.bind_some]
          rw [hk.2.1]; simp only [Option.bind_some, if_true]
          exact hk.2.2
      refine (A.and J).map fun k hk => ?_
      rw [hk.1.1, hk.1.2, hs]
      simp only [Option.bind_some, if_true]
      rw [if_neg (by omega), decide_eq_false (by omega)]
      exact hk.2
  · refine (A.and J0).map fun k hk => ?_
    rw [hk.1.1, hk.1.2, eq_false_of_ne_true hs]
    simp only [Option.bind_some, Bool.false_eq_true, if_false]
    exact hk.2
end Go.Proofs.Ytociaidhgefpiaa.Pure
