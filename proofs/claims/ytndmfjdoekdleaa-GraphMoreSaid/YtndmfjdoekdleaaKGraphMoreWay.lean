/- What a graph's visit gives, in plain words: each is met once, and begun behind what it needs, but what needs it, too. No condition. -/
import Derived.Test.YtndmfjdoekdleaaKGraphMorePx0
import Derived.Test.YtndmfjdoekdleaaKGraphMorePx1
import Derived.Test.YtndmfjdoekdleaaKGraphMorePx2
import Derived.Test.YtndmfjdoekdleaaKGraphMorePx3
import Derived.Test.YtndmfjdoekdleaaKGraphMorePx4
import Derived.Test.YtndmfjdoekdleaaKGraphMorePx5
import Derived.Test.YtndmfjdoekdleaaKGraphMorePx6
import Derived.Test.YtndmfjdoekdleaaKGraphMorePx7
import Derived.Test.YtndmfjdoekdleaaKGraphMorePx8
import Derived.Test.YtndmfjdoekdleaaKGraphMorePx9
import Derived.Test.YtndmfjdoekdleaaKGraphMorePx10
import Derived.Test.YtndmfjdoekdleaaKGraphMorePx11
import Derived.Test.YtndmfjdoekdleaaKGraphMorePx12
import Derived.Test.YtndmfjdoekdleaaKGraphMorePx13
namespace Go.Proofs.Ytndmfjdoekdleaa.Pure
open Go.RowKit Go.Proofs.Ytndmfjdoekdleaa.P Go.Proofs.YtndmfjdoekdleaaW.PrintWords Go.Proofs.YtndmfjdoekdleaaW.PrintLast
set_option linter.unusedVariables false
set_option linter.unusedSimpArgs false

theorem hasI_iff {l : List Int} {n : Int} : hasI l n = true ↔ n ∈ l := by unfold hasI; exact List.contains_iff_mem
theorem hasI_no {l : List Int} {n : Int} : hasI l n = false ↔ n ∉ l := by
  rw [← hasI_iff]; cases hasI l n <;> simp
theorem len_le : ∀ (n : Nat) (l : List Int), l.Nodup → (∀ x ∈ l, 0 ≤ x ∧ x < n) → l.length ≤ n
  | 0, l, _, hr => by
    cases l with
    | nil => simp
    | cons a l => have := hr a (by simp); omega
  | n + 1, l, hd, hr => by
    by_cases h : (n : Int) ∈ l
    · have h1 := len_le n (l.erase n) (hd.erase _) (fun x hx => by
        have hm := (List.Nodup.mem_erase_iff hd).1 hx
        have := hr x hm.2
        have := hm.1
        omega)
      rw [List.length_erase_of_mem h] at h1
      omega
    · have h1 := len_le n l hd (fun x hx => by
        have := hr x hx
        have : x ≠ n := fun e => h (e ▸ hx)
        omega)
      omega
theorem len_sub : ∀ {l r : List Int}, l.Nodup → (∀ x ∈ l, x ∈ r) → l.length ≤ r.length
  | [], r, _, _ => by simp
  | a :: l, r, hd, hs => by
    have ha : a ∈ r := hs a (by simp)
    have h1 := len_sub (l := l) (r := r.erase a) (List.nodup_cons.1 hd).2 (fun x hx => by
      have hne : x ≠ a := fun e => (List.nodup_cons.1 hd).1 (e ▸ hx)
      exact (List.mem_erase_of_ne hne).2 (hs x (by simp [hx])))
    rw [List.length_erase_of_mem ha] at h1
    have : 0 < r.length := List.length_pos_of_mem ha
    simp only [List.length_cons]
    omega
def sc (l : List S29) (i : Int) : List Int := (rd_T29 l i).f1.map fun n => firstAt (isNm n) l
inductive Rch (s : Int → List Int) : Int → Int → Prop
  | refl (x : Int) : Rch s x x
  | step {x y z : Int} : Rch s x y → z ∈ s y → 0 ≤ z → Rch s x z
theorem Rch.trans {s : Int → List Int} {x y z : Int} (h : Rch s x y) (k : Rch s y z) : Rch s x z := by
  induction k with
  | refl => exact h
  | step _ hz h0 ih => exact Rch.step ih hz h0
theorem Rch.edge {s : Int → List Int} {x y : Int} (h : y ∈ s x) (h0 : 0 ≤ y) : Rch s x y := Rch.step (Rch.refl x) h h0
structure Inv (l : List S29) (ord m o : List Int) : Prop where
  nd : m.Nodup
  no : o.Nodup
  sub : ∀ x ∈ o, x ∈ m
  rng : ∀ x ∈ m, 0 ≤ x ∧ x < l.length ∧ x ∈ ord
  cl : ∀ x ∈ o, ∀ y ∈ sc l x, 0 ≤ y → y ∈ ord → y ∈ m
  good : ∀ (a b : Nat) (x y : Int), a < b → o[a]? = some x → o[b]? = some y → y ∈ sc l x → Rch (sc l) y x
  pend : ∀ x ∈ o, ∀ y ∈ sc l x, y ∈ m → y ∉ o → Rch (sc l) y x
theorem Inv.lenm {l : List S29} {ord m o : List Int} (h : Inv l ord m o) : m.length ≤ l.length := len_le _ _ h.nd (fun x hx => ⟨(h.rng x hx).1, (h.rng x hx).2.1⟩)
theorem Inv.leno {l : List S29} {ord m o : List Int} (h : Inv l ord m o) : o.length ≤ l.length := len_le _ _ h.no (fun x hx => ⟨(h.rng x (h.sub x hx)).1, (h.rng x (h.sub x hx)).2.1⟩)
theorem Inv.nil (l : List S29) (ord : List Int) : Inv l ord [] [] := ⟨by simp, by simp, by simp, by simp, by simp, by simp, by simp⟩
structure Post (l : List S29) (ord : List Int) (i : Int) (m o m' o' : List Int) : Prop where
  inv : Inv l ord m' o'
  more : ∀ x ∈ m, x ∈ m'
  pre : ∃ u, o' = o ++ u
  stack : ∀ y, (y ∈ m' ∧ y ∉ o') ↔ (y ∈ m ∧ y ∉ o)
  new : ∀ x ∈ m', x ∉ m → Rch (sc l) i x
  met : 0 ≤ i → i ∈ ord → i ∈ m'
  neg : i < 0 → m' = m
theorem Post.same {l : List S29} {ord : List Int} {i : Int} {m o : List Int} (h : Inv l ord m o) (hi : 0 ≤ i → i ∈ ord → i ∈ m) : Post l ord i m o m o :=
  ⟨h, fun _ hx => hx, ⟨[], by simp⟩, fun _ => Iff.rfl, fun x hx hn => absurd hx hn, hi, fun _ => rfl⟩
/-- All that one needs, one behind the other. -/
theorem fold_ok (l : List S29) (ord : List Int) (k : Nat) (i : Int) (hi0 : 0 ≤ i)
    (ih : ∀ (j : Int) (m o : List Int), j < l.length → Inv l ord m o → l.length + 1 ≤ k + m.length → (∀ y ∈ m, y ∉ o → 0 ≤ j → Rch (sc l) y j) → ∃ m' o', vis k l ord j m o = some (m', o') ∧ Post l ord j m o m' o') :
    ∀ (ns : List ByteArray), (∀ n ∈ ns, firstAt (isNm n) l ∈ sc l i) → ∀ (m o : List Int), Inv l ord m o → l.length + 1 ≤ k + m.length → (∀ y ∈ m, y ∉ o → Rch (sc l) y i) →
    ∃ m' o', ns.foldlM (fun (s : List Int × List Int) n => vis k l ord (firstAt (isNm n) l) s.1 s.2) (m, o) = some (m', o') ∧ Inv l ord m' o' ∧ (∀ x ∈ m, x ∈ m') ∧ (∃ u, o' = o ++ u) ∧ (∀ y, (y ∈ m' ∧ y ∉ o') ↔ (y ∈ m ∧ y ∉ o)) ∧
      (∀ x ∈ m', x ∉ m → Rch (sc l) i x) ∧ (∀ n ∈ ns, 0 ≤ firstAt (isNm n) l → firstAt (isNm n) l ∈ ord → firstAt (isNm n) l ∈ m') := by
  intro ns
  induction ns with
  | nil => intro _ m o h hk hs; exact ⟨m, o, rfl, h, fun _ hx => hx, ⟨[], by simp⟩, fun _ => Iff.rfl, fun x hx hn => absurd hx hn, by simp⟩
  | cons n ns ihn =>
    intro hns m o h hk hs
    have hj := firstAt_range (isNm n) l
    obtain ⟨m1, o1, e1, p1⟩ := ih (firstAt (isNm n) l) m o hj.1 h hk (fun y hy hn h0 => Rch.step (hs y hy hn) (hns n (by simp)) h0)
    have hle : m.length ≤ m1.length := by
      have := h.nd
      exact len_sub this p1.more
    obtain ⟨m2, o2, e2, i2, mo2, ⟨u2, pr2⟩, st2, nw2, me2⟩ := ihn (fun n' hn' => hns n' (by simp [hn'])) m1 o1 p1.inv (by omega) (fun y hy hn => by
      have := (p1.stack y).1 ⟨hy, hn⟩
      exact hs y this.1 this.2)
    obtain ⟨u1, pr1⟩ := p1.pre
    refine ⟨m2, o2, ?_, i2, fun x hx => mo2 x (p1.more x hx), ⟨u1 ++ u2, by rw [pr2, pr1, List.append_assoc]⟩, fun y => (st2 y).trans (p1.stack y), fun x hx hn => ?_, fun n' hn' h0 ho => ?_⟩
    · rw [List.foldlM_cons, e1]; exact e2
    · by_cases hx1 : x ∈ m1
      · have hr := p1.new x hx1 hn
        by_cases h0 : 0 ≤ firstAt (isNm n) l
        · exact Rch.trans (Rch.edge (hns n (by simp)) h0) hr
        · exact absurd (p1.neg (by omega) ▸ hx1) hn
      · exact nw2 x hx hx1
    · rcases List.mem_cons.1 hn' with e | hn'
      · subst e; exact mo2 _ (p1.met h0 ho)
      · exact me2 n' hn' h0 ho
theorem vis_ok (l : List S29) (ord : List Int) (hl : l.length < 17592186044416) : ∀ (k : Nat) (i : Int) (m o : List Int), i < l.length → Inv l ord m o → l.length + 1 ≤ k + m.length → (∀ y ∈ m, y ∉ o → 0 ≤ i → Rch (sc l) y i) →
    ∃ m' o', vis k l ord i m o = some (m', o') ∧ Post l ord i m o m' o' := by
  intro k
  induction k with
  | zero => intro i m o hi h hk; have := h.lenm; omega
  | succ k ih =>
    intro i m o hi h hk hs
    rw [vis]
    by_cases h1 : i < 0
    · rw [if_pos h1]; exact ⟨m, o, rfl, Post.same h (fun h0 => by omega)⟩
    rw [if_neg h1]
    by_cases h2 : hasI ord i = false
    · rw [if_pos h2]; exact ⟨m, o, rfl, Post.same h (fun _ ho => absurd ho (hasI_no.1 h2))⟩
    rw [if_neg h2]
    by_cases h3 : hasI m i = true
    · rw [if_pos h3]; exact ⟨m, o, rfl, Post.same h (fun _ _ => hasI_iff.1 h3)⟩
    rw [if_neg h3, if_pos hi]
    have hord : i ∈ ord := hasI_iff.1 (by cases hh : hasI ord i <;> simp_all)
    have hnm : i ∉ m := fun hm => h3 (hasI_iff.2 hm)
    have hno : i ∉ o := fun ho => hnm (h.sub i ho)
    have hlm := h.lenm
    rw [if_pos (by omega)]
    have inv0 : Inv l ord (m ++ [i]) o := {
      nd := by rw [List.nodup_append]; exact ⟨h.nd, by simp, fun a ha b hb => by simp at hb; subst hb; exact fun e => hnm (e ▸ ha)⟩
      no := h.no
      sub := fun x hx => by simp [h.sub x hx]
      rng := fun x hx => by
        rcases List.mem_append.1 hx with hx | hx
        · exact h.rng x hx
        · simp at hx; subst hx; exact ⟨by omega, hi, hord⟩
      cl := fun x hx y hy h0 ho => by simp [h.cl x hx y hy h0 ho]
      good := h.good
      pend := fun x hx y hy hym hyo => by
        rcases List.mem_append.1 hym with hm | hm
        · exact h.pend x hx y hy hm hyo
        · simp at hm; subst hm
          exact absurd (h.cl x hx y hy (by omega) hord) hnm }
    obtain ⟨m1, o1, e1, i1, mo1, ⟨u1, pr1⟩, st1, nw1, me1⟩ := fold_ok l ord k i (by omega) (fun j m o hj h hk hs => ih j m o hj h hk hs) (rd_T29 l i).f1 (fun n hn => List.mem_map.2 ⟨n, hn, rfl⟩) (m ++ [i]) o inv0 (by simp; omega)
      (fun y hy hyo => by
        rcases List.mem_append.1 hy with hm | hm
        · exact hs y hm hyo (by omega)
        · simp at hm; subst hm; exact Rch.refl y)
    rw [e1]
    simp only [Option.bind_some]
    have hlo := i1.leno
    rw [if_pos (by omega)]
    have him : i ∈ m1 := mo1 i (by simp)
    have hio : i ∉ o1 := ((st1 i).2 ⟨by simp, hno⟩).2
    have kids : ∀ y ∈ sc l i, 0 ≤ y → y ∈ ord → y ∈ m1 := by
      intro y hy h0 ho
      obtain ⟨n, hn, rfl⟩ := List.mem_map.1 hy
      exact me1 n hn h0 ho
    refine ⟨m1, o1 ++ [i], rfl, ?_, fun x hx => mo1 x (by simp [hx]), ⟨u1 ++ [i], by rw [pr1, List.append_assoc]⟩, fun y => ?_, fun x hx hn => ?_, fun _ _ => him, fun h0 => by omega⟩
    · refine { nd := i1.nd, no := ?_, sub := ?_, rng := i1.rng, cl := ?_, good := ?_, pend := ?_ }
      · rw [List.nodup_append]; exact ⟨i1.no, by simp, fun a ha b hb => by simp at hb; subst hb; exact fun e => hio (e ▸ ha)⟩
      · intro x hx
        rcases List.mem_append.1 hx with hx | hx
        · exact i1.sub x hx
        · simp at hx; subst hx; exact him
      · intro x hx y hy h0 ho
        rcases List.mem_append.1 hx with hx | hx
        · exact i1.cl x hx y hy h0 ho
        · simp at hx; subst hx; exact kids y hy h0 ho
      · intro a b x y hab hx hy hxy
        have hb : b < (o1 ++ [i]).length := (List.getElem?_eq_some_iff.1 hy).1
        simp only [List.length_append, List.length_cons, List.length_nil] at hb
        rw [List.getElem?_append_left (by omega)] at hx
        by_cases hbl : b < o1.length
        · rw [List.getElem?_append_left hbl] at hy
          exact i1.good a b x y hab hx hy hxy
        · have hbe : b = o1.length := by omega
          subst hbe
          rw [List.getElem?_append_right (Nat.le_refl _)] at hy
          simp at hy
          subst hy
          exact i1.pend x (List.mem_of_getElem? hx) _ hxy him hio
      · intro x hx y hy hym hyo
        have hyo1 : y ∉ o1 := fun h => hyo (by simp [h])
        have hyi : y ≠ i := fun e => hyo (by simp [e])
        rcases List.mem_append.1 hx with hx | hx
        · exact i1.pend x hx y hy hym hyo1
        · simp at hx; subst hx
          have := (st1 y).1 ⟨hym, hyo1⟩
          rcases List.mem_append.1 this.1 with hm | hm
          · exact hs y hm this.2 (by omega)
          · simp at hm; exact absurd hm hyi
    · constructor
      · rintro ⟨hym, hyo⟩
        have hyo1 : y ∉ o1 := fun h => hyo (by simp [h])
        have hyi : y ≠ i := fun e => hyo (by simp [e])
        have := (st1 y).1 ⟨hym, hyo1⟩
        rcases List.mem_append.1 this.1 with hm | hm
        · exact ⟨hm, this.2⟩
        · simp at hm; exact absurd hm hyi
      · rintro ⟨hym, hyo⟩
        have := (st1 y).2 ⟨by simp [hym], hyo⟩
        refine ⟨this.1, fun h => ?_⟩
        rcases List.mem_append.1 h with h | h
        · exact this.2 h
        · simp at h; subst h; exact hnm hym
    · by_cases hxi : x = i
      · subst hxi; exact Rch.refl x
      · exact nw1 x hx (by simp [hn, hxi])
/-- What begins: each of the order once, and behind what it needs, but what needs it, too. -/
structure Begun (l : List S29) (ord b : List Int) : Prop where
  nd : b.Nodup
  rng : ∀ x ∈ b, 0 ≤ x ∧ x < l.length ∧ x ∈ ord
  all : ∀ x ∈ ord, 0 ≤ x → x < l.length → x ∈ b
  good : ∀ (i j : Nat) (x y : Int), i < j → b[i]? = some x → b[j]? = some y → y ∈ sc l x → Rch (sc l) y x
theorem begs_ok (l : List S29) (ord : List Int) (hl : l.length < 17592186044416) (hr : ∀ x ∈ ord, x < l.length) : ∃ b, begs l ord = some b ∧ Begun l ord b := by
  have go : ∀ (rest : List Int) (m o : List Int), (∀ x ∈ rest, x < l.length) → Inv l ord m o → (∀ y ∈ m, y ∈ o) →
      ∃ m' o', rest.foldlM (fun (s : List Int × List Int) i => vis (l.length + 2) l ord i s.1 s.2) (m, o) = some (m', o') ∧ Inv l ord m' o' ∧ (∀ y ∈ m', y ∈ o') ∧ (∀ x ∈ m, x ∈ m') ∧ (∀ x ∈ rest, 0 ≤ x → x ∈ ord → x ∈ m') := by
    intro rest
    induction rest with
    | nil => intro m o _ h hs; exact ⟨m, o, rfl, h, hs, fun _ hx => hx, by simp⟩
    | cons i rest ih =>
      intro m o hr h hs
      obtain ⟨m1, o1, e1, p1⟩ := vis_ok l ord hl (l.length + 2) i m o (hr i (by simp)) h (by omega) (fun y hy hyo => absurd (hs y hy) hyo)
      have hs1 : ∀ y ∈ m1, y ∈ o1 := by
        intro y hy
        by_cases hyo : y ∈ o1
        · exact hyo
        · have := (p1.stack y).1 ⟨hy, hyo⟩
          exact absurd (hs y this.1) this.2
      obtain ⟨m2, o2, e2, i2, s2, mo2, me2⟩ := ih m1 o1 (fun x hx => hr x (by simp [hx])) p1.inv hs1
      refine ⟨m2, o2, by rw [List.foldlM_cons, e1]; exact e2, i2, s2, fun x hx => mo2 x (p1.more x hx), fun x hx h0 ho => ?_⟩
      rcases List.mem_cons.1 hx with e | hx
      · subst e; exact mo2 _ (p1.met h0 ho)
      · exact me2 x hx h0 ho
  obtain ⟨m', o', e, i', s', _, me'⟩ := go ord [] [] hr (Inv.nil l ord) (by simp)
  refine ⟨o', by unfold begs; rw [e]; rfl, i'.no, fun x hx => i'.rng x (i'.sub x hx), fun x hx h0 hx1 => s' x (me' x hx h0 hx), i'.good⟩
end Go.Proofs.Ytndmfjdoekdleaa.Pure
