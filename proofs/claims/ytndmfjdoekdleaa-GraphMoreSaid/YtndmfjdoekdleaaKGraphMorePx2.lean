/- What functions of the program, and of its laws, give, each proved of its code by a walk; no condition. -/
import Derived.Test.YtndmfjdoekdleaaKGraphMorePx0
import Derived.Test.YtndmfjdoekdleaaKGraphMorePx1
namespace Go.Proofs.Ytndmfjdoekdleaa.P
open Go.RowKit Go.Proofs.YtndmfjdoekdleaaW.PrintWords Go.Proofs.YtndmfjdoekdleaaW.PrintLast Go.Proofs.YtndmfjdoekdleaaW.PrintMore
attribute [local go_sem] max2_int min2_int max_two min_two max_three min_three max_four min_four   -- for this text's walks alone
set_option linter.unusedVariables false
set_option linter.unusedSimpArgs false

def Rows2 (B : Nat) (vm : Value) (m : List Int) (vo : Value) (o : List Int) (W : World) : Prop :=
  Kd.R (Kd.int .i64) 3 W B (fun k => some k ≠ vo.ownBlock) vm m ∧ Kd.R (Kd.int .i64) 3 W B (fun k => some k ≠ vm.ownBlock) vo o
theorem Rows2.flip {B : Nat} {vm vo : Value} {m o : List Int} {W : World} (h : Rows2 B vm m vo o W) : Rows2 B vo o vm m W := ⟨h.2, h.1⟩
theorem Rows2.below {B : Nat} {vm vo : Value} {m o : List Int} {W W' : World} (h : Rows2 B vm m vo o W) (hb : Below W.heap.size W W') : Rows2 B vm m vo o W' := ⟨Kd.R_below h.1 hb, Kd.R_below h.2 hb⟩
theorem int_E (t : Nat) (ht : 3 ≠ t) : ∀ q, q ∈ 3 :: (Kd.int .i64).E → q ≠ t := by
  intro q hq
  rcases List.mem_cons.1 hq with e | e
  · rw [e]; exact ht
  · exact absurd e (by simp [Kd.int, Kd.scalar])
theorem Rows2.set {B : Nat} {vm vo : Value} {m o : List Int} {W : World} (h : Rows2 B vm m vo o W) {g t : Nat} {cells : Array Value} (hb : W.heap[g]? = some (.cells cells t (0, 0))) (ht : 3 ≠ t) (j : Nat) (u : Value) : Rows2 B vm m vo o (W.setCell ⟨g, j, none⟩ u) :=
  ⟨Kd.R_set h.1 hb (int_E t ht) j u, Kd.R_set h.2 hb (int_E t ht) j u⟩
theorem Rows2.nil (B : Nat) (W : World) : Rows2 B (.slice none 0 0) [] (.slice none 0 0) [] W := ⟨Kd.R_nil _ _ _ _ _, Kd.R_nil _ _ _ _ _⟩
theorem Rows2.fresh {B : Nat} {vm vo : Value} {m o : List Int} {W : World} (h : Rows2 B vm m vo o W) : ∀ k, W.heap.size ≤ k → some k ≠ vo.ownBlock := by
  intro k hk e
  obtain ⟨cells, hc⟩ := Kd.R_typed h.2 k e.symm
  have := blk_lt hc
  omega
theorem Rows2.appended {B : Nat} {vm vo v1 : Value} {m m1 o : List Int} {W w1 : World} (h : Rows2 B vm m vo o W) (ho : Kd.R (Kd.int .i64) 3 w1 B (fun k => some k ≠ vo.ownBlock) v1 m1) (hg : W.grownBy w1 vm.ownBlock) (hat : v1.ownBlock = vm.ownBlock ∨ ∃ b, v1.ownBlock = some b ∧ W.heap.size ≤ b) : Rows2 B v1 m1 vo o w1 := by
  refine ⟨ho, ?_⟩
  have h2 := Kd.R_grown (Kd.R_bound h.2) hg (fun k hk => hk.1)
  refine Kd.R_mono h2 (fun k hk => ?_)
  rcases hat with e | ⟨b, e, hb⟩
  · rw [e]; exact hk.1
  · rw [e]; intro e2
    have := Option.some.inj e2
    have := hk.2.2.1
    omega
def hasI (l : List Int) (n : Int) : Bool := l.contains n
def vis : Nat → List S29 → List Int → Int → List Int → List Int → Option (List Int × List Int)
  | 0, _, _, _, _, _ => none
  | k + 1, l, ord, i, m, o =>
    if i < 0 then some (m, o) else if hasI ord i = false then some (m, o) else if hasI m i = true then some (m, o) else
    if i < (l.length : Int) then
      if m.length < 17592186044416 then
        ((rd_T29 l i).f1.foldlM (fun (s : List Int × List Int) n => vis k l ord (firstAt (isNm n) l) s.1 s.2) (m ++ [i], o)).bind fun s =>
          if s.2.length < 17592186044416 then some (s.1, s.2 ++ [i]) else none
      else none
    else none

theorem wrap_up {i : Int} (h0 : 0 ≤ i) (h1 : i < 9223372036854775807) : wrap64 (i + 1) = i + 1 := by unfold wrap64; omega
def begs (l : List S29) (ord : List Int) : Option (List Int) := (ord.foldlM (fun (s : List Int × List Int) i => vis (l.length + 2) l ord i s.1 s.2) ([], [])).bind fun s => some s.2
def curtilageref13_Begin.f (l0 : List S29) (l1 : List Int) : Option (List Int) := begs l0 l1
end Go.Proofs.Ytndmfjdoekdleaa.P
